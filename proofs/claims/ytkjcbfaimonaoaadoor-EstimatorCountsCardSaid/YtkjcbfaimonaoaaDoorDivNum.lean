/- Long division, in plain numbers. No program is named here. -/
import Derived.Test.YtkjcbfaimonaoaaDoorNum
set_option linter.unusedVariables false
set_option linter.unusedSimpArgs false
namespace Go.Proofs.YtkjcbfaimonaoaaDoor.Num

/-- Long division where the places below k are still to come: us is what is left of the dividend, qs the quotient's places. -/
structure DivAt (U V m k : Nat) (us qs : List Nat) : Prop where
  digs : Digs us
  len : k ≤ us.length
  qlen : qs.length = m
  qdigs : Digs qs
  small : val (us.drop k) < V
  eq : val (qs.drop k) * (1000000000 ^ k * V) + val us = U
  zero : ∀ p, p < k → qs.getD p 0 = 0

theorem val_take_drop (l : List Nat) (k : Nat) (hk : k ≤ l.length) : val l = val (l.take k) + 1000000000 ^ k * val (l.drop k) := by
  conv => lhs; rw [← List.take_append_drop k l]
  rw [val_append, List.length_take, Nat.min_eq_left hk]

theorem val_drop_getD (l : List Nat) (k : Nat) : val (l.drop k) = l.getD k 0 + 1000000000 * val (l.drop (k + 1)) := by
  by_cases hk : k < l.length
  · rw [List.drop_eq_getElem_cons hk, val]; simp [List.getD, hk]
  · rw [List.drop_of_length_le (by omega), List.drop_of_length_le (by omega)]
    simp [val, List.getD, List.getElem?_eq_none (show l.length ≤ k by omega)]

theorem DivAt.part_lt {U V m k : Nat} {us qs : List Nat} (h : DivAt U V m (k + 1) us qs) : val (us.drop k) < 1000000000 * V := by
  have h1 := h.digs.getD k
  have h2 := h.small
  rw [val_drop_getD]
  have : 1000000000 * (val (us.drop (k + 1)) + 1) ≤ 1000000000 * V := Nat.mul_le_mul_left _ h2
  omega

theorem DivAt.start {U V m : Nat} {us : List Nat} (hd : Digs us) (hu : val us = U) (hm : m ≤ us.length) (hs : val (us.drop m) < V) : DivAt U V m m us (List.replicate m 0) :=
  ⟨hd, hm, by simp, fun x hx => by simp at hx; omega, hs, by simp [val, hu], fun p _ => by simp [List.getD, List.getElem?_replicate]; split <;> rfl⟩

theorem DivAt.skip {U V m k : Nat} {us qs : List Nat} (h : DivAt U V m (k + 1) us qs) (hlt : val (us.drop k) < V) : DivAt U V m k us qs := by
  obtain ⟨h1, h2, h3, h4, h5, h6, h7⟩ := h
  refine ⟨h1, by omega, h3, h4, hlt, ?_, fun p hp => h7 p (by omega)⟩
  rw [val_drop_getD qs k, h7 k (by omega), Nat.zero_add, ← h6, Nat.pow_succ]
  congr 1
  rw [Nat.mul_right_comm, Nat.mul_assoc (1000000000 ^ k), Nat.mul_assoc, Nat.mul_left_comm, Nat.mul_comm 1000000000 V, Nat.mul_comm _ (val (qs.drop (k + 1))), Nat.mul_assoc (1000000000 ^ k)]
  simp only [Nat.mul_left_comm, Nat.mul_comm, Nat.mul_assoc]

theorem DivAt.take {U V m k : Nat} {us qs : List Nat} (h : DivAt U V m (k + 1) us qs) (hk : k < m) {q : Nat} (hq : q < 1000000000) (hle : V * q ≤ val (us.drop k)) (hlt : val (us.drop k) - V * q < V) :
    DivAt U V m k (us.take k ++ limbsOf (val (us.drop k) - V * q)) (qs.set k q) := by
  have hP := val_take_drop us k (by have := h.len; omega)
  obtain ⟨h1, h2, h3, h4, h5, h6, h7⟩ := h
  have hlk : (us.take k).length = k := by simp; omega
  refine ⟨(h1.take k).append (limbsOf_digs _), by simp; omega, by simp [h3], ?_, ?_, ?_, ?_⟩
  · intro x hx
    rcases List.mem_or_eq_of_mem_set hx with hx | rfl
    · exact h4 x hx
    · exact hq
  · rw [List.drop_left' hlk, val_limbsOf]; exact hlt
  · have e1 : val ((qs.set k q).drop k) = q + 1000000000 * val (qs.drop (k + 1)) := by
      rw [List.drop_eq_getElem_cons (by simp; omega), List.drop_set_of_lt (by omega), val]
      simp
    rw [e1, val_append, hlk, val_limbsOf, ← h6, hP]
    generalize val (us.drop k) = P at *
    generalize val (qs.drop (k + 1)) = D at *
    generalize val (us.take k) = T at *
    obtain ⟨R, rfl⟩ : ∃ R, P = V * q + R := ⟨P - V * q, by omega⟩
    rw [Nat.add_sub_cancel_left, Nat.pow_succ, Nat.mul_add (1000000000 ^ k) (V * q), Nat.add_mul]
    have a1 : q * (1000000000 ^ k * V) = 1000000000 ^ k * (V * q) := by rw [Nat.mul_comm q, Nat.mul_assoc]
    have a2 : 1000000000 * D * (1000000000 ^ k * V) = D * (1000000000 ^ k * 1000000000 * V) := by simp only [Nat.mul_left_comm, Nat.mul_comm, Nat.mul_assoc]
    rw [a1, a2]
    omega
  · intro p hp
    rw [show (qs.set k q).getD p 0 = qs.getD p 0 from by simp [List.getD, List.getElem?_set, show k ≠ p by omega]]
    exact h7 p (by omega)

theorem DivAt.done {U V m : Nat} {us qs : List Nat} (h : DivAt U V m 0 us qs) : val qs = U / V ∧ val us = U % V := by
  obtain ⟨h1, h2, h3, h4, h5, h6, h7⟩ := h
  simp only [List.drop_zero, Nat.pow_zero, Nat.one_mul] at h5 h6
  rw [← h6, Nat.mul_comm]
  constructor
  · rw [Nat.mul_add_div (by omega), Nat.div_eq_of_lt h5]; omega
  · rw [Nat.mul_add_mod, Nat.mod_eq_of_lt h5]

/-- The highest limb. -/
theorem top_bounds {n : Nat} (h : n ≠ 0) : ∃ l t, limbsOf n = l ++ [t] ∧ t ≠ 0 ∧ t < 1000000000 ∧ 1000000000 ^ l.length * t ≤ n ∧ n < 1000000000 ^ l.length * (t + 1) := by
  rcases List.eq_nil_or_concat (limbsOf n) with e | ⟨l, t, e⟩
  · exact absurd ((limbsOf_nil_iff n).1 e) h
  · rw [List.concat_eq_append] at e
    have hd := limbsOf_digs n
    have ht := limbsOf_top n
    have hv := val_limbsOf n
    rw [e] at hd ht hv
    have h1 := hd t (by simp)
    have h2 := val_lt hd.left
    rw [val_snoc] at hv
    refine ⟨l, t, e, by simpa [Top] using ht, h1, by omega, ?_⟩
    rw [Nat.mul_add, Nat.mul_one]
    omega

/-- The two highest limbs. -/
theorem top2_bounds {n : Nat} {l : List Nat} {t : Nat} (h : limbsOf n = l ++ [t]) (hl : 0 < l.length) : ∃ p, l.getD (l.length - 1) 0 = p ∧ p < 1000000000 ∧ n < 1000000000 ^ (l.length - 1) * (t * 1000000000 + p + 1) := by
  rcases List.eq_nil_or_concat l with e | ⟨l', p, e⟩
  · subst e; simp at hl
  · rw [List.concat_eq_append] at e
    subst e
    have hd := limbsOf_digs n
    have hv := val_limbsOf n
    rw [h] at hd hv
    have hp := hd p (by simp)
    have h2 := val_lt hd.left.left
    refine ⟨p, by simp [List.getD], hp, ?_⟩
    rw [val_snoc, val_snoc] at hv
    simp only [List.length_append, List.length_cons, List.length_nil, Nat.zero_add, Nat.add_sub_cancel] at hv ⊢
    rw [Nat.pow_succ, Nat.mul_assoc] at hv
    rw [Nat.mul_add, Nat.mul_add, Nat.mul_one, Nat.mul_comm t]
    omega

/-- The guess is never too small: the divisor's highest limb t against as many limbs p of the dividend as lie over it. -/
theorem guess_ge {P V t p e : Nat} (ht : t ≠ 0) (hV : 1000000000 ^ e * t ≤ V) (hP : P < 1000000000 ^ e * (p + 1)) : P / V ≤ p / t := by
  have hpe : 0 < 1000000000 ^ e := Nat.pow_pos (by omega)
  have hV0 : 0 < V := by
    have : 0 < 1000000000 ^ e * t := Nat.mul_pos hpe (by omega)
    omega
  rw [Nat.le_div_iff_mul_le (by omega)]
  have h1 : P / V * V ≤ P := Nat.div_mul_le_self _ _
  have h2 : P / V * (1000000000 ^ e * t) ≤ P / V * V := Nat.mul_le_mul_left _ hV
  have h3 : 1000000000 ^ e * (P / V * t) < 1000000000 ^ e * (p + 1) := by
    rw [Nat.mul_left_comm]; omega
  have := Nat.lt_of_mul_lt_mul_left h3
  omega

/-- The number that the limbs over the place n say. -/
theorem top_guess {P n : Nat} (h1 : n < (limbsOf P).length) (h2 : (limbsOf P).length ≤ n + 2) :
    P < 1000000000 ^ n * ((if (limbsOf P).length ≤ n + 1 then 0 else (limbsOf P).getD (n + 1) 0 * 1000000000) + (limbsOf P).getD n 0 + 1) := by
  have h0 : P ≠ 0 := fun e => by subst e; rw [limbsOf_zero] at h1; simp at h1
  obtain ⟨l, t, e, _, _, _, hlt⟩ := top_bounds h0
  by_cases hl : (limbsOf P).length ≤ n + 1
  · rw [if_pos hl, e, Nat.zero_add]
    rw [e] at h1 hl
    simp only [List.length_append, List.length_cons, List.length_nil, Nat.zero_add] at h1 hl
    have : l.length = n := by omega
    subst this
    simpa [List.getD] using hlt
  · rw [if_neg hl]
    rw [e] at h1 h2 hl
    simp only [List.length_append, List.length_cons, List.length_nil, Nat.zero_add] at h1 h2 hl
    have hln : l.length = n + 1 := by omega
    obtain ⟨p, e1, _, e3⟩ := top2_bounds e (by omega)
    rw [hln, Nat.add_sub_cancel] at e1 e3
    rw [e]
    have a1 : (l ++ [t]).getD (n + 1) 0 = t := by rw [← hln]; simp [List.getD]
    have a2 : (l ++ [t]).getD n 0 = p := by rw [← e1]; simp [List.getD, List.getElem?_append, show n < l.length by omega]
    rw [a1, a2]
    exact e3

end Go.Proofs.YtkjcbfaimonaoaaDoor.Num
