/- Plain laws on limbs: lists of digits to the base 10^9, least first. No program is named here. Long division, in plain numbers. No program is named here. Fractions: a sign, a numerator, a denominator, as rational numbers. No program is named here. -/
set_option linter.unusedVariables false
set_option linter.unusedSimpArgs false
namespace Go.Proofs.YtbplkienkhinmaaGreatDoor.Num

/-- Without the leading zeros (which stand last). -/
def trimL (l : List Nat) : List Nat := (l.reverse.dropWhile (· == 0)).reverse

theorem trimL_snoc_zero (l : List Nat) : trimL (l ++ [0]) = trimL l := by simp [trimL]
theorem trimL_snoc_pos (l : List Nat) (x : Nat) (h : x ≠ 0) : trimL (l ++ [x]) = l ++ [x] := by simp [trimL, h]
theorem trimL_nil : trimL [] = [] := rfl

/-- The value of a list of limbs, whatever their size. -/
def val : List Nat → Nat
  | [] => 0
  | x :: l => x + 1000000000 * val l

theorem val_append (a b : List Nat) : val (a ++ b) = val a + 1000000000 ^ a.length * val b := by
  induction a with
  | nil => simp [val]
  | cons x a ih =>
    simp only [List.cons_append, val, ih, List.length_cons, Nat.pow_succ, Nat.mul_add]
    rw [Nat.mul_right_comm, Nat.mul_comm (1000000000 ^ a.length * val b)]
    simp only [Nat.add_assoc]

theorem val_snoc (a : List Nat) (x : Nat) : val (a ++ [x]) = val a + 1000000000 ^ a.length * x := by simp [val_append, val]

def Digs (l : List Nat) : Prop := ∀ x ∈ l, x < 1000000000

theorem Digs.nil : Digs [] := by intro x h; cases h
theorem Digs.append {a b : List Nat} (ha : Digs a) (hb : Digs b) : Digs (a ++ b) := by
  intro x h; rcases List.mem_append.1 h with h | h
  · exact ha x h
  · exact hb x h
theorem Digs.snoc {a : List Nat} {x : Nat} (ha : Digs a) (hx : x < 1000000000) : Digs (a ++ [x]) := ha.append (by intro y h; simp at h; omega)
theorem Digs.left {a b : List Nat} (h : Digs (a ++ b)) : Digs a := fun x hx => h x (List.mem_append.2 (.inl hx))
theorem Digs.right {a b : List Nat} (h : Digs (a ++ b)) : Digs b := fun x hx => h x (List.mem_append.2 (.inr hx))
theorem Digs.take {a : List Nat} (h : Digs a) (k : Nat) : Digs (a.take k) := fun x hx => h x (List.mem_of_mem_take hx)
theorem Digs.drop {a : List Nat} (h : Digs a) (k : Nat) : Digs (a.drop k) := fun x hx => h x (List.mem_of_mem_drop hx)
theorem Digs.get {a : List Nat} (h : Digs a) {k : Nat} (hk : k < a.length) : a[k] < 1000000000 := h _ (List.getElem_mem hk)
theorem Digs.getD {a : List Nat} (h : Digs a) (k : Nat) : a.getD k 0 < 1000000000 := by
  by_cases hk : k < a.length
  · rw [List.getD_eq_getElem?_getD, List.getElem?_eq_getElem hk]; exact h.get hk
  · rw [List.getD_eq_getElem?_getD, List.getElem?_eq_none (by omega)]; decide

theorem val_lt {l : List Nat} (h : Digs l) : val l < 1000000000 ^ l.length := by
  induction l with
  | nil => simp [val]
  | cons x l ih =>
    have h1 := ih (fun y hy => h y (List.mem_cons_of_mem _ hy))
    have h2 := h x (List.mem_cons_self)
    simp only [val, List.length_cons, Nat.pow_succ]
    omega

/-- No leading zero. -/
def Top (l : List Nat) : Prop := l.getLast? ≠ some 0

theorem Top.nil : Top [] := by simp [Top]
theorem Top.snoc {l : List Nat} {x : Nat} (h : x ≠ 0) : Top (l ++ [x]) := by simp [Top, h]
theorem Top.cons {l : List Nat} {x : Nat} (h : Top (x :: l)) : Top l := by
  cases l with
  | nil => exact Top.nil
  | cons y l => simpa [Top, List.getLast?_cons_cons] using h

theorem trimL_top (l : List Nat) : Top (trimL l) := by
  intro h
  simp only [trimL, List.getLast?_reverse] at h
  have := List.head?_dropWhile_not (fun x : Nat => x == 0) l.reverse
  rw [h] at this
  simp at this

theorem val_zeros (n : Nat) : val (List.replicate n 0) = 0 := by
  induction n with
  | zero => rfl
  | succ n ih => simp [List.replicate_succ, val, ih]

theorem trimL_split (l : List Nat) : ∃ n, l = trimL l ++ List.replicate n 0 := by
  have h1 := List.takeWhile_append_dropWhile (p := fun x : Nat => x == 0) (l := l.reverse)
  have h2 : ∀ x ∈ l.reverse.takeWhile (fun x : Nat => x == 0), x = 0 := by
    intro x hx
    have := List.all_takeWhile (p := fun x : Nat => x == 0) (l := l.reverse)
    rw [List.all_eq_true] at this
    simpa using this x hx
  refine ⟨(l.reverse.takeWhile (fun x : Nat => x == 0)).length, ?_⟩
  have h3 : l.reverse.takeWhile (fun x : Nat => x == 0) = List.replicate (l.reverse.takeWhile (fun x : Nat => x == 0)).length 0 := List.eq_replicate_of_mem h2
  have h4 : l = (l.reverse.takeWhile (fun x : Nat => x == 0) ++ l.reverse.dropWhile (fun x : Nat => x == 0)).reverse := by rw [h1, List.reverse_reverse]
  rw [List.reverse_append] at h4
  rw [h3, List.reverse_replicate] at h4
  exact h4

theorem val_trimL (l : List Nat) : val (trimL l) = val l := by
  obtain ⟨n, h⟩ := trimL_split l
  have key : ∀ t, l = t ++ List.replicate n 0 → val t = val l := by
    rintro t rfl; rw [val_append, val_zeros, Nat.mul_zero, Nat.add_zero]
  exact key _ h

theorem trimL_prefix (l : List Nat) : trimL l = l.take (trimL l).length := by
  obtain ⟨n, h⟩ := trimL_split l
  have key : ∀ t, l = t ++ List.replicate n 0 → t = l.take t.length := by
    rintro t rfl; simp
  exact key _ h

theorem trimL_length_le (l : List Nat) : (trimL l).length ≤ l.length := by
  obtain ⟨n, h⟩ := trimL_split l
  have key : ∀ t, l = t ++ List.replicate n 0 → t.length ≤ l.length := by
    rintro t rfl; simp
  exact key _ h

theorem Digs.trimL {l : List Nat} (h : Digs l) : Digs (trimL l) := by
  rw [trimL_prefix]; exact h.take _

/-- The limbs of a number. -/
def limbsOf (n : Nat) : List Nat := if h : n = 0 then [] else (n % 1000000000) :: limbsOf (n / 1000000000)
termination_by n
decreasing_by omega

theorem limbsOf_zero : limbsOf 0 = [] := by rw [limbsOf]; simp
theorem limbsOf_pos {n : Nat} (h : n ≠ 0) : limbsOf n = (n % 1000000000) :: limbsOf (n / 1000000000) := by
  rw [limbsOf]; simp [h]

theorem val_limbsOf (n : Nat) : val (limbsOf n) = n := by
  induction n using Nat.strongRecOn with
  | _ n ih =>
    by_cases h : n = 0
    · subst h; simp [limbsOf_zero, val]
    · rw [limbsOf_pos h, val, ih _ (by omega)]; omega

theorem limbsOf_digs (n : Nat) : Digs (limbsOf n) := by
  induction n using Nat.strongRecOn with
  | _ n ih =>
    by_cases h : n = 0
    · subst h; rw [limbsOf_zero]; exact Digs.nil
    · rw [limbsOf_pos h]
      intro x hx
      rcases List.mem_cons.1 hx with rfl | hx
      · omega
      · exact ih _ (by omega) x hx

theorem val_pos {l : List Nat} (h : Top l) (hne : l ≠ []) : 0 < val l := by
  induction l with
  | nil => exact absurd rfl hne
  | cons x l ih =>
    cases l with
    | nil => simp [Top] at h; simp [val]; omega
    | cons y l => have := ih h.cons (by simp); simp only [val] at *; omega

theorem canon {l : List Nat} (hd : Digs l) (ht : Top l) : l = limbsOf (val l) := by
  induction l with
  | nil => simp [val, limbsOf_zero]
  | cons x l ih =>
    have hx := hd x List.mem_cons_self
    have h1 := ih (fun y hy => hd y (List.mem_cons_of_mem _ hy)) ht.cons
    have h2 := val_pos ht (by simp)
    rw [limbsOf_pos (by omega)]
    have e1 : val (x :: l) % 1000000000 = x := by simp only [val]; omega
    have e2 : val (x :: l) / 1000000000 = val l := by simp only [val]; omega
    rw [e1, e2, ← h1]

theorem trimL_canon {l : List Nat} (hd : Digs l) : trimL l = limbsOf (val l) := by
  rw [← val_trimL l]; exact canon hd.trimL (trimL_top l)

theorem limbsOf_top (n : Nat) : Top (limbsOf n) := by
  have h : trimL (limbsOf n) = limbsOf n := by rw [trimL_canon (limbsOf_digs n), val_limbsOf]
  rw [← h]; exact trimL_top _

theorem limbsOf_nil_iff (n : Nat) : limbsOf n = [] ↔ n = 0 := by
  constructor
  · intro h; have := val_limbsOf n; rw [h] at this; simpa [val] using this.symm
  · intro h; subst h; exact limbsOf_zero

theorem limbsOf_lt (n : Nat) : n < 1000000000 ^ (limbsOf n).length := by
  have := val_lt (limbsOf_digs n); rwa [val_limbsOf] at this

theorem limbsOf_ge {n : Nat} (h : n ≠ 0) : 1000000000 ^ ((limbsOf n).length - 1) ≤ n := by
  induction n using Nat.strongRecOn with
  | _ n ih =>
    rw [limbsOf_pos h]
    by_cases hq : n / 1000000000 = 0
    · rw [hq, limbsOf_zero]; simp; omega
    · have := ih _ (by omega) hq
      have hl : (limbsOf (n / 1000000000)).length ≠ 0 := by
        intro e; exact hq ((limbsOf_nil_iff _).1 (List.eq_nil_of_length_eq_zero e))
      obtain ⟨m, hm⟩ : ∃ m, (limbsOf (n / 1000000000)).length = m + 1 := ⟨_, (Nat.succ_pred hl).symm⟩
      simp only [List.length_cons, hm, Nat.add_sub_cancel] at this ⊢
      rw [Nat.pow_succ]
      omega

theorem limbsOf_length_le {n k : Nat} (h : n < 1000000000 ^ k) : (limbsOf n).length ≤ k := by
  by_cases h0 : n = 0
  · subst h0; simp [limbsOf_zero]
  · have h1 := limbsOf_ge h0
    have h2 : 1000000000 ^ ((limbsOf n).length - 1) < 1000000000 ^ k := by omega
    have := (Nat.pow_lt_pow_iff_right (by omega : 1 < 1000000000)).1 h2
    omega

theorem val_le_of_length {a b : List Nat} (ha : Digs a) (hb : Top b) (h : a.length < b.length) : val a < val b := by
  have h1 := val_lt ha
  rcases List.eq_nil_or_concat b with rfl | ⟨b', x, rfl⟩
  · simp at h
  · have hx : x ≠ 0 := by simpa [Top] using hb
    rw [List.concat_eq_append, val_snoc]
    have h2 : 1000000000 ^ a.length ≤ 1000000000 ^ b'.length := Nat.pow_le_pow_right (by omega) (by simpa using Nat.le_of_lt_succ (by simpa using h))
    have h3 : 1000000000 ^ b'.length ≤ 1000000000 ^ b'.length * x := Nat.le_mul_of_pos_right _ (by omega)
    omega

theorem limbsOf_length_mono {a b : Nat} (h : a ≤ b) : (limbsOf a).length ≤ (limbsOf b).length :=
  limbsOf_length_le (Nat.lt_of_le_of_lt h (limbsOf_lt b))

theorem limbsOf_length_mul (a b : Nat) : (limbsOf (a * b)).length ≤ (limbsOf a).length + (limbsOf b).length := by
  refine limbsOf_length_le ?_
  rw [Nat.pow_add]
  have h1 := limbsOf_lt a
  have h2 := limbsOf_lt b
  exact Nat.lt_of_le_of_lt (Nat.mul_le_mul_left a (Nat.le_of_lt h2)) (Nat.mul_lt_mul_of_pos_right h1 (by omega))
theorem limbsOf_length_add (a b : Nat) : (limbsOf (a + b)).length ≤ (limbsOf a).length + (limbsOf b).length + 1 := by
  refine limbsOf_length_le ?_
  have h1 := limbsOf_lt a
  have h2 := limbsOf_lt b
  have h3 : 1000000000 ^ (limbsOf a).length ≤ 1000000000 ^ ((limbsOf a).length + (limbsOf b).length) := Nat.pow_le_pow_right (by omega) (by omega)
  have h4 : 1000000000 ^ (limbsOf b).length ≤ 1000000000 ^ ((limbsOf a).length + (limbsOf b).length) := Nat.pow_le_pow_right (by omega) (by omega)
  rw [Nat.pow_succ]
  omega

/-- How long the limbs of a number are. -/
theorem len_of_le_pow {x b n : Nat} (h : x ≤ b ^ n) (hb : b < 1000000000) : (limbsOf x).length ≤ n + 1 := by
  refine limbsOf_length_le (Nat.lt_of_le_of_lt h ?_)
  rw [Nat.pow_succ]
  have h1 : b ^ n ≤ 1000000000 ^ n := Nat.pow_le_pow_left (by omega) n
  have h2 : 0 < 1000000000 ^ n := Nat.pow_pos (by omega)
  omega
theorem len_small {x : Nat} (h : x < 1000000000) : (limbsOf x).length ≤ 1 := limbsOf_length_le (by simpa using h)

end Go.Proofs.YtbplkienkhinmaaGreatDoor.Num
namespace Go.Proofs.YtbplkienkhinmaaGreatDoor.Num

/-- Long division where the places below k are still to come: us is what is left of the dividend, qs the quotient's places. -/
structure DivAt (U V m k : Nat) (us qs : List Nat) : Prop where
  digs : Digs us
  len : k ≤ us.length
  qlen : qs.length = m
  qdigs : Digs qs
  small : val (us.drop k) < V
  eq : val (qs.drop k) * (1000000000 ^ k * V) + val us = U
  zero : ∀ p, p < k → qs.getD p 0 = 0

theorem val_take_drop (l : List Nat) (k : Nat) (hk : k ≤ l.length) : val l = val (l.take k) + 1000000000 ^ k * val (l.drop k) := by
  conv => lhs; rw [← List.take_append_drop k l]
  rw [val_append, List.length_take, Nat.min_eq_left hk]

theorem val_drop_getD (l : List Nat) (k : Nat) : val (l.drop k) = l.getD k 0 + 1000000000 * val (l.drop (k + 1)) := by
  by_cases hk : k < l.length
  · rw [List.drop_eq_getElem_cons hk, val]; simp [List.getD, hk]
  · rw [List.drop_of_length_le (by omega), List.drop_of_length_le (by omega)]
    simp [val, List.getD, List.getElem?_eq_none (show l.length ≤ k by omega)]

theorem DivAt.part_lt {U V m k : Nat} {us qs : List Nat} (h : DivAt U V m (k + 1) us qs) : val (us.drop k) < 1000000000 * V := by
  have h1 := h.digs.getD k
  have h2 := h.small
  rw [val_drop_getD]
  have : 1000000000 * (val (us.drop (k + 1)) + 1) ≤ 1000000000 * V := Nat.mul_le_mul_left _ h2
  omega

theorem DivAt.start {U V m : Nat} {us : List Nat} (hd : Digs us) (hu : val us = U) (hm : m ≤ us.length) (hs : val (us.drop m) < V) : DivAt U V m m us (List.replicate m 0) :=
  ⟨hd, hm, by simp, fun x hx => by simp at hx; omega, hs, by simp [val, hu], fun p _ => by simp [List.getD, List.getElem?_replicate]; split <;> rfl⟩

theorem DivAt.skip {U V m k : Nat} {us qs : List Nat} (h : DivAt U V m (k + 1) us qs) (hlt : val (us.drop k) < V) : DivAt U V m k us qs := by
  obtain ⟨h1, h2, h3, h4, h5, h6, h7⟩ := h
  refine ⟨h1, by omega, h3, h4, hlt, ?_, fun p hp => h7 p (by omega)⟩
  rw [val_drop_getD qs k, h7 k (by omega), Nat.zero_add, ← h6, Nat.pow_succ]
  congr 1
  rw [Nat.mul_right_comm, Nat.mul_assoc (1000000000 ^ k), Nat.mul_assoc, Nat.mul_left_comm, Nat.mul_comm 1000000000 V, Nat.mul_comm _ (val (qs.drop (k + 1))), Nat.mul_assoc (1000000000 ^ k)]
  simp only [Nat.mul_left_comm, Nat.mul_comm, Nat.mul_assoc]

theorem DivAt.take {U V m k : Nat} {us qs : List Nat} (h : DivAt U V m (k + 1) us qs) (hk : k < m) {q : Nat} (hq : q < 1000000000) (hle : V * q ≤ val (us.drop k)) (hlt : val (us.drop k) - V * q < V) :
    DivAt U V m k (us.take k ++ limbsOf (val (us.drop k) - V * q)) (qs.set k q) := by
  have hP := val_take_drop us k (by have := h.len; omega)
  obtain ⟨h1, h2, h3, h4, h5, h6, h7⟩ := h
  have hlk : (us.take k).length = k := by simp; omega
  refine ⟨(h1.take k).append (limbsOf_digs _), by simp; omega, by simp [h3], ?_, ?_, ?_, ?_⟩
  · intro x hx
    rcases List.mem_or_eq_of_mem_set hx with hx | rfl
    · exact h4 x hx
    · exact hq
  · rw [List.drop_left' hlk, val_limbsOf]; exact hlt
  · have e1 : val ((qs.set k q).drop k) = q + 1000000000 * val (qs.drop (k + 1)) := by
      rw [List.drop_eq_getElem_cons (by simp; omega), List.drop_set_of_lt (by omega), val]
      simp
    rw [e1, val_append, hlk, val_limbsOf, ← h6, hP]
    generalize val (us.drop k) = P at *
    generalize val (qs.drop (k + 1)) = D at *
    generalize val (us.take k) = T at *
    obtain ⟨R, rfl⟩ : ∃ R, P = V * q + R := ⟨P - V * q, by omega⟩
    rw [Nat.add_sub_cancel_left, Nat.pow_succ, Nat.mul_add (1000000000 ^ k) (V * q), Nat.add_mul]
    have a1 : q * (1000000000 ^ k * V) = 1000000000 ^ k * (V * q) := by rw [Nat.mul_comm q, Nat.mul_assoc]
    have a2 : 1000000000 * D * (1000000000 ^ k * V) = D * (1000000000 ^ k * 1000000000 * V) := by simp only [Nat.mul_left_comm, Nat.mul_comm, Nat.mul_assoc]
    rw [a1, a2]
    omega
  · intro p hp
    rw [show (qs.set k q).getD p 0 = qs.getD p 0 from by simp [List.getD, List.getElem?_set, show k ≠ p by omega]]
    exact h7 p (by omega)

theorem DivAt.done {U V m : Nat} {us qs : List Nat} (h : DivAt U V m 0 us qs) : val qs = U / V ∧ val us = U % V := by
  obtain ⟨h1, h2, h3, h4, h5, h6, h7⟩ := h
  simp only [List.drop_zero, Nat.pow_zero, Nat.one_mul] at h5 h6
  rw [← h6, Nat.mul_comm]
  constructor
  · rw [Nat.mul_add_div (by omega), Nat.div_eq_of_lt h5]; omega
  · rw [Nat.mul_add_mod, Nat.mod_eq_of_lt h5]

/-- The highest limb. -/
theorem top_bounds {n : Nat} (h : n ≠ 0) : ∃ l t, limbsOf n = l ++ [t] ∧ t ≠ 0 ∧ t < 1000000000 ∧ 1000000000 ^ l.length * t ≤ n ∧ n < 1000000000 ^ l.length * (t + 1) := by
  rcases List.eq_nil_or_concat (limbsOf n) with e | ⟨l, t, e⟩
  · exact absurd ((limbsOf_nil_iff n).1 e) h
  · rw [List.concat_eq_append] at e
    have hd := limbsOf_digs n
    have ht := limbsOf_top n
    have hv := val_limbsOf n
    rw [e] at hd ht hv
    have h1 := hd t (by simp)
    have h2 := val_lt hd.left
    rw [val_snoc] at hv
    refine ⟨l, t, e, by simpa [Top] using ht, h1, by omega, ?_⟩
    rw [Nat.mul_add, Nat.mul_one]
    omega

/-- The two highest limbs. -/
theorem top2_bounds {n : Nat} {l : List Nat} {t : Nat} (h : limbsOf n = l ++ [t]) (hl : 0 < l.length) : ∃ p, l.getD (l.length - 1) 0 = p ∧ p < 1000000000 ∧ n < 1000000000 ^ (l.length - 1) * (t * 1000000000 + p + 1) := by
  rcases List.eq_nil_or_concat l with e | ⟨l', p, e⟩
  · subst e; simp at hl
  · rw [List.concat_eq_append] at e
    subst e
    have hd := limbsOf_digs n
    have hv := val_limbsOf n
    rw [h] at hd hv
    have hp := hd p (by simp)
    have h2 := val_lt hd.left.left
    refine ⟨p, by simp [List.getD], hp, ?_⟩
    rw [val_snoc, val_snoc] at hv
    simp only [List.length_append, List.length_cons, List.length_nil, Nat.zero_add, Nat.add_sub_cancel] at hv ⊢
    rw [Nat.pow_succ, Nat.mul_assoc] at hv
    rw [Nat.mul_add, Nat.mul_add, Nat.mul_one, Nat.mul_comm t]
    omega

/-- The guess is never too small: the divisor's highest limb t against as many limbs p of the dividend as lie over it. -/
theorem guess_ge {P V t p e : Nat} (ht : t ≠ 0) (hV : 1000000000 ^ e * t ≤ V) (hP : P < 1000000000 ^ e * (p + 1)) : P / V ≤ p / t := by
  have hpe : 0 < 1000000000 ^ e := Nat.pow_pos (by omega)
  have hV0 : 0 < V := by
    have : 0 < 1000000000 ^ e * t := Nat.mul_pos hpe (by omega)
    omega
  rw [Nat.le_div_iff_mul_le (by omega)]
  have h1 : P / V * V ≤ P := Nat.div_mul_le_self _ _
  have h2 : P / V * (1000000000 ^ e * t) ≤ P / V * V := Nat.mul_le_mul_left _ hV
  have h3 : 1000000000 ^ e * (P / V * t) < 1000000000 ^ e * (p + 1) := by
    rw [Nat.mul_left_comm]; omega
  have := Nat.lt_of_mul_lt_mul_left h3
  omega

/-- The number that the limbs over the place n say. -/
theorem top_guess {P n : Nat} (h1 : n < (limbsOf P).length) (h2 : (limbsOf P).length ≤ n + 2) :
    P < 1000000000 ^ n * ((if (limbsOf P).length ≤ n + 1 then 0 else (limbsOf P).getD (n + 1) 0 * 1000000000) + (limbsOf P).getD n 0 + 1) := by
  have h0 : P ≠ 0 := fun e => by subst e; rw [limbsOf_zero] at h1; simp at h1
  obtain ⟨l, t, e, _, _, _, hlt⟩ := top_bounds h0
  by_cases hl : (limbsOf P).length ≤ n + 1
  · rw [if_pos hl, e, Nat.zero_add]
    rw [e] at h1 hl
    simp only [List.length_append, List.length_cons, List.length_nil, Nat.zero_add] at h1 hl
    have : l.length = n := by omega
    subst this
    simpa [List.getD] using hlt
  · rw [if_neg hl]
    rw [e] at h1 h2 hl
    simp only [List.length_append, List.length_cons, List.length_nil, Nat.zero_add] at h1 h2 hl
    have hln : l.length = n + 1 := by omega
    obtain ⟨p, e1, _, e3⟩ := top2_bounds e (by omega)
    rw [hln, Nat.add_sub_cancel] at e1 e3
    rw [e]
    have a1 : (l ++ [t]).getD (n + 1) 0 = t := by rw [← hln]; simp [List.getD]
    have a2 : (l ++ [t]).getD n 0 = p := by rw [← e1]; simp [List.getD, List.getElem?_append, show n < l.length by omega]
    rw [a1, a2]
    exact e3

end Go.Proofs.YtbplkienkhinmaaGreatDoor.Num
namespace Go.Proofs.YtbplkienkhinmaaGreatDoor
open Num

def sgn (b : Bool) (n : Nat) : Int := if b then -(n : Int) else n
/-- The value of a fraction, 0 if its denominator is 0. -/
def frac (b : Bool) (n d : Nat) : Rat := mkRat (sgn b n) d

theorem sgn_natAbs (b : Bool) (n : Nat) : (sgn b n).natAbs = n := by cases b <;> simp [sgn]
theorem sgn_zero (b : Bool) : sgn b 0 = 0 := by cases b <;> rfl
theorem frac_zero {b : Bool} {n d : Nat} (h : n = 0 ∨ d = 0) : frac b n d = 0 := by
  unfold frac
  rcases h with rfl | rfl
  · rw [sgn_zero, Rat.zero_mkRat]
  · rw [Rat.mkRat_zero]
theorem frac_eq (b : Bool) (n d : Nat) : frac b n d = (sgn b n : Rat) / (d : Rat) := Rat.mkRat_eq_div _ _
theorem frac_false (n d : Nat) : frac false n d = (n : Rat) / (d : Rat) := by rw [frac_eq]; simp only [sgn, Bool.false_eq_true, if_false, Rat.intCast_natCast]
theorem frac_true (n d : Nat) : frac true n d = -((n : Rat) / (d : Rat)) := by rw [frac_eq]; simp only [sgn, if_true, Rat.intCast_neg, Rat.intCast_natCast, Rat.div_def, Rat.neg_mul]
theorem frac_pos {n d : Nat} (hn : n ≠ 0) (hd : d ≠ 0) : 0 < (n : Rat) / (d : Rat) := by
  have h1 : (0 : Rat) < n := by exact_mod_cast Nat.pos_of_ne_zero hn
  have h2 : (0 : Rat) < d := by exact_mod_cast Nat.pos_of_ne_zero hd
  rw [Rat.div_def]
  exact Rat.mul_pos h1 (Rat.inv_pos.2 h2)
theorem frac_neg_iff {b : Bool} {n d : Nat} (hn : n ≠ 0) (hd : d ≠ 0) : decide (frac b n d < 0) = b := by
  have := frac_pos hn hd
  cases b
  · rw [frac_false]; simp; grind
  · rw [frac_true]; simp; grind
theorem frac_num {b : Bool} {n d : Nat} (hd : d ≠ 0) : (frac b n d).num.natAbs = n / Nat.gcd n d := by
  unfold frac
  rw [Rat.num_mkRat, if_neg hd, sgn_natAbs, Nat.gcd_comm]
  rw [Int.natAbs_ediv_of_dvd, sgn_natAbs, Int.natAbs_natCast]
  have h1 : ((Nat.gcd n d : Nat) : Int) ∣ (n : Int) := Int.ofNat_dvd.2 (Nat.gcd_dvd_left n d)
  cases b
  · exact h1
  · exact Int.dvd_neg.2 h1
theorem frac_den {b : Bool} {n d : Nat} (hd : d ≠ 0) : (frac b n d).den = d / Nat.gcd n d := by
  unfold frac
  rw [Rat.den_mkRat, if_neg hd, sgn_natAbs, Nat.gcd_comm]
theorem num_neg_iff (q : Rat) : q.num < 0 ↔ q < 0 := by
  rw [← Int.not_le, Rat.num_nonneg]; grind
theorem frac_self (q : Rat) : frac (decide (q < 0)) q.num.natAbs q.den = q := by
  unfold frac
  have : sgn (decide (q < 0)) q.num.natAbs = q.num := by
    unfold sgn
    by_cases h : q < 0
    · have h1 : q.num < 0 := (num_neg_iff q).2 h
      simp [h]; omega
    · have h1 : ¬ q.num < 0 := fun h2 => h ((num_neg_iff q).1 h2)
      simp [h]; omega
  rw [this, Rat.mkRat_self]
theorem frac_mul (b c : Bool) (n m d e : Nat) : frac b n d * frac c m e = frac (b != c) (n * m) (d * e) := by
  unfold frac
  rw [Rat.mkRat_mul_mkRat]
  congr 1
  cases b <;> cases c <;> simp [sgn, Int.neg_mul, Int.mul_neg]
theorem frac_not (b : Bool) (n d : Nat) : frac (!b) n d = -frac b n d := by
  cases b
  · rw [Bool.not_false, frac_true, frac_false]
  · rw [Bool.not_true, frac_true, frac_false]; grind
theorem frac_inv (b : Bool) (n d : Nat) : frac b d n = (frac b n d)⁻¹ := by
  cases b
  · rw [frac_false, frac_false, Rat.div_def, Rat.div_def]
    grind
  · rw [frac_true, frac_true, Rat.div_def, Rat.div_def]
    grind
theorem frac_add {b : Bool} {n m d e : Nat} (hd : d ≠ 0) (he : e ≠ 0) : frac b n d + frac b m e = frac b (n * e + m * d) (d * e) := by
  unfold frac
  rw [Rat.mkRat_add_mkRat _ _ hd he]
  congr 1
  cases b <;> simp [sgn]
  · rw [Int.neg_mul, Int.neg_mul]; omega
theorem frac_sub_ge {b : Bool} {n m d e : Nat} (hd : d ≠ 0) (he : e ≠ 0) (h : m * d ≤ n * e) : frac b n d + frac (!b) m e = frac b (n * e - m * d) (d * e) := by
  unfold frac
  rw [Rat.mkRat_add_mkRat _ _ hd he]
  congr 1
  have h2 : ((n * e - m * d : Nat) : Int) = (n : Int) * e - (m : Int) * d := by rw [Int.natCast_sub h]; simp
  cases b <;> simp only [sgn, Bool.not_false, Bool.not_true, if_true, if_false, Bool.false_eq_true, h2, Int.neg_mul] <;> omega
theorem frac_sub_lt {b : Bool} {n m d e : Nat} (hd : d ≠ 0) (he : e ≠ 0) (h : n * e ≤ m * d) : frac b n d + frac (!b) m e = frac (!b) (m * d - n * e) (d * e) := by
  have h1 := frac_sub_ge (b := !b) he hd h
  rw [Bool.not_not] at h1
  rw [Rat.add_comm, h1, Nat.mul_comm e d]

/-- The sign. -/
def sgnQ (q : Rat) : Int := if q < 0 then -1 else if 0 < q then 1 else 0
/-- How two compare. -/
def cmpQ (a b : Rat) : Int := if a < b then -1 else if b < a then 1 else 0
theorem cmpQ_sub (a b : Rat) : cmpQ a b = sgnQ (a - b) := by
  unfold cmpQ sgnQ
  have h1 : a < b ↔ a - b < 0 := by grind
  have h2 : b < a ↔ 0 < a - b := by grind
  simp [h1, h2]
theorem sgnQ_zero {b : Bool} {n d : Nat} (h : n = 0 ∨ d = 0) : sgnQ (frac b n d) = 0 := by rw [frac_zero h]; rfl
theorem sgnQ_frac {b : Bool} {n d : Nat} (hn : n ≠ 0) (hd : d ≠ 0) : sgnQ (frac b n d) = if b then -1 else 1 := by
  have := frac_pos hn hd
  unfold sgnQ
  cases b
  · rw [frac_false, if_neg (by grind), if_pos this]; rfl
  · rw [frac_true, if_pos (by grind)]; rfl
theorem sgnQ_neg (q : Rat) : sgnQ q < 0 ↔ q < 0 := by unfold sgnQ; split <;> (try split) <;> simp_all
theorem sgnQ_eq_zero (q : Rat) : sgnQ q = 0 ↔ q = 0 := by
  unfold sgnQ
  split
  · constructor
    · intro h; omega
    · intro h; grind
  · split
    · constructor
      · intro h; omega
      · intro h; grind
    · constructor
      · intro h; grind
      · intro h; rfl
theorem sgnQ_pos (q : Rat) : 0 < sgnQ q ↔ 0 < q := by
  unfold sgnQ
  split
  · constructor
    · intro h; omega
    · intro h; grind
  · split <;> simp_all
theorem cmpQ_neg (a b : Rat) : cmpQ a b < 0 ↔ a < b := by rw [cmpQ_sub, sgnQ_neg]; grind
theorem cmpQ_pos (a b : Rat) : 0 < cmpQ a b ↔ b < a := by rw [cmpQ_sub, sgnQ_pos]; grind
theorem cmpQ_zero (a b : Rat) : cmpQ a b = 0 ↔ a = b := by rw [cmpQ_sub, sgnQ_eq_zero]; grind
theorem frac_lt {n m d e : Nat} (hd : d ≠ 0) (he : e ≠ 0) : (n : Rat) / (d : Rat) < (m : Rat) / (e : Rat) ↔ n * e < m * d := by
  have h1 : (0 : Rat) < d := by exact_mod_cast Nat.pos_of_ne_zero hd
  have h2 : (0 : Rat) < e := by exact_mod_cast Nat.pos_of_ne_zero he
  rw [Rat.div_lt_iff h1, show (m : Rat) / (e : Rat) * (d : Rat) = ((m : Rat) * (d : Rat)) / (e : Rat) from by rw [Rat.div_def, Rat.div_def]; grind, Rat.lt_div_iff h2]
  exact_mod_cast Iff.rfl

/-- A rational number whose numerator and denominator have at most L limbs. -/
def FB (q : Rat) (L : Nat) : Prop := (limbsOf q.num.natAbs).length ≤ L ∧ (limbsOf q.den).length ≤ L
theorem FB.mono {q : Rat} {L M : Nat} (h : FB q L) (hl : L ≤ M) : FB q M := ⟨Nat.le_trans h.1 hl, Nat.le_trans h.2 hl⟩
theorem frac_fb {b : Bool} {n d L : Nat} (hn : (limbsOf n).length ≤ L) (hd : (limbsOf d).length ≤ L) (hL : 1 ≤ L) : FB (frac b n d) L := by
  by_cases h : d = 0
  · rw [frac_zero (.inr h)]
    refine ⟨?_, ?_⟩
    · show (limbsOf 0).length ≤ L; rw [limbsOf_zero]; exact Nat.zero_le _
    · show (limbsOf 1).length ≤ L; exact Nat.le_trans (limbsOf_length_le (k := 1) (by decide)) hL
  · refine ⟨?_, ?_⟩
    · rw [frac_num h]; exact Nat.le_trans (limbsOf_length_mono (Nat.div_le_self _ _)) hn
    · rw [frac_den h]; exact Nat.le_trans (limbsOf_length_mono (Nat.div_le_self _ _)) hd
theorem self_fb (q : Rat) {L : Nat} (h : FB q L) (hL : 1 ≤ L) : (limbsOf q.num.natAbs).length ≤ L ∧ (limbsOf q.den).length ≤ L := h
theorem FB.mul {p q : Rat} {L M : Nat} (hp : FB p L) (hq : FB q M) (hL : 1 ≤ L) : FB (p * q) (L + M) := by
  rw [← frac_self p, ← frac_self q, frac_mul]
  refine frac_fb ?_ ?_ (by omega)
  · exact Nat.le_trans (limbsOf_length_mul _ _) (Nat.add_le_add hp.1 hq.1)
  · exact Nat.le_trans (limbsOf_length_mul _ _) (Nat.add_le_add hp.2 hq.2)
theorem FB.neg {p : Rat} {L : Nat} (hp : FB p L) : FB (-p) L := by
  obtain ⟨h1, h2⟩ := hp
  exact ⟨by rw [Rat.neg_num, Int.natAbs_neg]; exact h1, by rw [Rat.neg_den]; exact h2⟩
theorem len_add {a b k : Nat} (ha : (limbsOf a).length ≤ k) (hb : (limbsOf b).length ≤ k) : (limbsOf (a + b)).length ≤ k + 1 := by
  refine limbsOf_length_le ?_
  have h1 := limbsOf_lt a
  have h2 := limbsOf_lt b
  have h3 : 1000000000 ^ (limbsOf a).length ≤ 1000000000 ^ k := Nat.pow_le_pow_right (by omega) ha
  have h4 : 1000000000 ^ (limbsOf b).length ≤ 1000000000 ^ k := Nat.pow_le_pow_right (by omega) hb
  rw [Nat.pow_succ]
  omega
theorem FB.add {p q : Rat} {L M : Nat} (hp : FB p L) (hq : FB q M) (hL : 1 ≤ L) : FB (p + q) (L + M + 1) := by
  have hpd : p.den ≠ 0 := p.den_nz
  have hqd : q.den ≠ 0 := q.den_nz
  have e1 : (limbsOf (p.num.natAbs * q.den)).length ≤ L + M := Nat.le_trans (limbsOf_length_mul _ _) (Nat.add_le_add hp.1 hq.2)
  have e2 : (limbsOf (q.num.natAbs * p.den)).length ≤ L + M := by have := Nat.le_trans (limbsOf_length_mul _ _) (Nat.add_le_add hq.1 hp.2); omega
  have e3 : (limbsOf (p.den * q.den)).length ≤ L + M + 1 := by have := Nat.le_trans (limbsOf_length_mul _ _) (Nat.add_le_add hp.2 hq.2); omega
  rw [← frac_self p, ← frac_self q]
  generalize decide (p < 0) = b
  generalize decide (q < 0) = c
  by_cases hbc : c = b
  · subst hbc
    rw [frac_add hpd hqd]
    exact frac_fb (len_add e1 e2) e3 (by omega)
  · have : c = !b := by cases b <;> cases c <;> simp_all
    subst this
    rcases Nat.le_total (q.num.natAbs * p.den) (p.num.natAbs * q.den) with h | h
    · rw [frac_sub_ge hpd hqd h]
      exact frac_fb (by have := limbsOf_length_mono (Nat.sub_le (p.num.natAbs * q.den) (q.num.natAbs * p.den)); omega) e3 (by omega)
    · rw [frac_sub_lt hpd hqd h]
      exact frac_fb (by have := limbsOf_length_mono (Nat.sub_le (q.num.natAbs * p.den) (p.num.natAbs * q.den)); omega) e3 (by omega)
theorem FB.sub {p q : Rat} {L M : Nat} (hp : FB p L) (hq : FB q M) (hL : 1 ≤ L) : FB (p - q) (L + M + 1) := by
  rw [Rat.sub_eq_add_neg]; exact hp.add hq.neg hL
theorem FB.inv {p : Rat} {L : Nat} (hp : FB p L) (hL : 1 ≤ L) : FB (p⁻¹) L := by
  rw [← frac_self p, ← frac_inv]; exact frac_fb hp.2 hp.1 hL
theorem FB.div {p q : Rat} {L M : Nat} (hp : FB p L) (hq : FB q M) (hL : 1 ≤ L) (hM : 1 ≤ M) : FB (p / q) (L + M) := by
  rw [Rat.div_def]; exact hp.mul (hq.inv hM) hL

end Go.Proofs.YtbplkienkhinmaaGreatDoor
