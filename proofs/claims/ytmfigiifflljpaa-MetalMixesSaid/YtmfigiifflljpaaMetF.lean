/- metal: slices.Contains; Solve. -/
import Derived.Test.YtmfigiifflljpaaMetE
set_option linter.unusedVariables false
set_option linter.unusedSimpArgs false
set_option maxRecDepth 100000
namespace Go.Proofs.Ytmfigiifflljpaa
open Go.RowKit Num

theorem intsM_at {w : World} {A : Option Addr} {n c k : Nat} {zs : List Int} (h : IntsV w (.slice A n c) zs) (hk : k < zs.length) :
    ∃ b o, A = some ⟨b, o, none⟩ ∧ b < w.heap.size ∧ w.cell? ⟨b, o + k, none⟩ = some (.int .i64 (zs.getD k 0)) := by
  obtain ⟨ad, rfl, hb, hc⟩ := h.at_ hk
  obtain ⟨ad0, e0, _, hc0⟩ := h.at_ (k := 0) (by omega)
  injection e0 with e0
  subst e0
  rw [add_nought] at hc0
  obtain ⟨bb, o, sp⟩ := ad
  have hsp : sp = none := by have := Go.Proofs.Ytmfigiifflljpaa.cell_spotF hc0; simpa using this
  subst hsp
  have ha : (⟨bb, o, none⟩ : Addr).add k = ⟨bb, o + k, none⟩ := by
    unfold Addr.add
    by_cases hj : k = 0 <;> simp [hj]
  rw [ha] at hc
  exact ⟨bb, o, rfl, hb, hc⟩
theorem mem_getD {zs : List Int} {x : Int} : x ∈ zs ↔ ∃ k, k < zs.length ∧ zs.getD k 0 = x := by
  rw [List.mem_iff_getElem]
  constructor
  · rintro ⟨k, hk, h⟩
    exact ⟨k, hk, by rw [List.getD_eq_getElem?_getD, List.getElem?_eq_getElem hk]; exact h⟩
  · rintro ⟨k, hk, h⟩
    refine ⟨k, hk, ?_⟩
    rw [List.getD_eq_getElem?_getD, List.getElem?_eq_getElem hk] at h
    exact h

set_option maxHeartbeats 4000000 in
theorem index_l {v : Value} {zs : List Int} {x : Int} {w : World} (hv : IntsV w v zs) (hl : zs.length ≤ 100) :
    Calls Try.prog 76 #[v, .int .i64 x] w (fun e w' => ∃ z : Int, e = .returned (.int .i64 z) ∧ (0 ≤ z ↔ x ∈ zs) ∧ Ext w w') := by
  have HV := Lib.hid (fun (w' : World) (h : Ext w w') => hv.below h)
  obtain ⟨A, c, rfl, h1, h2, _⟩ := hv
  obtain ⟨n, hn⟩ : ∃ n, n = zs.length := ⟨_, rfl⟩
  have HN := Lib.hid hn
  rw [← hn] at HV hl h1 ⊢
  clear hn
  go_enter Try.func76, Try.ntmps76
  go_wp2
  go_loopw [8] (fun iv wr => ∃ k : Nat, k ≤ n ∧ iv = .int .i64 k ∧ (∀ j, j < k → zs.getD j 0 ≠ x) ∧ Ext w wr) (fun iv _ => n - (intOf iv).toNat)
  case atStart => exact ⟨0, Nat.zero_le _, rfl, fun j hj => by omega, Below.refl _ _⟩
  case round =>
    obtain ⟨k, hk, rfl, hz, hx⟩ := hrel
    by_cases hkn : k < n
    · obtain ⟨b, o, rfl, hb, hc⟩ := intsM_at (HV.out _ hx) (k := k) (by rw [← HN.out]; exact hkn)
      have hi1 : (0 : Int) ≤ (k : Int) := by omega
      have hi2 : (k : Int) < (n : Int) := by omega
      have HZ := Lib.hid hz
      obtain ⟨y, hy⟩ : ∃ y, y = zs.getD k 0 := ⟨_, rfl⟩
      have HY := Lib.hid hy
      rw [← hy] at hc
      clear hz hy
      by_cases hxy : x = y
      · have hxy' : (x == y) = true := by rw [beq_iff_eq]; exact hxy
        go_wp2
        go_ret
        exact ⟨k, rfl, ⟨fun _ => mem_getD.2 ⟨k, by rw [← HN.out]; exact hkn, by rw [← HY.out, hxy]⟩, fun _ => hi1⟩, hx⟩
      · have hxy' : (x == y) = false := by rw [beq_eq_false_iff_ne]; exact hxy
        go_wp2
        go_roundw
        case rel => exact ⟨k + 1, by omega, by go_num, fun j hj => by
          by_cases hjk : j = k
          · rw [hjk, ← HY.out]; exact fun h => hxy h.symm
          · exact HZ.out j (by omega), hx⟩
        case measure => simp [intOf]; omega
    · obtain rfl : n = k := by omega
      have hkk : ¬ ((n : Int) < (n : Int)) := by omega
      go_wp2
      go_ret
      refine ⟨-1, rfl, ⟨fun h => absurd h (by decide), fun h => ?_⟩, hx⟩
      obtain ⟨j, hj, he⟩ := mem_getD.1 h
      exact absurd he (hz j (by rw [HN.out]; exact hj))
set_option maxHeartbeats 4000000 in
theorem contains_l {v : Value} {zs : List Int} {x : Int} {w : World} (hv : IntsV w v zs) (hl : zs.length ≤ 100) :
    Calls Try.prog 54 #[v, .int .i64 x] w (fun e w' => e = .returned (.bool (decide (x ∈ zs))) ∧ Ext w w') := by
  have HI := Lib.hid (index_l (x := x) hv hl)
  obtain ⟨A, c, rfl, h1, h2, _⟩ := hv
  obtain ⟨n, hn⟩ : ∃ n, n = zs.length := ⟨_, rfl⟩
  rw [← hn] at HI ⊢
  clear hn
  go_enter Try.func54, Try.ntmps54
  go_wp2_with (go_at_call 76; (with_reducible refine HI.out.mono ?_); rintro e w1 ⟨z, rfl, hz, x1⟩)
  go_ret
  refine ⟨?_, x1⟩
  have : decide (0 ≤ z) = decide (x ∈ zs) := decide_eq_decide.2 hz
  rw [← this]
  try rfl

/-- A row of values that came in is pushed. -/
theorem MatO.push_in {K : Bool} {w wr w1 w' : World} {v v' u : Value} {k c : Nat} {us : List Value} {ts : List Fc} {M : Mx} (h : MatO K w.heap.size wr v k c us us M) (hx : Ext w wr) (hE : Ext wr w1) (hrow : w1.ownsRow wr.heap.size 34 3 u c (fcells ts)) (hl : ts.length = c)
    (hf : ∀ (j : Nat) (t : Fc), ts[j]? = some t → Ent K w t.neg t.num t.den (M k j))
    (hown : w'.ownsRow w.heap.size 39 1 v' (k + 1) (us ++ [u])) (hg : w1.grownBy w' v.ownBlock) (hw : v'.ownBlock = v.ownBlock ∨ New w1.heap.size v') :
    MatO K w.heap.size w' v' (k + 1) c (us ++ [u]) (us ++ [u]) M :=
  h.push hx.size hE hrow hl (fun j t ht =>
    have he := hf j t ht
    have hu : New w.heap.size u := fun b hb => Nat.le_trans hx.size (hrow.lt b hb).1
    have hv : New w.heap.size v := fun b hb => (h.lt (.inl hb)).1
    have hus : ∀ x ∈ us, New w.heap.size x := fun x hx b hb => (h.lt (.inr ⟨x, hx, hb⟩)).1
    ⟨he.below (hx.trans hE), he.far hu, ⟨(he.far hv).1, fun x hx => (he.far (hus x hx)).1⟩, ⟨(he.far hv).2, fun x hx => (he.far (hus x hx)).2⟩⟩) hown hg hw
theorem wide_ts {A : Mx} {b : Nat → Rat} {N k : Nat} {K : Bool} {w : World} {ts : List Fc} {t0 : Fc} (hl : ts.length = N) (h : ∀ (j : Nat) (t : Fc), ts[j]? = some t → Ent K w t.neg t.num t.den (A k j)) (h0 : Ent K w t0.neg t0.num t0.den (b k)) :
    ∀ (j : Nat) (t : Fc), (ts ++ [t0])[j]? = some t → Ent K w t.neg t.num t.den (wide A b N k j) := fun j t ht => by
  unfold wide
  rcases Nat.lt_or_ge j ts.length with hj | hj
  · rw [List.getElem?_append_left hj] at ht
    rw [if_pos (by omega)]
    exact h j t ht
  · rw [List.getElem?_append_right hj, List.getElem?_singleton] at ht
    split at ht
    · cases ht
      rw [if_neg (by omega)]
      exact h0
    · cases ht
theorem own_form {w : World} {base size n : Nat} {e : TypeId} {v : Value} {xs : List Value} (h : w.ownsRow base e size v n xs) : ∃ A c, v = .slice A n c := by
  rcases h.2 with ⟨h, h0⟩ | ⟨g, cp, cur, h, _⟩
  · exact ⟨_, _, by rw [h, h0]⟩
  · exact ⟨_, _, h⟩
/-- What a system of equations answers. -/
def solN (R : Rd) (N : Nat) : Nat := if N ∈ R.leads then 0 else if R.leads.length < N then 0 else N
def solE (R : Rd) (N : Nat) : Int := if N ∈ R.leads then 7 else if R.leads.length < N then 9 else 0
theorem GivesL.none {w w' : World} {f : Nat → Rat} {er : Int} {e : Ending} (h : e = .returned (.tuple #[.slice none 0 0, .int .i64 er]) ∧ Ext w w') : GivesL w 0 f er e w' := ⟨_, _, h.1, EFs.nil_ _ _ _, h.2⟩
theorem nat_mem {l : List Nat} {N : Nat} : (N : Int) ∈ l.map (fun l : Nat => (l : Int)) ↔ N ∈ l := by
  rw [List.mem_map]
  constructor
  · rintro ⟨a, h, e⟩
    have : a = N := by omega
    rwa [← this]
  · exact fun h => ⟨N, h, rfl⟩
theorem len_zero {M : Mx} {C : Nat} : (rrefs M 0 C).leads = [] := List.eq_nil_of_length_eq_zero (Nat.le_zero.1 (ech M 0 C).len)

theorem snoc_ent {K : Bool} {w : World} {ts : List Fc} {t0 : Fc} {k : Nat} {f : Nat → Rat} (hl : ts.length = k) (h : ∀ (j : Nat) (t : Fc), ts[j]? = some t → Ent K w t.neg t.num t.den (f j)) (h0 : Ent K w t0.neg t0.num t0.den (f k)) :
    ∀ (j : Nat) (t : Fc), (ts ++ [t0])[j]? = some t → Ent K w t.neg t.num t.den (f j) := fun j t ht => by
  rcases Nat.lt_or_ge j ts.length with hj | hj
  · rw [List.getElem?_append_left hj] at ht
    exact h j t ht
  · rw [List.getElem?_append_right hj, List.getElem?_singleton] at ht
    split at ht
    · cases ht
      rw [show j = k by omega]
      exact h0
    · cases ht

end Go.Proofs.Ytmfigiifflljpaa
