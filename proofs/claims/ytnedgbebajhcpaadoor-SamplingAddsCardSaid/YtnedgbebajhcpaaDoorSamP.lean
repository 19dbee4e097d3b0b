/- The rows of SamplingAdds: plain law. -/
import Derived.Test.YtnedgbebajhcpaaDoorSamU
import Derived.Test.YtnedgbebajhcpaaDoorOccAw
set_option linter.unusedVariables false
set_option linter.unusedSimpArgs false
set_option maxRecDepth 100000
namespace Go.Proofs.YtnedgbebajhcpaaDoor
open Go.RowKit Num

theorem getD_setI (l : List Int) (k j : Nat) (x : Int) : (l.set k x).getD j 0 = if k = j ∧ j < l.length then x else l.getD j 0 := by
  rw [List.getD_eq_getElem?_getD, List.getD_eq_getElem?_getD, List.getElem?_set]
  by_cases h : k = j
  · subst h
    rw [if_pos rfl]
    by_cases h2 : k < l.length
    · rw [if_pos h2, if_pos ⟨rfl, h2⟩]; rfl
    · rw [if_neg h2, if_neg (fun h => h2 h.2), List.getElem?_eq_none (by omega)]
  · rw [if_neg h, if_neg (fun h2 => h h2.1)]
theorem set_sameI {l : List Int} {k : Nat} (h : l.getD k 0 = 0) : l.set k 0 = l := by
  apply List.ext_getElem?
  intro j
  rw [List.getElem?_set]
  by_cases hk : k = j
  · subst hk
    rw [if_pos rfl]
    by_cases h2 : k < l.length
    · rw [if_pos h2]
      rw [List.getD_eq_getElem?_getD, List.getElem?_eq_getElem h2] at h
      rw [List.getElem?_eq_getElem h2]
      exact congrArg some h.symm
    · rw [if_neg h2, List.getElem?_eq_none (by omega)]
  · rw [if_neg hk]
/-- The alternating sum of the first k numbers. -/
def altS (ss : List Int) : Nat → Int
  | 0 => 0
  | k + 1 => if k % 2 = 0 then altS ss k + ss.getD k 0 else altS ss k - ss.getD k 0
theorem altS_succ (ss : List Int) (k : Nat) : altS ss (k + 1) = if k % 2 = 0 then altS ss k + ss.getD k 0 else altS ss k - ss.getD k 0 := rfl
theorem altS_set (ss : List Int) (k : Nat) (x : Int) : ∀ j, j ≤ k → altS (ss.set k x) j = altS ss j
  | 0, _ => rfl
  | j + 1, h => by
    have h2 : (ss.set k x).getD j 0 = ss.getD j 0 := by rw [getD_setI]; exact if_neg (fun h3 => by omega)
    rw [altS_succ, altS_succ, altS_set ss k x j (by omega), h2]
/-- Three rows of n numbers, of which k are written: the third the sum of the first two; a the alternating sum. -/
def GoodA (n k : Nat) (ps qs ss : List Int) (a : Int) : Prop :=
  (ps.length = n ∧ qs.length = n ∧ ss.length = n) ∧ (∀ j, 0 ≤ ps.getD j 0 ∧ ps.getD j 0 ≤ 32) ∧ (∀ j, 0 ≤ qs.getD j 0 ∧ qs.getD j 0 ≤ 32) ∧
  (∀ j, ss.getD j 0 = ps.getD j 0 + qs.getD j 0) ∧ (∀ j, k ≤ j → ps.getD j 0 = 0 ∧ qs.getD j 0 = 0) ∧ a = altS ss k ∧ -64 * (k : Int) ≤ a ∧ a ≤ 64 * (k : Int)
theorem getD_zeros (n j : Nat) : (List.replicate n (0 : Int)).getD j 0 = 0 := by
  rw [List.getD_eq_getElem?_getD, List.getElem?_replicate]
  split <;> rfl
theorem GoodA.start (n : Nat) : GoodA n 0 (List.replicate n 0) (List.replicate n 0) (List.replicate n 0) 0 := by
  refine ⟨⟨by simp, by simp, by simp⟩, fun j => ?_, fun j => ?_, fun j => ?_, fun j _ => ?_, rfl, by omega, by omega⟩
  · rw [getD_zeros]; omega
  · rw [getD_zeros]; omega
  · rw [getD_zeros]; omega
  · rw [getD_zeros]; exact ⟨rfl, rfl⟩
theorem GoodA.next {n k : Nat} {ps qs ss : List Int} {a x y : Int} (h : GoodA n k ps qs ss a) (hk : k < n) (hx : 0 ≤ x ∧ x ≤ 32) (hy : 0 ≤ y ∧ y ≤ 32) :
    GoodA n (k + 1) (ps.set k x) (qs.set k y) (ss.set k (x + y)) (if k % 2 = 0 then a + (x + y) else a - (x + y)) := by
  obtain ⟨⟨h1, h2, h3⟩, h4, h5, h6, h7, h8, h9, h10⟩ := h
  refine ⟨⟨by simp [h1], by simp [h2], by simp [h3]⟩, fun j => ?_, fun j => ?_, fun j => ?_, fun j hj => ?_, ?_, ?_⟩
  · rw [getD_setI]; split
    · exact hx
    · exact h4 j
  · rw [getD_setI]; split
    · exact hy
    · exact h5 j
  · rw [getD_setI, getD_setI, getD_setI, h1, h2, h3]
    split
    · rfl
    · exact h6 j
  · rw [getD_setI, getD_setI, if_neg (fun h => by omega), if_neg (fun h => by omega)]
    exact h7 j (by omega)
  · have h11 : (ss.set k (x + y)).getD k 0 = x + y := by rw [getD_setI]; exact if_pos ⟨rfl, by omega⟩
    rw [altS_succ, altS_set _ _ _ _ (Nat.le_refl _), h11, ← h8]
  · split <;> constructor <;> omega
theorem GoodA.numsP {n k : Nat} {ps qs ss : List Int} {a : Int} (h : GoodA n k ps qs ss a) : ∀ z ∈ ps, 0 ≤ z ∧ z ≤ 64 := fun z hz => by
  obtain ⟨j, hj, rfl⟩ := List.mem_iff_getElem.1 hz
  have := h.2.1 j
  rw [List.getD_eq_getElem?_getD, List.getElem?_eq_getElem hj] at this
  have h2 : 0 ≤ ps[j] ∧ ps[j] ≤ 32 := this
  omega
theorem GoodA.numsQ {n k : Nat} {ps qs ss : List Int} {a : Int} (h : GoodA n k ps qs ss a) : ∀ z ∈ qs, 0 ≤ z ∧ z ≤ 64 := fun z hz => by
  obtain ⟨j, hj, rfl⟩ := List.mem_iff_getElem.1 hz
  have := h.2.2.1 j
  rw [List.getD_eq_getElem?_getD, List.getElem?_eq_getElem hj] at this
  have h2 : 0 ≤ qs[j] ∧ qs[j] ≤ 32 := this
  omega
theorem GoodA.numsS {n k : Nat} {ps qs ss : List Int} {a : Int} (h : GoodA n k ps qs ss a) : ∀ z ∈ ss, 0 ≤ z ∧ z ≤ 64 := fun z hz => by
  obtain ⟨j, hj, rfl⟩ := List.mem_iff_getElem.1 hz
  have h1 := h.2.1 j
  have h2 := h.2.2.1 j
  have h3 := h.2.2.2.1 j
  rw [List.getD_eq_getElem?_getD (l := ss), List.getElem?_eq_getElem hj] at h3
  have h4 : ss[j] = ps.getD j 0 + qs.getD j 0 := h3
  omega
theorem GoodA.adds {n k : Nat} {ps qs ss : List Int} {a : Int} (h : GoodA n k ps qs ss a) (t m : Nat) : toulS ps t m + toulS qs t m = toulS ss t m := by
  unfold toulS
  rw [← toul_add]
  refine sumQ_congr' fun i _ => ?_
  unfold toulF
  show -pw (-↑t) (i + 1) * (((ps.getD i 0 : Int) : Rat) + ((qs.getD i 0 : Int) : Rat)) = -pw (-↑t) (i + 1) * ((ss.getD i 0 : Int) : Rat)
  rw [h.2.2.2.1 i, Rat.intCast_add]
theorem toulS_zero (zs : List Int) (m : Nat) : toulS zs 0 m = 0 := by
  unfold toulS
  rw [show ((0 : Nat) : Rat) = 0 from rfl]
  exact toul_zero
theorem altS_sum (zs : List Int) : ∀ m, sumQ (fun i => if i % 2 = 0 then ((zs.getD i 0 : Int) : Rat) else - ((zs.getD i 0 : Int) : Rat)) m = ((altS zs m : Int) : Rat)
  | 0 => rfl
  | m + 1 => by
    rw [sumQ_succ, altS_sum zs m, altS_succ]
    split
    · rw [Rat.intCast_add]
    · rw [Rat.intCast_sub]; grind
theorem toulS_one (zs : List Int) (m : Nat) : toulS zs 1 m = ((altS zs m : Int) : Rat) := by
  unfold toulS
  rw [show ((1 : Nat) : Rat) = 1 from rfl, toul_one (f := fun i => zs.getD i 0), altS_sum]

end Go.Proofs.YtnedgbebajhcpaaDoor
