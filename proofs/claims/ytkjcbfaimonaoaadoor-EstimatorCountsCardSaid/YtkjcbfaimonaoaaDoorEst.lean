/- Samples, on lists of integers: sums, frequencies. No program is named here. -/
import Derived.Test.YtkjcbfaimonaoaaDoorMisc
namespace Go.Proofs.YtkjcbfaimonaoaaDoor
open Num

/-- An element of a sample. -/
abbrev InS (z : Int) : Prop := 1 ≤ z ∧ z ≤ 64
def Samp (zs : List Int) : Prop := (1 ≤ zs.length ∧ zs.length ≤ 64) ∧ (∀ k, k < zs.length → InS (zs.getD k 0)) ∧ zs.sum ≤ 64
def sumUp (zs : List Int) (k : Nat) : Int := (zs.take k).sum

theorem take_snoc {zs : List Int} {k : Nat} (h : k < zs.length) : zs.take (k + 1) = zs.take k ++ [zs.getD k 0] := by
  rw [List.take_add_one, List.getElem?_eq_getElem h]
  simp [h]
theorem sumUp_zero (zs : List Int) : sumUp zs 0 = 0 := by simp [sumUp]
theorem sumUp_succ {zs : List Int} {k : Nat} (h : k < zs.length) : sumUp zs (k + 1) = sumUp zs k + zs.getD k 0 := by
  unfold sumUp
  rw [take_snoc h, List.sum_append]
  simp
theorem sumUp_all (zs : List Int) : sumUp zs zs.length = zs.sum := by simp [sumUp]
theorem sumUp_le {zs : List Int} : ∀ {k : Nat}, k ≤ zs.length → (∀ j, j < k → InS (zs.getD j 0)) → (k : Int) ≤ sumUp zs k ∧ sumUp zs k ≤ 64 * k
  | 0, _, _ => by rw [sumUp_zero]; omega
  | k + 1, h, hz => by
    have := sumUp_le (k := k) (by omega) fun j hj => hz j (by omega)
    have h2 := hz k (by omega)
    rw [sumUp_succ (by omega)]
    omega

theorem first_bad (zs : List Int) : ∀ n, n ≤ zs.length → (∀ j, j < n → InS (zs.getD j 0)) ∨ ∃ k, k < n ∧ (∀ j, j < k → InS (zs.getD j 0)) ∧ ¬ InS (zs.getD k 0)
  | 0, _ => .inl fun j hj => by omega
  | n + 1, h => by
    rcases first_bad zs n (by omega) with h1 | ⟨k, hk, h1, h2⟩
    · by_cases hz : InS (zs.getD n 0)
      · refine .inl fun j hj => ?_
        rcases Nat.lt_or_ge j n with h' | h'
        · exact h1 j h'
        · rw [show j = n from by omega]; exact hz
      · exact .inr ⟨n, by omega, h1, hz⟩
    · exact .inr ⟨k, by omega, h1, h2⟩
/-- The four ways of a list. -/
theorem samp_cases (zs : List Int) : Samp zs ∨ (zs.length = 0 ∨ 64 < zs.length) ∨ ((1 ≤ zs.length ∧ zs.length ≤ 64) ∧ ∃ k, k < zs.length ∧ (∀ j, j < k → InS (zs.getD j 0)) ∧ ¬ InS (zs.getD k 0)) ∨
    ((1 ≤ zs.length ∧ zs.length ≤ 64) ∧ (∀ j, j < zs.length → InS (zs.getD j 0)) ∧ 64 < zs.sum) := by
  by_cases hl : 1 ≤ zs.length ∧ zs.length ≤ 64
  · rcases first_bad zs zs.length (Nat.le_refl _) with h1 | h1
    · by_cases hs : zs.sum ≤ 64
      · exact .inl ⟨hl, h1, hs⟩
      · exact .inr (.inr (.inr ⟨hl, h1, by omega⟩))
    · exact .inr (.inr (.inl ⟨hl, h1⟩))
  · exact .inr (.inl (by omega))

/-- The frequencies of the first k elements. -/
def frq (zs : List Int) (m k : Nat) : List Int := (List.range m).map fun (j : Nat) => (((zs.take k).count ((j : Int) + 1) : Nat) : Int)
theorem frq_length (zs : List Int) (m k : Nat) : (frq zs m k).length = m := by simp [frq]
theorem frq_zero (zs : List Int) (m : Nat) : frq zs m 0 = List.replicate m 0 := by
  unfold frq
  refine List.ext_getElem (by simp) fun i h1 h2 => ?_
  simp
theorem frq_getD {zs : List Int} {m k j : Nat} (h : j < m) : (frq zs m k).getD j 0 = (((zs.take k).count ((j : Int) + 1) : Nat) : Int) := by
  simp [frq, List.getD, h]
theorem frq_succ {zs : List Int} {m k j : Nat} (h : k < zs.length) (hj : j < m) (hz : zs.getD k 0 = (j : Int) + 1) : frq zs m (k + 1) = (frq zs m k).set j ((frq zs m k).getD j 0 + 1) := by
  rw [frq_getD hj]
  refine List.ext_getElem (by simp [frq]) fun i h1 h2 => ?_
  rw [List.getElem_set]
  simp only [frq, List.getElem_map, List.getElem_range, take_snoc h, List.count_append, hz]
  by_cases e : j = i
  · subst e
    rw [if_pos rfl]
    simp
  · rw [if_neg e, List.count_singleton, if_neg (by simp; omega)]
    simp
theorem frq_le {zs : List Int} {m k j : Nat} (h : j < m) (hk : k ≤ zs.length) : 0 ≤ (frq zs m k).getD j 0 ∧ (frq zs m k).getD j 0 ≤ zs.length := by
  rw [frq_getD h]
  have := List.count_le_length (a := (j : Int) + 1) (l := zs.take k)
  rw [List.length_take] at this
  omega

end Go.Proofs.YtkjcbfaimonaoaaDoor
