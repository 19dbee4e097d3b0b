/- fraction: Mul. fraction: Sign, Cmp. -/
import Derived.Test.YtfnngchanhnaiaaDoorFrac
import Derived.Deep.RegionHeld3
import Derived.Deep.RegionLaw
set_option linter.unusedVariables false
set_option linter.unusedSimpArgs false
set_option maxRecDepth 100000
namespace Go.Proofs.YtfnngchanhnaiaaDoor
open Go.RowKit Num


end Go.Proofs.YtfnngchanhnaiaaDoor
namespace Go.Proofs.YtfnngchanhnaiaaDoor
open Go.RowKit Num


theorem cmp_pos_frac {n d m e : Nat} (hd : d ≠ 0) (he : e ≠ 0) : cmpQ (frac false n d) (frac false m e) = cmpN (n * e) (m * d) := by
  have h1 := frac_lt (n := n) (m := m) hd he
  have h2 := frac_lt (n := m) (m := n) he hd
  unfold cmpQ cmpN
  rw [frac_false, frac_false]
  simp only [h1, h2]
theorem cmp_neg_frac {n d m e : Nat} (hd : d ≠ 0) (he : e ≠ 0) : cmpQ (frac true n d) (frac true m e) = -cmpN (n * e) (m * d) := by
  have h0 := cmp_pos_frac (n := n) (m := m) hd he
  rw [frac_false, frac_false] at h0
  rw [← h0, frac_true, frac_true]
  generalize (n : Rat) / (d : Rat) = x
  generalize (m : Rat) / (e : Rat) = y
  unfold cmpQ
  have h1 : -x < -y ↔ y < x := by grind
  have h2 : -y < -x ↔ x < y := by grind
  simp only [h1, h2]
  by_cases a1 : y < x
  · have : ¬ x < y := by grind
    simp [a1, this]
  · by_cases a2 : x < y <;> simp [a1, a2]
theorem sgnQ_lt_cmp {a b : Rat} (h : sgnQ a < sgnQ b) : cmpQ a b = -1 := by
  unfold cmpQ
  rw [if_pos]
  unfold sgnQ at h
  grind
theorem sgnQ_gt_cmp {a b : Rat} (h : sgnQ b < sgnQ a) : cmpQ a b = 1 := by
  have h1 : b < a := by unfold sgnQ at h; grind
  unfold cmpQ
  rw [if_neg (by grind), if_pos h1]
theorem sgnQ_cases (a : Rat) : sgnQ a = -1 ∨ sgnQ a = 0 ∨ sgnQ a = 1 := by
  unfold sgnQ
  split
  · exact .inl rfl
  · split
    · exact .inr (.inr rfl)
    · exact .inr (.inl rfl)
theorem sgnQ_one {b : Bool} {n d : Nat} (h : sgnQ (frac b n d) = 1) : b = false ∧ d ≠ 0 := by
  by_cases hz : n = 0 ∨ d = 0
  · rw [sgnQ_zero hz] at h; omega
  · rw [sgnQ_frac (fun e => hz (.inl e)) (fun e => hz (.inr e))] at h
    cases b
    · exact ⟨rfl, fun e => hz (.inr e)⟩
    · simp at h
theorem sgnQ_minus {b : Bool} {n d : Nat} (h : sgnQ (frac b n d) = -1) : b = true ∧ d ≠ 0 := by
  by_cases hz : n = 0 ∨ d = 0
  · rw [sgnQ_zero hz] at h; omega
  · rw [sgnQ_frac (fun e => hz (.inl e)) (fun e => hz (.inr e))] at h
    cases b
    · simp at h
    · exact ⟨rfl, fun e => hz (.inr e)⟩

end Go.Proofs.YtfnngchanhnaiaaDoor
