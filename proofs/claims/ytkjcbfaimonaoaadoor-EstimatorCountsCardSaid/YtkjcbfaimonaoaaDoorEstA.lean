/- The estimator's fixed calls: plain facts. -/
import Derived.Test.YtkjcbfaimonaoaaDoorEstH
import Derived.Test.YtkjcbfaimonaoaaDoorFracT
set_option linter.unusedVariables false
set_option linter.unusedSimpArgs false
set_option maxRecDepth 100000
namespace Go.Proofs.YtkjcbfaimonaoaaDoor
open Go.RowKit Num

theorem ints_lit3 (w : World) (a b c : Int) : IntsV (w.alloc (.cells #[.int .i64 a, .int .i64 b, .int .i64 c] 3)) (.slice (some ⟨w.heap.size, 0, none⟩) 3 3) [a, b, c] :=
  IntsV.of_own (base := w.heap.size) (e := 3) (n := 3) (World.ownsRow_lit (base := w.heap.size) (size := 1) w #[.int .i64 a, .int .i64 b, .int .i64 c] 3 (Nat.le_refl _) (by unfold maxLen; omega) rfl)
theorem samp131 : Samp [1, 3, 1] := ⟨by decide, fun k hk => by
  rcases (by simp at hk; omega : k = 0 ∨ k = 1 ∨ k = 2) with e | e | e <;> subst e <;> decide, by decide⟩
theorem samp222 : Samp [2, 2, 2] := ⟨by decide, fun k hk => by
  rcases (by simp at hk; omega : k = 0 ∨ k = 1 ∨ k = 2) with e | e | e <;> subst e <;> decide, by decide⟩
theorem freqs131 : freqs [1, 3, 1] = [2, 0, 1] := by decide
theorem seen131 : seen [1, 3, 1] 1 = 2 := by decide
theorem good131 : ((((([1, 3, 1] : List Int).length : Int) * ([1, 3, 1] : List Int).sum : Int) : Rat) / ((([1, 3, 1] : List Int).sum - (seen [1, 3, 1] 1 : Int) : Int) : Rat)) = 5 := by
  rw [show ((([1, 3, 1] : List Int).length : Int) * ([1, 3, 1] : List Int).sum : Int) = 15 from by decide, show (([1, 3, 1] : List Int).sum - (seen [1, 3, 1] 1 : Int) : Int) = 3 from by decide]
  grind
theorem carter222 : ((carN ([2, 2, 2] : List Int).sum ([2, 2, 2] : List Int).length : Rat) / (carD ([2, 2, 2] : List Int).sum ([2, 2, 2] : List Int).length : Rat)) = mkRat 375 77 := by
  rw [show carN ([2, 2, 2] : List Int).sum ([2, 2, 2] : List Int).length = 18000 from by decide, show carD ([2, 2, 2] : List Int).sum ([2, 2, 2] : List Int).length = 3696 from by decide, Rat.mkRat_eq_div]
  grind

end Go.Proofs.YtkjcbfaimonaoaaDoor
