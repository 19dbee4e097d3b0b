/- base.In. -/
import Derived.Test.YtfnngchanhnaiaaDoorFrac
set_option linter.unusedVariables false
set_option linter.unusedSimpArgs false
set_option maxRecDepth 100000
namespace Go.Proofs.YtfnngchanhnaiaaDoor
open Go.RowKit Num

theorem rin_n {n low high : Int} {w : World} (b : Bool) (hb : b = (decide (low ≤ n) && decide (n ≤ high))) : Calls Tryd.prog 18 #[.int .i64 n, .int .i64 low, .int .i64 high] w (fun e w' => e = .returned (.bool b) ∧ w' = w) := by
  by_cases h1 : low ≤ n
  · by_cases h2 : n ≤ high
    · obtain rfl : b = true := by rw [hb]; simp [h1, h2]
      clear hb
      go_enter Tryd.func18, Tryd.ntmps18
      go_wp2
      go_ret
      exact ⟨rfl, rfl⟩
    · obtain rfl : b = false := by rw [hb]; simp [h2]
      clear hb
      go_enter Tryd.func18, Tryd.ntmps18
      go_wp2
      go_ret
      exact ⟨rfl, rfl⟩
  · obtain rfl : b = false := by rw [hb]; simp [h1]
    clear hb
    go_enter Tryd.func18, Tryd.ntmps18
    go_wp2
    go_ret
    exact ⟨rfl, rfl⟩
theorem rin_t {n low high : Int} {w : World} (h1 : low ≤ n) (h2 : n ≤ high) : Calls Tryd.prog 18 #[.int .i64 n, .int .i64 low, .int .i64 high] w (fun e w' => e = .returned (.bool true) ∧ w' = w) := rin_n true (by simp [h1, h2])
theorem rin_f {n low high : Int} {w : World} (h : n < low ∨ high < n) : Calls Tryd.prog 18 #[.int .i64 n, .int .i64 low, .int .i64 high] w (fun e w' => e = .returned (.bool false) ∧ w' = w) := rin_n false (by
  symm
  rw [Bool.and_eq_false_iff]
  rcases h with h | h
  · exact .inl (decide_eq_false (by omega))
  · exact .inr (decide_eq_false (by omega)))

end Go.Proofs.YtfnngchanhnaiaaDoor
