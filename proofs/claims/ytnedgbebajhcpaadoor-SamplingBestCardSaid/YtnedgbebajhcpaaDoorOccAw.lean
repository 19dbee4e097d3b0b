/- Fixed values of splits. Plain law. No function is named here. -/
import Derived.Test.YtnedgbebajhcpaaDoorOccSp
set_option linter.unusedVariables false
namespace Go.Proofs.YtnedgbebajhcpaaDoor
open Num

theorem bestL_awake : (bestL [1, 5] 3).1 = [1, 2] := by decide +kernel
theorem toul_awake : sumQ (toulF (fun i => ([4, 1] : List Rat).getD i 0) 1) 2 = 3 := by decide +kernel
theorem toul_one {f : Nat → Int} : ∀ m, sumQ (toulF (fun i => (f i : Rat)) 1) m = sumQ (fun i => if i % 2 = 0 then (f i : Rat) else - (f i : Rat)) m
  | 0 => rfl
  | m + 1 => by
    have hp : ∀ k, pw (-(1 : Rat)) k = if k % 2 = 0 then 1 else -1 := by
      intro k
      induction k with
      | zero => rfl
      | succ k ih =>
        have e : pw (-(1 : Rat)) (k + 1) = pw (-(1 : Rat)) k * (-1) := rfl
        rw [e, ih]
        by_cases h : k % 2 = 0
        · rw [if_pos h, if_neg (by omega)]; grind
        · rw [if_neg h, if_pos (by omega)]; grind
    rw [sumQ_succ, sumQ_succ, toul_one m]
    congr 1
    unfold toulF
    rw [hp]
    by_cases h : m % 2 = 0
    · rw [if_pos h, if_neg (by omega)]; grind
    · rw [if_neg h, if_pos (by omega)]; grind

end Go.Proofs.YtnedgbebajhcpaaDoor
