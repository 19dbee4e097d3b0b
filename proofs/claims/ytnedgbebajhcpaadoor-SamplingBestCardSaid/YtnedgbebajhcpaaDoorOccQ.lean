/- Occupancy on rationals: chances, sums, means. No program is named here. -/
import Derived.Test.YtnedgbebajhcpaaDoorOcc
set_option linter.unusedVariables false
set_option linter.unusedSimpArgs false
namespace Go.Proofs.YtnedgbebajhcpaaDoor
open Num

/-- The sum of the first n values. -/
def sumQ (f : Nat → Rat) : Nat → Rat
  | 0 => 0
  | n + 1 => sumQ f n + f n
theorem sumQ_succ (f : Nat → Rat) (n : Nat) : sumQ f (n + 1) = sumQ f n + f n := rfl
theorem sumQ_div (f : Nat → Nat) (c : Rat) : ∀ n, sumQ (fun k => (f k : Rat) / c) n = (sumTo f n : Rat) / c
  | 0 => by simp [sumQ, sumTo, Rat.div_def]
  | n + 1 => by
    rw [sumQ_succ, sumQ_div f c n, sumTo_succ, Rat.natCast_add]
    simp only [Rat.div_def, Rat.add_mul]
theorem sumQ_congr {f g : Nat → Rat} : ∀ {n : Nat}, (∀ k, k < n → f k = g k) → sumQ f n = sumQ g n
  | 0, _ => rfl
  | n + 1, h => by rw [sumQ_succ, sumQ_succ, sumQ_congr fun k hk => h k (by omega), h n (by omega)]

/-- The chance of d dies. -/
def pch (n D d : Nat) : Rat := (occ n D d : Rat) / ((D ^ n : Nat) : Rat)
theorem pow_ne {D n : Nat} (h : 0 < D) : ((D ^ n : Nat) : Rat) ≠ 0 := by
  have := Nat.pow_pos (n := n) h
  exact_mod_cast (show D ^ n ≠ 0 from by omega)
theorem pch_gt {n D d : Nat} (h : n < d ∨ D < d) : pch n D d = 0 := by
  unfold pch
  rw [occ_gt h, Rat.div_def]
  exact Rat.zero_mul _
theorem pch_sum {n D m : Nat} (hD : 0 < D) (hm : n + 1 ≤ m) : sumQ (pch n D) m = 1 := by
  have h := sumQ_div (occ n D) ((D ^ n : Nat) : Rat) m
  have e : sumQ (pch n D) m = sumQ (fun k => (occ n D k : Rat) / ((D ^ n : Nat) : Rat)) m := rfl
  rw [e, h, occ_sum_ge hm, Rat.div_def]
  exact Rat.mul_inv_cancel _ (pow_ne hD)
theorem pch_step {n D d : Nat} (hD : 0 < D) : pch (n + 1) D (d + 1) = ((d + 1 : Nat) : Rat) / (D : Rat) * pch n D (d + 1) + ((D - d : Nat) : Rat) / (D : Rat) * pch n D d := by
  have hD' : (D : Rat) ≠ 0 := by exact_mod_cast (show D ≠ 0 from by omega)
  have hp := pow_ne (n := n) hD
  unfold pch
  rw [occ_step, Nat.pow_succ, Rat.natCast_add, Rat.natCast_mul, Rat.natCast_mul, Rat.natCast_mul]
  generalize ((D ^ n : Nat) : Rat) = P at *
  simp only [Rat.div_def]
  grind

end Go.Proofs.YtnedgbebajhcpaaDoor
