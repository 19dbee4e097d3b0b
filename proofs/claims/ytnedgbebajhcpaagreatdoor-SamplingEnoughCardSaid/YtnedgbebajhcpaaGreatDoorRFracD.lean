/- ref02: Div. -/
import Derived.Test.YtnedgbebajhcpaaGreatDoorRFrac
import Derived.Test.YtnedgbebajhcpaaGreatDoorFres
set_option linter.unusedVariables false
set_option linter.unusedSimpArgs false
set_option maxRecDepth 100000
namespace Go.Proofs.YtnedgbebajhcpaaGreatDoor
open Go.RowKit Num

theorem num_ne {q : Rat} (h : q ≠ 0) : q.num.natAbs ≠ 0 := by
  intro h1
  exact h (by rw [← Rat.num_eq_zero]; omega)
theorem div_swap {p q : Rat} (h : q ≠ 0) : p / q = p * frac (decide (q < 0)) q.den q.num.natAbs := by
  rw [frac_inv, frac_self, Rat.div_def]

end Go.Proofs.YtnedgbebajhcpaaGreatDoor
