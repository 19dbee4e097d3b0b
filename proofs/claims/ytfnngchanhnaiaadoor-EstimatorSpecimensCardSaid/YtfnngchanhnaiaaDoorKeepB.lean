/- base.Ints of two lists of the same numbers. -/
import Derived.Test.YtfnngchanhnaiaaDoorKeep
import Derived.BigQuiet
import Derived.Deep.QuietTactic
set_option linter.unusedVariables false
set_option linter.unusedSimpArgs false
set_option maxRecDepth 100000
namespace Go.Proofs.YtfnngchanhnaiaaDoor
open Go.RowKit Num

set_option maxHeartbeats 1000000 in
theorem bints_same {x y : Value} {zs : List Int} {w : World} (hx : IntsV w x zs) (hy : IntsV w y zs) :
    Calls Tryd.prog 8 #[x, y] w (fun e w' => e = .returned (.bool true) ∧ Ext w w') := by
  obtain ⟨A, ca, rfl, a1, a2, a3⟩ := id hx
  obtain ⟨B, cb, rfl, b1, b2, b3⟩ := id hy
  clear a3 b3
  go_enter Tryd.func8, Tryd.ntmps8
  go_wp2
  go_loopw [5] (fun iv wr => ∃ k : Nat, k ≤ zs.length ∧ iv = .int .i64 k ∧ Ext w wr) (fun iv _ => zs.length - (intOf iv).toNat)
  case atStart => exact ⟨0, Nat.zero_le _, rfl, Below.refl _ _⟩
  case round =>
    obtain ⟨k, hk, rfl, hr⟩ := hrel
    by_cases hkl : k < zs.length
    · obtain ⟨ad, rfl, hb1, hc1⟩ := (hx.below hr).at_ hkl
      obtain ⟨bd, rfl, hb2, hc2⟩ := (hy.below hr).at_ hkl
      generalize zs.getD k 0 = z at *
      go_wp2
      go_quiet (fail)
      go_wp2
      go_roundw
      case rel => exact ⟨k + 1, by omega, by go_num, hr.drewN _⟩
      case measure => simp [intOf]; omega
    · go_wp2
      go_ret
      exact ⟨rfl, hr⟩

end Go.Proofs.YtfnngchanhnaiaaDoor
