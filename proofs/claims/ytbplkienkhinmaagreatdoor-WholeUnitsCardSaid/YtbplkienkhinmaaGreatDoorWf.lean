/- The range of an integer that came in. -/
import Derived.Test.YtbplkienkhinmaaGreatDoorMem
namespace Go.Proofs.YtbplkienkhinmaaGreatDoor
open Go.RowKit
theorem i64_of_wf {a : Int} (h : (Lit.int .i64 a).wf = true) : -9223372036854775808 ≤ a ∧ a ≤ 9223372036854775807 := by
  simp [Lit.wf, IntKind.min, IntKind.max, IntKind.signed, IntKind.bits] at h
  omega
end Go.Proofs.YtbplkienkhinmaaGreatDoor
