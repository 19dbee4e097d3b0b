/- WholeOccupancy, for whatever bytes come in. -/
import Derived.Test.YtglphodaoafdmaaDoorLwWOcc
set_option linter.unusedVariables false
namespace Go.Proofs.YtglphodaoafdmaaDoor
open Go.RowKit
theorem u8_of_wf {a : Int} (h : (Lit.int .u8 a).wf = true) : 0 ≤ a ∧ a ≤ 255 := by
  simp [Lit.wf, IntKind.min, IntKind.max, IntKind.signed, IntKind.bits] at h
  omega
theorem law_WOccB {n D d : Int} {w : World} (hn : 0 ≤ n ∧ n ≤ 255) (hD : 0 ≤ D ∧ D ≤ 255) (hd : 0 ≤ d ∧ d ≤ 255) (ht : Tab10 w) :
    Calls Tryd.prog 3 #[.int .u8 n, .int .u8 D, .int .u8 d] w (fun e w' => e = .returned (.bool true) ∧ Ext w w') := by
  obtain ⟨n', rfl⟩ : ∃ k : Nat, n = k := ⟨n.toNat, by omega⟩
  obtain ⟨D', rfl⟩ : ∃ k : Nat, D = k := ⟨D.toNat, by omega⟩
  obtain ⟨d', rfl⟩ : ∃ k : Nat, d = k := ⟨d.toNat, by omega⟩
  exact law_WOcc (by omega) (by omega) (by omega) ht
end Go.Proofs.YtglphodaoafdmaaDoor
