/- WholeSampling: arguments that came in. -/
import Derived.Test.YtnedgbebajhcpaaDoorLwWSam
import Derived.Test.YtnedgbebajhcpaaDoorOpnA
set_option linter.unusedVariables false
namespace Go.Proofs.YtnedgbebajhcpaaDoor
open Go.RowKit Num

theorem law_WSamB {a0 : Int} {z1 z2 : Int × Int} {v1 v2 : Value} {w : World} (w0 : (Lit.int .u8 a0).wf = true) (k1 : v1 = .agg #[.int .u8 z1.1, .int .u8 z1.2] ∧ (Lit.int .u8 z1.1).wf = true ∧ (Lit.int .u8 z1.2).wf = true) (k2 : v2 = .agg #[.int .u8 z2.1, .int .u8 z2.2] ∧ (Lit.int .u8 z2.1).wf = true ∧ (Lit.int .u8 z2.2).wf = true) (ht : Tab10 w) :
    Calls Tryd.prog 3 #[.int .u8 a0, v1, v2] w (fun e w' => e = .returned (.bool true) ∧ Ext w w') := by
  obtain ⟨x0, x1⟩ := z1
  obtain ⟨y0, y1⟩ := z2
  obtain ⟨rfl, h1, h2⟩ := k1
  obtain ⟨rfl, h3, h4⟩ := k2
  obtain ⟨n0, rfl, b0⟩ := u8_of_wf w0
  obtain ⟨x0', e0, c0⟩ := u8_of_wf h1
  obtain ⟨x1', e1, c1⟩ := u8_of_wf h2
  obtain ⟨y0', e2, c2⟩ := u8_of_wf h3
  obtain ⟨y1', e3, c3⟩ := u8_of_wf h4
  dsimp only at e0 e1 e2 e3 ⊢
  subst e0 e1 e2 e3
  exact law_WSam b0 c0 c1 c2 c3 ht

end Go.Proofs.YtnedgbebajhcpaaDoor
