/- Arguments that came in: two bytes in an array. -/
import Derived.Test.YtnedgbebajhcpaaDoorKeep
import Derived.OpenShut
set_option linter.unusedVariables false
set_option linter.unusedSimpArgs false
namespace Go.Proofs.YtnedgbebajhcpaaDoor
open Go.RowKit Num Go.ChangeShapes Go.Deep

section
variable {H : Type} {enc : TypeId × Value → H} {W : World} {spare : Nat → Bool} {held : Bool}
set_option maxRecDepth 100000 in
theorem opened_u8x2 {v : Value} {d : DataW H} {ps : List MemPlace} {r : Reach} {b : Nat} (hval : Value.okWide Tryd.prog W r b 22 v) (h : DataW.Trod enc Tryd.prog W 0 spare held 22 v d ps) : ∃ z : Int × Int, v = .agg #[.int .u8 z.1, .int .u8 z.2] ∧ (Lit.int .u8 z.1).wf = true ∧ (Lit.int .u8 z.2).wf = true := by
  have hv : ∃ cs, v = .agg cs ∧ cs.size = Tryd.prog.cellsOf 22 := by
    simp only [Value.okWide, Tryd.underlying22] at hval
    obtain ⟨cs, h1, h2, _⟩ := hval
    exact ⟨cs, h1, h2⟩
  obtain ⟨cs, rfl, hsz⟩ := hv
  obtain ⟨l⟩ := cs
  have c1 : Tryd.prog.cellsOf 5 = 1 := by kernel_rfl
  match l, hsz.trans (show Tryd.prog.cellsOf 22 = 2 by kernel_rfl) with
  | [c0, c1'], _ =>
    obtain ⟨fuel, hf⟩ := h
    obtain ⟨xs, m, _, ex, _, hl, hel⟩ := DataW.trod_array Tryd.underlying22 hf
    match xs, hl with
    | [y0, y1], _ =>
      have g0 := hel 0 (by omega)
      have g1 := hel 1 (by omega)
      rw [c1] at g0 g1
      have e0 : DataW.trod enc Tryd.prog W 0 spare held m 5 [c0] = some y0 := g0
      have e1 : DataW.trod enc Tryd.prog W 0 spare held m 5 [c1'] = some y1 := g1
      obtain ⟨a, i0, _, w0⟩ := DataW.trod_int Tryd.underlying5 e0
      obtain ⟨b', i1, _, w1⟩ := DataW.trod_int Tryd.underlying5 e1
      simp only [List.cons.injEq, and_true] at i0 i1
      subst i0 i1
      exact ⟨(a, b'), rfl, w0, w1⟩
end
theorem u8_of_wf {a : Int} (h : (Lit.int .u8 a).wf = true) : ∃ n : Nat, a = n ∧ n ≤ 255 := by
  simp [Lit.wf, IntKind.min, IntKind.max, IntKind.signed, IntKind.bits] at h
  exact ⟨a.toNat, by omega, by omega⟩

end Go.Proofs.YtnedgbebajhcpaaDoor
