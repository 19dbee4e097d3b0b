/- Arguments that came in: two integers in an array; base.Clip. -/
import Derived.Test.YtbplkienkhinmaaGreatDoorKeep
import Derived.OpenShut
set_option linter.unusedVariables false
set_option linter.unusedSimpArgs false
namespace Go.Proofs.YtbplkienkhinmaaGreatDoor
open Go.RowKit Num Go.ChangeShapes Go.Deep

section
variable {H : Type} {enc : TypeId × Value → H} {W : World} {spare : Nat → Bool} {held : Bool}
set_option maxRecDepth 100000 in
theorem opened_intx2 {v : Value} {d : DataW H} {ps : List MemPlace} {r : Reach} {b : Nat} (hval : Value.okWide Tryz.prog W r b 28 v) (h : DataW.Trod enc Tryz.prog W 0 spare held 28 v d ps) : ∃ z : Int × Int, v = .agg #[.int .i64 z.1, .int .i64 z.2] ∧ (Lit.int .i64 z.1).wf = true ∧ (Lit.int .i64 z.2).wf = true := by
  have hv : ∃ cs, v = .agg cs ∧ cs.size = Tryz.prog.cellsOf 28 := by
    simp only [Value.okWide, Tryz.underlying28] at hval
    obtain ⟨cs, h1, h2, _⟩ := hval
    exact ⟨cs, h1, h2⟩
  obtain ⟨cs, rfl, hsz⟩ := hv
  obtain ⟨l⟩ := cs
  have c1 : Tryz.prog.cellsOf 3 = 1 := by kernel_rfl
  match l, hsz.trans (show Tryz.prog.cellsOf 28 = 2 by kernel_rfl) with
  | [c0, c1'], _ =>
    obtain ⟨fuel, hf⟩ := h
    obtain ⟨xs, m, _, ex, _, hl, hel⟩ := DataW.trod_array Tryz.underlying28 hf
    match xs, hl with
    | [y0, y1], _ =>
      have g0 := hel 0 (by omega)
      have g1 := hel 1 (by omega)
      rw [c1] at g0 g1
      have e0 : DataW.trod enc Tryz.prog W 0 spare held m 3 [c0] = some y0 := g0
      have e1 : DataW.trod enc Tryz.prog W 0 spare held m 3 [c1'] = some y1 := g1
      obtain ⟨a, i0, _, w0⟩ := DataW.trod_int Tryz.underlying3 e0
      obtain ⟨b', i1, _, w1⟩ := DataW.trod_int Tryz.underlying3 e1
      simp only [List.cons.injEq, and_true] at i0 i1
      subst i0 i1
      exact ⟨(a, b'), rfl, w0, w1⟩
end
theorem uclip {n low high : Int} {w : World} (h : low ≤ high) : Calls Tryz.prog 4 #[.int .i64 n, .int .i64 low, .int .i64 high] w (fun e w' => (∃ z : Int, e = .returned (.int .i64 z) ∧ low ≤ z ∧ z ≤ high) ∧ w' = w) := by
  by_cases h1 : high < n
  · by_cases h2 : low < high
    · go_enter Tryz.func4, Tryz.ntmps4
      go_wp2
      go_ret
      exact ⟨⟨_, rfl, by omega, by omega⟩, rfl⟩
    · go_enter Tryz.func4, Tryz.ntmps4
      go_wp2
      go_ret
      exact ⟨⟨_, rfl, by omega, by omega⟩, rfl⟩
  · by_cases h2 : low < n
    · go_enter Tryz.func4, Tryz.ntmps4
      go_wp2
      go_ret
      exact ⟨⟨_, rfl, by omega, by omega⟩, rfl⟩
    · go_enter Tryz.func4, Tryz.ntmps4
      go_wp2
      go_ret
      exact ⟨⟨_, rfl, by omega, by omega⟩, rfl⟩

end Go.Proofs.YtbplkienkhinmaaGreatDoor
