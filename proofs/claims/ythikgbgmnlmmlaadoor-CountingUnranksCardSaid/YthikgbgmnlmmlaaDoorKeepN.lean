/- A Natural that came in. -/
import Derived.Test.YthikgbgmnlmmlaaDoorProg
import Derived.Test.YthikgbgmnlmmlaaDoorKeep
set_option linter.unusedVariables false
set_option linter.unusedSimpArgs false
set_option maxRecDepth 100000
namespace Go.Proofs.YthikgbgmnlmmlaaDoor
open Go.RowKit Num Go.ChangeShapes Go.Deep

/-- A Natural that came in: so many limbs, of that value. -/
def KNat (w : World) (v : Value) (m n : Nat) : Prop := ∃ s, v = .agg #[s] ∧ KLimbs w s m n

section
variable {H : Type} {enc : TypeId × Value → H} {W : World} {spare : Nat → Bool} {held : Bool}
theorem cell_nat {fuel : Nat} {s : Value} {y : DataW H × List MemPlace} (h : DataW.trod enc Tryd.prog W 0 spare held fuel 25 [s] = some y) : ∃ m n, KLimbs W s m n := by
  obtain ⟨y0, n, hx, _, h0⟩ := trod_struct1 Tryd.underlying25 h
  obtain ⟨v', zs, e1, h1⟩ := open_kints (k := .u32) Tryd.underlying23 Tryd.underlying55 (by kernel_rfl) h0
  have e2 : ∀ o c, ([s].drop o).take c = [v'] → v' = s := by
    intro o c h
    cases o with
    | zero => cases c with
      | zero => simp at h
      | succ c => simpa using h.symm
    | succ o => simp at h
  rw [e2 _ _ e1] at h1
  exact klimbs_of h1
theorem opened_nat {v : Value} {d : DataW H} {ps : List MemPlace} {r : Reach} {b : Nat} (hval : Value.okWide Tryd.prog W r b 25 v) (h : DataW.Trod enc Tryd.prog W 0 spare held 25 v d ps) : ∃ z : Nat × Nat, KNat W v z.1 z.2 := by
  obtain ⟨cs, rfl, hsz⟩ := WideShapes.okWide_struct Tryd.underlying25 hval
  obtain ⟨c0, rfl⟩ := Go.Proofs.YthikgbgmnlmmlaaDoor.array1 (hsz.trans (show Tryd.prog.cellsOf 25 = 1 by kernel_rfl))
  obtain ⟨fuel, hf⟩ := h
  obtain ⟨m, n, h1⟩ := cell_nat (by simpa [Value.cells] using hf)
  exact ⟨(m, n), c0, rfl, h1⟩
end

end Go.Proofs.YthikgbgmnlmmlaaDoor
