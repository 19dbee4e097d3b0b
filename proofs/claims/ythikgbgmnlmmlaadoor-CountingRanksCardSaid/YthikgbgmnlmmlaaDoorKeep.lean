/- Arguments that came in: what is known of them. No program is named here. -/
import Derived.Test.YthikgbgmnlmmlaaDoorRep
import Derived.ChangeSlices
import Derived.Deep.Slices
import Derived.WideShapes
import Derived.OpenShut
set_option linter.unusedVariables false
set_option linter.unusedSimpArgs false
namespace Go.Proofs.YthikgbgmnlmmlaaDoor
open Go.RowKit Num Go.ChangeShapes Go.Deep

/-- A slice of integers that came in. -/
def KInts (k : IntKind) (w : World) (v : Value) (zs : List Int) : Prop :=
  ∃ A cap, v = .slice A zs.length cap ∧ zs.length ≤ cap ∧ cap ≤ 9223372036854775807 ∧ Reads w 1 A zs.length (zs.map (Value.int k)) ∧ ∀ z ∈ zs, (Lit.int k z).wf = true
theorem KInts.below {k : IntKind} {w w' : World} {v : Value} {zs : List Int} (h : KInts k w v zs) (hb : Ext w w') : KInts k w' v zs := by
  obtain ⟨A, cap, h1, h2, h3, h4, h5⟩ := h
  exact ⟨A, cap, h1, h2, h3, h4.below hb, h5⟩

section
variable {H : Type} {enc : TypeId × Value → H} {P : Program} {W : World} {spare : Nat → Bool} {held : Bool}

theorem open_kints {t e : TypeId} {k : IntKind} {fuel : Nat} {cs : List Value} {x : DataW H × List MemPlace} (ht : P.underlying t = some (.slice e)) (he : P.underlying e = some (.int k)) (hc : P.cellsOf e = 1)
    (h : DataW.trod enc P W 0 spare held fuel t cs = some x) : ∃ v zs, cs = [v] ∧ KInts k W v zs := by
  rcases open_ints ht he hc h with ⟨hcs, _⟩ | ⟨a, len, cap, zs, hcs, _, hl, hm, hz, _, hcell, hwf⟩
  · exact ⟨_, [], hcs, none, 0, rfl, Nat.le_refl _, by omega, Reads.nil_, by simp⟩
  · have hzl : len ≤ zs.length := by rw [hz]; split <;> omega
    refine ⟨_, zs.take len, hcs, some a, cap, by simp [Nat.min_eq_left hzl], by simp; omega, by unfold maxLen at hm; exact hm, ⟨by simp, fun hpos => ?_⟩, fun z hz' => hwf z (List.mem_of_mem_take hz')⟩
    have hl0 : 0 < zs.length := by simp at hpos; omega
    have hb : a.block < W.heap.size := by
      have h0 := hcell 0 hl0
      have h1 := World.block_lt_of_cell? _ _ h0
      rwa [block_of_add] at h1
    refine ⟨a, rfl, hb, fun j u hu => ?_⟩
    rw [List.getElem?_map] at hu
    obtain ⟨z, hz1, rfl⟩ := Option.map_eq_some_iff.1 hu
    rw [List.getElem?_take] at hz1
    split at hz1
    · obtain ⟨hj, hz2⟩ := List.getElem?_eq_some_iff.1 hz1
      rw [hcell j hj]
      simp [List.getD, hj, hz2]
    · cases hz1

theorem opened_kints {t e : TypeId} {k : IntKind} {v : Value} {d : DataW H} {ps : List MemPlace} {r : Reach} {b : Nat} (ht : P.underlying t = some (.slice e)) (he : P.underlying e = some (.int k)) (hc : P.cellsOf e = 1)
    (hval : Value.okWide P W r b t v) (h : DataW.Trod enc P W 0 spare held t v d ps) : ∃ zs, KInts k W v zs := by
  obtain ⟨a0, len, cap, rfl⟩ := WideShapes.okWide_slice ht hval
  obtain ⟨fuel, hf⟩ := h
  obtain ⟨v', zs, e1, h1⟩ := open_kints ht he hc hf
  have : v' = .slice a0 len cap := by simpa [Value.cells] using e1.symm
  subst this
  exact ⟨zs, h1⟩
end

end Go.Proofs.YthikgbgmnlmmlaaDoor
