/- Boxes that a call makes at its beginning: block by block, cell by cell. No program is named here. -/
import Derived.Test.YtkjcbfaimonaoaaDoorRep
set_option linter.unusedVariables false
set_option linter.unusedSimpArgs false
namespace Go.Proofs.YtkjcbfaimonaoaaDoor
open Go.RowKit Num

theorem ext_alloc {a b : World} (h : Ext a b) (o : Obj) : Ext a (b.alloc o) := h.alloc h.size o
theorem ext_drew {a b : World} (h : Ext a b) : Ext a b.drew := h.drew
theorem ext_drewN {a b : World} (h : Ext a b) (n : Nat) : Ext a (b.drewN n) := h.drewN n
theorem ext_set {a b : World} (h : Ext a b) {p : Addr} (hp : a.heap.size ≤ p.block) (u : Value) : Ext a (b.setCell p u) := h.setCell hp u
theorem bcell {W w1 : World} (hb : Ext W w1) : (∀ b o, b < W.heap.size → w1.cell? ⟨b, o, none⟩ = W.cell? ⟨b, o, none⟩) ∧ (∀ b o, b < W.heap.size → w1.frozen? ⟨b, o, none⟩ = W.frozen? ⟨b, o, none⟩) :=
  ⟨fun b o h => hb.cell (p := ⟨b, o, none⟩) h, fun b o h => hb.frozen (p := ⟨b, o, none⟩) h⟩

structure Boxes (w W : World) (vs : List (List Value)) : Prop where
  ext : Ext w W
  size : w.heap.size + vs.length ≤ W.heap.size
  cell : ∀ i cs j v, vs[i]? = some cs → cs[j]? = some v → W.cell? ⟨w.heap.size + i, j, none⟩ = some v ∧ W.frozen? ⟨w.heap.size + i, j, none⟩ = false

section
variable {w W W' : World} {vs : List (List Value)}
theorem Boxes.nil_ (w : World) : Boxes w w [] := ⟨Below.refl _ _, by simp, by simp⟩
theorem Boxes.alloc (h : Boxes w W vs) (hs : W.heap.size = w.heap.size + vs.length) (cs : List Value) (t : TypeId) : Boxes w (W.alloc (.cells cs.toArray t)) (vs ++ [cs]) := by
  refine ⟨h.ext.alloc (by omega) _, by simp [hs]; omega, ?_⟩
  intro i ds j v hi hj
  rw [List.getElem?_append] at hi
  split at hi
  · have hne : w.heap.size + i ≠ W.heap.size := by omega
    obtain ⟨h1, h2⟩ := h.cell i ds j v hi hj
    exact ⟨by rw [World.cell?_alloc_old _ _ _ hne]; exact h1, by rw [World.frozen?_alloc_old _ _ _ hne]; exact h2⟩
  · rename_i hlt
    have hi0 : i = vs.length := by
      rcases Nat.lt_or_ge i (vs.length + 1) with h | h
      · omega
      · rw [List.getElem?_eq_none (by simp; omega)] at hi; cases hi
    subst hi0
    simp at hi
    subst hi
    rw [← hs]
    constructor
    · rw [World.cell?_alloc_new]; simpa using hj
    · simp
theorem Boxes.below (h : Boxes w W vs) (hx : Ext W W') : Boxes w W' vs := by
  refine ⟨h.ext.trans hx, by have := h.size; have := hx.size; omega, ?_⟩
  intro i cs j v hi hj
  have hlt : i < vs.length := (List.getElem?_eq_some_iff.1 hi).1
  have hb : w.heap.size + i < W.heap.size := by have := h.size; omega
  obtain ⟨h1, h2⟩ := h.cell i cs j v hi hj
  exact ⟨by rw [hx.cell (p := ⟨w.heap.size + i, j, none⟩) hb]; exact h1, by rw [hx.frozen (p := ⟨w.heap.size + i, j, none⟩) hb]; exact h2⟩
theorem Boxes.drew (h : Boxes w W vs) : Boxes w W.drew vs := h.below (Below.refl _ _).drew
theorem Boxes.set (h : Boxes w W vs) (i j : Nat) (v : Value) : Boxes w (W.setCell ⟨w.heap.size + i, j, none⟩ v) (vs.modify i (·.set j v)) := by
  refine ⟨h.ext.setCell (by show w.heap.size ≤ w.heap.size + i; omega) v, by simp; exact h.size, ?_⟩
  intro i' cs j' u hi hj
  rw [List.getElem?_modify] at hi
  obtain ⟨ds, hds, rfl⟩ := Option.map_eq_some_iff.1 hi
  by_cases hii : i = i'
  · subst hii
    simp only [↓reduceIte] at hj
    rw [List.getElem?_set] at hj
    split at hj
    · rename_i hjj
      subst hjj
      split at hj
      · cases hj
        have hjl : j < ds.length := by assumption
        obtain ⟨h1, h2⟩ := h.cell i ds j ds[j] hds (List.getElem?_eq_getElem hjl)
        exact ⟨World.cell?_setCell_same _ _ _ h1, by rw [World.frozen?_setCell]; exact h2⟩
      · cases hj
    · obtain ⟨h1, h2⟩ := h.cell i ds j' u hds hj
      refine ⟨?_, by rw [World.frozen?_setCell]; exact h2⟩
      rw [World.cell?_setCell_other _ _ _ _ (by simp; try assumption)]; exact h1
  · simp only [hii, ↓reduceIte, id] at hj
    obtain ⟨h1, h2⟩ := h.cell i' ds j' u hds hj
    refine ⟨?_, by rw [World.frozen?_setCell]; exact h2⟩
    rw [World.cell?_setCell_other _ _ _ _ (by simp; try omega)]; exact h1
end

end Go.Proofs.YtkjcbfaimonaoaaDoor
