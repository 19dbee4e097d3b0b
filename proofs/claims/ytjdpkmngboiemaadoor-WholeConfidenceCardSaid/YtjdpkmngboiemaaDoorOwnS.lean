/- A list of Naturals that is written element by element. -/
import Derived.Test.YtjdpkmngboiemaaDoorCntP
set_option linter.unusedVariables false
set_option linter.unusedSimpArgs false
set_option maxRecDepth 100000
namespace Go.Proofs.YtjdpkmngboiemaaDoor
open Go.RowKit Num

section
variable {e : TypeId} {base B g n cap j : Nat} {w : World} {v u : Value} {us : List Value} {ns : List Nat} {m : Nat}
theorem CanV.setOwn {x y : Value} (hu : CanV w x m) (hf : Far x v) (hv : v.ownBlock = some g) : CanV (w.setCell ⟨g, j, none⟩ y) x m := U32s.setFar hu (fun A n c e => hf A n c g e hv) y
theorem OwnN.stored (h : OwnN e base B w (.slice (some ⟨g, 0, none⟩) n cap) us ns) (hn : ns.length = n) (hj : j < n) (hu : CanV w u m) (hf : Far u (.slice (some ⟨g, 0, none⟩) n cap)) (hB : New B u) :
    OwnN e base B (w.setCell ⟨g, j, none⟩ u) (.slice (some ⟨g, 0, none⟩) n cap) (us.set j u) (ns.set j m) := by
  subst hn
  have hl : us.length = ns.length := by have := h.1.1; omega
  refine ⟨by rw [List.length_set]; exact (h.1.stored j u).1, fun k x y hx hy => ?_⟩
  by_cases hk : j = k
  · subst hk
    rw [List.getElem?_set_self (by omega)] at hx hy
    cases hx
    cases hy
    exact ⟨hu.setOwn hf rfl, hf, hB⟩
  · rw [List.getElem?_set_ne hk] at hx hy
    obtain ⟨h1, h2, h3⟩ := h.2 k x y hx hy
    exact ⟨h1.setOwn h2 rfl, h2, h3⟩
theorem OwnN.at_ (h : OwnN e base B w (.slice (some ⟨g, 0, none⟩) n cap) us ns) (hn : ns.length = n) (hj : ns[j]? = some m) :
    ∃ A k c, w.cell? ⟨g, j, none⟩ = some (.slice A k c) ∧ w.frozen? ⟨g, j, none⟩ = false ∧ CanV w (.slice A k c) m ∧ Far (.slice A k c) (.slice (some ⟨g, 0, none⟩) n cap) ∧ New B (.slice A k c) := by
  have hlt : j < ns.length := (List.getElem?_eq_some_iff.1 hj).1
  subst hn
  have hl : us.length = ns.length := by have := h.1.1; omega
  obtain ⟨x, hx⟩ : ∃ x, us[j]? = some x := ⟨_, List.getElem?_eq_getElem (by omega)⟩
  obtain ⟨h1, h2, h3⟩ := h.2 j x m hx hj
  obtain ⟨A, k, c, rfl⟩ := h1.form
  exact ⟨A, k, c, (h.1.cellAt j (by omega)).trans hx, h.1.frozenAt j, h1, h2, h3⟩
end

end Go.Proofs.YtjdpkmngboiemaaDoor
