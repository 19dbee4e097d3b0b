/- A region that draws its order: two operations of which either may come up. No program is named here. -/
import Derived.Test.YtglphodaoafdmaaDoorHold
set_option linter.unusedVariables false
set_option linter.unusedSimpArgs false
namespace Go.Proofs.YtglphodaoafdmaaDoor
open Go Go.RowKit
theorem wpAnyG_two {P : Program} {ops : Array Oper} {Q : Exit → Act → World → Prop} {md : Region.Mode} {S : World → Prop} {Ls : List Nat} (i j : Nat) {oi oj : Oper} {fuel : Nat} {listed : Array Bool} {a : Act} {w : World}
    (hr : Region.ready md ops listed = [i, j]) (hi : ops[i]? = some oi) (hj : ops[j]? = some oj) (hwi : Region.wanted oi (yielded ops a.tmps) = true) (hwj : Region.wanted oj (yielded ops a.tmps) = true)
    (h1 : ∀ K' : Act → World → Prop, Shut (∀ a w, (Ls.contains i = false → S w) → wpAnyG P md ops Q S Ls fuel (listed.setIfInBounds i true) a w → K' a w) → Oper.wp P oi a w K' Q)
    (h2 : ∀ K' : Act → World → Prop, Shut (∀ a w, (Ls.contains j = false → S w) → wpAnyG P md ops Q S Ls fuel (listed.setIfInBounds j true) a w → K' a w) → Oper.wp P oj a w K' Q) : wpAnyG P md ops Q S Ls (fuel + 1) listed a w := by
  refine ⟨fun h0 => absurd (hr ▸ h0) (by simp), ?_⟩
  rw [hr]
  intro k hk
  rcases List.mem_cons.1 hk with rfl | hk
  · exact wpOp_step hi (fun K' hK => by rw [if_pos hwi]; exact h1 K' (fun a w hS hW => hK a w ⟨hS, hW⟩))
  · obtain rfl : k = j := by simpa using hk
    exact wpOp_step hj (fun K' hK => by rw [if_pos hwj]; exact h2 K' (fun a w hS hW => hK a w ⟨hS, hW⟩))
end Go.Proofs.YtglphodaoafdmaaDoor
