/-
  No cell of these rows narrows 'for every input' (looked for: loops, veiled, ifaces, maps, wideKeys, modest, calm, conditions, laid).
  DERIVED. THE GIVEN ROWS OF THIS SEAT. 8 by the template 'for every input the law returns true; each argument reads behind the call as it read before'; 0 by the template 'total and deterministic' (their statements: YtmfigiifflljpaaTotals.lean).
  GIVEN WITH THE SEED: the statements are not yours to turn. If you find one false, say at which input.
  Laid BY PROGRAM, IN A SANDBOX (cutbox-rows.mjs): the forced cells as the released guide's own fill.sh prints them over the translation fc06692db845b617… (all of the seat's roots in one cut). By AI agents, Wed Nov 11 2026. No macro, syntax, notation, axiom, sorry.
-/
import Derived.Test.YtmfigiifflljpaaChecked
import GoSem.Claim
import GoSem.ClaimJoined
import GoSem.ClaimMapViews
import Derived.JoinedTies
import Derived.KernelRfl
namespace Go.Proofs.Ytmfigiifflljpaa
/- THE CELL 'sum', in the pinned program and in every row, IS THE sha256 OF THE DUMP (.gsa) THAT YtmfigiifflljpaaProg.lean LOADS. Nothing in Lean hashes anything: it is a label: what it is worth is what the hold of that sum in a sandbox is worth. -/
noncomputable def Try.pinned : Pinned := { name := "ytmfigiifflljpaa", sum := "fc06692db845b6170cc4aebb5156686286a5b9e6f02a6f95d814038bf8935fcc", checked := Try.checked }
namespace Rows
def none {H : Type} : Left H := { results := [], args := [] }

/-- 'coinagelaw39.MetalMatchesReference': WHATEVER THE INPUT: true; the input reads as it did. -/
def metalMatchesReferenceSpec : ChangeSpec := { name := "metalMatchesReference", fn := fun _ => fun
  | [d] => { results := [.lit (.bool true)], args := [d] }
  | _ => none }
def metalMatchesReferenceRow : OpenClaim := { program := "ytmfigiifflljpaa", sum := "fc06692db845b6170cc4aebb5156686286a5b9e6f02a6f95d814038bf8935fcc", func := "coinage/coinagelaw39.MetalMatchesReference", spec := "metalMatchesReference", apart := false }
def MetalMatchesReferenceSaid : Prop := metalMatchesReferenceRow.holds Try.pinned (OpenSpec.ofChange metalMatchesReferenceSpec)

/-- ITS FALSE NEIGHBOUR: 'it returns false'. Refute it at one input. -/
def metalMatchesReferenceWrong : ChangeSpec := { name := "metalMatchesReference", fn := fun _ => fun
  | [d] => { results := [.lit (.bool false)], args := [d] }
  | _ => none }
def MetalMatchesReferenceWrongFalsely : Prop := metalMatchesReferenceRow.holds Try.pinned (OpenSpec.ofChange metalMatchesReferenceWrong)

/-- 'coinagelaw39.MetalSolutions': WHATEVER THE INPUT: true; the input reads as it did. -/
def metalSolutionsSpec : ChangeSpec := { name := "metalSolutions", fn := fun _ => fun
  | [d1, d2] => { results := [.lit (.bool true)], args := [d1, d2] }
  | _ => none }
def metalSolutionsRow : OpenClaim := { program := "ytmfigiifflljpaa", sum := "fc06692db845b6170cc4aebb5156686286a5b9e6f02a6f95d814038bf8935fcc", func := "coinage/coinagelaw39.MetalSolutions", spec := "metalSolutions", apart := false }
def MetalSolutionsSaid : Prop := metalSolutionsRow.holds Try.pinned (OpenSpec.ofChange metalSolutionsSpec)

/-- ITS FALSE NEIGHBOUR: 'it returns false'. Refute it at one input. -/
def metalSolutionsWrong : ChangeSpec := { name := "metalSolutions", fn := fun _ => fun
  | [d1, d2] => { results := [.lit (.bool false)], args := [d1, d2] }
  | _ => none }
def MetalSolutionsWrongFalsely : Prop := metalSolutionsRow.holds Try.pinned (OpenSpec.ofChange metalSolutionsWrong)

/-- 'coinagelaw39.MetalSolves': WHATEVER THE INPUT: true; the input reads as it did. -/
def metalSolvesSpec : ChangeSpec := { name := "metalSolves", fn := fun _ => fun
  | [d1, d2] => { results := [.lit (.bool true)], args := [d1, d2] }
  | _ => none }
def metalSolvesRow : OpenClaim := { program := "ytmfigiifflljpaa", sum := "fc06692db845b6170cc4aebb5156686286a5b9e6f02a6f95d814038bf8935fcc", func := "coinage/coinagelaw39.MetalSolves", spec := "metalSolves", apart := false }
def MetalSolvesSaid : Prop := metalSolvesRow.holds Try.pinned (OpenSpec.ofChange metalSolvesSpec)

/-- ITS FALSE NEIGHBOUR: 'it returns false'. Refute it at one input. -/
def metalSolvesWrong : ChangeSpec := { name := "metalSolves", fn := fun _ => fun
  | [d1, d2] => { results := [.lit (.bool false)], args := [d1, d2] }
  | _ => none }
def MetalSolvesWrongFalsely : Prop := metalSolvesRow.holds Try.pinned (OpenSpec.ofChange metalSolvesWrong)

/-- 'coinagelaw39.MetalKernels': WHATEVER THE INPUT: true; the input reads as it did. -/
def metalKernelsSpec : ChangeSpec := { name := "metalKernels", fn := fun _ => fun
  | [d] => { results := [.lit (.bool true)], args := [d] }
  | _ => none }
def metalKernelsRow : OpenClaim := { program := "ytmfigiifflljpaa", sum := "fc06692db845b6170cc4aebb5156686286a5b9e6f02a6f95d814038bf8935fcc", func := "coinage/coinagelaw39.MetalKernels", spec := "metalKernels", apart := false }
def MetalKernelsSaid : Prop := metalKernelsRow.holds Try.pinned (OpenSpec.ofChange metalKernelsSpec)

/-- ITS FALSE NEIGHBOUR: 'it returns false'. Refute it at one input. -/
def metalKernelsWrong : ChangeSpec := { name := "metalKernels", fn := fun _ => fun
  | [d] => { results := [.lit (.bool false)], args := [d] }
  | _ => none }
def MetalKernelsWrongFalsely : Prop := metalKernelsRow.holds Try.pinned (OpenSpec.ofChange metalKernelsWrong)

/-- 'coinagelaw39.MetalTurns': WHATEVER THE INPUT: true; the input reads as it did. -/
def metalTurnsSpec : ChangeSpec := { name := "metalTurns", fn := fun _ => fun
  | [d] => { results := [.lit (.bool true)], args := [d] }
  | _ => none }
def metalTurnsRow : OpenClaim := { program := "ytmfigiifflljpaa", sum := "fc06692db845b6170cc4aebb5156686286a5b9e6f02a6f95d814038bf8935fcc", func := "coinage/coinagelaw39.MetalTurns", spec := "metalTurns", apart := false }
def MetalTurnsSaid : Prop := metalTurnsRow.holds Try.pinned (OpenSpec.ofChange metalTurnsSpec)

/-- ITS FALSE NEIGHBOUR: 'it returns false'. Refute it at one input. -/
def metalTurnsWrong : ChangeSpec := { name := "metalTurns", fn := fun _ => fun
  | [d] => { results := [.lit (.bool false)], args := [d] }
  | _ => none }
def MetalTurnsWrongFalsely : Prop := metalTurnsRow.holds Try.pinned (OpenSpec.ofChange metalTurnsWrong)

/-- 'coinagelaw39.MetalDets': WHATEVER THE INPUT: true; the input reads as it did. -/
def metalDetsSpec : ChangeSpec := { name := "metalDets", fn := fun _ => fun
  | [d1, d2, d3] => { results := [.lit (.bool true)], args := [d1, d2, d3] }
  | _ => none }
def metalDetsRow : OpenClaim := { program := "ytmfigiifflljpaa", sum := "fc06692db845b6170cc4aebb5156686286a5b9e6f02a6f95d814038bf8935fcc", func := "coinage/coinagelaw39.MetalDets", spec := "metalDets", apart := false }
def MetalDetsSaid : Prop := metalDetsRow.holds Try.pinned (OpenSpec.ofChange metalDetsSpec)

/-- ITS FALSE NEIGHBOUR: 'it returns false'. Refute it at one input. -/
def metalDetsWrong : ChangeSpec := { name := "metalDets", fn := fun _ => fun
  | [d1, d2, d3] => { results := [.lit (.bool false)], args := [d1, d2, d3] }
  | _ => none }
def MetalDetsWrongFalsely : Prop := metalDetsRow.holds Try.pinned (OpenSpec.ofChange metalDetsWrong)

/-- 'coinagelaw39.MetalTimes': WHATEVER THE INPUT: true; the input reads as it did. -/
def metalTimesSpec : ChangeSpec := { name := "metalTimes", fn := fun _ => fun
  | [d1, d2, d3] => { results := [.lit (.bool true)], args := [d1, d2, d3] }
  | _ => none }
def metalTimesRow : OpenClaim := { program := "ytmfigiifflljpaa", sum := "fc06692db845b6170cc4aebb5156686286a5b9e6f02a6f95d814038bf8935fcc", func := "coinage/coinagelaw39.MetalTimes", spec := "metalTimes", apart := false }
def MetalTimesSaid : Prop := metalTimesRow.holds Try.pinned (OpenSpec.ofChange metalTimesSpec)

/-- ITS FALSE NEIGHBOUR: 'it returns false'. Refute it at one input. -/
def metalTimesWrong : ChangeSpec := { name := "metalTimes", fn := fun _ => fun
  | [d1, d2, d3] => { results := [.lit (.bool false)], args := [d1, d2, d3] }
  | _ => none }
def MetalTimesWrongFalsely : Prop := metalTimesRow.holds Try.pinned (OpenSpec.ofChange metalTimesWrong)

/-- 'coinagelaw39.MetalMixes': WHATEVER THE INPUT: true; the input reads as it did. -/
def metalMixesSpec : ChangeSpec := { name := "metalMixes", fn := fun _ => fun
  | [d1, d2] => { results := [.lit (.bool true)], args := [d1, d2] }
  | _ => none }
def metalMixesRow : OpenClaim := { program := "ytmfigiifflljpaa", sum := "fc06692db845b6170cc4aebb5156686286a5b9e6f02a6f95d814038bf8935fcc", func := "coinage/coinagelaw39.MetalMixes", spec := "metalMixes", apart := false }
def MetalMixesSaid : Prop := metalMixesRow.holds Try.pinned (OpenSpec.ofChange metalMixesSpec)

/-- ITS FALSE NEIGHBOUR: 'it returns false'. Refute it at one input. -/
def metalMixesWrong : ChangeSpec := { name := "metalMixes", fn := fun _ => fun
  | [d1, d2] => { results := [.lit (.bool false)], args := [d1, d2] }
  | _ => none }
def MetalMixesWrongFalsely : Prop := metalMixesRow.holds Try.pinned (OpenSpec.ofChange metalMixesWrong)

/- THE SECOND FORM. 'bulk': how many values and letters a reading holds, each counted each time it is reached (what is shared counts as often as it is met; a slice's spare places count too). A statement '..UptoSaid' is the law's where the arguments, and the package variables that the reading takes, are together of bulk at most 1048576: NARROWER than '..Said'. Prove '..Said' where nothing that the law and all that it calls make is longer than what came in: it says more and counts as full. Else prove '..UptoSaid'. A law counts once. -/
mutual
def uptoBulk {H : Type} : DataW H → Nat
  | .lit (.string bytes) => bytes.length + 1
  | .lit _ => 1
  | .nil => 1
  | .ptr d => uptoBulk d + 1
  | .slice elems spare => uptoBulkAll elems + uptoBulkAll spare + 1
  | .agg parts => uptoBulkAll parts + 1
  | .iface _ d => uptoBulk d + 1
  | .map entries => uptoBulkEntries entries + 1
  | .held _ => 1
def uptoBulkAll {H : Type} : List (DataW H) → Nat
  | [] => 0
  | d :: r => uptoBulk d + uptoBulkAll r
def uptoBulkEntries {H : Type} : List (Lit × DataW H) → Nat
  | [] => 0
  | x :: r => uptoBulkEntry x + uptoBulkEntries r
def uptoBulkEntry {H : Type} : Lit × DataW H → Nat
  | (.string bytes, d) => bytes.length + uptoBulk d + 1
  | (_, d) => uptoBulk d + 1
 end
def uptoSmall : (H : Type) → List (DataW H) → Bool := fun _ ds => decide (uptoBulkAll ds ≤ 1048576)
def OpenSpec.upto (s : _root_.Go.ChangeSpec) : _root_.Go.OpenSpec := { _root_.Go.OpenSpec.ofChange s with cond := some uptoSmall }

/-- 'coinagelaw39.MetalMatchesReference', WHERE WHAT IT READS IS OF BULK AT MOST 1048576: true; the input reads as it did. -/
def metalMatchesReferenceUptoRow : OpenClaim := { program := "ytmfigiifflljpaa", sum := "fc06692db845b6170cc4aebb5156686286a5b9e6f02a6f95d814038bf8935fcc", func := "coinage/coinagelaw39.MetalMatchesReference", spec := "metalMatchesReference", apart := false, narrowed := true }
def MetalMatchesReferenceUptoSaid : Prop := metalMatchesReferenceUptoRow.holds Try.pinned (OpenSpec.upto metalMatchesReferenceSpec)

/-- 'coinagelaw39.MetalSolutions', WHERE WHAT IT READS IS OF BULK AT MOST 1048576: true; the input reads as it did. -/
def metalSolutionsUptoRow : OpenClaim := { program := "ytmfigiifflljpaa", sum := "fc06692db845b6170cc4aebb5156686286a5b9e6f02a6f95d814038bf8935fcc", func := "coinage/coinagelaw39.MetalSolutions", spec := "metalSolutions", apart := false, narrowed := true }
def MetalSolutionsUptoSaid : Prop := metalSolutionsUptoRow.holds Try.pinned (OpenSpec.upto metalSolutionsSpec)

/-- 'coinagelaw39.MetalSolves', WHERE WHAT IT READS IS OF BULK AT MOST 1048576: true; the input reads as it did. -/
def metalSolvesUptoRow : OpenClaim := { program := "ytmfigiifflljpaa", sum := "fc06692db845b6170cc4aebb5156686286a5b9e6f02a6f95d814038bf8935fcc", func := "coinage/coinagelaw39.MetalSolves", spec := "metalSolves", apart := false, narrowed := true }
def MetalSolvesUptoSaid : Prop := metalSolvesUptoRow.holds Try.pinned (OpenSpec.upto metalSolvesSpec)

/-- 'coinagelaw39.MetalKernels', WHERE WHAT IT READS IS OF BULK AT MOST 1048576: true; the input reads as it did. -/
def metalKernelsUptoRow : OpenClaim := { program := "ytmfigiifflljpaa", sum := "fc06692db845b6170cc4aebb5156686286a5b9e6f02a6f95d814038bf8935fcc", func := "coinage/coinagelaw39.MetalKernels", spec := "metalKernels", apart := false, narrowed := true }
def MetalKernelsUptoSaid : Prop := metalKernelsUptoRow.holds Try.pinned (OpenSpec.upto metalKernelsSpec)

/-- 'coinagelaw39.MetalTurns', WHERE WHAT IT READS IS OF BULK AT MOST 1048576: true; the input reads as it did. -/
def metalTurnsUptoRow : OpenClaim := { program := "ytmfigiifflljpaa", sum := "fc06692db845b6170cc4aebb5156686286a5b9e6f02a6f95d814038bf8935fcc", func := "coinage/coinagelaw39.MetalTurns", spec := "metalTurns", apart := false, narrowed := true }
def MetalTurnsUptoSaid : Prop := metalTurnsUptoRow.holds Try.pinned (OpenSpec.upto metalTurnsSpec)

/-- 'coinagelaw39.MetalDets', WHERE WHAT IT READS IS OF BULK AT MOST 1048576: true; the input reads as it did. -/
def metalDetsUptoRow : OpenClaim := { program := "ytmfigiifflljpaa", sum := "fc06692db845b6170cc4aebb5156686286a5b9e6f02a6f95d814038bf8935fcc", func := "coinage/coinagelaw39.MetalDets", spec := "metalDets", apart := false, narrowed := true }
def MetalDetsUptoSaid : Prop := metalDetsUptoRow.holds Try.pinned (OpenSpec.upto metalDetsSpec)

/-- 'coinagelaw39.MetalTimes', WHERE WHAT IT READS IS OF BULK AT MOST 1048576: true; the input reads as it did. -/
def metalTimesUptoRow : OpenClaim := { program := "ytmfigiifflljpaa", sum := "fc06692db845b6170cc4aebb5156686286a5b9e6f02a6f95d814038bf8935fcc", func := "coinage/coinagelaw39.MetalTimes", spec := "metalTimes", apart := false, narrowed := true }
def MetalTimesUptoSaid : Prop := metalTimesUptoRow.holds Try.pinned (OpenSpec.upto metalTimesSpec)

/-- 'coinagelaw39.MetalMixes', WHERE WHAT IT READS IS OF BULK AT MOST 1048576: true; the input reads as it did. -/
def metalMixesUptoRow : OpenClaim := { program := "ytmfigiifflljpaa", sum := "fc06692db845b6170cc4aebb5156686286a5b9e6f02a6f95d814038bf8935fcc", func := "coinage/coinagelaw39.MetalMixes", spec := "metalMixes", apart := false, narrowed := true }
def MetalMixesUptoSaid : Prop := metalMixesUptoRow.holds Try.pinned (OpenSpec.upto metalMixesSpec)

end Rows
end Go.Proofs.Ytmfigiifflljpaa
