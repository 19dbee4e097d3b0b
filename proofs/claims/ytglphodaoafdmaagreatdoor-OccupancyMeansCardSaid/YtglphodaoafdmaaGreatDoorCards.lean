/-
  DERIVED. GIVEN WITH THE SEED: THE CARDS: each row of YtglphodaoafdmaaGreatDoorRows.lean that lists a variable, with what it lists TIED to the program's text (the seventh form; the later family's looks); each row that meets fmt, with fmt's text TOLD by the authors' own Lean function (tested against real Go, not proved from fmt's source: count such statements apart). THE CARD IS WHAT COUNTS. Prove the row's statement (the work); the ties are given (YtglphodaoafdmaaGreatDoorTie.lean); close each card by the builder's one call (the guide's Derived/Test/ToyasCard.lean, 'card_holds'). Laid BY PROGRAM, IN A SANDBOX (cutbox-door.mjs). By AI agents, Wed Nov 11 2026. No macro, syntax, notation, axiom, sorry.
-/
import Derived.Test.YtglphodaoafdmaaGreatDoorRows
import GoSem.ClaimSeven
namespace Go.Proofs.YtglphodaoafdmaaGreatDoor
namespace Rows

/-- THE TIED CARD OF 'coinagelaw41.OccupancyMeans'. -/
def occupancyMeansCard : Claim7 := { stood := { row := occupancyMeansRow, standIns := [], harness := (true, "e9bb214533fcfc9900c738387b13a9122bfcdad0896637c66c6b8605dbbaac84"), looks := false }, kinds := [], alts := [], laidByText := true, laidKinds := [.data, .data, .data], laidTests := true, laidLooks := .later }
def OccupancyMeansCardSaid : Prop := Claim7.holds Tryz.pinned (.plain (OpenSpec.ofChange occupancyMeansSpec)) occupancyMeansCard

/-- THE SECOND FORM's CARD OF 'coinagelaw41.OccupancyMeans'. -/
def occupancyMeansUptoCard : Claim7 := { stood := { row := occupancyMeansUptoRow, standIns := [], harness := (true, "e9bb214533fcfc9900c738387b13a9122bfcdad0896637c66c6b8605dbbaac84"), looks := false }, kinds := [], alts := [], laidByText := true, laidKinds := [.data, .data, .data], laidTests := true, laidLooks := .later }
def OccupancyMeansUptoCardSaid : Prop := Claim7.holds Tryz.pinned (.plain (OpenSpec.upto occupancyMeansSpec)) occupancyMeansUptoCard
end Rows
end Go.Proofs.YtglphodaoafdmaaGreatDoor
