/-
  DERIVED. GIVEN WITH THE SEED: THE CARDS: each row of YtfnngchanhnaiaaDoorRows.lean that lists a variable, with what it lists TIED to the program's text (the seventh form; the later family's looks); each row that meets fmt, with fmt's text TOLD by the authors' own Lean function (tested against real Go, not proved from fmt's source: count such statements apart). THE CARD IS WHAT COUNTS. Prove the row's statement (the work); the ties are given (YtfnngchanhnaiaaDoorTie.lean); close each card by the builder's one call (the guide's Derived/Test/ToyasCard.lean, 'card_holds'). Laid BY PROGRAM, IN A SANDBOX (cutbox-door.mjs). By AI agents, Wed Nov 11 2026. No macro, syntax, notation, axiom, sorry.
-/
import Derived.Test.YtfnngchanhnaiaaDoorRows
import GoSem.ClaimSeven
namespace Go.Proofs.YtfnngchanhnaiaaDoor
namespace Rows

/-- THE TIED CARD OF 'coinagelaw42.EstimatorLists'. -/
def estimatorListsCard : Claim7 := { stood := { row := estimatorListsRow, standIns := [], harness := (true, "dd9b5814e1fb1c5650d166330fcdd4188f9a9bf186044e4b39f17a37b297e832"), looks := false }, kinds := [], alts := [], laidByText := true, laidKinds := [.data, .data, .data], laidTests := true, laidLooks := .later }
def EstimatorListsCardSaid : Prop := Claim7.holds Tryd.pinned (.plain (OpenSpec.ofChange estimatorListsSpec)) estimatorListsCard

/-- THE TIED CARD OF 'coinagelaw42.EstimatorSpecimens'. -/
def estimatorSpecimensCard : Claim7 := { stood := { row := estimatorSpecimensRow, standIns := [], harness := (true, "dd9b5814e1fb1c5650d166330fcdd4188f9a9bf186044e4b39f17a37b297e832"), looks := false }, kinds := [], alts := [], laidByText := true, laidKinds := [.data, .data, .data], laidTests := true, laidLooks := .later }
def EstimatorSpecimensCardSaid : Prop := Claim7.holds Tryd.pinned (.plain (OpenSpec.ofChange estimatorSpecimensSpec)) estimatorSpecimensCard

/-- THE SECOND FORM's CARD OF 'coinagelaw42.EstimatorLists'. -/
def estimatorListsUptoCard : Claim7 := { stood := { row := estimatorListsUptoRow, standIns := [], harness := (true, "dd9b5814e1fb1c5650d166330fcdd4188f9a9bf186044e4b39f17a37b297e832"), looks := false }, kinds := [], alts := [], laidByText := true, laidKinds := [.data, .data, .data], laidTests := true, laidLooks := .later }
def EstimatorListsUptoCardSaid : Prop := Claim7.holds Tryd.pinned (.plain (OpenSpec.upto estimatorListsSpec)) estimatorListsUptoCard

/-- THE SECOND FORM's CARD OF 'coinagelaw42.EstimatorSpecimens'. -/
def estimatorSpecimensUptoCard : Claim7 := { stood := { row := estimatorSpecimensUptoRow, standIns := [], harness := (true, "dd9b5814e1fb1c5650d166330fcdd4188f9a9bf186044e4b39f17a37b297e832"), looks := false }, kinds := [], alts := [], laidByText := true, laidKinds := [.data, .data, .data], laidTests := true, laidLooks := .later }
def EstimatorSpecimensUptoCardSaid : Prop := Claim7.holds Tryd.pinned (.plain (OpenSpec.upto estimatorSpecimensSpec)) estimatorSpecimensUptoCard
end Rows
end Go.Proofs.YtfnngchanhnaiaaDoor
