/-
  DERIVED. GIVEN WITH THE SEED: THE CARDS: each row of YtbplkienkhinmaaGreatDoorRows.lean that lists a variable, with what it lists TIED to the program's text (the seventh form; the later family's looks); each row that meets fmt, with fmt's text TOLD by the authors' own Lean function (tested against real Go, not proved from fmt's source: count such statements apart). THE CARD IS WHAT COUNTS. Prove the row's statement (the work); the ties are given (YtbplkienkhinmaaGreatDoorTie.lean); close each card by the builder's one call (the guide's Derived/Test/ToyasCard.lean, 'card_holds'). Laid BY PROGRAM, IN A SANDBOX (cutbox-door.mjs). By AI agents, Wed Nov 11 2026. No macro, syntax, notation, axiom, sorry.
-/
import Derived.Test.YtbplkienkhinmaaGreatDoorRows
import GoSem.ClaimSeven
namespace Go.Proofs.YtbplkienkhinmaaGreatDoor
namespace Rows

/-- THE TIED CARD OF 'coinagetop.WholeUnits'. -/
def wholeUnitsCard : Claim7 := { stood := { row := wholeUnitsRow, standIns := [], harness := (true, "6b2757ad813e4f3a4a333b103f7e3f32e7ef11d4571aecef8ebe992600de6370"), looks := false }, kinds := [], alts := [], laidByText := true, laidKinds := [.data, .data, .data], laidTests := true, laidLooks := .later }
def WholeUnitsCardSaid : Prop := Claim7.holds Tryz.pinned (.plain (OpenSpec.ofChange wholeUnitsSpec)) wholeUnitsCard

/-- THE SECOND FORM's CARD OF 'coinagetop.WholeUnits'. -/
def wholeUnitsUptoCard : Claim7 := { stood := { row := wholeUnitsUptoRow, standIns := [], harness := (true, "6b2757ad813e4f3a4a333b103f7e3f32e7ef11d4571aecef8ebe992600de6370"), looks := false }, kinds := [], alts := [], laidByText := true, laidKinds := [.data, .data, .data], laidTests := true, laidLooks := .later }
def WholeUnitsUptoCardSaid : Prop := Claim7.holds Tryz.pinned (.plain (OpenSpec.upto wholeUnitsSpec)) wholeUnitsUptoCard
end Rows
end Go.Proofs.YtbplkienkhinmaaGreatDoor
