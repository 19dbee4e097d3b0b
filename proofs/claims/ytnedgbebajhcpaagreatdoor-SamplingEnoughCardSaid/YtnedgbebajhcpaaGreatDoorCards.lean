/-
  DERIVED. GIVEN WITH THE SEED: THE CARDS: each row of YtnedgbebajhcpaaGreatDoorRows.lean that lists a variable, with what it lists TIED to the program's text (the seventh form; the later family's looks); each row that meets fmt, with fmt's text TOLD by the authors' own Lean function (tested against real Go, not proved from fmt's source: count such statements apart). THE CARD IS WHAT COUNTS. Prove the row's statement (the work); the ties are given (YtnedgbebajhcpaaGreatDoorTie.lean); close each card by the builder's one call (the guide's Derived/Test/ToyasCard.lean, 'card_holds'). Laid BY PROGRAM, IN A SANDBOX (cutbox-door.mjs). By AI agents, Wed Nov 11 2026. No macro, syntax, notation, axiom, sorry.
-/
import Derived.Test.YtnedgbebajhcpaaGreatDoorRows
import GoSem.ClaimSeven
namespace Go.Proofs.YtnedgbebajhcpaaGreatDoor
namespace Rows

/-- THE TIED CARD OF 'coinagelaw44.SamplingExpected'. -/
def samplingExpectedCard : Claim7 := { stood := { row := samplingExpectedRow, standIns := [], harness := (true, "bc9f3822c84323e7912a6b0dff17aa4084a5c744058b47aee4d365131078250a"), looks := false }, kinds := [], alts := [], laidByText := true, laidKinds := [.data, .data, .data], laidTests := true, laidLooks := .later }
def SamplingExpectedCardSaid : Prop := Claim7.holds Tryz.pinned (.plain (OpenSpec.ofChange samplingExpectedSpec)) samplingExpectedCard

/-- THE TIED CARD OF 'coinagelaw44.SamplingSplits'. -/
def samplingSplitsCard : Claim7 := { stood := { row := samplingSplitsRow, standIns := [], harness := (true, "bc9f3822c84323e7912a6b0dff17aa4084a5c744058b47aee4d365131078250a"), looks := false }, kinds := [], alts := [], laidByText := true, laidKinds := [.data, .data, .data], laidTests := true, laidLooks := .later }
def SamplingSplitsCardSaid : Prop := Claim7.holds Tryz.pinned (.plain (OpenSpec.ofChange samplingSplitsSpec)) samplingSplitsCard

/-- THE TIED CARD OF 'coinagelaw44.SamplingEnough'. -/
def samplingEnoughCard : Claim7 := { stood := { row := samplingEnoughRow, standIns := [], harness := (true, "bc9f3822c84323e7912a6b0dff17aa4084a5c744058b47aee4d365131078250a"), looks := false }, kinds := [], alts := [], laidByText := true, laidKinds := [.data, .data, .data], laidTests := true, laidLooks := .later }
def SamplingEnoughCardSaid : Prop := Claim7.holds Tryz.pinned (.plain (OpenSpec.ofChange samplingEnoughSpec)) samplingEnoughCard

/-- THE SECOND FORM's CARD OF 'coinagelaw44.SamplingExpected'. -/
def samplingExpectedUptoCard : Claim7 := { stood := { row := samplingExpectedUptoRow, standIns := [], harness := (true, "bc9f3822c84323e7912a6b0dff17aa4084a5c744058b47aee4d365131078250a"), looks := false }, kinds := [], alts := [], laidByText := true, laidKinds := [.data, .data, .data], laidTests := true, laidLooks := .later }
def SamplingExpectedUptoCardSaid : Prop := Claim7.holds Tryz.pinned (.plain (OpenSpec.upto samplingExpectedSpec)) samplingExpectedUptoCard

/-- THE SECOND FORM's CARD OF 'coinagelaw44.SamplingSplits'. -/
def samplingSplitsUptoCard : Claim7 := { stood := { row := samplingSplitsUptoRow, standIns := [], harness := (true, "bc9f3822c84323e7912a6b0dff17aa4084a5c744058b47aee4d365131078250a"), looks := false }, kinds := [], alts := [], laidByText := true, laidKinds := [.data, .data, .data], laidTests := true, laidLooks := .later }
def SamplingSplitsUptoCardSaid : Prop := Claim7.holds Tryz.pinned (.plain (OpenSpec.upto samplingSplitsSpec)) samplingSplitsUptoCard

/-- THE SECOND FORM's CARD OF 'coinagelaw44.SamplingEnough'. -/
def samplingEnoughUptoCard : Claim7 := { stood := { row := samplingEnoughUptoRow, standIns := [], harness := (true, "bc9f3822c84323e7912a6b0dff17aa4084a5c744058b47aee4d365131078250a"), looks := false }, kinds := [], alts := [], laidByText := true, laidKinds := [.data, .data, .data], laidTests := true, laidLooks := .later }
def SamplingEnoughUptoCardSaid : Prop := Claim7.holds Tryz.pinned (.plain (OpenSpec.upto samplingEnoughSpec)) samplingEnoughUptoCard
end Rows
end Go.Proofs.YtnedgbebajhcpaaGreatDoor
