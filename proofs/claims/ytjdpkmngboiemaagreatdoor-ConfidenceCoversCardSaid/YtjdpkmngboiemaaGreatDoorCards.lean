/-
  DERIVED. GIVEN WITH THE SEED: THE CARDS: each row of YtjdpkmngboiemaaGreatDoorRows.lean that lists a variable, with what it lists TIED to the program's text (the seventh form; the later family's looks); each row that meets fmt, with fmt's text TOLD by the authors' own Lean function (tested against real Go, not proved from fmt's source: count such statements apart). THE CARD IS WHAT COUNTS. Prove the row's statement (the work); the ties are given (YtjdpkmngboiemaaGreatDoorTie.lean); close each card by the builder's one call (the guide's Derived/Test/ToyasCard.lean, 'card_holds'). Laid BY PROGRAM, IN A SANDBOX (cutbox-door.mjs). By AI agents, Wed Nov 11 2026. No macro, syntax, notation, axiom, sorry.
-/
import Derived.Test.YtjdpkmngboiemaaGreatDoorRows
import GoSem.ClaimSeven
namespace Go.Proofs.YtjdpkmngboiemaaGreatDoor
namespace Rows

/-- THE TIED CARD OF 'coinagelaw43.ConfidenceSets'. -/
def confidenceSetsCard : Claim7 := { stood := { row := confidenceSetsRow, standIns := [], harness := (true, "a9658898a06e82b9a1df22f0125c696cc0bc61ddbffe735910336bc690976f6f"), looks := false }, kinds := [], alts := [], laidByText := true, laidKinds := [.data, .data, .data], laidTests := true, laidLooks := .later }
def ConfidenceSetsCardSaid : Prop := Claim7.holds Tryz.pinned (.plain (OpenSpec.ofChange confidenceSetsSpec)) confidenceSetsCard

/-- THE TIED CARD OF 'coinagelaw43.ConfidenceAccepts'. -/
def confidenceAcceptsCard : Claim7 := { stood := { row := confidenceAcceptsRow, standIns := [], harness := (true, "a9658898a06e82b9a1df22f0125c696cc0bc61ddbffe735910336bc690976f6f"), looks := false }, kinds := [], alts := [], laidByText := true, laidKinds := [.data, .data, .data], laidTests := true, laidLooks := .later }
def ConfidenceAcceptsCardSaid : Prop := Claim7.holds Tryz.pinned (.plain (OpenSpec.ofChange confidenceAcceptsSpec)) confidenceAcceptsCard

/-- THE TIED CARD OF 'coinagelaw43.ConfidenceLikeliest'. -/
def confidenceLikeliestCard : Claim7 := { stood := { row := confidenceLikeliestRow, standIns := [], harness := (true, "a9658898a06e82b9a1df22f0125c696cc0bc61ddbffe735910336bc690976f6f"), looks := false }, kinds := [], alts := [], laidByText := true, laidKinds := [.data, .data, .data], laidTests := true, laidLooks := .later }
def ConfidenceLikeliestCardSaid : Prop := Claim7.holds Tryz.pinned (.plain (OpenSpec.ofChange confidenceLikeliestSpec)) confidenceLikeliestCard

/-- THE TIED CARD OF 'coinagelaw43.ConfidenceCovers'. -/
def confidenceCoversCard : Claim7 := { stood := { row := confidenceCoversRow, standIns := [], harness := (true, "a9658898a06e82b9a1df22f0125c696cc0bc61ddbffe735910336bc690976f6f"), looks := false }, kinds := [], alts := [], laidByText := true, laidKinds := [.data, .data, .data], laidTests := true, laidLooks := .later }
def ConfidenceCoversCardSaid : Prop := Claim7.holds Tryz.pinned (.plain (OpenSpec.ofChange confidenceCoversSpec)) confidenceCoversCard

/-- THE SECOND FORM's CARD OF 'coinagelaw43.ConfidenceSets'. -/
def confidenceSetsUptoCard : Claim7 := { stood := { row := confidenceSetsUptoRow, standIns := [], harness := (true, "a9658898a06e82b9a1df22f0125c696cc0bc61ddbffe735910336bc690976f6f"), looks := false }, kinds := [], alts := [], laidByText := true, laidKinds := [.data, .data, .data], laidTests := true, laidLooks := .later }
def ConfidenceSetsUptoCardSaid : Prop := Claim7.holds Tryz.pinned (.plain (OpenSpec.upto confidenceSetsSpec)) confidenceSetsUptoCard

/-- THE SECOND FORM's CARD OF 'coinagelaw43.ConfidenceAccepts'. -/
def confidenceAcceptsUptoCard : Claim7 := { stood := { row := confidenceAcceptsUptoRow, standIns := [], harness := (true, "a9658898a06e82b9a1df22f0125c696cc0bc61ddbffe735910336bc690976f6f"), looks := false }, kinds := [], alts := [], laidByText := true, laidKinds := [.data, .data, .data], laidTests := true, laidLooks := .later }
def ConfidenceAcceptsUptoCardSaid : Prop := Claim7.holds Tryz.pinned (.plain (OpenSpec.upto confidenceAcceptsSpec)) confidenceAcceptsUptoCard

/-- THE SECOND FORM's CARD OF 'coinagelaw43.ConfidenceLikeliest'. -/
def confidenceLikeliestUptoCard : Claim7 := { stood := { row := confidenceLikeliestUptoRow, standIns := [], harness := (true, "a9658898a06e82b9a1df22f0125c696cc0bc61ddbffe735910336bc690976f6f"), looks := false }, kinds := [], alts := [], laidByText := true, laidKinds := [.data, .data, .data], laidTests := true, laidLooks := .later }
def ConfidenceLikeliestUptoCardSaid : Prop := Claim7.holds Tryz.pinned (.plain (OpenSpec.upto confidenceLikeliestSpec)) confidenceLikeliestUptoCard

/-- THE SECOND FORM's CARD OF 'coinagelaw43.ConfidenceCovers'. -/
def confidenceCoversUptoCard : Claim7 := { stood := { row := confidenceCoversUptoRow, standIns := [], harness := (true, "a9658898a06e82b9a1df22f0125c696cc0bc61ddbffe735910336bc690976f6f"), looks := false }, kinds := [], alts := [], laidByText := true, laidKinds := [.data, .data, .data], laidTests := true, laidLooks := .later }
def ConfidenceCoversUptoCardSaid : Prop := Claim7.holds Tryz.pinned (.plain (OpenSpec.upto confidenceCoversSpec)) confidenceCoversUptoCard
end Rows
end Go.Proofs.YtjdpkmngboiemaaGreatDoor
