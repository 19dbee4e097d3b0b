/-
  DERIVED. GIVEN WITH THE SEED: THE CARDS: each row of YtjdpkmngboiemaaDoorRows.lean that lists a variable, with what it lists TIED to the program's text (the seventh form; the later family's looks); each row that meets fmt, with fmt's text TOLD by the authors' own Lean function (tested against real Go, not proved from fmt's source: count such statements apart). THE CARD IS WHAT COUNTS. Prove the row's statement (the work); the ties are given (YtjdpkmngboiemaaDoorTie.lean); close each card by the builder's one call (the guide's Derived/Test/ToyasCard.lean, 'card_holds'). Laid BY PROGRAM, IN A SANDBOX (cutbox-door.mjs). By AI agents, Wed Nov 11 2026. No macro, syntax, notation, axiom, sorry.
-/
import Derived.Test.YtjdpkmngboiemaaDoorRows
import GoSem.ClaimSeven
namespace Go.Proofs.YtjdpkmngboiemaaDoor
namespace Rows

/-- THE TIED CARD OF 'coinagetop.WholeConfidence'. -/
def wholeConfidenceCard : Claim7 := { stood := { row := wholeConfidenceRow, standIns := [], harness := (true, "5555cfca6f3261688d80aae848b5c626706e00681b432f600a6715727a7437aa"), looks := false }, kinds := [], alts := [], laidByText := true, laidKinds := [.data, .data, .data], laidTests := true, laidLooks := .later }
def WholeConfidenceCardSaid : Prop := Claim7.holds Tryd.pinned (.plain (OpenSpec.ofChange wholeConfidenceSpec)) wholeConfidenceCard

/-- THE TIED CARD OF 'coinagelaw43.ConfidenceInterval'. -/
def confidenceIntervalCard : Claim7 := { stood := { row := confidenceIntervalRow, standIns := [], harness := (true, "5555cfca6f3261688d80aae848b5c626706e00681b432f600a6715727a7437aa"), looks := false }, kinds := [], alts := [], laidByText := true, laidKinds := [.data, .data, .data], laidTests := true, laidLooks := .later }
def ConfidenceIntervalCardSaid : Prop := Claim7.holds Tryd.pinned (.plain (OpenSpec.ofChange confidenceIntervalSpec)) confidenceIntervalCard

/-- THE TIED CARD OF 'coinagelaw43.ConfidenceNested'. -/
def confidenceNestedCard : Claim7 := { stood := { row := confidenceNestedRow, standIns := [], harness := (true, "5555cfca6f3261688d80aae848b5c626706e00681b432f600a6715727a7437aa"), looks := false }, kinds := [], alts := [], laidByText := true, laidKinds := [.data, .data, .data], laidTests := true, laidLooks := .later }
def ConfidenceNestedCardSaid : Prop := Claim7.holds Tryd.pinned (.plain (OpenSpec.ofChange confidenceNestedSpec)) confidenceNestedCard

/-- THE TIED CARD OF 'coinagelaw43.ConfidenceRatios'. -/
def confidenceRatiosCard : Claim7 := { stood := { row := confidenceRatiosRow, standIns := [], harness := (true, "5555cfca6f3261688d80aae848b5c626706e00681b432f600a6715727a7437aa"), looks := false }, kinds := [], alts := [], laidByText := true, laidKinds := [.data, .data, .data], laidTests := true, laidLooks := .later }
def ConfidenceRatiosCardSaid : Prop := Claim7.holds Tryd.pinned (.plain (OpenSpec.ofChange confidenceRatiosSpec)) confidenceRatiosCard

/-- THE TIED CARD OF 'coinagelaw43.ConfidenceBest'. -/
def confidenceBestCard : Claim7 := { stood := { row := confidenceBestRow, standIns := [], harness := (true, "5555cfca6f3261688d80aae848b5c626706e00681b432f600a6715727a7437aa"), looks := false }, kinds := [], alts := [], laidByText := true, laidKinds := [.data, .data, .data], laidTests := true, laidLooks := .later }
def ConfidenceBestCardSaid : Prop := Claim7.holds Tryd.pinned (.plain (OpenSpec.ofChange confidenceBestSpec)) confidenceBestCard

/-- THE SECOND FORM's CARD OF 'coinagetop.WholeConfidence'. -/
def wholeConfidenceUptoCard : Claim7 := { stood := { row := wholeConfidenceUptoRow, standIns := [], harness := (true, "5555cfca6f3261688d80aae848b5c626706e00681b432f600a6715727a7437aa"), looks := false }, kinds := [], alts := [], laidByText := true, laidKinds := [.data, .data, .data], laidTests := true, laidLooks := .later }
def WholeConfidenceUptoCardSaid : Prop := Claim7.holds Tryd.pinned (.plain (OpenSpec.upto wholeConfidenceSpec)) wholeConfidenceUptoCard

/-- THE SECOND FORM's CARD OF 'coinagelaw43.ConfidenceInterval'. -/
def confidenceIntervalUptoCard : Claim7 := { stood := { row := confidenceIntervalUptoRow, standIns := [], harness := (true, "5555cfca6f3261688d80aae848b5c626706e00681b432f600a6715727a7437aa"), looks := false }, kinds := [], alts := [], laidByText := true, laidKinds := [.data, .data, .data], laidTests := true, laidLooks := .later }
def ConfidenceIntervalUptoCardSaid : Prop := Claim7.holds Tryd.pinned (.plain (OpenSpec.upto confidenceIntervalSpec)) confidenceIntervalUptoCard

/-- THE SECOND FORM's CARD OF 'coinagelaw43.ConfidenceNested'. -/
def confidenceNestedUptoCard : Claim7 := { stood := { row := confidenceNestedUptoRow, standIns := [], harness := (true, "5555cfca6f3261688d80aae848b5c626706e00681b432f600a6715727a7437aa"), looks := false }, kinds := [], alts := [], laidByText := true, laidKinds := [.data, .data, .data], laidTests := true, laidLooks := .later }
def ConfidenceNestedUptoCardSaid : Prop := Claim7.holds Tryd.pinned (.plain (OpenSpec.upto confidenceNestedSpec)) confidenceNestedUptoCard

/-- THE SECOND FORM's CARD OF 'coinagelaw43.ConfidenceRatios'. -/
def confidenceRatiosUptoCard : Claim7 := { stood := { row := confidenceRatiosUptoRow, standIns := [], harness := (true, "5555cfca6f3261688d80aae848b5c626706e00681b432f600a6715727a7437aa"), looks := false }, kinds := [], alts := [], laidByText := true, laidKinds := [.data, .data, .data], laidTests := true, laidLooks := .later }
def ConfidenceRatiosUptoCardSaid : Prop := Claim7.holds Tryd.pinned (.plain (OpenSpec.upto confidenceRatiosSpec)) confidenceRatiosUptoCard

/-- THE SECOND FORM's CARD OF 'coinagelaw43.ConfidenceBest'. -/
def confidenceBestUptoCard : Claim7 := { stood := { row := confidenceBestUptoRow, standIns := [], harness := (true, "5555cfca6f3261688d80aae848b5c626706e00681b432f600a6715727a7437aa"), looks := false }, kinds := [], alts := [], laidByText := true, laidKinds := [.data, .data, .data], laidTests := true, laidLooks := .later }
def ConfidenceBestUptoCardSaid : Prop := Claim7.holds Tryd.pinned (.plain (OpenSpec.upto confidenceBestSpec)) confidenceBestUptoCard
end Rows
end Go.Proofs.YtjdpkmngboiemaaDoor
