/-
  DERIVED. GIVEN WITH THE SEED: THE CARDS: each row of YtglphodaoafdmaaDoorRows.lean that lists a variable, with what it lists TIED to the program's text (the seventh form; the later family's looks); each row that meets fmt, with fmt's text TOLD by the authors' own Lean function (tested against real Go, not proved from fmt's source: count such statements apart). THE CARD IS WHAT COUNTS. Prove the row's statement (the work); the ties are given (YtglphodaoafdmaaDoorTie.lean); close each card by the builder's one call (the guide's Derived/Test/ToyasCard.lean, 'card_holds'). Laid BY PROGRAM, IN A SANDBOX (cutbox-door.mjs). By AI agents, Wed Nov 11 2026. No macro, syntax, notation, axiom, sorry.
-/
import Derived.Test.YtglphodaoafdmaaDoorRows
import GoSem.ClaimSeven
namespace Go.Proofs.YtglphodaoafdmaaDoor
namespace Rows

/-- THE TIED CARD OF 'coinagetop.WholeOccupancy'. -/
def wholeOccupancyCard : Claim7 := { stood := { row := wholeOccupancyRow, standIns := [], harness := (true, "0682cee6c73d44d2a97cfdc2d43bbb57dc212498b2a3340f0f26f5f19be45039"), looks := false }, kinds := [], alts := [], laidByText := true, laidKinds := [.data, .data, .data], laidTests := true, laidLooks := .later }
def WholeOccupancyCardSaid : Prop := Claim7.holds Tryd.pinned (.plain (OpenSpec.ofChange wholeOccupancySpec)) wholeOccupancyCard

/-- THE TIED CARD OF 'coinagelaw41.OccupancyChances'. -/
def occupancyChancesCard : Claim7 := { stood := { row := occupancyChancesRow, standIns := [], harness := (true, "0682cee6c73d44d2a97cfdc2d43bbb57dc212498b2a3340f0f26f5f19be45039"), looks := false }, kinds := [], alts := [], laidByText := true, laidKinds := [.data, .data, .data], laidTests := true, laidLooks := .later }
def OccupancyChancesCardSaid : Prop := Claim7.holds Tryd.pinned (.plain (OpenSpec.ofChange occupancyChancesSpec)) occupancyChancesCard

/-- THE TIED CARD OF 'coinagelaw41.OccupancySteps'. -/
def occupancyStepsCard : Claim7 := { stood := { row := occupancyStepsRow, standIns := [], harness := (true, "0682cee6c73d44d2a97cfdc2d43bbb57dc212498b2a3340f0f26f5f19be45039"), looks := false }, kinds := [], alts := [], laidByText := true, laidKinds := [.data, .data, .data], laidTests := true, laidLooks := .later }
def OccupancyStepsCardSaid : Prop := Claim7.holds Tryd.pinned (.plain (OpenSpec.ofChange occupancyStepsSpec)) occupancyStepsCard

/-- THE TIED CARD OF 'coinagelaw41.OccupancyCounts'. -/
def occupancyCountsCard : Claim7 := { stood := { row := occupancyCountsRow, standIns := [], harness := (true, "0682cee6c73d44d2a97cfdc2d43bbb57dc212498b2a3340f0f26f5f19be45039"), looks := false }, kinds := [], alts := [], laidByText := true, laidKinds := [.data, .data, .data], laidTests := true, laidLooks := .later }
def OccupancyCountsCardSaid : Prop := Claim7.holds Tryd.pinned (.plain (OpenSpec.ofChange occupancyCountsSpec)) occupancyCountsCard

/-- THE TIED CARD OF 'coinagelaw41.OccupancySingles'. -/
def occupancySinglesCard : Claim7 := { stood := { row := occupancySinglesRow, standIns := [], harness := (true, "0682cee6c73d44d2a97cfdc2d43bbb57dc212498b2a3340f0f26f5f19be45039"), looks := false }, kinds := [], alts := [], laidByText := true, laidKinds := [.data, .data, .data], laidTests := true, laidLooks := .later }
def OccupancySinglesCardSaid : Prop := Claim7.holds Tryd.pinned (.plain (OpenSpec.ofChange occupancySinglesSpec)) occupancySinglesCard

/-- THE TIED CARD OF 'coinagelaw41.OccupancyTails'. -/
def occupancyTailsCard : Claim7 := { stood := { row := occupancyTailsRow, standIns := [], harness := (true, "0682cee6c73d44d2a97cfdc2d43bbb57dc212498b2a3340f0f26f5f19be45039"), looks := false }, kinds := [], alts := [], laidByText := true, laidKinds := [.data, .data, .data], laidTests := true, laidLooks := .later }
def OccupancyTailsCardSaid : Prop := Claim7.holds Tryd.pinned (.plain (OpenSpec.ofChange occupancyTailsSpec)) occupancyTailsCard

/-- THE TIED CARD OF 'coinagelaw41.OccupancySums'. -/
def occupancySumsCard : Claim7 := { stood := { row := occupancySumsRow, standIns := [], harness := (true, "0682cee6c73d44d2a97cfdc2d43bbb57dc212498b2a3340f0f26f5f19be45039"), looks := false }, kinds := [], alts := [], laidByText := true, laidKinds := [.data, .data, .data], laidTests := true, laidLooks := .later }
def OccupancySumsCardSaid : Prop := Claim7.holds Tryd.pinned (.plain (OpenSpec.ofChange occupancySumsSpec)) occupancySumsCard

/-- THE TIED CARD OF 'coinagelaw41.OccupancyEqual'. -/
def occupancyEqualCard : Claim7 := { stood := { row := occupancyEqualRow, standIns := [], harness := (true, "0682cee6c73d44d2a97cfdc2d43bbb57dc212498b2a3340f0f26f5f19be45039"), looks := false }, kinds := [], alts := [], laidByText := true, laidKinds := [.data, .data, .data], laidTests := true, laidLooks := .later }
def OccupancyEqualCardSaid : Prop := Claim7.holds Tryd.pinned (.plain (OpenSpec.ofChange occupancyEqualSpec)) occupancyEqualCard

/-- THE TIED CARD OF 'coinagelaw41.OccupancySplits'. -/
def occupancySplitsCard : Claim7 := { stood := { row := occupancySplitsRow, standIns := [], harness := (true, "0682cee6c73d44d2a97cfdc2d43bbb57dc212498b2a3340f0f26f5f19be45039"), looks := false }, kinds := [], alts := [], laidByText := true, laidKinds := [.data, .data, .data], laidTests := true, laidLooks := .later }
def OccupancySplitsCardSaid : Prop := Claim7.holds Tryd.pinned (.plain (OpenSpec.ofChange occupancySplitsSpec)) occupancySplitsCard

/-- THE SECOND FORM's CARD OF 'coinagetop.WholeOccupancy'. -/
def wholeOccupancyUptoCard : Claim7 := { stood := { row := wholeOccupancyUptoRow, standIns := [], harness := (true, "0682cee6c73d44d2a97cfdc2d43bbb57dc212498b2a3340f0f26f5f19be45039"), looks := false }, kinds := [], alts := [], laidByText := true, laidKinds := [.data, .data, .data], laidTests := true, laidLooks := .later }
def WholeOccupancyUptoCardSaid : Prop := Claim7.holds Tryd.pinned (.plain (OpenSpec.upto wholeOccupancySpec)) wholeOccupancyUptoCard

/-- THE SECOND FORM's CARD OF 'coinagelaw41.OccupancyChances'. -/
def occupancyChancesUptoCard : Claim7 := { stood := { row := occupancyChancesUptoRow, standIns := [], harness := (true, "0682cee6c73d44d2a97cfdc2d43bbb57dc212498b2a3340f0f26f5f19be45039"), looks := false }, kinds := [], alts := [], laidByText := true, laidKinds := [.data, .data, .data], laidTests := true, laidLooks := .later }
def OccupancyChancesUptoCardSaid : Prop := Claim7.holds Tryd.pinned (.plain (OpenSpec.upto occupancyChancesSpec)) occupancyChancesUptoCard

/-- THE SECOND FORM's CARD OF 'coinagelaw41.OccupancySteps'. -/
def occupancyStepsUptoCard : Claim7 := { stood := { row := occupancyStepsUptoRow, standIns := [], harness := (true, "0682cee6c73d44d2a97cfdc2d43bbb57dc212498b2a3340f0f26f5f19be45039"), looks := false }, kinds := [], alts := [], laidByText := true, laidKinds := [.data, .data, .data], laidTests := true, laidLooks := .later }
def OccupancyStepsUptoCardSaid : Prop := Claim7.holds Tryd.pinned (.plain (OpenSpec.upto occupancyStepsSpec)) occupancyStepsUptoCard

/-- THE SECOND FORM's CARD OF 'coinagelaw41.OccupancyCounts'. -/
def occupancyCountsUptoCard : Claim7 := { stood := { row := occupancyCountsUptoRow, standIns := [], harness := (true, "0682cee6c73d44d2a97cfdc2d43bbb57dc212498b2a3340f0f26f5f19be45039"), looks := false }, kinds := [], alts := [], laidByText := true, laidKinds := [.data, .data, .data], laidTests := true, laidLooks := .later }
def OccupancyCountsUptoCardSaid : Prop := Claim7.holds Tryd.pinned (.plain (OpenSpec.upto occupancyCountsSpec)) occupancyCountsUptoCard

/-- THE SECOND FORM's CARD OF 'coinagelaw41.OccupancySingles'. -/
def occupancySinglesUptoCard : Claim7 := { stood := { row := occupancySinglesUptoRow, standIns := [], harness := (true, "0682cee6c73d44d2a97cfdc2d43bbb57dc212498b2a3340f0f26f5f19be45039"), looks := false }, kinds := [], alts := [], laidByText := true, laidKinds := [.data, .data, .data], laidTests := true, laidLooks := .later }
def OccupancySinglesUptoCardSaid : Prop := Claim7.holds Tryd.pinned (.plain (OpenSpec.upto occupancySinglesSpec)) occupancySinglesUptoCard

/-- THE SECOND FORM's CARD OF 'coinagelaw41.OccupancyTails'. -/
def occupancyTailsUptoCard : Claim7 := { stood := { row := occupancyTailsUptoRow, standIns := [], harness := (true, "0682cee6c73d44d2a97cfdc2d43bbb57dc212498b2a3340f0f26f5f19be45039"), looks := false }, kinds := [], alts := [], laidByText := true, laidKinds := [.data, .data, .data], laidTests := true, laidLooks := .later }
def OccupancyTailsUptoCardSaid : Prop := Claim7.holds Tryd.pinned (.plain (OpenSpec.upto occupancyTailsSpec)) occupancyTailsUptoCard

/-- THE SECOND FORM's CARD OF 'coinagelaw41.OccupancySums'. -/
def occupancySumsUptoCard : Claim7 := { stood := { row := occupancySumsUptoRow, standIns := [], harness := (true, "0682cee6c73d44d2a97cfdc2d43bbb57dc212498b2a3340f0f26f5f19be45039"), looks := false }, kinds := [], alts := [], laidByText := true, laidKinds := [.data, .data, .data], laidTests := true, laidLooks := .later }
def OccupancySumsUptoCardSaid : Prop := Claim7.holds Tryd.pinned (.plain (OpenSpec.upto occupancySumsSpec)) occupancySumsUptoCard

/-- THE SECOND FORM's CARD OF 'coinagelaw41.OccupancyEqual'. -/
def occupancyEqualUptoCard : Claim7 := { stood := { row := occupancyEqualUptoRow, standIns := [], harness := (true, "0682cee6c73d44d2a97cfdc2d43bbb57dc212498b2a3340f0f26f5f19be45039"), looks := false }, kinds := [], alts := [], laidByText := true, laidKinds := [.data, .data, .data], laidTests := true, laidLooks := .later }
def OccupancyEqualUptoCardSaid : Prop := Claim7.holds Tryd.pinned (.plain (OpenSpec.upto occupancyEqualSpec)) occupancyEqualUptoCard

/-- THE SECOND FORM's CARD OF 'coinagelaw41.OccupancySplits'. -/
def occupancySplitsUptoCard : Claim7 := { stood := { row := occupancySplitsUptoRow, standIns := [], harness := (true, "0682cee6c73d44d2a97cfdc2d43bbb57dc212498b2a3340f0f26f5f19be45039"), looks := false }, kinds := [], alts := [], laidByText := true, laidKinds := [.data, .data, .data], laidTests := true, laidLooks := .later }
def OccupancySplitsUptoCardSaid : Prop := Claim7.holds Tryd.pinned (.plain (OpenSpec.upto occupancySplitsSpec)) occupancySplitsUptoCard
end Rows
end Go.Proofs.YtglphodaoafdmaaDoor
