/-
  DERIVED. GIVEN WITH THE SEED: THE CARDS: each row of YtkjcbfaimonaoaaDoorRows.lean that lists a variable, with what it lists TIED to the program's text (the seventh form; the later family's looks); each row that meets fmt, with fmt's text TOLD by the authors' own Lean function (tested against real Go, not proved from fmt's source: count such statements apart). THE CARD IS WHAT COUNTS. Prove the row's statement (the work); the ties are given (YtkjcbfaimonaoaaDoorTie.lean); close each card by the builder's one call (the guide's Derived/Test/ToyasCard.lean, 'card_holds'). Laid BY PROGRAM, IN A SANDBOX (cutbox-door.mjs). By AI agents, Wed Nov 11 2026. No macro, syntax, notation, axiom, sorry.
-/
import Derived.Test.YtkjcbfaimonaoaaDoorRows
import GoSem.ClaimSeven
namespace Go.Proofs.YtkjcbfaimonaoaaDoor
namespace Rows

/-- THE TIED CARD OF 'coinagelaw42.EstimatorCounts'. -/
def estimatorCountsCard : Claim7 := { stood := { row := estimatorCountsRow, standIns := [], harness := (true, "b1fc2b85c6cbb24caea1c4589c721fba4833a7f70090d02fb2830bab6cb8f579"), looks := false }, kinds := [], alts := [], laidByText := true, laidKinds := [.data, .data, .data], laidTests := true, laidLooks := .later }
def EstimatorCountsCardSaid : Prop := Claim7.holds Tryd.pinned (.plain (OpenSpec.ofChange estimatorCountsSpec)) estimatorCountsCard

/-- THE TIED CARD OF 'coinagelaw42.EstimatorShares'. -/
def estimatorSharesCard : Claim7 := { stood := { row := estimatorSharesRow, standIns := [], harness := (true, "b1fc2b85c6cbb24caea1c4589c721fba4833a7f70090d02fb2830bab6cb8f579"), looks := false }, kinds := [], alts := [], laidByText := true, laidKinds := [.data, .data, .data], laidTests := true, laidLooks := .later }
def EstimatorSharesCardSaid : Prop := Claim7.holds Tryd.pinned (.plain (OpenSpec.ofChange estimatorSharesSpec)) estimatorSharesCard

/-- THE TIED CARD OF 'coinagelaw42.EstimatorDoubled'. -/
def estimatorDoubledCard : Claim7 := { stood := { row := estimatorDoubledRow, standIns := [], harness := (true, "b1fc2b85c6cbb24caea1c4589c721fba4833a7f70090d02fb2830bab6cb8f579"), looks := false }, kinds := [], alts := [], laidByText := true, laidKinds := [.data, .data, .data], laidTests := true, laidLooks := .later }
def EstimatorDoubledCardSaid : Prop := Claim7.holds Tryd.pinned (.plain (OpenSpec.ofChange estimatorDoubledSpec)) estimatorDoubledCard

/-- THE TIED CARD OF 'coinagelaw42.EstimatorSums'. -/
def estimatorSumsCard : Claim7 := { stood := { row := estimatorSumsRow, standIns := [], harness := (true, "b1fc2b85c6cbb24caea1c4589c721fba4833a7f70090d02fb2830bab6cb8f579"), looks := false }, kinds := [], alts := [], laidByText := true, laidKinds := [.data, .data, .data], laidTests := true, laidLooks := .later }
def EstimatorSumsCardSaid : Prop := Claim7.holds Tryd.pinned (.plain (OpenSpec.ofChange estimatorSumsSpec)) estimatorSumsCard

/-- THE TIED CARD OF 'coinagelaw42.EstimatorBounds'. -/
def estimatorBoundsCard : Claim7 := { stood := { row := estimatorBoundsRow, standIns := [], harness := (true, "b1fc2b85c6cbb24caea1c4589c721fba4833a7f70090d02fb2830bab6cb8f579"), looks := false }, kinds := [], alts := [], laidByText := true, laidKinds := [.data, .data, .data], laidTests := true, laidLooks := .later }
def EstimatorBoundsCardSaid : Prop := Claim7.holds Tryd.pinned (.plain (OpenSpec.ofChange estimatorBoundsSpec)) estimatorBoundsCard

/-- THE TIED CARD OF 'coinagelaw42.EstimatorOrder'. -/
def estimatorOrderCard : Claim7 := { stood := { row := estimatorOrderRow, standIns := [], harness := (true, "b1fc2b85c6cbb24caea1c4589c721fba4833a7f70090d02fb2830bab6cb8f579"), looks := false }, kinds := [], alts := [], laidByText := true, laidKinds := [.data, .data, .data], laidTests := true, laidLooks := .later }
def EstimatorOrderCardSaid : Prop := Claim7.holds Tryd.pinned (.plain (OpenSpec.ofChange estimatorOrderSpec)) estimatorOrderCard

/-- THE TIED CARD OF 'coinagelaw42.EstimatorLists'. -/
def estimatorListsCard : Claim7 := { stood := { row := estimatorListsRow, standIns := [], harness := (true, "b1fc2b85c6cbb24caea1c4589c721fba4833a7f70090d02fb2830bab6cb8f579"), looks := false }, kinds := [], alts := [], laidByText := true, laidKinds := [.data, .data, .data], laidTests := true, laidLooks := .later }
def EstimatorListsCardSaid : Prop := Claim7.holds Tryd.pinned (.plain (OpenSpec.ofChange estimatorListsSpec)) estimatorListsCard

/-- THE TIED CARD OF 'coinagelaw42.EstimatorSpecimens'. -/
def estimatorSpecimensCard : Claim7 := { stood := { row := estimatorSpecimensRow, standIns := [], harness := (true, "b1fc2b85c6cbb24caea1c4589c721fba4833a7f70090d02fb2830bab6cb8f579"), looks := false }, kinds := [], alts := [], laidByText := true, laidKinds := [.data, .data, .data], laidTests := true, laidLooks := .later }
def EstimatorSpecimensCardSaid : Prop := Claim7.holds Tryd.pinned (.plain (OpenSpec.ofChange estimatorSpecimensSpec)) estimatorSpecimensCard

/-- THE TIED CARD OF 'coinagelaw42.EstimatorLeast'. -/
def estimatorLeastCard : Claim7 := { stood := { row := estimatorLeastRow, standIns := [], harness := (true, "b1fc2b85c6cbb24caea1c4589c721fba4833a7f70090d02fb2830bab6cb8f579"), looks := false }, kinds := [], alts := [], laidByText := true, laidKinds := [.data, .data, .data], laidTests := true, laidLooks := .later }
def EstimatorLeastCardSaid : Prop := Claim7.holds Tryd.pinned (.plain (OpenSpec.ofChange estimatorLeastSpec)) estimatorLeastCard

/-- THE SECOND FORM's CARD OF 'coinagelaw42.EstimatorCounts'. -/
def estimatorCountsUptoCard : Claim7 := { stood := { row := estimatorCountsUptoRow, standIns := [], harness := (true, "b1fc2b85c6cbb24caea1c4589c721fba4833a7f70090d02fb2830bab6cb8f579"), looks := false }, kinds := [], alts := [], laidByText := true, laidKinds := [.data, .data, .data], laidTests := true, laidLooks := .later }
def EstimatorCountsUptoCardSaid : Prop := Claim7.holds Tryd.pinned (.plain (OpenSpec.upto estimatorCountsSpec)) estimatorCountsUptoCard

/-- THE SECOND FORM's CARD OF 'coinagelaw42.EstimatorShares'. -/
def estimatorSharesUptoCard : Claim7 := { stood := { row := estimatorSharesUptoRow, standIns := [], harness := (true, "b1fc2b85c6cbb24caea1c4589c721fba4833a7f70090d02fb2830bab6cb8f579"), looks := false }, kinds := [], alts := [], laidByText := true, laidKinds := [.data, .data, .data], laidTests := true, laidLooks := .later }
def EstimatorSharesUptoCardSaid : Prop := Claim7.holds Tryd.pinned (.plain (OpenSpec.upto estimatorSharesSpec)) estimatorSharesUptoCard

/-- THE SECOND FORM's CARD OF 'coinagelaw42.EstimatorDoubled'. -/
def estimatorDoubledUptoCard : Claim7 := { stood := { row := estimatorDoubledUptoRow, standIns := [], harness := (true, "b1fc2b85c6cbb24caea1c4589c721fba4833a7f70090d02fb2830bab6cb8f579"), looks := false }, kinds := [], alts := [], laidByText := true, laidKinds := [.data, .data, .data], laidTests := true, laidLooks := .later }
def EstimatorDoubledUptoCardSaid : Prop := Claim7.holds Tryd.pinned (.plain (OpenSpec.upto estimatorDoubledSpec)) estimatorDoubledUptoCard

/-- THE SECOND FORM's CARD OF 'coinagelaw42.EstimatorSums'. -/
def estimatorSumsUptoCard : Claim7 := { stood := { row := estimatorSumsUptoRow, standIns := [], harness := (true, "b1fc2b85c6cbb24caea1c4589c721fba4833a7f70090d02fb2830bab6cb8f579"), looks := false }, kinds := [], alts := [], laidByText := true, laidKinds := [.data, .data, .data], laidTests := true, laidLooks := .later }
def EstimatorSumsUptoCardSaid : Prop := Claim7.holds Tryd.pinned (.plain (OpenSpec.upto estimatorSumsSpec)) estimatorSumsUptoCard

/-- THE SECOND FORM's CARD OF 'coinagelaw42.EstimatorBounds'. -/
def estimatorBoundsUptoCard : Claim7 := { stood := { row := estimatorBoundsUptoRow, standIns := [], harness := (true, "b1fc2b85c6cbb24caea1c4589c721fba4833a7f70090d02fb2830bab6cb8f579"), looks := false }, kinds := [], alts := [], laidByText := true, laidKinds := [.data, .data, .data], laidTests := true, laidLooks := .later }
def EstimatorBoundsUptoCardSaid : Prop := Claim7.holds Tryd.pinned (.plain (OpenSpec.upto estimatorBoundsSpec)) estimatorBoundsUptoCard

/-- THE SECOND FORM's CARD OF 'coinagelaw42.EstimatorOrder'. -/
def estimatorOrderUptoCard : Claim7 := { stood := { row := estimatorOrderUptoRow, standIns := [], harness := (true, "b1fc2b85c6cbb24caea1c4589c721fba4833a7f70090d02fb2830bab6cb8f579"), looks := false }, kinds := [], alts := [], laidByText := true, laidKinds := [.data, .data, .data], laidTests := true, laidLooks := .later }
def EstimatorOrderUptoCardSaid : Prop := Claim7.holds Tryd.pinned (.plain (OpenSpec.upto estimatorOrderSpec)) estimatorOrderUptoCard

/-- THE SECOND FORM's CARD OF 'coinagelaw42.EstimatorLists'. -/
def estimatorListsUptoCard : Claim7 := { stood := { row := estimatorListsUptoRow, standIns := [], harness := (true, "b1fc2b85c6cbb24caea1c4589c721fba4833a7f70090d02fb2830bab6cb8f579"), looks := false }, kinds := [], alts := [], laidByText := true, laidKinds := [.data, .data, .data], laidTests := true, laidLooks := .later }
def EstimatorListsUptoCardSaid : Prop := Claim7.holds Tryd.pinned (.plain (OpenSpec.upto estimatorListsSpec)) estimatorListsUptoCard

/-- THE SECOND FORM's CARD OF 'coinagelaw42.EstimatorSpecimens'. -/
def estimatorSpecimensUptoCard : Claim7 := { stood := { row := estimatorSpecimensUptoRow, standIns := [], harness := (true, "b1fc2b85c6cbb24caea1c4589c721fba4833a7f70090d02fb2830bab6cb8f579"), looks := false }, kinds := [], alts := [], laidByText := true, laidKinds := [.data, .data, .data], laidTests := true, laidLooks := .later }
def EstimatorSpecimensUptoCardSaid : Prop := Claim7.holds Tryd.pinned (.plain (OpenSpec.upto estimatorSpecimensSpec)) estimatorSpecimensUptoCard

/-- THE SECOND FORM's CARD OF 'coinagelaw42.EstimatorLeast'. -/
def estimatorLeastUptoCard : Claim7 := { stood := { row := estimatorLeastUptoRow, standIns := [], harness := (true, "b1fc2b85c6cbb24caea1c4589c721fba4833a7f70090d02fb2830bab6cb8f579"), looks := false }, kinds := [], alts := [], laidByText := true, laidKinds := [.data, .data, .data], laidTests := true, laidLooks := .later }
def EstimatorLeastUptoCardSaid : Prop := Claim7.holds Tryd.pinned (.plain (OpenSpec.upto estimatorLeastSpec)) estimatorLeastUptoCard
end Rows
end Go.Proofs.YtkjcbfaimonaoaaDoor
