/-
  DERIVED. GIVEN WITH THE SEED: THE CARDS: each row of YthikgbgmnlmmlaaDoorRows.lean that lists a variable, with what it lists TIED to the program's text (the seventh form; the later family's looks); each row that meets fmt, with fmt's text TOLD by the authors' own Lean function (tested against real Go, not proved from fmt's source: count such statements apart). THE CARD IS WHAT COUNTS. Prove the row's statement (the work); the ties are given (YthikgbgmnlmmlaaDoorTie.lean); close each card by the builder's one call (the guide's Derived/Test/ToyasCard.lean, 'card_holds'). Laid BY PROGRAM, IN A SANDBOX (cutbox-door.mjs). By AI agents, Wed Nov 11 2026. No macro, syntax, notation, axiom, sorry.
-/
import Derived.Test.YthikgbgmnlmmlaaDoorRows
import GoSem.ClaimSeven
namespace Go.Proofs.YthikgbgmnlmmlaaDoor
namespace Rows

/-- THE TIED CARD OF 'coinagelaw03.CountingChoices'. -/
def countingChoicesCard : Claim7 := { stood := { row := countingChoicesRow, standIns := [], harness := (true, "2917aec40b82a8801054beae4220d54ab8b479d3448c1e50be920f7653fdf4d4"), looks := false }, kinds := [], alts := [], laidByText := true, laidKinds := [.data, .data, .data], laidTests := true, laidLooks := .later }
def CountingChoicesCardSaid : Prop := Claim7.holds Tryd.pinned (.plain (OpenSpec.ofChange countingChoicesSpec)) countingChoicesCard

/-- THE TIED CARD OF 'coinagelaw03.CountingRanks'. -/
def countingRanksCard : Claim7 := { stood := { row := countingRanksRow, standIns := [], harness := (true, "2917aec40b82a8801054beae4220d54ab8b479d3448c1e50be920f7653fdf4d4"), looks := false }, kinds := [], alts := [], laidByText := true, laidKinds := [.data, .data, .data], laidTests := true, laidLooks := .later }
def CountingRanksCardSaid : Prop := Claim7.holds Tryd.pinned (.plain (OpenSpec.ofChange countingRanksSpec)) countingRanksCard

/-- THE TIED CARD OF 'coinagelaw03.CountingSteps'. -/
def countingStepsCard : Claim7 := { stood := { row := countingStepsRow, standIns := [], harness := (true, "2917aec40b82a8801054beae4220d54ab8b479d3448c1e50be920f7653fdf4d4"), looks := false }, kinds := [], alts := [], laidByText := true, laidKinds := [.data, .data, .data], laidTests := true, laidLooks := .later }
def CountingStepsCardSaid : Prop := Claim7.holds Tryd.pinned (.plain (OpenSpec.ofChange countingStepsSpec)) countingStepsCard

/-- THE TIED CARD OF 'coinagelaw03.CountingProducts'. -/
def countingProductsCard : Claim7 := { stood := { row := countingProductsRow, standIns := [], harness := (true, "2917aec40b82a8801054beae4220d54ab8b479d3448c1e50be920f7653fdf4d4"), looks := false }, kinds := [], alts := [], laidByText := true, laidKinds := [.data, .data, .data], laidTests := true, laidLooks := .later }
def CountingProductsCardSaid : Prop := Claim7.holds Tryd.pinned (.plain (OpenSpec.ofChange countingProductsSpec)) countingProductsCard

/-- THE TIED CARD OF 'coinagelaw03.CountingPascal'. -/
def countingPascalCard : Claim7 := { stood := { row := countingPascalRow, standIns := [], harness := (true, "2917aec40b82a8801054beae4220d54ab8b479d3448c1e50be920f7653fdf4d4"), looks := false }, kinds := [], alts := [], laidByText := true, laidKinds := [.data, .data, .data], laidTests := true, laidLooks := .later }
def CountingPascalCardSaid : Prop := Claim7.holds Tryd.pinned (.plain (OpenSpec.ofChange countingPascalSpec)) countingPascalCard

/-- THE TIED CARD OF 'coinagelaw03.CountingParts'. -/
def countingPartsCard : Claim7 := { stood := { row := countingPartsRow, standIns := [], harness := (true, "2917aec40b82a8801054beae4220d54ab8b479d3448c1e50be920f7653fdf4d4"), looks := false }, kinds := [], alts := [], laidByText := true, laidKinds := [.data, .data, .data], laidTests := true, laidLooks := .later }
def CountingPartsCardSaid : Prop := Claim7.holds Tryd.pinned (.plain (OpenSpec.ofChange countingPartsSpec)) countingPartsCard

/-- THE TIED CARD OF 'coinagelaw03.CountingUnranks'. -/
def countingUnranksCard : Claim7 := { stood := { row := countingUnranksRow, standIns := [], harness := (true, "2917aec40b82a8801054beae4220d54ab8b479d3448c1e50be920f7653fdf4d4"), looks := false }, kinds := [], alts := [], laidByText := true, laidKinds := [.data, .data, .data], laidTests := true, laidLooks := .later }
def CountingUnranksCardSaid : Prop := Claim7.holds Tryd.pinned (.plain (OpenSpec.ofChange countingUnranksSpec)) countingUnranksCard

/-- THE TIED CARD OF 'coinagelaw03.CountingInverse'. -/
def countingInverseCard : Claim7 := { stood := { row := countingInverseRow, standIns := [], harness := (true, "2917aec40b82a8801054beae4220d54ab8b479d3448c1e50be920f7653fdf4d4"), looks := false }, kinds := [], alts := [], laidByText := true, laidKinds := [.data, .data, .data], laidTests := true, laidLooks := .later }
def CountingInverseCardSaid : Prop := Claim7.holds Tryd.pinned (.plain (OpenSpec.ofChange countingInverseSpec)) countingInverseCard

/-- THE TIED CARD OF 'coinagelaw03.CountingPowers'. -/
def countingPowersCard : Claim7 := { stood := { row := countingPowersRow, standIns := [], harness := (true, "2917aec40b82a8801054beae4220d54ab8b479d3448c1e50be920f7653fdf4d4"), looks := false }, kinds := [], alts := [], laidByText := true, laidKinds := [.data, .data, .data], laidTests := true, laidLooks := .later }
def CountingPowersCardSaid : Prop := Claim7.holds Tryd.pinned (.plain (OpenSpec.ofChange countingPowersSpec)) countingPowersCard

/-- THE SECOND FORM's CARD OF 'coinagelaw03.CountingChoices'. -/
def countingChoicesUptoCard : Claim7 := { stood := { row := countingChoicesUptoRow, standIns := [], harness := (true, "2917aec40b82a8801054beae4220d54ab8b479d3448c1e50be920f7653fdf4d4"), looks := false }, kinds := [], alts := [], laidByText := true, laidKinds := [.data, .data, .data], laidTests := true, laidLooks := .later }
def CountingChoicesUptoCardSaid : Prop := Claim7.holds Tryd.pinned (.plain (OpenSpec.upto countingChoicesSpec)) countingChoicesUptoCard

/-- THE SECOND FORM's CARD OF 'coinagelaw03.CountingRanks'. -/
def countingRanksUptoCard : Claim7 := { stood := { row := countingRanksUptoRow, standIns := [], harness := (true, "2917aec40b82a8801054beae4220d54ab8b479d3448c1e50be920f7653fdf4d4"), looks := false }, kinds := [], alts := [], laidByText := true, laidKinds := [.data, .data, .data], laidTests := true, laidLooks := .later }
def CountingRanksUptoCardSaid : Prop := Claim7.holds Tryd.pinned (.plain (OpenSpec.upto countingRanksSpec)) countingRanksUptoCard

/-- THE SECOND FORM's CARD OF 'coinagelaw03.CountingSteps'. -/
def countingStepsUptoCard : Claim7 := { stood := { row := countingStepsUptoRow, standIns := [], harness := (true, "2917aec40b82a8801054beae4220d54ab8b479d3448c1e50be920f7653fdf4d4"), looks := false }, kinds := [], alts := [], laidByText := true, laidKinds := [.data, .data, .data], laidTests := true, laidLooks := .later }
def CountingStepsUptoCardSaid : Prop := Claim7.holds Tryd.pinned (.plain (OpenSpec.upto countingStepsSpec)) countingStepsUptoCard

/-- THE SECOND FORM's CARD OF 'coinagelaw03.CountingProducts'. -/
def countingProductsUptoCard : Claim7 := { stood := { row := countingProductsUptoRow, standIns := [], harness := (true, "2917aec40b82a8801054beae4220d54ab8b479d3448c1e50be920f7653fdf4d4"), looks := false }, kinds := [], alts := [], laidByText := true, laidKinds := [.data, .data, .data], laidTests := true, laidLooks := .later }
def CountingProductsUptoCardSaid : Prop := Claim7.holds Tryd.pinned (.plain (OpenSpec.upto countingProductsSpec)) countingProductsUptoCard

/-- THE SECOND FORM's CARD OF 'coinagelaw03.CountingPascal'. -/
def countingPascalUptoCard : Claim7 := { stood := { row := countingPascalUptoRow, standIns := [], harness := (true, "2917aec40b82a8801054beae4220d54ab8b479d3448c1e50be920f7653fdf4d4"), looks := false }, kinds := [], alts := [], laidByText := true, laidKinds := [.data, .data, .data], laidTests := true, laidLooks := .later }
def CountingPascalUptoCardSaid : Prop := Claim7.holds Tryd.pinned (.plain (OpenSpec.upto countingPascalSpec)) countingPascalUptoCard

/-- THE SECOND FORM's CARD OF 'coinagelaw03.CountingParts'. -/
def countingPartsUptoCard : Claim7 := { stood := { row := countingPartsUptoRow, standIns := [], harness := (true, "2917aec40b82a8801054beae4220d54ab8b479d3448c1e50be920f7653fdf4d4"), looks := false }, kinds := [], alts := [], laidByText := true, laidKinds := [.data, .data, .data], laidTests := true, laidLooks := .later }
def CountingPartsUptoCardSaid : Prop := Claim7.holds Tryd.pinned (.plain (OpenSpec.upto countingPartsSpec)) countingPartsUptoCard

/-- THE SECOND FORM's CARD OF 'coinagelaw03.CountingUnranks'. -/
def countingUnranksUptoCard : Claim7 := { stood := { row := countingUnranksUptoRow, standIns := [], harness := (true, "2917aec40b82a8801054beae4220d54ab8b479d3448c1e50be920f7653fdf4d4"), looks := false }, kinds := [], alts := [], laidByText := true, laidKinds := [.data, .data, .data], laidTests := true, laidLooks := .later }
def CountingUnranksUptoCardSaid : Prop := Claim7.holds Tryd.pinned (.plain (OpenSpec.upto countingUnranksSpec)) countingUnranksUptoCard

/-- THE SECOND FORM's CARD OF 'coinagelaw03.CountingInverse'. -/
def countingInverseUptoCard : Claim7 := { stood := { row := countingInverseUptoRow, standIns := [], harness := (true, "2917aec40b82a8801054beae4220d54ab8b479d3448c1e50be920f7653fdf4d4"), looks := false }, kinds := [], alts := [], laidByText := true, laidKinds := [.data, .data, .data], laidTests := true, laidLooks := .later }
def CountingInverseUptoCardSaid : Prop := Claim7.holds Tryd.pinned (.plain (OpenSpec.upto countingInverseSpec)) countingInverseUptoCard

/-- THE SECOND FORM's CARD OF 'coinagelaw03.CountingPowers'. -/
def countingPowersUptoCard : Claim7 := { stood := { row := countingPowersUptoRow, standIns := [], harness := (true, "2917aec40b82a8801054beae4220d54ab8b479d3448c1e50be920f7653fdf4d4"), looks := false }, kinds := [], alts := [], laidByText := true, laidKinds := [.data, .data, .data], laidTests := true, laidLooks := .later }
def CountingPowersUptoCardSaid : Prop := Claim7.holds Tryd.pinned (.plain (OpenSpec.upto countingPowersSpec)) countingPowersUptoCard
end Rows
end Go.Proofs.YthikgbgmnlmmlaaDoor
