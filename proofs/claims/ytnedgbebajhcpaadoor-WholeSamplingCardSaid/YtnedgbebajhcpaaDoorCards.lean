/-
  DERIVED. GIVEN WITH THE SEED: THE CARDS: each row of YtnedgbebajhcpaaDoorRows.lean that lists a variable, with what it lists TIED to the program's text (the seventh form; the later family's looks); each row that meets fmt, with fmt's text TOLD by the authors' own Lean function (tested against real Go, not proved from fmt's source: count such statements apart). THE CARD IS WHAT COUNTS. Prove the row's statement (the work); the ties are given (YtnedgbebajhcpaaDoorTie.lean); close each card by the builder's one call (the guide's Derived/Test/ToyasCard.lean, 'card_holds'). Laid BY PROGRAM, IN A SANDBOX (cutbox-door.mjs). By AI agents, Wed Nov 11 2026. No macro, syntax, notation, axiom, sorry.
-/
import Derived.Test.YtnedgbebajhcpaaDoorRows
import GoSem.ClaimSeven
namespace Go.Proofs.YtnedgbebajhcpaaDoor
namespace Rows

/-- THE TIED CARD OF 'coinagetop.WholeSampling'. -/
def wholeSamplingCard : Claim7 := { stood := { row := wholeSamplingRow, standIns := [], harness := (true, "050ae8865f9aaaf5d1eabac3c7ece9b23cacb85d3daba6fc11a2f369ed497616"), looks := false }, kinds := [], alts := [], laidByText := true, laidKinds := [.data, .data, .data], laidTests := true, laidLooks := .later }
def WholeSamplingCardSaid : Prop := Claim7.holds Tryd.pinned (.plain (OpenSpec.ofChange wholeSamplingSpec)) wholeSamplingCard

/-- THE TIED CARD OF 'coinagelaw44.SamplingToulmin'. -/
def samplingToulminCard : Claim7 := { stood := { row := samplingToulminRow, standIns := [], harness := (true, "050ae8865f9aaaf5d1eabac3c7ece9b23cacb85d3daba6fc11a2f369ed497616"), looks := false }, kinds := [], alts := [], laidByText := true, laidKinds := [.data, .data, .data], laidTests := true, laidLooks := .later }
def SamplingToulminCardSaid : Prop := Claim7.holds Tryd.pinned (.plain (OpenSpec.ofChange samplingToulminSpec)) samplingToulminCard

/-- THE TIED CARD OF 'coinagelaw44.SamplingFalls'. -/
def samplingFallsCard : Claim7 := { stood := { row := samplingFallsRow, standIns := [], harness := (true, "050ae8865f9aaaf5d1eabac3c7ece9b23cacb85d3daba6fc11a2f369ed497616"), looks := false }, kinds := [], alts := [], laidByText := true, laidKinds := [.data, .data, .data], laidTests := true, laidLooks := .later }
def SamplingFallsCardSaid : Prop := Claim7.holds Tryd.pinned (.plain (OpenSpec.ofChange samplingFallsSpec)) samplingFallsCard

/-- THE TIED CARD OF 'coinagelaw44.SamplingAdds'. -/
def samplingAddsCard : Claim7 := { stood := { row := samplingAddsRow, standIns := [], harness := (true, "050ae8865f9aaaf5d1eabac3c7ece9b23cacb85d3daba6fc11a2f369ed497616"), looks := false }, kinds := [], alts := [], laidByText := true, laidKinds := [.data, .data, .data], laidTests := true, laidLooks := .later }
def SamplingAddsCardSaid : Prop := Claim7.holds Tryd.pinned (.plain (OpenSpec.ofChange samplingAddsSpec)) samplingAddsCard

/-- THE TIED CARD OF 'coinagelaw44.SamplingBest'. -/
def samplingBestCard : Claim7 := { stood := { row := samplingBestRow, standIns := [], harness := (true, "050ae8865f9aaaf5d1eabac3c7ece9b23cacb85d3daba6fc11a2f369ed497616"), looks := false }, kinds := [], alts := [], laidByText := true, laidKinds := [.data, .data, .data], laidTests := true, laidLooks := .later }
def SamplingBestCardSaid : Prop := Claim7.holds Tryd.pinned (.plain (OpenSpec.ofChange samplingBestSpec)) samplingBestCard

/-- THE TIED CARD OF 'coinagelaw44.SamplingLeast'. -/
def samplingLeastCard : Claim7 := { stood := { row := samplingLeastRow, standIns := [], harness := (true, "050ae8865f9aaaf5d1eabac3c7ece9b23cacb85d3daba6fc11a2f369ed497616"), looks := false }, kinds := [], alts := [], laidByText := true, laidKinds := [.data, .data, .data], laidTests := true, laidLooks := .later }
def SamplingLeastCardSaid : Prop := Claim7.holds Tryd.pinned (.plain (OpenSpec.ofChange samplingLeastSpec)) samplingLeastCard

/-- THE SECOND FORM's CARD OF 'coinagetop.WholeSampling'. -/
def wholeSamplingUptoCard : Claim7 := { stood := { row := wholeSamplingUptoRow, standIns := [], harness := (true, "050ae8865f9aaaf5d1eabac3c7ece9b23cacb85d3daba6fc11a2f369ed497616"), looks := false }, kinds := [], alts := [], laidByText := true, laidKinds := [.data, .data, .data], laidTests := true, laidLooks := .later }
def WholeSamplingUptoCardSaid : Prop := Claim7.holds Tryd.pinned (.plain (OpenSpec.upto wholeSamplingSpec)) wholeSamplingUptoCard

/-- THE SECOND FORM's CARD OF 'coinagelaw44.SamplingToulmin'. -/
def samplingToulminUptoCard : Claim7 := { stood := { row := samplingToulminUptoRow, standIns := [], harness := (true, "050ae8865f9aaaf5d1eabac3c7ece9b23cacb85d3daba6fc11a2f369ed497616"), looks := false }, kinds := [], alts := [], laidByText := true, laidKinds := [.data, .data, .data], laidTests := true, laidLooks := .later }
def SamplingToulminUptoCardSaid : Prop := Claim7.holds Tryd.pinned (.plain (OpenSpec.upto samplingToulminSpec)) samplingToulminUptoCard

/-- THE SECOND FORM's CARD OF 'coinagelaw44.SamplingFalls'. -/
def samplingFallsUptoCard : Claim7 := { stood := { row := samplingFallsUptoRow, standIns := [], harness := (true, "050ae8865f9aaaf5d1eabac3c7ece9b23cacb85d3daba6fc11a2f369ed497616"), looks := false }, kinds := [], alts := [], laidByText := true, laidKinds := [.data, .data, .data], laidTests := true, laidLooks := .later }
def SamplingFallsUptoCardSaid : Prop := Claim7.holds Tryd.pinned (.plain (OpenSpec.upto samplingFallsSpec)) samplingFallsUptoCard

/-- THE SECOND FORM's CARD OF 'coinagelaw44.SamplingAdds'. -/
def samplingAddsUptoCard : Claim7 := { stood := { row := samplingAddsUptoRow, standIns := [], harness := (true, "050ae8865f9aaaf5d1eabac3c7ece9b23cacb85d3daba6fc11a2f369ed497616"), looks := false }, kinds := [], alts := [], laidByText := true, laidKinds := [.data, .data, .data], laidTests := true, laidLooks := .later }
def SamplingAddsUptoCardSaid : Prop := Claim7.holds Tryd.pinned (.plain (OpenSpec.upto samplingAddsSpec)) samplingAddsUptoCard

/-- THE SECOND FORM's CARD OF 'coinagelaw44.SamplingBest'. -/
def samplingBestUptoCard : Claim7 := { stood := { row := samplingBestUptoRow, standIns := [], harness := (true, "050ae8865f9aaaf5d1eabac3c7ece9b23cacb85d3daba6fc11a2f369ed497616"), looks := false }, kinds := [], alts := [], laidByText := true, laidKinds := [.data, .data, .data], laidTests := true, laidLooks := .later }
def SamplingBestUptoCardSaid : Prop := Claim7.holds Tryd.pinned (.plain (OpenSpec.upto samplingBestSpec)) samplingBestUptoCard

/-- THE SECOND FORM's CARD OF 'coinagelaw44.SamplingLeast'. -/
def samplingLeastUptoCard : Claim7 := { stood := { row := samplingLeastUptoRow, standIns := [], harness := (true, "050ae8865f9aaaf5d1eabac3c7ece9b23cacb85d3daba6fc11a2f369ed497616"), looks := false }, kinds := [], alts := [], laidByText := true, laidKinds := [.data, .data, .data], laidTests := true, laidLooks := .later }
def SamplingLeastUptoCardSaid : Prop := Claim7.holds Tryd.pinned (.plain (OpenSpec.upto samplingLeastSpec)) samplingLeastUptoCard
end Rows
end Go.Proofs.YtnedgbebajhcpaaDoor
