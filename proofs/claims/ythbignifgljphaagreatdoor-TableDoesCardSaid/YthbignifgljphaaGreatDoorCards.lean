/-
  DERIVED. GIVEN WITH THE SEED: THE CARDS: each row of YthbignifgljphaaGreatDoorRows.lean that lists a variable, with what it lists TIED to the program's text (the seventh form; the later family's looks); each row that meets fmt, with fmt's text TOLD by the authors' own Lean function (tested against real Go, not proved from fmt's source: count such statements apart). THE CARD IS WHAT COUNTS. Prove the row's statement (the work); the ties are given (YthbignifgljphaaGreatDoorTie.lean); close each card by the builder's one call (the guide's Derived/Test/ToyasCard.lean, 'card_holds'). Laid BY PROGRAM, IN A SANDBOX (cutbox-door.mjs). By AI agents, Wed Nov 11 2026. No macro, syntax, notation, axiom, sorry.
-/
import Derived.Test.YthbignifgljphaaGreatDoorRows
import GoSem.ClaimSeven
namespace Go.Proofs.YthbignifgljphaaGreatDoor
namespace Rows

/-- THE TIED CARD OF 'tumblerlaw22.TableDoes'. -/
def tableDoesCard : Claim7 := { stood := { row := tableDoesRow, standIns := [], harness := (true, "2e4b55b6d2e88d73991dc7e817e70b0158270a8b65ba52ee8f2ea8b1b2542566"), looks := true }, kinds := [], alts := [], laidByText := true, laidKinds := [.data, .data, .data], laidTests := true, laidLooks := .later }
def TableDoesCardSaid : Prop := Claim7.holds Tryz.pinned (.plain (OpenSpec.ofChange tableDoesSpec)) tableDoesCard

/-- THE TIED CARD OF 'tumblerlaw22.TableStages'. -/
def tableStagesCard : Claim7 := { stood := { row := tableStagesRow, standIns := [], harness := (true, "2e4b55b6d2e88d73991dc7e817e70b0158270a8b65ba52ee8f2ea8b1b2542566"), looks := true }, kinds := [], alts := [], laidByText := true, laidKinds := [.data, .data, .data], laidTests := true, laidLooks := .later }
def TableStagesCardSaid : Prop := Claim7.holds Tryz.pinned (.plain (OpenSpec.ofChange tableStagesSpec)) tableStagesCard

/-- THE TIED CARD OF 'tumblerlaw22.TableTexts'. -/
def tableTextsCard : Claim7 := { stood := { row := tableTextsRow, standIns := [], harness := (true, "2e4b55b6d2e88d73991dc7e817e70b0158270a8b65ba52ee8f2ea8b1b2542566"), looks := true }, kinds := [], alts := [], laidByText := true, laidKinds := [.data, .data, .data], laidTests := true, laidLooks := .later }
def TableTextsCardSaid : Prop := Claim7.holds Tryz.pinned (.plain (OpenSpec.ofChange tableTextsSpec)) tableTextsCard

/-- THE TIED CARD OF 'tumblerlaw22.TableRuns'. -/
def tableRunsCard : Claim7 := { stood := { row := tableRunsRow, standIns := [], harness := (true, "2e4b55b6d2e88d73991dc7e817e70b0158270a8b65ba52ee8f2ea8b1b2542566"), looks := true }, kinds := [], alts := [], laidByText := true, laidKinds := [.data, .data, .data], laidTests := true, laidLooks := .later }
def TableRunsCardSaid : Prop := Claim7.holds Tryz.pinned (.plain (OpenSpec.ofChange tableRunsSpec)) tableRunsCard

/-- THE TIED CARD OF 'tumblerlaw22.TableGrows'. -/
def tableGrowsCard : Claim7 := { stood := { row := tableGrowsRow, standIns := [], harness := (true, "2e4b55b6d2e88d73991dc7e817e70b0158270a8b65ba52ee8f2ea8b1b2542566"), looks := true }, kinds := [], alts := [], laidByText := true, laidKinds := [.data, .data, .data], laidTests := true, laidLooks := .later }
def TableGrowsCardSaid : Prop := Claim7.holds Tryz.pinned (.plain (OpenSpec.ofChange tableGrowsSpec)) tableGrowsCard

/-- THE TIED CARD OF 'tumblerlaw22.TableCosts'. -/
def tableCostsCard : Claim7 := { stood := { row := tableCostsRow, standIns := [], harness := (true, "2e4b55b6d2e88d73991dc7e817e70b0158270a8b65ba52ee8f2ea8b1b2542566"), looks := true }, kinds := [], alts := [], laidByText := true, laidKinds := [.data, .data, .data], laidTests := true, laidLooks := .later }
def TableCostsCardSaid : Prop := Claim7.holds Tryz.pinned (.plain (OpenSpec.ofChange tableCostsSpec)) tableCostsCard

/-- THE SECOND FORM's CARD OF 'tumblerlaw22.TableDoes'. -/
def tableDoesUptoCard : Claim7 := { stood := { row := tableDoesUptoRow, standIns := [], harness := (true, "2e4b55b6d2e88d73991dc7e817e70b0158270a8b65ba52ee8f2ea8b1b2542566"), looks := true }, kinds := [], alts := [], laidByText := true, laidKinds := [.data, .data, .data], laidTests := true, laidLooks := .later }
def TableDoesUptoCardSaid : Prop := Claim7.holds Tryz.pinned (.plain (OpenSpec.upto tableDoesSpec)) tableDoesUptoCard

/-- THE SECOND FORM's CARD OF 'tumblerlaw22.TableStages'. -/
def tableStagesUptoCard : Claim7 := { stood := { row := tableStagesUptoRow, standIns := [], harness := (true, "2e4b55b6d2e88d73991dc7e817e70b0158270a8b65ba52ee8f2ea8b1b2542566"), looks := true }, kinds := [], alts := [], laidByText := true, laidKinds := [.data, .data, .data], laidTests := true, laidLooks := .later }
def TableStagesUptoCardSaid : Prop := Claim7.holds Tryz.pinned (.plain (OpenSpec.upto tableStagesSpec)) tableStagesUptoCard

/-- THE SECOND FORM's CARD OF 'tumblerlaw22.TableTexts'. -/
def tableTextsUptoCard : Claim7 := { stood := { row := tableTextsUptoRow, standIns := [], harness := (true, "2e4b55b6d2e88d73991dc7e817e70b0158270a8b65ba52ee8f2ea8b1b2542566"), looks := true }, kinds := [], alts := [], laidByText := true, laidKinds := [.data, .data, .data], laidTests := true, laidLooks := .later }
def TableTextsUptoCardSaid : Prop := Claim7.holds Tryz.pinned (.plain (OpenSpec.upto tableTextsSpec)) tableTextsUptoCard

/-- THE SECOND FORM's CARD OF 'tumblerlaw22.TableRuns'. -/
def tableRunsUptoCard : Claim7 := { stood := { row := tableRunsUptoRow, standIns := [], harness := (true, "2e4b55b6d2e88d73991dc7e817e70b0158270a8b65ba52ee8f2ea8b1b2542566"), looks := true }, kinds := [], alts := [], laidByText := true, laidKinds := [.data, .data, .data], laidTests := true, laidLooks := .later }
def TableRunsUptoCardSaid : Prop := Claim7.holds Tryz.pinned (.plain (OpenSpec.upto tableRunsSpec)) tableRunsUptoCard

/-- THE SECOND FORM's CARD OF 'tumblerlaw22.TableGrows'. -/
def tableGrowsUptoCard : Claim7 := { stood := { row := tableGrowsUptoRow, standIns := [], harness := (true, "2e4b55b6d2e88d73991dc7e817e70b0158270a8b65ba52ee8f2ea8b1b2542566"), looks := true }, kinds := [], alts := [], laidByText := true, laidKinds := [.data, .data, .data], laidTests := true, laidLooks := .later }
def TableGrowsUptoCardSaid : Prop := Claim7.holds Tryz.pinned (.plain (OpenSpec.upto tableGrowsSpec)) tableGrowsUptoCard

/-- THE SECOND FORM's CARD OF 'tumblerlaw22.TableCosts'. -/
def tableCostsUptoCard : Claim7 := { stood := { row := tableCostsUptoRow, standIns := [], harness := (true, "2e4b55b6d2e88d73991dc7e817e70b0158270a8b65ba52ee8f2ea8b1b2542566"), looks := true }, kinds := [], alts := [], laidByText := true, laidKinds := [.data, .data, .data], laidTests := true, laidLooks := .later }
def TableCostsUptoCardSaid : Prop := Claim7.holds Tryz.pinned (.plain (OpenSpec.upto tableCostsSpec)) tableCostsUptoCard
end Rows
end Go.Proofs.YthbignifgljphaaGreatDoor
