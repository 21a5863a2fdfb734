/-
  DERIVED. GIVEN WITH THE SEED: THE CARDS: each row of YtalgmlhcbilicaaGreatDoorRows.lean that lists a variable, with what it lists TIED to the program's text (the seventh form; the later family's looks); each row that meets fmt, with fmt's text TOLD by the authors' own Lean function (tested against real Go, not proved from fmt's source: count such statements apart). THE CARD IS WHAT COUNTS. Prove the row's statement (the work); the ties are given (YtalgmlhcbilicaaGreatDoorTie.lean); close each card by the builder's one call (the guide's Derived/Test/ToyasCard.lean, 'card_holds'). Laid BY PROGRAM, IN A SANDBOX (cutbox-door.mjs). By AI agents, Wed Nov 11 2026. No macro, syntax, notation, axiom, sorry.
-/
import Derived.Test.YtalgmlhcbilicaaGreatDoorRows
import GoSem.ClaimSeven
namespace Go.Proofs.YtalgmlhcbilicaaGreatDoor
namespace Rows

/-- THE TIED CARD OF 'tumblerlaw21.ChainDecodes'. -/
def chainDecodesCard : Claim7 := { stood := { row := chainDecodesRow, standIns := [], harness := (true, "92fc4254fde0e012d62048cb99cff839d7edc3277b96717e6bc585433efb39e1"), looks := true }, kinds := [], alts := [], laidByText := true, laidKinds := [.data, .data, .data], laidTests := true, laidLooks := .later }
def ChainDecodesCardSaid : Prop := Claim7.holds Tryz.pinned (.plain (OpenSpec.ofChange chainDecodesSpec)) chainDecodesCard

/-- THE TIED CARD OF 'tumblerlaw21.ChainRuns'. -/
def chainRunsCard : Claim7 := { stood := { row := chainRunsRow, standIns := [], harness := (true, "92fc4254fde0e012d62048cb99cff839d7edc3277b96717e6bc585433efb39e1"), looks := true }, kinds := [], alts := [], laidByText := true, laidKinds := [.data, .data, .data], laidTests := true, laidLooks := .later }
def ChainRunsCardSaid : Prop := Claim7.holds Tryz.pinned (.plain (OpenSpec.ofChange chainRunsSpec)) chainRunsCard

/-- THE TIED CARD OF 'tumblerlaw21.ChainSorts'. -/
def chainSortsCard : Claim7 := { stood := { row := chainSortsRow, standIns := [], harness := (true, "92fc4254fde0e012d62048cb99cff839d7edc3277b96717e6bc585433efb39e1"), looks := true }, kinds := [], alts := [], laidByText := true, laidKinds := [.data, .data, .data], laidTests := true, laidLooks := .later }
def ChainSortsCardSaid : Prop := Claim7.holds Tryz.pinned (.plain (OpenSpec.ofChange chainSortsSpec)) chainSortsCard

/-- THE TIED CARD OF 'tumblerlaw21.ChainCosts'. -/
def chainCostsCard : Claim7 := { stood := { row := chainCostsRow, standIns := [], harness := (true, "92fc4254fde0e012d62048cb99cff839d7edc3277b96717e6bc585433efb39e1"), looks := true }, kinds := [], alts := [], laidByText := true, laidKinds := [.data, .data, .data], laidTests := true, laidLooks := .later }
def ChainCostsCardSaid : Prop := Claim7.holds Tryz.pinned (.plain (OpenSpec.ofChange chainCostsSpec)) chainCostsCard

/-- THE TIED CARD OF 'tumblerlaw21.ChainOrders'. -/
def chainOrdersCard : Claim7 := { stood := { row := chainOrdersRow, standIns := [], harness := (true, "92fc4254fde0e012d62048cb99cff839d7edc3277b96717e6bc585433efb39e1"), looks := true }, kinds := [], alts := [], laidByText := true, laidKinds := [.data, .data, .data], laidTests := true, laidLooks := .later }
def ChainOrdersCardSaid : Prop := Claim7.holds Tryz.pinned (.plain (OpenSpec.ofChange chainOrdersSpec)) chainOrdersCard

/-- THE SECOND FORM's CARD OF 'tumblerlaw21.ChainDecodes'. -/
def chainDecodesUptoCard : Claim7 := { stood := { row := chainDecodesUptoRow, standIns := [], harness := (true, "92fc4254fde0e012d62048cb99cff839d7edc3277b96717e6bc585433efb39e1"), looks := true }, kinds := [], alts := [], laidByText := true, laidKinds := [.data, .data, .data], laidTests := true, laidLooks := .later }
def ChainDecodesUptoCardSaid : Prop := Claim7.holds Tryz.pinned (.plain (OpenSpec.upto chainDecodesSpec)) chainDecodesUptoCard

/-- THE SECOND FORM's CARD OF 'tumblerlaw21.ChainRuns'. -/
def chainRunsUptoCard : Claim7 := { stood := { row := chainRunsUptoRow, standIns := [], harness := (true, "92fc4254fde0e012d62048cb99cff839d7edc3277b96717e6bc585433efb39e1"), looks := true }, kinds := [], alts := [], laidByText := true, laidKinds := [.data, .data, .data], laidTests := true, laidLooks := .later }
def ChainRunsUptoCardSaid : Prop := Claim7.holds Tryz.pinned (.plain (OpenSpec.upto chainRunsSpec)) chainRunsUptoCard

/-- THE SECOND FORM's CARD OF 'tumblerlaw21.ChainSorts'. -/
def chainSortsUptoCard : Claim7 := { stood := { row := chainSortsUptoRow, standIns := [], harness := (true, "92fc4254fde0e012d62048cb99cff839d7edc3277b96717e6bc585433efb39e1"), looks := true }, kinds := [], alts := [], laidByText := true, laidKinds := [.data, .data, .data], laidTests := true, laidLooks := .later }
def ChainSortsUptoCardSaid : Prop := Claim7.holds Tryz.pinned (.plain (OpenSpec.upto chainSortsSpec)) chainSortsUptoCard

/-- THE SECOND FORM's CARD OF 'tumblerlaw21.ChainCosts'. -/
def chainCostsUptoCard : Claim7 := { stood := { row := chainCostsUptoRow, standIns := [], harness := (true, "92fc4254fde0e012d62048cb99cff839d7edc3277b96717e6bc585433efb39e1"), looks := true }, kinds := [], alts := [], laidByText := true, laidKinds := [.data, .data, .data], laidTests := true, laidLooks := .later }
def ChainCostsUptoCardSaid : Prop := Claim7.holds Tryz.pinned (.plain (OpenSpec.upto chainCostsSpec)) chainCostsUptoCard

/-- THE SECOND FORM's CARD OF 'tumblerlaw21.ChainOrders'. -/
def chainOrdersUptoCard : Claim7 := { stood := { row := chainOrdersUptoRow, standIns := [], harness := (true, "92fc4254fde0e012d62048cb99cff839d7edc3277b96717e6bc585433efb39e1"), looks := true }, kinds := [], alts := [], laidByText := true, laidKinds := [.data, .data, .data], laidTests := true, laidLooks := .later }
def ChainOrdersUptoCardSaid : Prop := Claim7.holds Tryz.pinned (.plain (OpenSpec.upto chainOrdersSpec)) chainOrdersUptoCard
end Rows
end Go.Proofs.YtalgmlhcbilicaaGreatDoor
