/-
  DERIVED. GIVEN WITH THE SEED: THE CARDS: each row of YtahefjapgfmmkaaDoorRows.lean that lists a variable, with what it lists TIED to the program's text (the seventh form; the later family's looks); each row that meets fmt, with fmt's text TOLD by the authors' own Lean function (tested against real Go, not proved from fmt's source: count such statements apart). THE CARD IS WHAT COUNTS. Prove the row's statement (the work); the ties are given (YtahefjapgfmmkaaDoorTie.lean); close each card by the builder's one call (the guide's Derived/Test/ToyasCard.lean, 'card_holds'). Laid BY PROGRAM, IN A SANDBOX (cutbox-door.mjs). By AI agents, Wed Nov 11 2026. No macro, syntax, notation, axiom, sorry.
-/
import Derived.Test.YtahefjapgfmmkaaDoorRows
import GoSem.ClaimSeven
namespace Go.Proofs.YtahefjapgfmmkaaDoor
namespace Rows

/-- THE TIED CARD OF 'tumblerlaw20.QueueDoes'. -/
def queueDoesCard : Claim7 := { stood := { row := queueDoesRow, standIns := [], harness := (true, "615dc82e507083926faace1bdd08bfc6fd0bd06218280e56d48f1da27d326575"), looks := true }, kinds := [], alts := [], laidByText := true, laidKinds := [.data, .data, .data], laidTests := true, laidLooks := .later }
def QueueDoesCardSaid : Prop := Claim7.holds Tryd.pinned (.plain (OpenSpec.ofChange queueDoesSpec)) queueDoesCard

/-- THE TIED CARD OF 'tumblerlaw20.QueueOrders'. -/
def queueOrdersCard : Claim7 := { stood := { row := queueOrdersRow, standIns := [], harness := (true, "615dc82e507083926faace1bdd08bfc6fd0bd06218280e56d48f1da27d326575"), looks := true }, kinds := [], alts := [], laidByText := true, laidKinds := [.data, .data, .data], laidTests := true, laidLooks := .later }
def QueueOrdersCardSaid : Prop := Claim7.holds Tryd.pinned (.plain (OpenSpec.ofChange queueOrdersSpec)) queueOrdersCard

/-- THE TIED CARD OF 'tumblerlaw20.QueueCosts'. -/
def queueCostsCard : Claim7 := { stood := { row := queueCostsRow, standIns := [], harness := (true, "615dc82e507083926faace1bdd08bfc6fd0bd06218280e56d48f1da27d326575"), looks := true }, kinds := [], alts := [], laidByText := true, laidKinds := [.data, .data, .data], laidTests := true, laidLooks := .later }
def QueueCostsCardSaid : Prop := Claim7.holds Tryd.pinned (.plain (OpenSpec.ofChange queueCostsSpec)) queueCostsCard

/-- THE TIED CARD OF 'tumblerlaw20.QueueTexts'. -/
def queueTextsCard : Claim7 := { stood := { row := queueTextsRow, standIns := [], harness := (true, "615dc82e507083926faace1bdd08bfc6fd0bd06218280e56d48f1da27d326575"), looks := true }, kinds := [], alts := [], laidByText := true, laidKinds := [.data, .data, .data], laidTests := true, laidLooks := .later }
def QueueTextsCardSaid : Prop := Claim7.holds Tryd.pinned (.plain (OpenSpec.ofChange queueTextsSpec)) queueTextsCard

/-- THE SECOND FORM's CARD OF 'tumblerlaw20.QueueDoes'. -/
def queueDoesUptoCard : Claim7 := { stood := { row := queueDoesUptoRow, standIns := [], harness := (true, "615dc82e507083926faace1bdd08bfc6fd0bd06218280e56d48f1da27d326575"), looks := true }, kinds := [], alts := [], laidByText := true, laidKinds := [.data, .data, .data], laidTests := true, laidLooks := .later }
def QueueDoesUptoCardSaid : Prop := Claim7.holds Tryd.pinned (.plain (OpenSpec.upto queueDoesSpec)) queueDoesUptoCard

/-- THE SECOND FORM's CARD OF 'tumblerlaw20.QueueOrders'. -/
def queueOrdersUptoCard : Claim7 := { stood := { row := queueOrdersUptoRow, standIns := [], harness := (true, "615dc82e507083926faace1bdd08bfc6fd0bd06218280e56d48f1da27d326575"), looks := true }, kinds := [], alts := [], laidByText := true, laidKinds := [.data, .data, .data], laidTests := true, laidLooks := .later }
def QueueOrdersUptoCardSaid : Prop := Claim7.holds Tryd.pinned (.plain (OpenSpec.upto queueOrdersSpec)) queueOrdersUptoCard

/-- THE SECOND FORM's CARD OF 'tumblerlaw20.QueueCosts'. -/
def queueCostsUptoCard : Claim7 := { stood := { row := queueCostsUptoRow, standIns := [], harness := (true, "615dc82e507083926faace1bdd08bfc6fd0bd06218280e56d48f1da27d326575"), looks := true }, kinds := [], alts := [], laidByText := true, laidKinds := [.data, .data, .data], laidTests := true, laidLooks := .later }
def QueueCostsUptoCardSaid : Prop := Claim7.holds Tryd.pinned (.plain (OpenSpec.upto queueCostsSpec)) queueCostsUptoCard

/-- THE SECOND FORM's CARD OF 'tumblerlaw20.QueueTexts'. -/
def queueTextsUptoCard : Claim7 := { stood := { row := queueTextsUptoRow, standIns := [], harness := (true, "615dc82e507083926faace1bdd08bfc6fd0bd06218280e56d48f1da27d326575"), looks := true }, kinds := [], alts := [], laidByText := true, laidKinds := [.data, .data, .data], laidTests := true, laidLooks := .later }
def QueueTextsUptoCardSaid : Prop := Claim7.holds Tryd.pinned (.plain (OpenSpec.upto queueTextsSpec)) queueTextsUptoCard
end Rows
end Go.Proofs.YtahefjapgfmmkaaDoor
