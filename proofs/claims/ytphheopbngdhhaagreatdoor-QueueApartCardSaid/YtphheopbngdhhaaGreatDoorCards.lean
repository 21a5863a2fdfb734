/-
  DERIVED. GIVEN WITH THE SEED: THE CARDS: each row of YtphheopbngdhhaaGreatDoorRows.lean that lists a variable, with what it lists TIED to the program's text (the seventh form; the later family's looks); each row that meets fmt, with fmt's text TOLD by the authors' own Lean function (tested against real Go, not proved from fmt's source: count such statements apart). THE CARD IS WHAT COUNTS. Prove the row's statement (the work); the ties are given (YtphheopbngdhhaaGreatDoorTie.lean); close each card by the builder's one call (the guide's Derived/Test/ToyasCard.lean, 'card_holds'). Laid BY PROGRAM, IN A SANDBOX (cutbox-door.mjs). By AI agents, Wed Nov 11 2026. No macro, syntax, notation, axiom, sorry.
-/
import Derived.Test.YtphheopbngdhhaaGreatDoorRows
import GoSem.ClaimSeven
namespace Go.Proofs.YtphheopbngdhhaaGreatDoor
namespace Rows

/-- THE TIED CARD OF 'tumblerlaw22.TableRuns'. -/
def tableRunsCard : Claim7 := { stood := { row := tableRunsRow, standIns := [], harness := (true, "d529d95fbcb5e8c4f1823a3b4335e88572dd1dcbbf9ca04dc11ceac032096d8f"), looks := true }, kinds := [], alts := [], laidByText := true, laidKinds := [.data, .data, .data], laidTests := true, laidLooks := .later }
def TableRunsCardSaid : Prop := Claim7.holds Tryz.pinned (.plain (OpenSpec.ofChange tableRunsSpec)) tableRunsCard

/-- THE TIED CARD OF 'tumblerlaw20.QueueDecodes'. -/
def queueDecodesCard : Claim7 := { stood := { row := queueDecodesRow, standIns := [], harness := (true, "d529d95fbcb5e8c4f1823a3b4335e88572dd1dcbbf9ca04dc11ceac032096d8f"), looks := true }, kinds := [], alts := [], laidByText := true, laidKinds := [.data, .data, .data], laidTests := true, laidLooks := .later }
def QueueDecodesCardSaid : Prop := Claim7.holds Tryz.pinned (.plain (OpenSpec.ofChange queueDecodesSpec)) queueDecodesCard

/-- THE TIED CARD OF 'tumblerlaw21.ChainDecodes'. -/
def chainDecodesCard : Claim7 := { stood := { row := chainDecodesRow, standIns := [], harness := (true, "d529d95fbcb5e8c4f1823a3b4335e88572dd1dcbbf9ca04dc11ceac032096d8f"), looks := true }, kinds := [], alts := [], laidByText := true, laidKinds := [.data, .data, .data], laidTests := true, laidLooks := .later }
def ChainDecodesCardSaid : Prop := Claim7.holds Tryz.pinned (.plain (OpenSpec.ofChange chainDecodesSpec)) chainDecodesCard

/-- THE TIED CARD OF 'tumblerlaw20.QueueApart'. -/
def queueApartCard : Claim7 := { stood := { row := queueApartRow, standIns := [], harness := (true, "d529d95fbcb5e8c4f1823a3b4335e88572dd1dcbbf9ca04dc11ceac032096d8f"), looks := true }, kinds := [], alts := [], laidByText := true, laidKinds := [.data, .data, .data], laidTests := true, laidLooks := .later }
def QueueApartCardSaid : Prop := Claim7.holds Tryz.pinned (.plain (OpenSpec.ofChange queueApartSpec)) queueApartCard

/-- THE SECOND FORM's CARD OF 'tumblerlaw22.TableRuns'. -/
def tableRunsUptoCard : Claim7 := { stood := { row := tableRunsUptoRow, standIns := [], harness := (true, "d529d95fbcb5e8c4f1823a3b4335e88572dd1dcbbf9ca04dc11ceac032096d8f"), looks := true }, kinds := [], alts := [], laidByText := true, laidKinds := [.data, .data, .data], laidTests := true, laidLooks := .later }
def TableRunsUptoCardSaid : Prop := Claim7.holds Tryz.pinned (.plain (OpenSpec.upto tableRunsSpec)) tableRunsUptoCard

/-- THE SECOND FORM's CARD OF 'tumblerlaw20.QueueDecodes'. -/
def queueDecodesUptoCard : Claim7 := { stood := { row := queueDecodesUptoRow, standIns := [], harness := (true, "d529d95fbcb5e8c4f1823a3b4335e88572dd1dcbbf9ca04dc11ceac032096d8f"), looks := true }, kinds := [], alts := [], laidByText := true, laidKinds := [.data, .data, .data], laidTests := true, laidLooks := .later }
def QueueDecodesUptoCardSaid : Prop := Claim7.holds Tryz.pinned (.plain (OpenSpec.upto queueDecodesSpec)) queueDecodesUptoCard

/-- THE SECOND FORM's CARD OF 'tumblerlaw21.ChainDecodes'. -/
def chainDecodesUptoCard : Claim7 := { stood := { row := chainDecodesUptoRow, standIns := [], harness := (true, "d529d95fbcb5e8c4f1823a3b4335e88572dd1dcbbf9ca04dc11ceac032096d8f"), looks := true }, kinds := [], alts := [], laidByText := true, laidKinds := [.data, .data, .data], laidTests := true, laidLooks := .later }
def ChainDecodesUptoCardSaid : Prop := Claim7.holds Tryz.pinned (.plain (OpenSpec.upto chainDecodesSpec)) chainDecodesUptoCard

/-- THE SECOND FORM's CARD OF 'tumblerlaw20.QueueApart'. -/
def queueApartUptoCard : Claim7 := { stood := { row := queueApartUptoRow, standIns := [], harness := (true, "d529d95fbcb5e8c4f1823a3b4335e88572dd1dcbbf9ca04dc11ceac032096d8f"), looks := true }, kinds := [], alts := [], laidByText := true, laidKinds := [.data, .data, .data], laidTests := true, laidLooks := .later }
def QueueApartUptoCardSaid : Prop := Claim7.holds Tryz.pinned (.plain (OpenSpec.upto queueApartSpec)) queueApartUptoCard
end Rows
end Go.Proofs.YtphheopbngdhhaaGreatDoor
