/-
  DERIVED. GIVEN WITH THE SEED: THE CARDS: each row of YtmhobfkgafnkmaaGreatDoorRows.lean that lists a variable, with what it lists TIED to the program's text (the seventh form; the later family's looks); each row that meets fmt, with fmt's text TOLD by the authors' own Lean function (tested against real Go, not proved from fmt's source: count such statements apart). THE CARD IS WHAT COUNTS. Prove the row's statement (the work); the ties are given (YtmhobfkgafnkmaaGreatDoorTie.lean); close each card by the builder's one call (the guide's Derived/Test/ToyasCard.lean, 'card_holds'). Laid BY PROGRAM, IN A SANDBOX (cutbox-door.mjs). By AI agents, Wed Nov 11 2026. No macro, syntax, notation, axiom, sorry.
-/
import Derived.Test.YtmhobfkgafnkmaaGreatDoorRows
import GoSem.ClaimSeven
namespace Go.Proofs.YtmhobfkgafnkmaaGreatDoor
namespace Rows

/-- THE TIED CARD OF 'tumblerlaw20.QueueDecodes'. -/
def queueDecodesCard : Claim7 := { stood := { row := queueDecodesRow, standIns := [], harness := (true, "70fde99f579de594219965853ba3fa148add29b167b12e025435a9fab6d7ecc6"), looks := true }, kinds := [], alts := [], laidByText := true, laidKinds := [.data, .data, .data], laidTests := true, laidLooks := .later }
def QueueDecodesCardSaid : Prop := Claim7.holds Tryz.pinned (.plain (OpenSpec.ofChange queueDecodesSpec)) queueDecodesCard

/-- THE TIED CARD OF 'tumblerlaw20.QueueRuns'. -/
def queueRunsCard : Claim7 := { stood := { row := queueRunsRow, standIns := [], harness := (true, "70fde99f579de594219965853ba3fa148add29b167b12e025435a9fab6d7ecc6"), looks := true }, kinds := [], alts := [], laidByText := true, laidKinds := [.data, .data, .data], laidTests := true, laidLooks := .later }
def QueueRunsCardSaid : Prop := Claim7.holds Tryz.pinned (.plain (OpenSpec.ofChange queueRunsSpec)) queueRunsCard

/-- THE TIED CARD OF 'tumblerlaw20.QueueApart'. -/
def queueApartCard : Claim7 := { stood := { row := queueApartRow, standIns := [], harness := (true, "70fde99f579de594219965853ba3fa148add29b167b12e025435a9fab6d7ecc6"), looks := true }, kinds := [], alts := [], laidByText := true, laidKinds := [.data, .data, .data], laidTests := true, laidLooks := .later }
def QueueApartCardSaid : Prop := Claim7.holds Tryz.pinned (.plain (OpenSpec.ofChange queueApartSpec)) queueApartCard

/-- THE SECOND FORM's CARD OF 'tumblerlaw20.QueueDecodes'. -/
def queueDecodesUptoCard : Claim7 := { stood := { row := queueDecodesUptoRow, standIns := [], harness := (true, "70fde99f579de594219965853ba3fa148add29b167b12e025435a9fab6d7ecc6"), looks := true }, kinds := [], alts := [], laidByText := true, laidKinds := [.data, .data, .data], laidTests := true, laidLooks := .later }
def QueueDecodesUptoCardSaid : Prop := Claim7.holds Tryz.pinned (.plain (OpenSpec.upto queueDecodesSpec)) queueDecodesUptoCard

/-- THE SECOND FORM's CARD OF 'tumblerlaw20.QueueRuns'. -/
def queueRunsUptoCard : Claim7 := { stood := { row := queueRunsUptoRow, standIns := [], harness := (true, "70fde99f579de594219965853ba3fa148add29b167b12e025435a9fab6d7ecc6"), looks := true }, kinds := [], alts := [], laidByText := true, laidKinds := [.data, .data, .data], laidTests := true, laidLooks := .later }
def QueueRunsUptoCardSaid : Prop := Claim7.holds Tryz.pinned (.plain (OpenSpec.upto queueRunsSpec)) queueRunsUptoCard

/-- THE SECOND FORM's CARD OF 'tumblerlaw20.QueueApart'. -/
def queueApartUptoCard : Claim7 := { stood := { row := queueApartUptoRow, standIns := [], harness := (true, "70fde99f579de594219965853ba3fa148add29b167b12e025435a9fab6d7ecc6"), looks := true }, kinds := [], alts := [], laidByText := true, laidKinds := [.data, .data, .data], laidTests := true, laidLooks := .later }
def QueueApartUptoCardSaid : Prop := Claim7.holds Tryz.pinned (.plain (OpenSpec.upto queueApartSpec)) queueApartUptoCard
end Rows
end Go.Proofs.YtmhobfkgafnkmaaGreatDoor
