/-
  No cell of these rows narrows 'for every input' (looked for: loops, veiled, ifaces, maps, wideKeys, modest, calm, conditions, laid).
  DERIVED. THE GIVEN ROWS OF THIS SEAT. 3 by the template 'for every input the law returns true; each argument reads behind the call as it read before'; 0 by the template 'total and deterministic' (their statements: YtmcadilggmlbfaaTotals.lean).
  GIVEN WITH THE SEED: the statements are not yours to turn. If you find one false, say at which input.
  Laid BY PROGRAM, IN A SANDBOX (cutbox-rows.mjs): the forced cells as the released guide's own fill.sh prints them over the translation e2f97b1163fb8616… (all of the seat's roots in one cut). By AI agents, Wed Nov 11 2026. No macro, syntax, notation, axiom, sorry.
-/
import Derived.Test.YtmcadilggmlbfaaChecked
import GoSem.Claim
import GoSem.ClaimJoined
import GoSem.ClaimMapViews
import Derived.JoinedTies
import Derived.KernelRfl
namespace Go.Proofs.Ytmcadilggmlbfaa
/- THE CELL 'sum', in the pinned program and in every row, IS THE sha256 OF THE DUMP (.gsa) THAT YtmcadilggmlbfaaProg.lean LOADS. Nothing in Lean hashes anything: it is a label: what it is worth is what the hold of that sum in a sandbox is worth. -/
noncomputable def Try.pinned : Pinned := { name := "ytmcadilggmlbfaa", sum := "e2f97b1163fb8616f1d117a9daca3e41adae0e529fc8b94546eeb34562d71d61", checked := Try.checked }
namespace Rows
def none {H : Type} : Left H := { results := [], args := [] }

/-- 'tumblerlaw18.AuditTells': WHATEVER THE INPUT: true; the input reads as it did. -/
def auditTellsSpec : ChangeSpec := { name := "auditTells", fn := fun _ => fun
  | [d1, d2] => { results := [.lit (.bool true)], args := [d1, d2] }
  | _ => none }
def auditTellsRow : OpenClaim := { program := "ytmcadilggmlbfaa", sum := "e2f97b1163fb8616f1d117a9daca3e41adae0e529fc8b94546eeb34562d71d61", func := "tumbler/tumblerlaw18.AuditTells", spec := "auditTells", recurses := true, apart := false }
def AuditTellsSaid : Prop := auditTellsRow.holds Try.pinned (OpenSpec.ofChange auditTellsSpec)

/-- ITS FALSE NEIGHBOUR: 'it returns false'. Refute it at one input. -/
def auditTellsWrong : ChangeSpec := { name := "auditTells", fn := fun _ => fun
  | [d1, d2] => { results := [.lit (.bool false)], args := [d1, d2] }
  | _ => none }
def AuditTellsWrongFalsely : Prop := auditTellsRow.holds Try.pinned (OpenSpec.ofChange auditTellsWrong)

/-- 'tumblerlaw18.AuditSpoils': WHATEVER THE INPUT: true; the input reads as it did. -/
def auditSpoilsSpec : ChangeSpec := { name := "auditSpoils", fn := fun _ => fun
  | [d1, d2, d3, d4] => { results := [.lit (.bool true)], args := [d1, d2, d3, d4] }
  | _ => none }
def auditSpoilsRow : OpenClaim := { program := "ytmcadilggmlbfaa", sum := "e2f97b1163fb8616f1d117a9daca3e41adae0e529fc8b94546eeb34562d71d61", func := "tumbler/tumblerlaw18.AuditSpoils", spec := "auditSpoils", apart := false }
def AuditSpoilsSaid : Prop := auditSpoilsRow.holds Try.pinned (OpenSpec.ofChange auditSpoilsSpec)

/-- ITS FALSE NEIGHBOUR: 'it returns false'. Refute it at one input. -/
def auditSpoilsWrong : ChangeSpec := { name := "auditSpoils", fn := fun _ => fun
  | [d1, d2, d3, d4] => { results := [.lit (.bool false)], args := [d1, d2, d3, d4] }
  | _ => none }
def AuditSpoilsWrongFalsely : Prop := auditSpoilsRow.holds Try.pinned (OpenSpec.ofChange auditSpoilsWrong)

/-- 'tumblerlaw18.AuditHolds': WHATEVER THE INPUT: true; the input reads as it did. -/
def auditHoldsSpec : ChangeSpec := { name := "auditHolds", fn := fun _ => fun
  | [d1, d2] => { results := [.lit (.bool true)], args := [d1, d2] }
  | _ => none }
def auditHoldsRow : OpenClaim := { program := "ytmcadilggmlbfaa", sum := "e2f97b1163fb8616f1d117a9daca3e41adae0e529fc8b94546eeb34562d71d61", func := "tumbler/tumblerlaw18.AuditHolds", spec := "auditHolds", unfollowed := true, recurses := true, apart := false }
def AuditHoldsSaid : Prop := auditHoldsRow.holds Try.pinned (OpenSpec.ofChange auditHoldsSpec)

/-- ITS FALSE NEIGHBOUR: 'it returns false'. Refute it at one input. -/
def auditHoldsWrong : ChangeSpec := { name := "auditHolds", fn := fun _ => fun
  | [d1, d2] => { results := [.lit (.bool false)], args := [d1, d2] }
  | _ => none }
def AuditHoldsWrongFalsely : Prop := auditHoldsRow.holds Try.pinned (OpenSpec.ofChange auditHoldsWrong)

/- THE SECOND FORM. 'bulk': how many values and letters a reading holds, each counted each time it is reached (what is shared counts as often as it is met; a slice's spare places count too). A statement '..UptoSaid' is the law's where the arguments, and the package variables that the reading takes, are together of bulk at most 1048576: NARROWER than '..Said'. Prove '..Said' where nothing that the law and all that it calls make is longer than what came in: it says more and counts as full. Else prove '..UptoSaid'. A law counts once. -/
mutual
def uptoBulk {H : Type} : DataW H → Nat
  | .lit (.string bytes) => bytes.length + 1
  | .lit _ => 1
  | .nil => 1
  | .ptr d => uptoBulk d + 1
  | .slice elems spare => uptoBulkAll elems + uptoBulkAll spare + 1
  | .agg parts => uptoBulkAll parts + 1
  | .iface _ d => uptoBulk d + 1
  | .map entries => uptoBulkEntries entries + 1
  | .held _ => 1
def uptoBulkAll {H : Type} : List (DataW H) → Nat
  | [] => 0
  | d :: r => uptoBulk d + uptoBulkAll r
def uptoBulkEntries {H : Type} : List (Lit × DataW H) → Nat
  | [] => 0
  | x :: r => uptoBulkEntry x + uptoBulkEntries r
def uptoBulkEntry {H : Type} : Lit × DataW H → Nat
  | (.string bytes, d) => bytes.length + uptoBulk d + 1
  | (_, d) => uptoBulk d + 1
 end
def uptoSmall : (H : Type) → List (DataW H) → Bool := fun _ ds => decide (uptoBulkAll ds ≤ 1048576)
def OpenSpec.upto (s : _root_.Go.ChangeSpec) : _root_.Go.OpenSpec := { _root_.Go.OpenSpec.ofChange s with cond := some uptoSmall }

/-- 'tumblerlaw18.AuditTells', WHERE WHAT IT READS IS OF BULK AT MOST 1048576: true; the input reads as it did. -/
def auditTellsUptoRow : OpenClaim := { program := "ytmcadilggmlbfaa", sum := "e2f97b1163fb8616f1d117a9daca3e41adae0e529fc8b94546eeb34562d71d61", func := "tumbler/tumblerlaw18.AuditTells", spec := "auditTells", recurses := true, apart := false, narrowed := true }
def AuditTellsUptoSaid : Prop := auditTellsUptoRow.holds Try.pinned (OpenSpec.upto auditTellsSpec)

/-- 'tumblerlaw18.AuditSpoils', WHERE WHAT IT READS IS OF BULK AT MOST 1048576: true; the input reads as it did. -/
def auditSpoilsUptoRow : OpenClaim := { program := "ytmcadilggmlbfaa", sum := "e2f97b1163fb8616f1d117a9daca3e41adae0e529fc8b94546eeb34562d71d61", func := "tumbler/tumblerlaw18.AuditSpoils", spec := "auditSpoils", apart := false, narrowed := true }
def AuditSpoilsUptoSaid : Prop := auditSpoilsUptoRow.holds Try.pinned (OpenSpec.upto auditSpoilsSpec)

/-- 'tumblerlaw18.AuditHolds', WHERE WHAT IT READS IS OF BULK AT MOST 1048576: true; the input reads as it did. -/
def auditHoldsUptoRow : OpenClaim := { program := "ytmcadilggmlbfaa", sum := "e2f97b1163fb8616f1d117a9daca3e41adae0e529fc8b94546eeb34562d71d61", func := "tumbler/tumblerlaw18.AuditHolds", spec := "auditHolds", unfollowed := true, recurses := true, apart := false, narrowed := true }
def AuditHoldsUptoSaid : Prop := auditHoldsUptoRow.holds Try.pinned (OpenSpec.upto auditHoldsSpec)

end Rows
end Go.Proofs.Ytmcadilggmlbfaa
