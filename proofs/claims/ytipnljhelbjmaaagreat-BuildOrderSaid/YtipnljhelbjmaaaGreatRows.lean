/-
  No cell of these rows narrows 'for every input' (looked for: loops, veiled, ifaces, maps, wideKeys, modest, calm, conditions, laid).
  DERIVED. THE GIVEN ROWS OF THIS SEAT. 4 by the template 'for every input the law returns true; each argument reads behind the call as it read before'; 0 by the template 'total and deterministic' (their statements: YtipnljhelbjmaaaGreatTotals.lean).
  GIVEN WITH THE SEED: the statements are not yours to turn. If you find one false, say at which input.
  Laid BY PROGRAM, IN A SANDBOX (cutbox-rows.mjs): the forced cells as the released guide's own fill.sh prints them over the translation 53c166718357f7e4… (all of the seat's roots in one cut). By AI agents, Wed Nov 11 2026. No macro, syntax, notation, axiom, sorry.
-/
import Derived.Test.YtipnljhelbjmaaaGreatChecked
import GoSem.Claim
import GoSem.ClaimJoined
import GoSem.ClaimMapViews
import Derived.JoinedTies
import Derived.KernelRfl
namespace Go.Proofs.YtipnljhelbjmaaaGreat
/- THE CELL 'sum', in the pinned program and in every row, IS THE sha256 OF THE DUMP (.gsa) THAT YtipnljhelbjmaaaGreatProg.lean LOADS. Nothing in Lean hashes anything: it is a label: what it is worth is what the hold of that sum in a sandbox is worth. -/
noncomputable def Tryz.pinned : Pinned := { name := "ytipnljhelbjmaaagreat", sum := "53c166718357f7e4d7081d8a1b1835ba22acb7f6fa63b8789763a773e7690693", checked := Tryz.checked }
namespace Rows
def none {H : Type} : Left H := { results := [], args := [] }

/-- 'tumblerlaw11.ExecPlays': WHATEVER THE INPUT: true; the input reads as it did. -/
def execPlaysSpec : ChangeSpec := { name := "execPlays", fn := fun _ => fun
  | [d1, d2, d3, d4, d5, d6] => { results := [.lit (.bool true)], args := [d1, d2, d3, d4, d5, d6] }
  | _ => none }
def execPlaysRow : OpenClaim := { program := "ytipnljhelbjmaaagreat", sum := "53c166718357f7e4d7081d8a1b1835ba22acb7f6fa63b8789763a773e7690693", func := "tumbler/tumblerlaw11.ExecPlays", spec := "execPlays", recurses := true, apart := false }
def ExecPlaysSaid : Prop := execPlaysRow.holds Tryz.pinned (OpenSpec.ofChange execPlaysSpec)

/-- ITS FALSE NEIGHBOUR: 'it returns false'. Refute it at one input. -/
def execPlaysWrong : ChangeSpec := { name := "execPlays", fn := fun _ => fun
  | [d1, d2, d3, d4, d5, d6] => { results := [.lit (.bool false)], args := [d1, d2, d3, d4, d5, d6] }
  | _ => none }
def ExecPlaysWrongFalsely : Prop := execPlaysRow.holds Tryz.pinned (OpenSpec.ofChange execPlaysWrong)

/-- 'tumblerlaw14.BuildPlays': WHATEVER THE INPUT: true; the input reads as it did. -/
def buildPlaysSpec : ChangeSpec := { name := "buildPlays", fn := fun _ => fun
  | [d1, d2, d3, d4, d5] => { results := [.lit (.bool true)], args := [d1, d2, d3, d4, d5] }
  | _ => none }
def buildPlaysRow : OpenClaim := { program := "ytipnljhelbjmaaagreat", sum := "53c166718357f7e4d7081d8a1b1835ba22acb7f6fa63b8789763a773e7690693", func := "tumbler/tumblerlaw14.BuildPlays", spec := "buildPlays", recurses := true, apart := false }
def BuildPlaysSaid : Prop := buildPlaysRow.holds Tryz.pinned (OpenSpec.ofChange buildPlaysSpec)

/-- ITS FALSE NEIGHBOUR: 'it returns false'. Refute it at one input. -/
def buildPlaysWrong : ChangeSpec := { name := "buildPlays", fn := fun _ => fun
  | [d1, d2, d3, d4, d5] => { results := [.lit (.bool false)], args := [d1, d2, d3, d4, d5] }
  | _ => none }
def BuildPlaysWrongFalsely : Prop := buildPlaysRow.holds Tryz.pinned (OpenSpec.ofChange buildPlaysWrong)

/-- 'tumblerlaw14.BuildOrder': WHATEVER THE INPUT: true; the input reads as it did. -/
def buildOrderSpec : ChangeSpec := { name := "buildOrder", fn := fun _ => fun
  | [d1, d2, d3, d4, d5] => { results := [.lit (.bool true)], args := [d1, d2, d3, d4, d5] }
  | _ => none }
def buildOrderRow : OpenClaim := { program := "ytipnljhelbjmaaagreat", sum := "53c166718357f7e4d7081d8a1b1835ba22acb7f6fa63b8789763a773e7690693", func := "tumbler/tumblerlaw14.BuildOrder", spec := "buildOrder", apart := false }
def BuildOrderSaid : Prop := buildOrderRow.holds Tryz.pinned (OpenSpec.ofChange buildOrderSpec)

/-- ITS FALSE NEIGHBOUR: 'it returns false'. Refute it at one input. -/
def buildOrderWrong : ChangeSpec := { name := "buildOrder", fn := fun _ => fun
  | [d1, d2, d3, d4, d5] => { results := [.lit (.bool false)], args := [d1, d2, d3, d4, d5] }
  | _ => none }
def BuildOrderWrongFalsely : Prop := buildOrderRow.holds Tryz.pinned (OpenSpec.ofChange buildOrderWrong)

/-- 'tumblerlaw14.BuildNone': WHATEVER THE INPUT: true; the input reads as it did. -/
def buildNoneSpec : ChangeSpec := { name := "buildNone", fn := fun _ => fun
  | [d1, d2, d3, d4] => { results := [.lit (.bool true)], args := [d1, d2, d3, d4] }
  | _ => none }
def buildNoneRow : OpenClaim := { program := "ytipnljhelbjmaaagreat", sum := "53c166718357f7e4d7081d8a1b1835ba22acb7f6fa63b8789763a773e7690693", func := "tumbler/tumblerlaw14.BuildNone", spec := "buildNone", apart := false }
def BuildNoneSaid : Prop := buildNoneRow.holds Tryz.pinned (OpenSpec.ofChange buildNoneSpec)

/-- ITS FALSE NEIGHBOUR: 'it returns false'. Refute it at one input. -/
def buildNoneWrong : ChangeSpec := { name := "buildNone", fn := fun _ => fun
  | [d1, d2, d3, d4] => { results := [.lit (.bool false)], args := [d1, d2, d3, d4] }
  | _ => none }
def BuildNoneWrongFalsely : Prop := buildNoneRow.holds Tryz.pinned (OpenSpec.ofChange buildNoneWrong)

/- THE SECOND FORM. 'bulk': how many values and letters a reading holds, each counted each time it is reached (what is shared counts as often as it is met; a slice's spare places count too). A statement '..UptoSaid' is the law's where the arguments, and the package variables that the reading takes, are together of bulk at most 1048576: NARROWER than '..Said'. Prove '..Said' where nothing that the law and all that it calls make is longer than what came in: it says more and counts as full. Else prove '..UptoSaid'. A law counts once. -/
mutual
def uptoBulk {H : Type} : DataW H → Nat
  | .lit (.string bytes) => bytes.length + 1
  | .lit _ => 1
  | .nil => 1
  | .ptr d => uptoBulk d + 1
  | .slice elems spare => uptoBulkAll elems + uptoBulkAll spare + 1
  | .agg parts => uptoBulkAll parts + 1
  | .iface _ d => uptoBulk d + 1
  | .map entries => uptoBulkEntries entries + 1
  | .held _ => 1
def uptoBulkAll {H : Type} : List (DataW H) → Nat
  | [] => 0
  | d :: r => uptoBulk d + uptoBulkAll r
def uptoBulkEntries {H : Type} : List (Lit × DataW H) → Nat
  | [] => 0
  | x :: r => uptoBulkEntry x + uptoBulkEntries r
def uptoBulkEntry {H : Type} : Lit × DataW H → Nat
  | (.string bytes, d) => bytes.length + uptoBulk d + 1
  | (_, d) => uptoBulk d + 1
 end
def uptoSmall : (H : Type) → List (DataW H) → Bool := fun _ ds => decide (uptoBulkAll ds ≤ 1048576)
def OpenSpec.upto (s : _root_.Go.ChangeSpec) : _root_.Go.OpenSpec := { _root_.Go.OpenSpec.ofChange s with cond := some uptoSmall }

/-- 'tumblerlaw11.ExecPlays', WHERE WHAT IT READS IS OF BULK AT MOST 1048576: true; the input reads as it did. -/
def execPlaysUptoRow : OpenClaim := { program := "ytipnljhelbjmaaagreat", sum := "53c166718357f7e4d7081d8a1b1835ba22acb7f6fa63b8789763a773e7690693", func := "tumbler/tumblerlaw11.ExecPlays", spec := "execPlays", recurses := true, apart := false, narrowed := true }
def ExecPlaysUptoSaid : Prop := execPlaysUptoRow.holds Tryz.pinned (OpenSpec.upto execPlaysSpec)

/-- 'tumblerlaw14.BuildPlays', WHERE WHAT IT READS IS OF BULK AT MOST 1048576: true; the input reads as it did. -/
def buildPlaysUptoRow : OpenClaim := { program := "ytipnljhelbjmaaagreat", sum := "53c166718357f7e4d7081d8a1b1835ba22acb7f6fa63b8789763a773e7690693", func := "tumbler/tumblerlaw14.BuildPlays", spec := "buildPlays", recurses := true, apart := false, narrowed := true }
def BuildPlaysUptoSaid : Prop := buildPlaysUptoRow.holds Tryz.pinned (OpenSpec.upto buildPlaysSpec)

/-- 'tumblerlaw14.BuildOrder', WHERE WHAT IT READS IS OF BULK AT MOST 1048576: true; the input reads as it did. -/
def buildOrderUptoRow : OpenClaim := { program := "ytipnljhelbjmaaagreat", sum := "53c166718357f7e4d7081d8a1b1835ba22acb7f6fa63b8789763a773e7690693", func := "tumbler/tumblerlaw14.BuildOrder", spec := "buildOrder", apart := false, narrowed := true }
def BuildOrderUptoSaid : Prop := buildOrderUptoRow.holds Tryz.pinned (OpenSpec.upto buildOrderSpec)

/-- 'tumblerlaw14.BuildNone', WHERE WHAT IT READS IS OF BULK AT MOST 1048576: true; the input reads as it did. -/
def buildNoneUptoRow : OpenClaim := { program := "ytipnljhelbjmaaagreat", sum := "53c166718357f7e4d7081d8a1b1835ba22acb7f6fa63b8789763a773e7690693", func := "tumbler/tumblerlaw14.BuildNone", spec := "buildNone", apart := false, narrowed := true }
def BuildNoneUptoSaid : Prop := buildNoneUptoRow.holds Tryz.pinned (OpenSpec.upto buildNoneSpec)

end Rows
end Go.Proofs.YtipnljhelbjmaaaGreat
