/-
  No cell of these rows narrows 'for every input' (looked for: loops, veiled, ifaces, maps, wideKeys, modest, calm, conditions, laid).
  DERIVED. THE GIVEN ROWS OF THIS SEAT. 12 by the template 'for every input the law returns true; each argument reads behind the call as it read before'; 0 by the template 'total and deterministic' (their statements: YthmbgodcpgkkeaaGreatTotals.lean).
  GIVEN WITH THE SEED: the statements are not yours to turn. If you find one false, say at which input.
  Laid BY PROGRAM, IN A SANDBOX (cutbox-rows.mjs): the forced cells as the released guide's own fill.sh prints them over the translation 45919dcd56dc1897… (all of the seat's roots in one cut). By AI agents, Wed Nov 11 2026. No macro, syntax, notation, axiom, sorry.
-/
import Derived.Test.YthmbgodcpgkkeaaGreatChecked
import GoSem.Claim
import GoSem.ClaimJoined
import GoSem.ClaimMapViews
import Derived.JoinedTies
import Derived.KernelRfl
namespace Go.Proofs.YthmbgodcpgkkeaaGreat
/- THE CELL 'sum', in the pinned program and in every row, IS THE sha256 OF THE DUMP (.gsa) THAT YthmbgodcpgkkeaaGreatProg.lean LOADS. Nothing in Lean hashes anything: it is a label: what it is worth is what the hold of that sum in a sandbox is worth. -/
noncomputable def Tryz.pinned : Pinned := { name := "ythmbgodcpgkkeaagreat", sum := "45919dcd56dc1897c7dfedad189e62f821e1229f9b2c2b6e391f31665ede0bf6", checked := Tryz.checked }
namespace Rows
def none {H : Type} : Left H := { results := [], args := [] }

/-- 'tumblerlaw11.ExecPlays': WHATEVER THE INPUT: true; the input reads as it did. -/
def execPlaysSpec : ChangeSpec := { name := "execPlays", fn := fun _ => fun
  | [d1, d2, d3, d4, d5, d6] => { results := [.lit (.bool true)], args := [d1, d2, d3, d4, d5, d6] }
  | _ => none }
def execPlaysRow : OpenClaim := { program := "ythmbgodcpgkkeaagreat", sum := "45919dcd56dc1897c7dfedad189e62f821e1229f9b2c2b6e391f31665ede0bf6", func := "tumbler/tumblerlaw11.ExecPlays", spec := "execPlays", recurses := true, plainKeys := false, apart := false }
def ExecPlaysSaid : Prop := execPlaysRow.holds Tryz.pinned (OpenSpec.ofChange execPlaysSpec)

/-- ITS FALSE NEIGHBOUR: 'it returns false'. Refute it at one input. -/
def execPlaysWrong : ChangeSpec := { name := "execPlays", fn := fun _ => fun
  | [d1, d2, d3, d4, d5, d6] => { results := [.lit (.bool false)], args := [d1, d2, d3, d4, d5, d6] }
  | _ => none }
def ExecPlaysWrongFalsely : Prop := execPlaysRow.holds Tryz.pinned (OpenSpec.ofChange execPlaysWrong)

/-- 'tumblerlaw14.BuildPlays': WHATEVER THE INPUT: true; the input reads as it did. -/
def buildPlaysSpec : ChangeSpec := { name := "buildPlays", fn := fun _ => fun
  | [d1, d2, d3, d4, d5] => { results := [.lit (.bool true)], args := [d1, d2, d3, d4, d5] }
  | _ => none }
def buildPlaysRow : OpenClaim := { program := "ythmbgodcpgkkeaagreat", sum := "45919dcd56dc1897c7dfedad189e62f821e1229f9b2c2b6e391f31665ede0bf6", func := "tumbler/tumblerlaw14.BuildPlays", spec := "buildPlays", recurses := true, plainKeys := false, apart := false }
def BuildPlaysSaid : Prop := buildPlaysRow.holds Tryz.pinned (OpenSpec.ofChange buildPlaysSpec)

/-- ITS FALSE NEIGHBOUR: 'it returns false'. Refute it at one input. -/
def buildPlaysWrong : ChangeSpec := { name := "buildPlays", fn := fun _ => fun
  | [d1, d2, d3, d4, d5] => { results := [.lit (.bool false)], args := [d1, d2, d3, d4, d5] }
  | _ => none }
def BuildPlaysWrongFalsely : Prop := buildPlaysRow.holds Tryz.pinned (OpenSpec.ofChange buildPlaysWrong)

/-- 'tumblerlaw14.BuildNone': WHATEVER THE INPUT: true; the input reads as it did. -/
def buildNoneSpec : ChangeSpec := { name := "buildNone", fn := fun _ => fun
  | [d1, d2, d3, d4] => { results := [.lit (.bool true)], args := [d1, d2, d3, d4] }
  | _ => none }
def buildNoneRow : OpenClaim := { program := "ythmbgodcpgkkeaagreat", sum := "45919dcd56dc1897c7dfedad189e62f821e1229f9b2c2b6e391f31665ede0bf6", func := "tumbler/tumblerlaw14.BuildNone", spec := "buildNone", plainKeys := false, apart := false }
def BuildNoneSaid : Prop := buildNoneRow.holds Tryz.pinned (OpenSpec.ofChange buildNoneSpec)

/-- ITS FALSE NEIGHBOUR: 'it returns false'. Refute it at one input. -/
def buildNoneWrong : ChangeSpec := { name := "buildNone", fn := fun _ => fun
  | [d1, d2, d3, d4] => { results := [.lit (.bool false)], args := [d1, d2, d3, d4] }
  | _ => none }
def BuildNoneWrongFalsely : Prop := buildNoneRow.holds Tryz.pinned (OpenSpec.ofChange buildNoneWrong)

/-- 'tumblerlaw14.BuildSerial': WHATEVER THE INPUT: true; the input reads as it did. -/
def buildSerialSpec : ChangeSpec := { name := "buildSerial", fn := fun _ => fun
  | [d1, d2, d3, d4] => { results := [.lit (.bool true)], args := [d1, d2, d3, d4] }
  | _ => none }
def buildSerialRow : OpenClaim := { program := "ythmbgodcpgkkeaagreat", sum := "45919dcd56dc1897c7dfedad189e62f821e1229f9b2c2b6e391f31665ede0bf6", func := "tumbler/tumblerlaw14.BuildSerial", spec := "buildSerial", inPlace := ["maps.clone"], plainKeys := false, apart := false }
def BuildSerialSaid : Prop := buildSerialRow.holds Tryz.pinned (OpenSpec.ofChange buildSerialSpec)

/-- ITS FALSE NEIGHBOUR: 'it returns false'. Refute it at one input. -/
def buildSerialWrong : ChangeSpec := { name := "buildSerial", fn := fun _ => fun
  | [d1, d2, d3, d4] => { results := [.lit (.bool false)], args := [d1, d2, d3, d4] }
  | _ => none }
def BuildSerialWrongFalsely : Prop := buildSerialRow.holds Tryz.pinned (OpenSpec.ofChange buildSerialWrong)

/-- 'tumblerlaw15.CallPlays': WHATEVER THE INPUT: true; the input reads as it did. -/
def callPlaysSpec : ChangeSpec := { name := "callPlays", fn := fun _ => fun
  | [d1, d2, d3, d4, d5, d6] => { results := [.lit (.bool true)], args := [d1, d2, d3, d4, d5, d6] }
  | _ => none }
def callPlaysRow : OpenClaim := { program := "ythmbgodcpgkkeaagreat", sum := "45919dcd56dc1897c7dfedad189e62f821e1229f9b2c2b6e391f31665ede0bf6", func := "tumbler/tumblerlaw15.CallPlays", spec := "callPlays", unfollowed := true, recurses := true, plainKeys := false, apart := false }
def CallPlaysSaid : Prop := callPlaysRow.holds Tryz.pinned (OpenSpec.ofChange callPlaysSpec)

/-- ITS FALSE NEIGHBOUR: 'it returns false'. Refute it at one input. -/
def callPlaysWrong : ChangeSpec := { name := "callPlays", fn := fun _ => fun
  | [d1, d2, d3, d4, d5, d6] => { results := [.lit (.bool false)], args := [d1, d2, d3, d4, d5, d6] }
  | _ => none }
def CallPlaysWrongFalsely : Prop := callPlaysRow.holds Tryz.pinned (OpenSpec.ofChange callPlaysWrong)

/-- 'tumblerlaw11.ExecSerial': WHATEVER THE INPUT: true; the input reads as it did. -/
def execSerialSpec : ChangeSpec := { name := "execSerial", fn := fun _ => fun
  | [d1, d2] => { results := [.lit (.bool true)], args := [d1, d2] }
  | _ => none }
def execSerialRow : OpenClaim := { program := "ythmbgodcpgkkeaagreat", sum := "45919dcd56dc1897c7dfedad189e62f821e1229f9b2c2b6e391f31665ede0bf6", func := "tumbler/tumblerlaw11.ExecSerial", spec := "execSerial", inPlace := ["maps.clone"], unfollowed := true, recurses := true, plainKeys := false, apart := false }
def ExecSerialSaid : Prop := execSerialRow.holds Tryz.pinned (OpenSpec.ofChange execSerialSpec)

/-- ITS FALSE NEIGHBOUR: 'it returns false'. Refute it at one input. -/
def execSerialWrong : ChangeSpec := { name := "execSerial", fn := fun _ => fun
  | [d1, d2] => { results := [.lit (.bool false)], args := [d1, d2] }
  | _ => none }
def ExecSerialWrongFalsely : Prop := execSerialRow.holds Tryz.pinned (OpenSpec.ofChange execSerialWrong)

/-- 'tumblerlaw11.ExecRows': WHATEVER THE INPUT: true; the input reads as it did. -/
def execRowsSpec : ChangeSpec := { name := "execRows", fn := fun _ => fun
  | [d1, d2] => { results := [.lit (.bool true)], args := [d1, d2] }
  | _ => none }
def execRowsRow : OpenClaim := { program := "ythmbgodcpgkkeaagreat", sum := "45919dcd56dc1897c7dfedad189e62f821e1229f9b2c2b6e391f31665ede0bf6", func := "tumbler/tumblerlaw11.ExecRows", spec := "execRows", inPlace := ["maps.clone"], unfollowed := true, recurses := true, plainKeys := false, apart := false }
def ExecRowsSaid : Prop := execRowsRow.holds Tryz.pinned (OpenSpec.ofChange execRowsSpec)

/-- ITS FALSE NEIGHBOUR: 'it returns false'. Refute it at one input. -/
def execRowsWrong : ChangeSpec := { name := "execRows", fn := fun _ => fun
  | [d1, d2] => { results := [.lit (.bool false)], args := [d1, d2] }
  | _ => none }
def ExecRowsWrongFalsely : Prop := execRowsRow.holds Tryz.pinned (OpenSpec.ofChange execRowsWrong)

/-- 'tumblerlaw15.CallSerial': WHATEVER THE INPUT: true; the input reads as it did. -/
def callSerialSpec : ChangeSpec := { name := "callSerial", fn := fun _ => fun
  | [d1, d2, d3] => { results := [.lit (.bool true)], args := [d1, d2, d3] }
  | _ => none }
def callSerialRow : OpenClaim := { program := "ythmbgodcpgkkeaagreat", sum := "45919dcd56dc1897c7dfedad189e62f821e1229f9b2c2b6e391f31665ede0bf6", func := "tumbler/tumblerlaw15.CallSerial", spec := "callSerial", inPlace := ["maps.clone"], unfollowed := true, recurses := true, plainKeys := false, apart := false }
def CallSerialSaid : Prop := callSerialRow.holds Tryz.pinned (OpenSpec.ofChange callSerialSpec)

/-- ITS FALSE NEIGHBOUR: 'it returns false'. Refute it at one input. -/
def callSerialWrong : ChangeSpec := { name := "callSerial", fn := fun _ => fun
  | [d1, d2, d3] => { results := [.lit (.bool false)], args := [d1, d2, d3] }
  | _ => none }
def CallSerialWrongFalsely : Prop := callSerialRow.holds Tryz.pinned (OpenSpec.ofChange callSerialWrong)

/-- 'tumblerlaw15.CallPairs': WHATEVER THE INPUT: true; the input reads as it did. -/
def callPairsSpec : ChangeSpec := { name := "callPairs", fn := fun _ => fun
  | [d1, d2, d3, d4, d5] => { results := [.lit (.bool true)], args := [d1, d2, d3, d4, d5] }
  | _ => none }
def callPairsRow : OpenClaim := { program := "ythmbgodcpgkkeaagreat", sum := "45919dcd56dc1897c7dfedad189e62f821e1229f9b2c2b6e391f31665ede0bf6", func := "tumbler/tumblerlaw15.CallPairs", spec := "callPairs", inPlace := ["maps.clone"], unfollowed := true, recurses := true, plainKeys := false, apart := false }
def CallPairsSaid : Prop := callPairsRow.holds Tryz.pinned (OpenSpec.ofChange callPairsSpec)

/-- ITS FALSE NEIGHBOUR: 'it returns false'. Refute it at one input. -/
def callPairsWrong : ChangeSpec := { name := "callPairs", fn := fun _ => fun
  | [d1, d2, d3, d4, d5] => { results := [.lit (.bool false)], args := [d1, d2, d3, d4, d5] }
  | _ => none }
def CallPairsWrongFalsely : Prop := callPairsRow.holds Tryz.pinned (OpenSpec.ofChange callPairsWrong)

/-- 'tumblerlaw16.SchedPlays': WHATEVER THE INPUT: true; the input reads as it did. -/
def schedPlaysSpec : ChangeSpec := { name := "schedPlays", fn := fun _ => fun
  | [d1, d2, d3, d4] => { results := [.lit (.bool true)], args := [d1, d2, d3, d4] }
  | _ => none }
def schedPlaysRow : OpenClaim := { program := "ythmbgodcpgkkeaagreat", sum := "45919dcd56dc1897c7dfedad189e62f821e1229f9b2c2b6e391f31665ede0bf6", func := "tumbler/tumblerlaw16.SchedPlays", spec := "schedPlays", unfollowed := true, recurses := true, plainKeys := false, apart := false }
def SchedPlaysSaid : Prop := schedPlaysRow.holds Tryz.pinned (OpenSpec.ofChange schedPlaysSpec)

/-- ITS FALSE NEIGHBOUR: 'it returns false'. Refute it at one input. -/
def schedPlaysWrong : ChangeSpec := { name := "schedPlays", fn := fun _ => fun
  | [d1, d2, d3, d4] => { results := [.lit (.bool false)], args := [d1, d2, d3, d4] }
  | _ => none }
def SchedPlaysWrongFalsely : Prop := schedPlaysRow.holds Tryz.pinned (OpenSpec.ofChange schedPlaysWrong)

/-- 'tumblerlaw16.SchedOrders': WHATEVER THE INPUT: true; the input reads as it did. -/
def schedOrdersSpec : ChangeSpec := { name := "schedOrders", fn := fun _ => fun
  | [d1, d2, d3, d4] => { results := [.lit (.bool true)], args := [d1, d2, d3, d4] }
  | _ => none }
def schedOrdersRow : OpenClaim := { program := "ythmbgodcpgkkeaagreat", sum := "45919dcd56dc1897c7dfedad189e62f821e1229f9b2c2b6e391f31665ede0bf6", func := "tumbler/tumblerlaw16.SchedOrders", spec := "schedOrders", inPlace := ["maps.clone"], unfollowed := true, recurses := true, plainKeys := false, apart := false }
def SchedOrdersSaid : Prop := schedOrdersRow.holds Tryz.pinned (OpenSpec.ofChange schedOrdersSpec)

/-- ITS FALSE NEIGHBOUR: 'it returns false'. Refute it at one input. -/
def schedOrdersWrong : ChangeSpec := { name := "schedOrders", fn := fun _ => fun
  | [d1, d2, d3, d4] => { results := [.lit (.bool false)], args := [d1, d2, d3, d4] }
  | _ => none }
def SchedOrdersWrongFalsely : Prop := schedOrdersRow.holds Tryz.pinned (OpenSpec.ofChange schedOrdersWrong)

/-- 'tumblerlaw16.SchedBounds': WHATEVER THE INPUT: true; the input reads as it did. -/
def schedBoundsSpec : ChangeSpec := { name := "schedBounds", fn := fun _ => fun
  | [d1, d2, d3, d4] => { results := [.lit (.bool true)], args := [d1, d2, d3, d4] }
  | _ => none }
def schedBoundsRow : OpenClaim := { program := "ythmbgodcpgkkeaagreat", sum := "45919dcd56dc1897c7dfedad189e62f821e1229f9b2c2b6e391f31665ede0bf6", func := "tumbler/tumblerlaw16.SchedBounds", spec := "schedBounds", inPlace := ["maps.clone"], unfollowed := true, recurses := true, plainKeys := false, apart := false }
def SchedBoundsSaid : Prop := schedBoundsRow.holds Tryz.pinned (OpenSpec.ofChange schedBoundsSpec)

/-- ITS FALSE NEIGHBOUR: 'it returns false'. Refute it at one input. -/
def schedBoundsWrong : ChangeSpec := { name := "schedBounds", fn := fun _ => fun
  | [d1, d2, d3, d4] => { results := [.lit (.bool false)], args := [d1, d2, d3, d4] }
  | _ => none }
def SchedBoundsWrongFalsely : Prop := schedBoundsRow.holds Tryz.pinned (OpenSpec.ofChange schedBoundsWrong)

/- THE SECOND FORM. 'bulk': how many values and letters a reading holds, each counted each time it is reached (what is shared counts as often as it is met; a slice's spare places count too). A statement '..UptoSaid' is the law's where the arguments, and the package variables that the reading takes, are together of bulk at most 1048576: NARROWER than '..Said'. Prove '..Said' where nothing that the law and all that it calls make is longer than what came in: it says more and counts as full. Else prove '..UptoSaid'. A law counts once. -/
mutual
def uptoBulk {H : Type} : DataW H → Nat
  | .lit (.string bytes) => bytes.length + 1
  | .lit _ => 1
  | .nil => 1
  | .ptr d => uptoBulk d + 1
  | .slice elems spare => uptoBulkAll elems + uptoBulkAll spare + 1
  | .agg parts => uptoBulkAll parts + 1
  | .iface _ d => uptoBulk d + 1
  | .map entries => uptoBulkEntries entries + 1
  | .held _ => 1
def uptoBulkAll {H : Type} : List (DataW H) → Nat
  | [] => 0
  | d :: r => uptoBulk d + uptoBulkAll r
def uptoBulkEntries {H : Type} : List (Lit × DataW H) → Nat
  | [] => 0
  | x :: r => uptoBulkEntry x + uptoBulkEntries r
def uptoBulkEntry {H : Type} : Lit × DataW H → Nat
  | (.string bytes, d) => bytes.length + uptoBulk d + 1
  | (_, d) => uptoBulk d + 1
 end
def uptoSmall : (H : Type) → List (DataW H) → Bool := fun _ ds => decide (uptoBulkAll ds ≤ 1048576)
def OpenSpec.upto (s : _root_.Go.ChangeSpec) : _root_.Go.OpenSpec := { _root_.Go.OpenSpec.ofChange s with cond := some uptoSmall }

/-- 'tumblerlaw11.ExecPlays', WHERE WHAT IT READS IS OF BULK AT MOST 1048576: true; the input reads as it did. -/
def execPlaysUptoRow : OpenClaim := { program := "ythmbgodcpgkkeaagreat", sum := "45919dcd56dc1897c7dfedad189e62f821e1229f9b2c2b6e391f31665ede0bf6", func := "tumbler/tumblerlaw11.ExecPlays", spec := "execPlays", recurses := true, plainKeys := false, apart := false, narrowed := true }
def ExecPlaysUptoSaid : Prop := execPlaysUptoRow.holds Tryz.pinned (OpenSpec.upto execPlaysSpec)

/-- 'tumblerlaw14.BuildPlays', WHERE WHAT IT READS IS OF BULK AT MOST 1048576: true; the input reads as it did. -/
def buildPlaysUptoRow : OpenClaim := { program := "ythmbgodcpgkkeaagreat", sum := "45919dcd56dc1897c7dfedad189e62f821e1229f9b2c2b6e391f31665ede0bf6", func := "tumbler/tumblerlaw14.BuildPlays", spec := "buildPlays", recurses := true, plainKeys := false, apart := false, narrowed := true }
def BuildPlaysUptoSaid : Prop := buildPlaysUptoRow.holds Tryz.pinned (OpenSpec.upto buildPlaysSpec)

/-- 'tumblerlaw14.BuildNone', WHERE WHAT IT READS IS OF BULK AT MOST 1048576: true; the input reads as it did. -/
def buildNoneUptoRow : OpenClaim := { program := "ythmbgodcpgkkeaagreat", sum := "45919dcd56dc1897c7dfedad189e62f821e1229f9b2c2b6e391f31665ede0bf6", func := "tumbler/tumblerlaw14.BuildNone", spec := "buildNone", plainKeys := false, apart := false, narrowed := true }
def BuildNoneUptoSaid : Prop := buildNoneUptoRow.holds Tryz.pinned (OpenSpec.upto buildNoneSpec)

/-- 'tumblerlaw14.BuildSerial', WHERE WHAT IT READS IS OF BULK AT MOST 1048576: true; the input reads as it did. -/
def buildSerialUptoRow : OpenClaim := { program := "ythmbgodcpgkkeaagreat", sum := "45919dcd56dc1897c7dfedad189e62f821e1229f9b2c2b6e391f31665ede0bf6", func := "tumbler/tumblerlaw14.BuildSerial", spec := "buildSerial", inPlace := ["maps.clone"], plainKeys := false, apart := false, narrowed := true }
def BuildSerialUptoSaid : Prop := buildSerialUptoRow.holds Tryz.pinned (OpenSpec.upto buildSerialSpec)

/-- 'tumblerlaw15.CallPlays', WHERE WHAT IT READS IS OF BULK AT MOST 1048576: true; the input reads as it did. -/
def callPlaysUptoRow : OpenClaim := { program := "ythmbgodcpgkkeaagreat", sum := "45919dcd56dc1897c7dfedad189e62f821e1229f9b2c2b6e391f31665ede0bf6", func := "tumbler/tumblerlaw15.CallPlays", spec := "callPlays", unfollowed := true, recurses := true, plainKeys := false, apart := false, narrowed := true }
def CallPlaysUptoSaid : Prop := callPlaysUptoRow.holds Tryz.pinned (OpenSpec.upto callPlaysSpec)

/-- 'tumblerlaw11.ExecSerial', WHERE WHAT IT READS IS OF BULK AT MOST 1048576: true; the input reads as it did. -/
def execSerialUptoRow : OpenClaim := { program := "ythmbgodcpgkkeaagreat", sum := "45919dcd56dc1897c7dfedad189e62f821e1229f9b2c2b6e391f31665ede0bf6", func := "tumbler/tumblerlaw11.ExecSerial", spec := "execSerial", inPlace := ["maps.clone"], unfollowed := true, recurses := true, plainKeys := false, apart := false, narrowed := true }
def ExecSerialUptoSaid : Prop := execSerialUptoRow.holds Tryz.pinned (OpenSpec.upto execSerialSpec)

/-- 'tumblerlaw11.ExecRows', WHERE WHAT IT READS IS OF BULK AT MOST 1048576: true; the input reads as it did. -/
def execRowsUptoRow : OpenClaim := { program := "ythmbgodcpgkkeaagreat", sum := "45919dcd56dc1897c7dfedad189e62f821e1229f9b2c2b6e391f31665ede0bf6", func := "tumbler/tumblerlaw11.ExecRows", spec := "execRows", inPlace := ["maps.clone"], unfollowed := true, recurses := true, plainKeys := false, apart := false, narrowed := true }
def ExecRowsUptoSaid : Prop := execRowsUptoRow.holds Tryz.pinned (OpenSpec.upto execRowsSpec)

/-- 'tumblerlaw15.CallSerial', WHERE WHAT IT READS IS OF BULK AT MOST 1048576: true; the input reads as it did. -/
def callSerialUptoRow : OpenClaim := { program := "ythmbgodcpgkkeaagreat", sum := "45919dcd56dc1897c7dfedad189e62f821e1229f9b2c2b6e391f31665ede0bf6", func := "tumbler/tumblerlaw15.CallSerial", spec := "callSerial", inPlace := ["maps.clone"], unfollowed := true, recurses := true, plainKeys := false, apart := false, narrowed := true }
def CallSerialUptoSaid : Prop := callSerialUptoRow.holds Tryz.pinned (OpenSpec.upto callSerialSpec)

/-- 'tumblerlaw15.CallPairs', WHERE WHAT IT READS IS OF BULK AT MOST 1048576: true; the input reads as it did. -/
def callPairsUptoRow : OpenClaim := { program := "ythmbgodcpgkkeaagreat", sum := "45919dcd56dc1897c7dfedad189e62f821e1229f9b2c2b6e391f31665ede0bf6", func := "tumbler/tumblerlaw15.CallPairs", spec := "callPairs", inPlace := ["maps.clone"], unfollowed := true, recurses := true, plainKeys := false, apart := false, narrowed := true }
def CallPairsUptoSaid : Prop := callPairsUptoRow.holds Tryz.pinned (OpenSpec.upto callPairsSpec)

/-- 'tumblerlaw16.SchedPlays', WHERE WHAT IT READS IS OF BULK AT MOST 1048576: true; the input reads as it did. -/
def schedPlaysUptoRow : OpenClaim := { program := "ythmbgodcpgkkeaagreat", sum := "45919dcd56dc1897c7dfedad189e62f821e1229f9b2c2b6e391f31665ede0bf6", func := "tumbler/tumblerlaw16.SchedPlays", spec := "schedPlays", unfollowed := true, recurses := true, plainKeys := false, apart := false, narrowed := true }
def SchedPlaysUptoSaid : Prop := schedPlaysUptoRow.holds Tryz.pinned (OpenSpec.upto schedPlaysSpec)

/-- 'tumblerlaw16.SchedOrders', WHERE WHAT IT READS IS OF BULK AT MOST 1048576: true; the input reads as it did. -/
def schedOrdersUptoRow : OpenClaim := { program := "ythmbgodcpgkkeaagreat", sum := "45919dcd56dc1897c7dfedad189e62f821e1229f9b2c2b6e391f31665ede0bf6", func := "tumbler/tumblerlaw16.SchedOrders", spec := "schedOrders", inPlace := ["maps.clone"], unfollowed := true, recurses := true, plainKeys := false, apart := false, narrowed := true }
def SchedOrdersUptoSaid : Prop := schedOrdersUptoRow.holds Tryz.pinned (OpenSpec.upto schedOrdersSpec)

/-- 'tumblerlaw16.SchedBounds', WHERE WHAT IT READS IS OF BULK AT MOST 1048576: true; the input reads as it did. -/
def schedBoundsUptoRow : OpenClaim := { program := "ythmbgodcpgkkeaagreat", sum := "45919dcd56dc1897c7dfedad189e62f821e1229f9b2c2b6e391f31665ede0bf6", func := "tumbler/tumblerlaw16.SchedBounds", spec := "schedBounds", inPlace := ["maps.clone"], unfollowed := true, recurses := true, plainKeys := false, apart := false, narrowed := true }
def SchedBoundsUptoSaid : Prop := schedBoundsUptoRow.holds Tryz.pinned (OpenSpec.upto schedBoundsSpec)

end Rows
end Go.Proofs.YthmbgodcpgkkeaaGreat
