/-
  No cell of these rows narrows 'for every input' (looked for: loops, veiled, ifaces, maps, wideKeys, modest, calm, conditions, laid).
  DERIVED. THE GIVEN ROWS OF THIS SEAT. 11 by the template 'for every input the law returns true; each argument reads behind the call as it read before'; 0 by the template 'total and deterministic' (their statements: YtemaaenipjinaaaGreatTotals.lean).
  GIVEN WITH THE SEED: the statements are not yours to turn. If you find one false, say at which input.
  Laid BY PROGRAM, IN A SANDBOX (cutbox-rows.mjs): the forced cells as the released guide's own fill.sh prints them over the translation f90079c3ff75f935… (all of the seat's roots in one cut). By AI agents, Wed Nov 11 2026. No macro, syntax, notation, axiom, sorry.
-/
import Derived.Test.YtemaaenipjinaaaGreatChecked
import GoSem.Claim
import GoSem.ClaimJoined
import GoSem.ClaimMapViews
import Derived.JoinedTies
import Derived.KernelRfl
namespace Go.Proofs.YtemaaenipjinaaaGreat
/- THE CELL 'sum', in the pinned program and in every row, IS THE sha256 OF THE DUMP (.gsa) THAT YtemaaenipjinaaaGreatProg.lean LOADS. Nothing in Lean hashes anything: it is a label: what it is worth is what the hold of that sum in a sandbox is worth. -/
noncomputable def Tryz.pinned : Pinned := { name := "ytemaaenipjinaaagreat", sum := "f90079c3ff75f935aa7c9da9674a3faac537b799eb5441b24954cdbc814f075a", checked := Tryz.checked }
namespace Rows
def none {H : Type} : Left H := { results := [], args := [] }

/-- 'tumblerlaw15.CallPlays': WHATEVER THE INPUT: true; the input reads as it did. -/
def callPlaysSpec : ChangeSpec := { name := "callPlays", fn := fun _ => fun
  | [d1, d2, d3, d4, d5, d6] => { results := [.lit (.bool true)], args := [d1, d2, d3, d4, d5, d6] }
  | _ => none }
def callPlaysRow : OpenClaim := { program := "ytemaaenipjinaaagreat", sum := "f90079c3ff75f935aa7c9da9674a3faac537b799eb5441b24954cdbc814f075a", func := "tumbler/tumblerlaw15.CallPlays", spec := "callPlays", unfollowed := true, recurses := true, plainKeys := false, apart := false }
def CallPlaysSaid : Prop := callPlaysRow.holds Tryz.pinned (OpenSpec.ofChange callPlaysSpec)

/-- ITS FALSE NEIGHBOUR: 'it returns false'. Refute it at one input. -/
def callPlaysWrong : ChangeSpec := { name := "callPlays", fn := fun _ => fun
  | [d1, d2, d3, d4, d5, d6] => { results := [.lit (.bool false)], args := [d1, d2, d3, d4, d5, d6] }
  | _ => none }
def CallPlaysWrongFalsely : Prop := callPlaysRow.holds Tryz.pinned (OpenSpec.ofChange callPlaysWrong)

/-- 'tumblerlaw15.CallBounds': WHATEVER THE INPUT: true; the input reads as it did. -/
def callBoundsSpec : ChangeSpec := { name := "callBounds", fn := fun _ => fun
  | [d] => { results := [.lit (.bool true)], args := [d] }
  | _ => none }
def callBoundsRow : OpenClaim := { program := "ytemaaenipjinaaagreat", sum := "f90079c3ff75f935aa7c9da9674a3faac537b799eb5441b24954cdbc814f075a", func := "tumbler/tumblerlaw15.CallBounds", spec := "callBounds", unfollowed := true, recurses := true, plainKeys := false, apart := false }
def CallBoundsSaid : Prop := callBoundsRow.holds Tryz.pinned (OpenSpec.ofChange callBoundsSpec)

/-- ITS FALSE NEIGHBOUR: 'it returns false'. Refute it at one input. -/
def callBoundsWrong : ChangeSpec := { name := "callBounds", fn := fun _ => fun
  | [d] => { results := [.lit (.bool false)], args := [d] }
  | _ => none }
def CallBoundsWrongFalsely : Prop := callBoundsRow.holds Tryz.pinned (OpenSpec.ofChange callBoundsWrong)

/-- 'tumblerlaw15.CallTouches': WHATEVER THE INPUT: true; the input reads as it did. -/
def callTouchesSpec : ChangeSpec := { name := "callTouches", fn := fun _ => fun
  | [d1, d2, d3, d4, d5, d6] => { results := [.lit (.bool true)], args := [d1, d2, d3, d4, d5, d6] }
  | _ => none }
def callTouchesRow : OpenClaim := { program := "ytemaaenipjinaaagreat", sum := "f90079c3ff75f935aa7c9da9674a3faac537b799eb5441b24954cdbc814f075a", func := "tumbler/tumblerlaw15.CallTouches", spec := "callTouches", unfollowed := true, recurses := true, plainKeys := false, apart := false }
def CallTouchesSaid : Prop := callTouchesRow.holds Tryz.pinned (OpenSpec.ofChange callTouchesSpec)

/-- ITS FALSE NEIGHBOUR: 'it returns false'. Refute it at one input. -/
def callTouchesWrong : ChangeSpec := { name := "callTouches", fn := fun _ => fun
  | [d1, d2, d3, d4, d5, d6] => { results := [.lit (.bool false)], args := [d1, d2, d3, d4, d5, d6] }
  | _ => none }
def CallTouchesWrongFalsely : Prop := callTouchesRow.holds Tryz.pinned (OpenSpec.ofChange callTouchesWrong)

/-- 'tumblerlaw15.CallSerial': WHATEVER THE INPUT: true; the input reads as it did. -/
def callSerialSpec : ChangeSpec := { name := "callSerial", fn := fun _ => fun
  | [d1, d2, d3] => { results := [.lit (.bool true)], args := [d1, d2, d3] }
  | _ => none }
def callSerialRow : OpenClaim := { program := "ytemaaenipjinaaagreat", sum := "f90079c3ff75f935aa7c9da9674a3faac537b799eb5441b24954cdbc814f075a", func := "tumbler/tumblerlaw15.CallSerial", spec := "callSerial", inPlace := ["maps.clone"], unfollowed := true, recurses := true, plainKeys := false, apart := false }
def CallSerialSaid : Prop := callSerialRow.holds Tryz.pinned (OpenSpec.ofChange callSerialSpec)

/-- ITS FALSE NEIGHBOUR: 'it returns false'. Refute it at one input. -/
def callSerialWrong : ChangeSpec := { name := "callSerial", fn := fun _ => fun
  | [d1, d2, d3] => { results := [.lit (.bool false)], args := [d1, d2, d3] }
  | _ => none }
def CallSerialWrongFalsely : Prop := callSerialRow.holds Tryz.pinned (OpenSpec.ofChange callSerialWrong)

/-- 'tumblerlaw15.CallPairs': WHATEVER THE INPUT: true; the input reads as it did. -/
def callPairsSpec : ChangeSpec := { name := "callPairs", fn := fun _ => fun
  | [d1, d2, d3, d4, d5] => { results := [.lit (.bool true)], args := [d1, d2, d3, d4, d5] }
  | _ => none }
def callPairsRow : OpenClaim := { program := "ytemaaenipjinaaagreat", sum := "f90079c3ff75f935aa7c9da9674a3faac537b799eb5441b24954cdbc814f075a", func := "tumbler/tumblerlaw15.CallPairs", spec := "callPairs", inPlace := ["maps.clone"], unfollowed := true, recurses := true, plainKeys := false, apart := false }
def CallPairsSaid : Prop := callPairsRow.holds Tryz.pinned (OpenSpec.ofChange callPairsSpec)

/-- ITS FALSE NEIGHBOUR: 'it returns false'. Refute it at one input. -/
def callPairsWrong : ChangeSpec := { name := "callPairs", fn := fun _ => fun
  | [d1, d2, d3, d4, d5] => { results := [.lit (.bool false)], args := [d1, d2, d3, d4, d5] }
  | _ => none }
def CallPairsWrongFalsely : Prop := callPairsRow.holds Tryz.pinned (OpenSpec.ofChange callPairsWrong)

/-- 'tumblerlaw16.SchedLetters': WHATEVER THE INPUT: true; the input reads as it did. -/
def schedLettersSpec : ChangeSpec := { name := "schedLetters", fn := fun _ => fun
  | [d1, d2, d3, d4, d5] => { results := [.lit (.bool true)], args := [d1, d2, d3, d4, d5] }
  | _ => none }
def schedLettersRow : OpenClaim := { program := "ytemaaenipjinaaagreat", sum := "f90079c3ff75f935aa7c9da9674a3faac537b799eb5441b24954cdbc814f075a", func := "tumbler/tumblerlaw16.SchedLetters", spec := "schedLetters", unfollowed := true, recurses := true, plainKeys := false, apart := false }
def SchedLettersSaid : Prop := schedLettersRow.holds Tryz.pinned (OpenSpec.ofChange schedLettersSpec)

/-- ITS FALSE NEIGHBOUR: 'it returns false'. Refute it at one input. -/
def schedLettersWrong : ChangeSpec := { name := "schedLetters", fn := fun _ => fun
  | [d1, d2, d3, d4, d5] => { results := [.lit (.bool false)], args := [d1, d2, d3, d4, d5] }
  | _ => none }
def SchedLettersWrongFalsely : Prop := schedLettersRow.holds Tryz.pinned (OpenSpec.ofChange schedLettersWrong)

/-- 'tumblerlaw16.SchedPrefix': WHATEVER THE INPUT: true; the input reads as it did. -/
def schedPrefixSpec : ChangeSpec := { name := "schedPrefix", fn := fun _ => fun
  | [d1, d2, d3, d4, d5] => { results := [.lit (.bool true)], args := [d1, d2, d3, d4, d5] }
  | _ => none }
def schedPrefixRow : OpenClaim := { program := "ytemaaenipjinaaagreat", sum := "f90079c3ff75f935aa7c9da9674a3faac537b799eb5441b24954cdbc814f075a", func := "tumbler/tumblerlaw16.SchedPrefix", spec := "schedPrefix", unfollowed := true, recurses := true, plainKeys := false, apart := false }
def SchedPrefixSaid : Prop := schedPrefixRow.holds Tryz.pinned (OpenSpec.ofChange schedPrefixSpec)

/-- ITS FALSE NEIGHBOUR: 'it returns false'. Refute it at one input. -/
def schedPrefixWrong : ChangeSpec := { name := "schedPrefix", fn := fun _ => fun
  | [d1, d2, d3, d4, d5] => { results := [.lit (.bool false)], args := [d1, d2, d3, d4, d5] }
  | _ => none }
def SchedPrefixWrongFalsely : Prop := schedPrefixRow.holds Tryz.pinned (OpenSpec.ofChange schedPrefixWrong)

/-- 'tumblerlaw16.SchedSame': WHATEVER THE INPUT: true; the input reads as it did. -/
def schedSameSpec : ChangeSpec := { name := "schedSame", fn := fun _ => fun
  | [d1, d2, d3, d4] => { results := [.lit (.bool true)], args := [d1, d2, d3, d4] }
  | _ => none }
def schedSameRow : OpenClaim := { program := "ytemaaenipjinaaagreat", sum := "f90079c3ff75f935aa7c9da9674a3faac537b799eb5441b24954cdbc814f075a", func := "tumbler/tumblerlaw16.SchedSame", spec := "schedSame", unfollowed := true, recurses := true, plainKeys := false, apart := false }
def SchedSameSaid : Prop := schedSameRow.holds Tryz.pinned (OpenSpec.ofChange schedSameSpec)

/-- ITS FALSE NEIGHBOUR: 'it returns false'. Refute it at one input. -/
def schedSameWrong : ChangeSpec := { name := "schedSame", fn := fun _ => fun
  | [d1, d2, d3, d4] => { results := [.lit (.bool false)], args := [d1, d2, d3, d4] }
  | _ => none }
def SchedSameWrongFalsely : Prop := schedSameRow.holds Tryz.pinned (OpenSpec.ofChange schedSameWrong)

/-- 'tumblerlaw16.SchedPlays': WHATEVER THE INPUT: true; the input reads as it did. -/
def schedPlaysSpec : ChangeSpec := { name := "schedPlays", fn := fun _ => fun
  | [d1, d2, d3, d4] => { results := [.lit (.bool true)], args := [d1, d2, d3, d4] }
  | _ => none }
def schedPlaysRow : OpenClaim := { program := "ytemaaenipjinaaagreat", sum := "f90079c3ff75f935aa7c9da9674a3faac537b799eb5441b24954cdbc814f075a", func := "tumbler/tumblerlaw16.SchedPlays", spec := "schedPlays", unfollowed := true, recurses := true, plainKeys := false, apart := false }
def SchedPlaysSaid : Prop := schedPlaysRow.holds Tryz.pinned (OpenSpec.ofChange schedPlaysSpec)

/-- ITS FALSE NEIGHBOUR: 'it returns false'. Refute it at one input. -/
def schedPlaysWrong : ChangeSpec := { name := "schedPlays", fn := fun _ => fun
  | [d1, d2, d3, d4] => { results := [.lit (.bool false)], args := [d1, d2, d3, d4] }
  | _ => none }
def SchedPlaysWrongFalsely : Prop := schedPlaysRow.holds Tryz.pinned (OpenSpec.ofChange schedPlaysWrong)

/-- 'tumblerlaw16.SchedOrders': WHATEVER THE INPUT: true; the input reads as it did. -/
def schedOrdersSpec : ChangeSpec := { name := "schedOrders", fn := fun _ => fun
  | [d1, d2, d3, d4] => { results := [.lit (.bool true)], args := [d1, d2, d3, d4] }
  | _ => none }
def schedOrdersRow : OpenClaim := { program := "ytemaaenipjinaaagreat", sum := "f90079c3ff75f935aa7c9da9674a3faac537b799eb5441b24954cdbc814f075a", func := "tumbler/tumblerlaw16.SchedOrders", spec := "schedOrders", inPlace := ["maps.clone"], unfollowed := true, recurses := true, plainKeys := false, apart := false }
def SchedOrdersSaid : Prop := schedOrdersRow.holds Tryz.pinned (OpenSpec.ofChange schedOrdersSpec)

/-- ITS FALSE NEIGHBOUR: 'it returns false'. Refute it at one input. -/
def schedOrdersWrong : ChangeSpec := { name := "schedOrders", fn := fun _ => fun
  | [d1, d2, d3, d4] => { results := [.lit (.bool false)], args := [d1, d2, d3, d4] }
  | _ => none }
def SchedOrdersWrongFalsely : Prop := schedOrdersRow.holds Tryz.pinned (OpenSpec.ofChange schedOrdersWrong)

/-- 'tumblerlaw16.SchedBounds': WHATEVER THE INPUT: true; the input reads as it did. -/
def schedBoundsSpec : ChangeSpec := { name := "schedBounds", fn := fun _ => fun
  | [d1, d2, d3, d4] => { results := [.lit (.bool true)], args := [d1, d2, d3, d4] }
  | _ => none }
def schedBoundsRow : OpenClaim := { program := "ytemaaenipjinaaagreat", sum := "f90079c3ff75f935aa7c9da9674a3faac537b799eb5441b24954cdbc814f075a", func := "tumbler/tumblerlaw16.SchedBounds", spec := "schedBounds", inPlace := ["maps.clone"], unfollowed := true, recurses := true, plainKeys := false, apart := false }
def SchedBoundsSaid : Prop := schedBoundsRow.holds Tryz.pinned (OpenSpec.ofChange schedBoundsSpec)

/-- ITS FALSE NEIGHBOUR: 'it returns false'. Refute it at one input. -/
def schedBoundsWrong : ChangeSpec := { name := "schedBounds", fn := fun _ => fun
  | [d1, d2, d3, d4] => { results := [.lit (.bool false)], args := [d1, d2, d3, d4] }
  | _ => none }
def SchedBoundsWrongFalsely : Prop := schedBoundsRow.holds Tryz.pinned (OpenSpec.ofChange schedBoundsWrong)

/- THE SECOND FORM. 'bulk': how many values and letters a reading holds, each counted each time it is reached (what is shared counts as often as it is met; a slice's spare places count too). A statement '..UptoSaid' is the law's where the arguments, and the package variables that the reading takes, are together of bulk at most 1048576: NARROWER than '..Said'. Prove '..Said' where nothing that the law and all that it calls make is longer than what came in: it says more and counts as full. Else prove '..UptoSaid'. A law counts once. -/
mutual
def uptoBulk {H : Type} : DataW H → Nat
  | .lit (.string bytes) => bytes.length + 1
  | .lit _ => 1
  | .nil => 1
  | .ptr d => uptoBulk d + 1
  | .slice elems spare => uptoBulkAll elems + uptoBulkAll spare + 1
  | .agg parts => uptoBulkAll parts + 1
  | .iface _ d => uptoBulk d + 1
  | .map entries => uptoBulkEntries entries + 1
  | .held _ => 1
def uptoBulkAll {H : Type} : List (DataW H) → Nat
  | [] => 0
  | d :: r => uptoBulk d + uptoBulkAll r
def uptoBulkEntries {H : Type} : List (Lit × DataW H) → Nat
  | [] => 0
  | x :: r => uptoBulkEntry x + uptoBulkEntries r
def uptoBulkEntry {H : Type} : Lit × DataW H → Nat
  | (.string bytes, d) => bytes.length + uptoBulk d + 1
  | (_, d) => uptoBulk d + 1
 end
def uptoSmall : (H : Type) → List (DataW H) → Bool := fun _ ds => decide (uptoBulkAll ds ≤ 1048576)
def OpenSpec.upto (s : _root_.Go.ChangeSpec) : _root_.Go.OpenSpec := { _root_.Go.OpenSpec.ofChange s with cond := some uptoSmall }

/-- 'tumblerlaw15.CallPlays', WHERE WHAT IT READS IS OF BULK AT MOST 1048576: true; the input reads as it did. -/
def callPlaysUptoRow : OpenClaim := { program := "ytemaaenipjinaaagreat", sum := "f90079c3ff75f935aa7c9da9674a3faac537b799eb5441b24954cdbc814f075a", func := "tumbler/tumblerlaw15.CallPlays", spec := "callPlays", unfollowed := true, recurses := true, plainKeys := false, apart := false, narrowed := true }
def CallPlaysUptoSaid : Prop := callPlaysUptoRow.holds Tryz.pinned (OpenSpec.upto callPlaysSpec)

/-- 'tumblerlaw15.CallBounds', WHERE WHAT IT READS IS OF BULK AT MOST 1048576: true; the input reads as it did. -/
def callBoundsUptoRow : OpenClaim := { program := "ytemaaenipjinaaagreat", sum := "f90079c3ff75f935aa7c9da9674a3faac537b799eb5441b24954cdbc814f075a", func := "tumbler/tumblerlaw15.CallBounds", spec := "callBounds", unfollowed := true, recurses := true, plainKeys := false, apart := false, narrowed := true }
def CallBoundsUptoSaid : Prop := callBoundsUptoRow.holds Tryz.pinned (OpenSpec.upto callBoundsSpec)

/-- 'tumblerlaw15.CallTouches', WHERE WHAT IT READS IS OF BULK AT MOST 1048576: true; the input reads as it did. -/
def callTouchesUptoRow : OpenClaim := { program := "ytemaaenipjinaaagreat", sum := "f90079c3ff75f935aa7c9da9674a3faac537b799eb5441b24954cdbc814f075a", func := "tumbler/tumblerlaw15.CallTouches", spec := "callTouches", unfollowed := true, recurses := true, plainKeys := false, apart := false, narrowed := true }
def CallTouchesUptoSaid : Prop := callTouchesUptoRow.holds Tryz.pinned (OpenSpec.upto callTouchesSpec)

/-- 'tumblerlaw15.CallSerial', WHERE WHAT IT READS IS OF BULK AT MOST 1048576: true; the input reads as it did. -/
def callSerialUptoRow : OpenClaim := { program := "ytemaaenipjinaaagreat", sum := "f90079c3ff75f935aa7c9da9674a3faac537b799eb5441b24954cdbc814f075a", func := "tumbler/tumblerlaw15.CallSerial", spec := "callSerial", inPlace := ["maps.clone"], unfollowed := true, recurses := true, plainKeys := false, apart := false, narrowed := true }
def CallSerialUptoSaid : Prop := callSerialUptoRow.holds Tryz.pinned (OpenSpec.upto callSerialSpec)

/-- 'tumblerlaw15.CallPairs', WHERE WHAT IT READS IS OF BULK AT MOST 1048576: true; the input reads as it did. -/
def callPairsUptoRow : OpenClaim := { program := "ytemaaenipjinaaagreat", sum := "f90079c3ff75f935aa7c9da9674a3faac537b799eb5441b24954cdbc814f075a", func := "tumbler/tumblerlaw15.CallPairs", spec := "callPairs", inPlace := ["maps.clone"], unfollowed := true, recurses := true, plainKeys := false, apart := false, narrowed := true }
def CallPairsUptoSaid : Prop := callPairsUptoRow.holds Tryz.pinned (OpenSpec.upto callPairsSpec)

/-- 'tumblerlaw16.SchedLetters', WHERE WHAT IT READS IS OF BULK AT MOST 1048576: true; the input reads as it did. -/
def schedLettersUptoRow : OpenClaim := { program := "ytemaaenipjinaaagreat", sum := "f90079c3ff75f935aa7c9da9674a3faac537b799eb5441b24954cdbc814f075a", func := "tumbler/tumblerlaw16.SchedLetters", spec := "schedLetters", unfollowed := true, recurses := true, plainKeys := false, apart := false, narrowed := true }
def SchedLettersUptoSaid : Prop := schedLettersUptoRow.holds Tryz.pinned (OpenSpec.upto schedLettersSpec)

/-- 'tumblerlaw16.SchedPrefix', WHERE WHAT IT READS IS OF BULK AT MOST 1048576: true; the input reads as it did. -/
def schedPrefixUptoRow : OpenClaim := { program := "ytemaaenipjinaaagreat", sum := "f90079c3ff75f935aa7c9da9674a3faac537b799eb5441b24954cdbc814f075a", func := "tumbler/tumblerlaw16.SchedPrefix", spec := "schedPrefix", unfollowed := true, recurses := true, plainKeys := false, apart := false, narrowed := true }
def SchedPrefixUptoSaid : Prop := schedPrefixUptoRow.holds Tryz.pinned (OpenSpec.upto schedPrefixSpec)

/-- 'tumblerlaw16.SchedSame', WHERE WHAT IT READS IS OF BULK AT MOST 1048576: true; the input reads as it did. -/
def schedSameUptoRow : OpenClaim := { program := "ytemaaenipjinaaagreat", sum := "f90079c3ff75f935aa7c9da9674a3faac537b799eb5441b24954cdbc814f075a", func := "tumbler/tumblerlaw16.SchedSame", spec := "schedSame", unfollowed := true, recurses := true, plainKeys := false, apart := false, narrowed := true }
def SchedSameUptoSaid : Prop := schedSameUptoRow.holds Tryz.pinned (OpenSpec.upto schedSameSpec)

/-- 'tumblerlaw16.SchedPlays', WHERE WHAT IT READS IS OF BULK AT MOST 1048576: true; the input reads as it did. -/
def schedPlaysUptoRow : OpenClaim := { program := "ytemaaenipjinaaagreat", sum := "f90079c3ff75f935aa7c9da9674a3faac537b799eb5441b24954cdbc814f075a", func := "tumbler/tumblerlaw16.SchedPlays", spec := "schedPlays", unfollowed := true, recurses := true, plainKeys := false, apart := false, narrowed := true }
def SchedPlaysUptoSaid : Prop := schedPlaysUptoRow.holds Tryz.pinned (OpenSpec.upto schedPlaysSpec)

/-- 'tumblerlaw16.SchedOrders', WHERE WHAT IT READS IS OF BULK AT MOST 1048576: true; the input reads as it did. -/
def schedOrdersUptoRow : OpenClaim := { program := "ytemaaenipjinaaagreat", sum := "f90079c3ff75f935aa7c9da9674a3faac537b799eb5441b24954cdbc814f075a", func := "tumbler/tumblerlaw16.SchedOrders", spec := "schedOrders", inPlace := ["maps.clone"], unfollowed := true, recurses := true, plainKeys := false, apart := false, narrowed := true }
def SchedOrdersUptoSaid : Prop := schedOrdersUptoRow.holds Tryz.pinned (OpenSpec.upto schedOrdersSpec)

/-- 'tumblerlaw16.SchedBounds', WHERE WHAT IT READS IS OF BULK AT MOST 1048576: true; the input reads as it did. -/
def schedBoundsUptoRow : OpenClaim := { program := "ytemaaenipjinaaagreat", sum := "f90079c3ff75f935aa7c9da9674a3faac537b799eb5441b24954cdbc814f075a", func := "tumbler/tumblerlaw16.SchedBounds", spec := "schedBounds", inPlace := ["maps.clone"], unfollowed := true, recurses := true, plainKeys := false, apart := false, narrowed := true }
def SchedBoundsUptoSaid : Prop := schedBoundsUptoRow.holds Tryz.pinned (OpenSpec.upto schedBoundsSpec)

end Rows
end Go.Proofs.YtemaaenipjinaaaGreat
