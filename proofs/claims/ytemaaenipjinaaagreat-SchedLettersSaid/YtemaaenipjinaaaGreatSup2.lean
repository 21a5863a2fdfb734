/-
  What other texts of ours hold that is wanted besides.
-/
import Derived.Test.YtemaaenipjinaaaGreatFs
section
namespace Go.Proofs.YtemaaenipjinaaaGreat

section control
variable {P : Program} {C : Cx} {k : List Item} {E : Env} {L : List HProp}

end control

section region
variable {P : Program} {C : Cx} {k : List Item} {E : Env} {L : List HProp} {ops : Array Oper}

end region

section draw
variable {P : Program} {ops : Array Oper} {Q : Exit → Act → World → Prop} {S : World → Prop} {bs : List Nat}

end draw

section picks
variable {P : Program} {ops : Array Oper} {Q : Exit → Act → World → Prop} {S : World → Prop} {bs : List Nat}
end picks

section drawn
variable {P : Program} {C : Cx} {k : List Item} {E : Env} {L L0 : List HProp} {T : Then} {ops : Array Oper} {r : List (Nat × Nat)} {i : Nat}

end drawn

section rules
variable {P : Program} {n' : Fi} {E : Env} {L : List HProp} {ty : TypeId}

end rules

section slices
variable {P : Program} {n' : Fi} {E : Env} {L : List HProp} {ty : TypeId}

end slices

section assoc
variable {κ β : Type} [DecidableEq κ]
end assoc
section maps
variable {P : Program} {n' : Fi} {E : Env} {L : List HProp} {ty : TypeId} {κ β : Type} [DecidableEq κ] {enc : κ → Value} {f : β → Value} {z : β}
end maps
section mapRange
variable {P : Program} {n' : Fi} {E : Env} {L : List HProp} {ty : TypeId} {κ β : Type} {enc : κ → Value} {f : β → Value} {z : β}
end mapRange
section strs
variable {P : Program} {n' : Fi} {E : Env} {L : List HProp} {ty : TypeId}
theorem OpV.eqS {t t' : Nat} {x y : Operand} {a b : ByteArray} (hx : ev E x = some (.string a)) (hy : ev E y = some (.string b)) : OpV P n' (.binOp .eql t x y t') ty E L (.bool (a.data.toList == b.data.toList)) := by
  unfold OpV
  exact (fun _ _ _ _ ac w ha _ => by simp [execOp, ha.ev hx, ha.ev hy, eqGuard, binOp, Op.stringOp, ByteArray.toList_eq])
theorem OpV.len_str {t : TypeId} {x : Operand} {s : ByteArray} [hu : Und P t .string] (hx : ev E x = some (.string s)) : OpV P n' (.call { callee := .builtin .len, args := #[x], argTypes := #[t] }) ty E L (.int .i64 (s.data.size : Int)) := by
  unfold OpV
  exact (fun _ _ _ _ a w ha _ => by
    simp [execOp, resolve, invoke, builtin, Builtin.len_, ha.ev hx, run_underlying hu.h, goInt])
/-- s + s' -/
theorem OpV.addS {t t' : TypeId} {x y : Operand} {a b : ByteArray} (hx : ev E x = some (.string a)) (hy : ev E y = some (.string b)) (h : a.data.size + b.data.size ≤ 1000000000) :
    OpV P n' (.binOp .add t x y t') ty E L (.string (a ++ b)) := by
  unfold OpV
  exact (fun _ _ _ _ ac w ha _ => by
    have h1 : ¬ (((a.size + b.size : Nat) : Int) > IntKind.i64.max) := by
      have : a.size = a.data.size := rfl
      have : b.size = b.data.size := rfl
      simp only [IntKind.max, IntKind.signed, IntKind.bits]
      omega
    simp only [execOp, ha.ev hx, ha.ev hy, eqGuard, binOp, Op.stringOp, if_neg h1]
    simp)
/-- a rune, as a string -/
theorem OpV.runeS {s t : TypeId} {x : Operand} {k k' : IntKind} {n : Int} [hs : Und P s (.int k')] [ht : Und P t .string] (hx : ev E x = some (.int k n)) :
    OpV P n' (.convert s t x) ty E L (.string (Utf8.encode n)) := by
  unfold OpV
  exact (fun _ _ _ _ a w ha _ => by
    simp only [execOp, ha.ev hx, convert, Sem.run_bind, run_underlying hs.h, run_underlying ht.h, Result.andThen_ok, Conv.intToString, Sem.run_pure])
end strs

section idx
variable {P : Program} {n' : Fi} {E : Env} {L : List HProp} {ty : TypeId}
end idx

section rounds
variable {P : Program} {ro : Option Nat} {nt : Fi} {w0 : World} {ops : Array Oper} {Q : Exit → Act → World → Prop} {E : Env} {L : List HProp} {rest : List Oper} {ps : String} {af : Array Edge} {op : Op} {ty : TypeId}
end rounds
section clos
variable {P : Program} {n' : Fi} {E : Env} {L : List HProp} {ty : TypeId}
end clos

section auto
variable {P : Program} {C : Cx} {E : Env} {L : List HProp} {n : Fi} {op : Op} {ty : TypeId} {v : Value} {Φ : Value → List HProp → Prop}
section rules
variable {k : List Item} {ops : Array Oper} {rest : List Oper} {ps : String} {af : Array Edge} {L0 L1 : List HProp} {T : Then} {r : List (Nat × Nat)} {i j t : Nat} {ι : Sort _} {d : Tmp} {e : Option Tmp} {g : FuncId} {vs : Array Value} {M F1 : List HProp} {vf : ι → Value} {Lf : ι → List HProp} {m te : Nat} {La : Option Addr → Nat → List HProp} {news : List Value} {u want : Bool} {p q : Prop}
end rules
end auto

section walks
variable {X Y A B : Prop}
variable {P : Program} {g : FuncId} {vs : Array Value} {M : List HProp} {v : Value} {Φ : Value → List HProp → Prop}
end walks

end Go.Proofs.YtemaaenipjinaaaGreat
end
