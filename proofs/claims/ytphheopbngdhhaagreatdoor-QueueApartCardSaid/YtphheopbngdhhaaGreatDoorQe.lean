/-
  Package tumblerref20: Does.
-/
import Derived.Test.YtphheopbngdhhaaGreatDoorQd
namespace Go.Proofs.YtphheopbngdhhaaGreatDoor
set_option maxRecDepth 100000
theorem OpV.appendZ1 {P : Program} {n' : Fi} {E : Env} {L : List HProp} {ty t e sz g : Nat} {s x : Operand} [hu : Und P t (.slice e)] [hs : Siz P e sz] (hv : ev E s = some (.slice (some ⟨g, 0, none⟩) 0 0)) (hx : ev E x = some (.slice none 0 0)) :
    OpV P n' (.call { callee := .builtin .append, args := ⟨[s, x]⟩, argTypes := ⟨[t, t]⟩ }) ty E L (.slice (some ⟨g, 0, none⟩) 0 0) := by
  unfold OpV
  intro d ps af gd a w ha _
  simp [execOp, resolve, invoke, builtin, ha.ev hv, ha.ev hx, Builtin.append_, run_underlying hu.h, hs.h, Builtin.lenOf, Builtin.firstCells, storeCells]
theorem OpOk.ofV {P : Program} {n' : Fi} {op : Op} {ty : TypeId} {E : Env} {L : List HProp} {v : Value} (h : OpV P n' op ty E L v) : OpOk P n' op ty E L (fun v' L' => v' = v ∧ L' = L) := by
  unfold OpV at h
  unfold OpOk
  exact fun d ps af g a w ha X hs => ⟨v, w, L, .inl (h d ps af g a w ha hs.head_of), ⟨rfl, rfl⟩, hs, Old.refl w⟩
/-- the document's queue -/
def XuR (q : HProp) (v : Value) : Option Qu → Prop
  | none => v = .agg ⟨[.bool false, .int .u64 0, .slice none 0 0]⟩
  | some x => ∃ lv, v = .agg ⟨[.bool true, .int .u64 (x.cap : Int), lv]⟩ ∧ SlR q lv x.list
theorem XuR.weak {q q' : HProp} {v : Value} {x : Option Qu} (h : XuR q v x) (hq : ∀ b l, RdC q b l → RdC q' b l) : XuR q' v x := by
  cases x with
  | none => exact h
  | some x =>
    obtain ⟨lv, h1, h3⟩ := h
    exact ⟨lv, h1, h3.weak hq⟩
def rdoesQ (H : HProp) (m : Option Qu × Int × Nat) (v : Value) (L : List HProp) : Prop :=
  ∃ xv' H', v = .tuple ⟨[xv', .agg ⟨[.int .i64 m.2.1, .int .u64 (m.2.2 : Int)]⟩]⟩ ∧ XuR H' xv' m.1 ∧ (∀ b l, RdC H b l → RdC H' b l) ∧ L = [H']
end Go.Proofs.YtphheopbngdhhaaGreatDoor
