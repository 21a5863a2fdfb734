/-
  Package tumblerref21: Has, With, Without, Does.
-/
import Derived.Test.YtphheopbngdhhaaGreatDoorCd
namespace Go.Proofs.YtphheopbngdhhaaGreatDoor
set_option maxRecDepth 100000
section rules
variable {P : Program} {n' : Fi} {E : Env} {L : List HProp} {ty : TypeId}
/-- where x[i:] lies -/
def tlN (ad : Option Addr) (cap i sz : Nat) : Option Addr := if cap = i then ad else ad.map (·.add (i * sz))
/-- x[i:] -/
theorem OpV.slLo {t e sz : Nat} {x lo : Operand} {ad : Option Addr} {len cap i : Nat} {kd : IntKind} [hu : Und P t (.slice e)] [hs : Siz P e sz] (hx : ev E x = some (.slice ad len cap)) (hl : ev E lo = some (.int kd (i : Int))) (h1 : i ≤ len) :
    OpV P n' (.slice t x (some lo) none none) ty E L (.slice (tlN ad cap i sz) (len - i) (cap - i)) := by
  unfold OpV
  intro d ps af gd a w ha _
  have h2 : (i : Int) ≤ (len : Int) := by omega
  have hb : ∀ c, (Instr.sliceBound (.int kd (i : Int)) len c).run P w = .ok i w := fun c => by
    unfold Instr.sliceBound
    simp only [asIntOf, Sem.run_bind, Sem.run_pure, Result.andThen_ok]
    rw [if_pos ⟨by omega, h2⟩]
    rfl
  simp [execOp, ha.ev hx, ha.ev hl, Instr.sliceAt, Instr.slice, run_underlying hu.h, Instr.sliceBounds, hb, hs.h, tlN]
/-- append(x, nil...) -/
theorem OpOk.appendE {t e sz n cap : Nat} {ad : Option Addr} {s x : Operand} {xs : List Value} {L1 : List HProp} [hu : Und P t (.slice e)] [hs : Siz P e sz] (hv : ev E s = some (.slice ad n cap)) (hx : ev E x = some (.slice none 0 0)) (ht : Take (Row (.slice ad n cap) e sz n xs) L L1) :
    OpOk P n' (.call { callee := .builtin .append, args := ⟨[s, x]⟩, argTypes := ⟨[t, t]⟩ }) ty E L (fun v' L' => v' = .slice ad n cap ∧ L' = L) := by
  unfold OpOk
  intro d ps af g a w ha X hsat
  have hle : n ≤ cap := by
    have h1 := (ht.app X).sat hsat
    rw [sat_cons] at h1
    obtain ⟨_, _, _, _, ⟨_, hr⟩, _⟩ := h1
    rcases hr with ⟨h, h0⟩ | ⟨_, _, _, h, hc, _⟩
    · omega
    · injection h with _ _ h3
      omega
  refine ⟨_, w, L, .inl ?_, ⟨rfl, rfl⟩, hsat, Old.refl w⟩
  cases ad <;> simp [execOp, resolve, invoke, builtin, ha.ev hv, ha.ev hx, Builtin.append_, run_underlying hu.h, hs.h, Builtin.lenOf, Builtin.firstCells, storeCells, hle]
end rules
theorem SlR.drop {q : HProp} {ad : Option Addr} {n cap : Nat} {xs : List Nat} (h : SlR q (.slice ad n cap) xs) {i : Nat} (hi : i ≤ xs.length) : SlR q (.slice (tlN ad cap i 1) (n - i) (cap - i)) (xs.drop i) := by
  rcases h with ⟨h, rfl⟩ | ⟨b, o, l, r, cap', h1, h2, h3, h4, h5⟩
  · injection h with e1 e2 e3
    subst e1 e2 e3
    have : i = 0 := by simpa using hi
    subst this
    exact .inl ⟨rfl, rfl⟩
  · injection h1 with e1 e2 e3
    subst e1 e2 e3
    by_cases hc : cap = i
    · have hx : xs.drop i = [] := List.drop_eq_nil_of_le (by omega)
      rw [hx]
      refine .inr ⟨b, o, l, r, cap - i, ?_, by simp, h3, h4, .zero⟩
      unfold tlN
      rw [if_pos hc, show xs.length - i = 0 by omega]; rfl
    · have hsp : ∀ (i : Nat) (ys : List Nat) (r : List Value), TakeN ys.length r (u64s ys) → i ≤ ys.length → ∃ r1, DropN i r r1 ∧ TakeN (ys.length - i) r1 (u64s (ys.drop i)) := by
        intro i
        induction i with
        | zero => intro ys r h _; exact ⟨r, .zero, h⟩
        | succ i ih =>
          intro ys r h hl
          cases ys with
          | nil => exact absurd hl (by simp)
          | cons y ys =>
            obtain ⟨r1, rfl, h6⟩ := TakeN.tail (n := ys.length) (l' := u64s ys) h
            obtain ⟨r2, h7, h8⟩ := ih ys r1 h6 (by simpa using hl)
            refine ⟨r2, .succ h7, ?_⟩
            rw [show (y :: ys).length - (i + 1) = ys.length - i by simp]
            exact h8
      obtain ⟨r1, h6, h7⟩ := hsp i xs r h5 hi
      refine .inr ⟨b, o + i, l, r1, cap - i, ?_, by rw [List.length_drop]; omega, h3, h4.add h6, by rw [List.length_drop]; exact h7⟩
      unfold tlN
      rw [if_neg hc, List.length_drop, Nat.mul_one]
      simp [Addr.add]
theorem u64s_snoc (l : List Nat) (x : Nat) : u64s (l ++ [x]) = u64s l ++ [.int .u64 (x : Int)] := by simp [u64s]
/-- the document's set -/
def XuR (q : HProp) (v : Value) : Option Qu → Prop
  | none => v = .agg ⟨[.bool false, .int .u64 0, .slice none 0 0]⟩
  | some x => ∃ lv, v = .agg ⟨[.bool true, .int .u64 (x.cap : Int), lv]⟩ ∧ SlR q lv x.list
theorem XuR.weak {q q' : HProp} {v : Value} {x : Option Qu} (h : XuR q v x) (hq : ∀ b l, RdC q b l → RdC q' b l) : XuR q' v x := by
  cases x with
  | none => exact h
  | some x =>
    obtain ⟨lv, h1, h3⟩ := h
    exact ⟨lv, h1, h3.weak hq⟩
def rdoesQ (H : HProp) (m : Option Qu × Int × Nat) (v : Value) (L : List HProp) : Prop :=
  ∃ xv' H', v = .tuple ⟨[xv', .agg ⟨[.int .i64 m.2.1, .int .u64 (m.2.2 : Int)]⟩]⟩ ∧ XuR H' xv' m.1 ∧ (∀ b l, RdC H b l → RdC H' b l) ∧ L = [H']
end Go.Proofs.YtphheopbngdhhaaGreatDoor
