/-
  Package exec: fail, pay, block.
-/
import Derived.Test.YtemaaenipjinaaaGreatPo
namespace Go.Proofs.YtemaaenipjinaaaGreat
def g4 (l : List Nat) : List Value := [.int .u64 ((l.getD 0 0 : Nat) : Int), .int .u64 ((l.getD 1 0 : Nat) : Int), .int .u64 ((l.getD 2 0 : Nat) : Int), .int .u64 ((l.getD 3 0 : Nat) : Int)]
def g16 (l : List Nat) : List Value := [.int .u64 ((l.getD 0 0 : Nat) : Int), .int .u64 ((l.getD 1 0 : Nat) : Int), .int .u64 ((l.getD 2 0 : Nat) : Int), .int .u64 ((l.getD 3 0 : Nat) : Int), .int .u64 ((l.getD 4 0 : Nat) : Int), .int .u64 ((l.getD 5 0 : Nat) : Int), .int .u64 ((l.getD 6 0 : Nat) : Int), .int .u64 ((l.getD 7 0 : Nat) : Int), .int .u64 ((l.getD 8 0 : Nat) : Int), .int .u64 ((l.getD 9 0 : Nat) : Int), .int .u64 ((l.getD 10 0 : Nat) : Int), .int .u64 ((l.getD 11 0 : Nat) : Int), .int .u64 ((l.getD 12 0 : Nat) : Int), .int .u64 ((l.getD 13 0 : Nat) : Int), .int .u64 ((l.getD 14 0 : Nat) : Int), .int .u64 ((l.getD 15 0 : Nat) : Int)]
theorem len16 {l : List Nat} (h : l.length = 16) : ∃ a0 a1 a2 a3 a4 a5 a6 a7 a8 a9 a10 a11 a12 a13 a14 a15, l = [a0, a1, a2, a3, a4, a5, a6, a7, a8, a9, a10, a11, a12, a13, a14, a15] := by
  match l, h with
  | [a0, a1, a2, a3, a4, a5, a6, a7, a8, a9, a10, a11, a12, a13, a14, a15], _ => exact ⟨a0, a1, a2, a3, a4, a5, a6, a7, a8, a9, a10, a11, a12, a13, a14, a15, rfl⟩
theorem len4 {l : List Nat} (h : l.length = 4) : ∃ a0 a1 a2 a3, l = [a0, a1, a2, a3] := by
  match l, h with
  | [a0, a1, a2, a3], _ => exact ⟨a0, a1, a2, a3, rfl⟩
theorem g16_eq {l : List Nat} (h : l.length = 16) : g16 l = u64s l := by
  obtain ⟨a0, a1, a2, a3, a4, a5, a6, a7, a8, a9, a10, a11, a12, a13, a14, a15, rfl⟩ := len16 h
  rfl
theorem g4_eq {l : List Nat} (h : l.length = 4) : g4 l = u64s l := by
  obtain ⟨a0, a1, a2, a3, rfl⟩ := len4 h
  rfl
structure Xs where
  args : List Nat
  mark : Nat
  st : Int
  sl : Int
  regs : List Nat
  pc : Int
  steps : Int
  writes : Int
  waits : Bool
  i : Ins
  s : Int
  rc : Int
  rv : Nat
/-- an Exec's own cells: its code cv, what it is over, and its new handles nv -/
def exV (c : Cfg) (cv : Value) (V Pb W : Nat) (nv : Value) (x : Xs) : List Value :=
  c.m ++ (cv :: (g4 x.args ++ (.pointer (some ⟨V, 0, none⟩) :: .pointer (some ⟨Pb, 0, none⟩) :: .pointer (some ⟨W, 0, none⟩) :: .int .i64 (x.mark : Int) :: .int .i64 x.st :: .int .i64 x.sl ::
    (g16 x.regs ++ (.int .i64 x.pc :: .int .i64 x.steps :: .int .i64 x.writes :: .bool x.waits :: (x.i.v ++ [.int .i64 x.s, .int .i64 x.rc, .int .u64 (x.rv : Int), nv]))))))
theorem take_x (c : Cfg) (cv : Value) (V Pb W : Nat) (nv : Value) (x : Xs) : TakeN 24 (exV c cv V Pb W nv x) c.m := TakeN.app c.m _
theorem ex_reg (c : Cfg) (cv : Value) (V Pb W : Nat) (nv : Value) (x : Xs) {a : Int} (h0 : 0 ≤ a) (h1 : a < 16) : NthN (0 + 35 + a.toNat * 1) (exV c cv V Pb W nv x) (.int .u64 ((x.regs.getD a.toNat 0 : Nat) : Int)) := by
  have h : a = 0 ∨ a = 1 ∨ a = 2 ∨ a = 3 ∨ a = 4 ∨ a = 5 ∨ a = 6 ∨ a = 7 ∨ a = 8 ∨ a = 9 ∨ a = 10 ∨ a = 11 ∨ a = 12 ∨ a = 13 ∨ a = 14 ∨ a = 15 := by omega
  rcases h with rfl | rfl | rfl | rfl | rfl | rfl | rfl | rfl | rfl | rfl | rfl | rfl | rfl | rfl | rfl | rfl <;> exact NthN.of rfl
theorem ex_setreg (c : Cfg) (cv : Value) (V Pb W : Nat) (nv : Value) (x : Xs) (hl : x.regs.length = 16) {a : Int} (h0 : 0 ≤ a) (h1 : a < 16) (n : Nat) : SetN (.int .u64 (n : Int)) (0 + 35 + a.toNat * 1) (exV c cv V Pb W nv x) (exV c cv V Pb W nv { x with regs := x.regs.set a.toNat n }) := by
  have h : a = 0 ∨ a = 1 ∨ a = 2 ∨ a = 3 ∨ a = 4 ∨ a = 5 ∨ a = 6 ∨ a = 7 ∨ a = 8 ∨ a = 9 ∨ a = 10 ∨ a = 11 ∨ a = 12 ∨ a = 13 ∨ a = 14 ∨ a = 15 := by omega
  obtain ⟨args, mark, st, sl, regs, pc, steps, writes, waits, i, s, rc, rv⟩ := x
  obtain ⟨a0, a1, a2, a3, a4, a5, a6, a7, a8, a9, a10, a11, a12, a13, a14, a15, rfl⟩ := len16 hl
  have key : ∀ (k : Nat) (l l' : List Value), k < l.length → l.set k (.int .u64 (n : Int)) = l' → SetN (.int .u64 (n : Int)) k l l' := fun k l l' hk e => e ▸ SetN.of hk
  rcases h with rfl | rfl | rfl | rfl | rfl | rfl | rfl | rfl | rfl | rfl | rfl | rfl | rfl | rfl | rfl | rfl <;> exact key _ _ _ (by simp [exV, Cfg.m, Cfg.v, Cfg.fr, g4, g16, Ins.v]) rfl
set_option maxRecDepth 100000 in
theorem xfail_t (X V Pb W room : Nat) (c : Cfg) (cv nv : Value) (x : Xs) (p : Po) (puts : List (Int × Nat)) (e : Int) (val : Nat) (hm : x.mark ≤ puts.length) (hlen : puts.length ≤ 1000000000) :
    Tri Tryz.prog 215 #[.pointer (some ⟨X, 0, none⟩), .int .i64 e, .int .u64 (val : Int)] [bl X 344 (exV c cv V Pb W nv x), Pl Pb c p, Ws W room puts]
      fun r L => r = .tuple ⟨[]⟩ ∧ L = [bl X 344 (exV c cv V Pb W nv { x with s := 1, rc := e, rv := val }), Pl Pb c { p with nt := x.st, nl := x.sl }, Ws W room (puts.take x.mark)] := by
  have hb := wback_t W room x.mark puts hm hlen
  have hp := pback_t Pb c p x.st x.sl
  refine Tri.of_body (vs := [_, _, _]) Tryz.func215 rfl rfl fun w0 F => ?_
  repeat' (first | refine Ga ?_ | (refine Gb ?_; intro b) | (refine Gd ?_; intro g cap rest hcap) | (refine Gc ?_; intro ad cap) | (refine St.draw (id := 0) [(0, 0), (1, 0), (2, 0), (3, 1), (4, 0), (5, 0), (6, 0), (7, 1), (8, 3)] [8] mixed (by kernel_rfl) ?_) | (refine St.draw (id := 1) [(0, 0), (1, 0), (2, 0), (3, 1), (4, 0), (5, 0), (6, 0), (7, 1), (8, 3)] [8] mixed (by kernel_rfl) ?_) | (refine Gt hb ?_; rintro _ _ ⟨rfl, rfl⟩) | (refine Gt hp ?_; rintro _ _ ⟨rfl, rfl⟩) | (refine Ge ?_ ?_ <;> (intro h; try (exfalso; omega))) | fail)
  refine St.f1 Tryz.func215 ⟨_, ⟨rfl, rfl⟩, ?_⟩
  exact Ent.go
/-- a program that runs, and all that it is over -/
structure Xm where
  x : Xs
  v : Vw
  p : Po
  puts : List (Int × Nat)
  news : List Nat
def Xm.fail (m : Xm) (e : Int) (val : Nat) : Xm := { m with x := { m.x with s := 1, rc := e, rv := val }, p := { m.p with nt := m.x.st, nl := m.x.sl }, puts := m.puts.take m.x.mark }
def Xm.pay (c : Cfg) (m : Xm) : Xm × Bool := if c.writes - m.x.writes < costs m.x.i.op then (m.fail 42 0, false) else ({ m with x := { m.x with writes := m.x.writes + costs m.x.i.op } }, true)
theorem costs_le (op : Int) : 0 ≤ costs op ∧ costs op ≤ 9 := by
  unfold costs
  repeat' split
  all_goals omega
set_option maxRecDepth 100000 in
theorem xpay_t (X V Pb W room : Nat) (c : Cfg) (hc : Small c) (cv nv : Value) (m : Xm) (hm : m.x.mark ≤ m.puts.length) (hlen : m.puts.length ≤ 1000000000) (hw : 0 ≤ m.x.writes ∧ m.x.writes ≤ 1000000) :
    Tri Tryz.prog 265 #[.pointer (some ⟨X, 0, none⟩)] [bl X 344 (exV c cv V Pb W nv m.x), Pl Pb c m.p, Ws W room m.puts]
      fun r L => r = .bool (m.pay c).2 ∧ L = [bl X 344 (exV c cv V Pb W nv (m.pay c).1.x), Pl Pb c (m.pay c).1.p, Ws W room (m.pay c).1.puts] := by
  have hf := xfail_t X V Pb W room c cv nv m.x m.p m.puts 42 0 hm hlen
  have hco := costs_r m.x.i.op
  have hcl := costs_le m.x.i.op
  have hcf := cfg_r c
  have htk := take_x c cv V Pb W nv m.x
  have := hc.w0; have := hc.w1
  unfold Xm.pay
  by_cases h : c.writes - m.x.writes < costs m.x.i.op
  · rw [if_pos h]
    dsimp only [Xm.fail]
    refine Tri.of_body (vs := [_]) Tryz.func265 rfl rfl fun w0 F => ?_
    repeat' (first | refine Ga ?_ | (refine Gb ?_; intro b) | (refine Gd ?_; intro g cap rest hcap) | (refine Gc ?_; intro ad cap) | (refine St.draw (id := 2) [(0, 0), (1, 0), (2, 0), (3, 0), (4, 1), (5, 1), (6, 0), (7, 0), (8, 0), (9, 0), (10, 1), (11, 0), (12, 0)] [] mixed (by kernel_rfl) ?_)| refine Gl hco ?_ | refine Gl hcf ?_ | (refine Gt hf ?_; rintro _ _ ⟨rfl, rfl⟩) | (refine Ge ?_ ?_ <;> (intro h; try (exfalso; omega))) | fail)
    refine St.d1 Tryz.func265 ⟨_, ⟨rfl, rfl⟩, ?_⟩
    exact Ent.go
  · rw [if_neg h]
    dsimp only
    refine Tri.of_body (vs := [_]) Tryz.func265 rfl rfl fun w0 F => ?_
    repeat' (first | refine Ga ?_ | (refine Gb ?_; intro b) | (refine Gd ?_; intro g cap rest hcap) | (refine Gc ?_; intro ad cap) | (refine St.draw (id := 2) [(0, 0), (1, 0), (2, 0), (3, 0), (4, 1), (5, 1), (6, 0), (7, 0), (8, 0), (9, 0), (10, 1), (11, 0), (12, 0)] [] mixed (by kernel_rfl) ?_)| refine Gl hco ?_ | refine Gl hcf ?_ | (refine Ge ?_ ?_ <;> (intro h; try (exfalso; omega))) | fail)
    refine St.d1 Tryz.func265 ⟨_, ⟨rfl, rfl⟩, ?_⟩
    exact Ent.go
end Go.Proofs.YtemaaenipjinaaaGreat
