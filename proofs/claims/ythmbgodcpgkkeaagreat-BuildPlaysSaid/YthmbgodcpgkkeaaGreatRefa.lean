/-
  Package exec: fail, pay, block. Rows: replies, instructions, arguments, with what is known of their numbers. Package tumblerref07: the document's numbers are the program's.
-/
import Derived.Test.YthmbgodcpgkkeaaGreatPo
import Derived.Test.YthmbgodcpgkkeaaGreatIns
section
namespace Go.Proofs.YthmbgodcpgkkeaaGreat
def g4 (l : List Nat) : List Value := [.int .u64 ((l.getD 0 0 : Nat) : Int), .int .u64 ((l.getD 1 0 : Nat) : Int), .int .u64 ((l.getD 2 0 : Nat) : Int), .int .u64 ((l.getD 3 0 : Nat) : Int)]
def g16 (l : List Nat) : List Value := [.int .u64 ((l.getD 0 0 : Nat) : Int), .int .u64 ((l.getD 1 0 : Nat) : Int), .int .u64 ((l.getD 2 0 : Nat) : Int), .int .u64 ((l.getD 3 0 : Nat) : Int), .int .u64 ((l.getD 4 0 : Nat) : Int), .int .u64 ((l.getD 5 0 : Nat) : Int), .int .u64 ((l.getD 6 0 : Nat) : Int), .int .u64 ((l.getD 7 0 : Nat) : Int), .int .u64 ((l.getD 8 0 : Nat) : Int), .int .u64 ((l.getD 9 0 : Nat) : Int), .int .u64 ((l.getD 10 0 : Nat) : Int), .int .u64 ((l.getD 11 0 : Nat) : Int), .int .u64 ((l.getD 12 0 : Nat) : Int), .int .u64 ((l.getD 13 0 : Nat) : Int), .int .u64 ((l.getD 14 0 : Nat) : Int), .int .u64 ((l.getD 15 0 : Nat) : Int)]
theorem len16 {l : List Nat} (h : l.length = 16) : ∃ a0 a1 a2 a3 a4 a5 a6 a7 a8 a9 a10 a11 a12 a13 a14 a15, l = [a0, a1, a2, a3, a4, a5, a6, a7, a8, a9, a10, a11, a12, a13, a14, a15] := by
  match l, h with
  | [a0, a1, a2, a3, a4, a5, a6, a7, a8, a9, a10, a11, a12, a13, a14, a15], _ => exact ⟨a0, a1, a2, a3, a4, a5, a6, a7, a8, a9, a10, a11, a12, a13, a14, a15, rfl⟩
theorem len4 {l : List Nat} (h : l.length = 4) : ∃ a0 a1 a2 a3, l = [a0, a1, a2, a3] := by
  match l, h with
  | [a0, a1, a2, a3], _ => exact ⟨a0, a1, a2, a3, rfl⟩
theorem g16_eq {l : List Nat} (h : l.length = 16) : g16 l = u64s l := by
  obtain ⟨a0, a1, a2, a3, a4, a5, a6, a7, a8, a9, a10, a11, a12, a13, a14, a15, rfl⟩ := len16 h
  rfl
theorem g4_eq {l : List Nat} (h : l.length = 4) : g4 l = u64s l := by
  obtain ⟨a0, a1, a2, a3, rfl⟩ := len4 h
  rfl
structure Xs where
  args : List Nat
  mark : Nat
  st : Int
  sl : Int
  regs : List Nat
  pc : Int
  steps : Int
  writes : Int
  waits : Bool
  i : Ins
  s : Int
  rc : Int
  rv : Nat
/-- an Exec's own cells: its code cv, what it is over, and its new handles nv -/
def exV (c : Cfg) (cv : Value) (V Pb W : Nat) (nv : Value) (x : Xs) : List Value :=
  c.m ++ (cv :: (g4 x.args ++ (.pointer (some ⟨V, 0, none⟩) :: .pointer (some ⟨Pb, 0, none⟩) :: .pointer (some ⟨W, 0, none⟩) :: .int .i64 (x.mark : Int) :: .int .i64 x.st :: .int .i64 x.sl ::
    (g16 x.regs ++ (.int .i64 x.pc :: .int .i64 x.steps :: .int .i64 x.writes :: .bool x.waits :: (x.i.v ++ [.int .i64 x.s, .int .i64 x.rc, .int .u64 (x.rv : Int), nv]))))))
theorem take_x (c : Cfg) (cv : Value) (V Pb W : Nat) (nv : Value) (x : Xs) : TakeN 24 (exV c cv V Pb W nv x) c.m := TakeN.app c.m _
theorem ex_reg (c : Cfg) (cv : Value) (V Pb W : Nat) (nv : Value) (x : Xs) {a : Int} (h0 : 0 ≤ a) (h1 : a < 16) : NthN (0 + 35 + a.toNat * 1) (exV c cv V Pb W nv x) (.int .u64 ((x.regs.getD a.toNat 0 : Nat) : Int)) := by
  have h : a = 0 ∨ a = 1 ∨ a = 2 ∨ a = 3 ∨ a = 4 ∨ a = 5 ∨ a = 6 ∨ a = 7 ∨ a = 8 ∨ a = 9 ∨ a = 10 ∨ a = 11 ∨ a = 12 ∨ a = 13 ∨ a = 14 ∨ a = 15 := by omega
  rcases h with rfl | rfl | rfl | rfl | rfl | rfl | rfl | rfl | rfl | rfl | rfl | rfl | rfl | rfl | rfl | rfl <;> exact NthN.of rfl
theorem ex_setreg (c : Cfg) (cv : Value) (V Pb W : Nat) (nv : Value) (x : Xs) (hl : x.regs.length = 16) {a : Int} (h0 : 0 ≤ a) (h1 : a < 16) (n : Nat) : SetN (.int .u64 (n : Int)) (0 + 35 + a.toNat * 1) (exV c cv V Pb W nv x) (exV c cv V Pb W nv { x with regs := x.regs.set a.toNat n }) := by
  have h : a = 0 ∨ a = 1 ∨ a = 2 ∨ a = 3 ∨ a = 4 ∨ a = 5 ∨ a = 6 ∨ a = 7 ∨ a = 8 ∨ a = 9 ∨ a = 10 ∨ a = 11 ∨ a = 12 ∨ a = 13 ∨ a = 14 ∨ a = 15 := by omega
  obtain ⟨args, mark, st, sl, regs, pc, steps, writes, waits, i, s, rc, rv⟩ := x
  obtain ⟨a0, a1, a2, a3, a4, a5, a6, a7, a8, a9, a10, a11, a12, a13, a14, a15, rfl⟩ := len16 hl
  have key : ∀ (k : Nat) (l l' : List Value), k < l.length → l.set k (.int .u64 (n : Int)) = l' → SetN (.int .u64 (n : Int)) k l l' := fun k l l' hk e => e ▸ SetN.of hk
  rcases h with rfl | rfl | rfl | rfl | rfl | rfl | rfl | rfl | rfl | rfl | rfl | rfl | rfl | rfl | rfl | rfl <;> exact key _ _ _ (by simp [exV, Cfg.m, Cfg.v, Cfg.fr, g4, g16, Ins.v]) rfl
set_option maxRecDepth 100000 in
theorem xfail_t (X V Pb W room : Nat) (c : Cfg) (cv nv : Value) (x : Xs) (p : Po) (puts : List (Int × Nat)) (e : Int) (val : Nat) (hm : x.mark ≤ puts.length) (hlen : puts.length ≤ 1000000000) :
    Tri Tryz.prog 115 #[.pointer (some ⟨X, 0, none⟩), .int .i64 e, .int .u64 (val : Int)] [bl X 221 (exV c cv V Pb W nv x), Pl Pb c p, Ws W room puts]
      fun r L => r = .tuple ⟨[]⟩ ∧ L = [bl X 221 (exV c cv V Pb W nv { x with s := 1, rc := e, rv := val }), Pl Pb c { p with nt := x.st, nl := x.sl }, Ws W room (puts.take x.mark)] := by
  have hb := wback_t W room x.mark puts hm hlen
  have hp := pback_t Pb c p x.st x.sl
  refine Tri.of_body (vs := [_, _, _]) Tryz.func115 rfl rfl fun w0 F => ?_
  repeat' (first | refine Ga ?_ | (refine Gb ?_; intro b) | (refine Gd ?_; intro g cap rest hcap) | (refine Gc ?_; intro ad cap) | (refine St.draw (id := 0) [(0, 0), (1, 0), (2, 0), (3, 1), (4, 0), (5, 0), (6, 0), (7, 1), (8, 3)] [8] mixed (by kernel_rfl) ?_) | (refine St.draw (id := 1) [(0, 0), (1, 0), (2, 0), (3, 1), (4, 0), (5, 0), (6, 0), (7, 1), (8, 3)] [8] mixed (by kernel_rfl) ?_) | (refine Gt hb ?_; rintro _ _ ⟨rfl, rfl⟩) | (refine Gt hp ?_; rintro _ _ ⟨rfl, rfl⟩) | (refine Ge ?_ ?_ <;> (intro h; try (exfalso; omega))) | fail)
  refine St.f1 Tryz.func115 ⟨_, ⟨rfl, rfl⟩, ?_⟩
  exact Ent.go
/-- a program that runs, and all that it is over -/
structure Xm where
  x : Xs
  v : Vw
  p : Po
  puts : List (Int × Nat)
  news : List Nat
def Xm.fail (m : Xm) (e : Int) (val : Nat) : Xm := { m with x := { m.x with s := 1, rc := e, rv := val }, p := { m.p with nt := m.x.st, nl := m.x.sl }, puts := m.puts.take m.x.mark }
def Xm.pay (c : Cfg) (m : Xm) : Xm × Bool := if c.writes - m.x.writes < costs m.x.i.op then (m.fail 42 0, false) else ({ m with x := { m.x with writes := m.x.writes + costs m.x.i.op } }, true)
theorem costs_le (op : Int) : 0 ≤ costs op ∧ costs op ≤ 9 := by
  unfold costs
  repeat' split
  all_goals omega
set_option maxRecDepth 100000 in
theorem xpay_t (X V Pb W room : Nat) (c : Cfg) (hc : Small c) (cv nv : Value) (m : Xm) (hm : m.x.mark ≤ m.puts.length) (hlen : m.puts.length ≤ 1000000000) (hw : 0 ≤ m.x.writes ∧ m.x.writes ≤ 1000000) :
    Tri Tryz.prog 251 #[.pointer (some ⟨X, 0, none⟩)] [bl X 221 (exV c cv V Pb W nv m.x), Pl Pb c m.p, Ws W room m.puts]
      fun r L => r = .bool (m.pay c).2 ∧ L = [bl X 221 (exV c cv V Pb W nv (m.pay c).1.x), Pl Pb c (m.pay c).1.p, Ws W room (m.pay c).1.puts] := by
  have hf := xfail_t X V Pb W room c cv nv m.x m.p m.puts 42 0 hm hlen
  have hco := costs_r m.x.i.op
  have hcl := costs_le m.x.i.op
  have hcf := cfg_r c
  have htk := take_x c cv V Pb W nv m.x
  have := hc.w0; have := hc.w1
  unfold Xm.pay
  by_cases h : c.writes - m.x.writes < costs m.x.i.op
  · rw [if_pos h]
    dsimp only [Xm.fail]
    refine Tri.of_body (vs := [_]) Tryz.func251 rfl rfl fun w0 F => ?_
    repeat' (first | refine Ga ?_ | (refine Gb ?_; intro b) | (refine Gd ?_; intro g cap rest hcap) | (refine Gc ?_; intro ad cap) | (refine St.draw (id := 2) [(0, 0), (1, 0), (2, 0), (3, 0), (4, 1), (5, 1), (6, 0), (7, 0), (8, 0), (9, 0), (10, 1), (11, 0), (12, 0)] [] mixed (by kernel_rfl) ?_)| refine Gl hco ?_ | refine Gl hcf ?_ | (refine Gt hf ?_; rintro _ _ ⟨rfl, rfl⟩) | (refine Ge ?_ ?_ <;> (intro h; try (exfalso; omega))) | fail)
    refine St.d1 Tryz.func251 ⟨_, ⟨rfl, rfl⟩, ?_⟩
    exact Ent.go
  · rw [if_neg h]
    dsimp only
    refine Tri.of_body (vs := [_]) Tryz.func251 rfl rfl fun w0 F => ?_
    repeat' (first | refine Ga ?_ | (refine Gb ?_; intro b) | (refine Gd ?_; intro g cap rest hcap) | (refine Gc ?_; intro ad cap) | (refine St.draw (id := 2) [(0, 0), (1, 0), (2, 0), (3, 0), (4, 1), (5, 1), (6, 0), (7, 0), (8, 0), (9, 0), (10, 1), (11, 0), (12, 0)] [] mixed (by kernel_rfl) ?_)| refine Gl hco ?_ | refine Gl hcf ?_ | (refine Ge ?_ ?_ <;> (intro h; try (exfalso; omega))) | fail)
    refine St.d1 Tryz.func251 ⟨_, ⟨rfl, rfl⟩, ?_⟩
    exact Ent.go
end Go.Proofs.YthmbgodcpgkkeaaGreat
end
section
namespace Go.Proofs.YthmbgodcpgkkeaaGreat
open Go.ChangeShapes Go.WideShapes Go.ChangeAt Go.RowKit Go.Deep
def InsB : Type := { i : Ins // i.imm < 18446744073709551616 }
def InsB.f (i : InsB) : List Value := i.1.v
theorem map_f {α β : Type} (g : β → α) (f : α → List Value) (l : List β) : (l.map g).flatMap f = l.flatMap fun x => f (g x) := by rw [List.flatMap_map]
section
variable {H : Type} {enc : TypeId × Value → H} {w : World} {base fuel : Nat} {spare : Nat → Bool} {held : Bool} {cs : List Value} {x : DataW H × List MemPlace}
theorem insB_of (h : DataW.trod enc Tryz.prog w base spare held fuel 200 cs = some x) : ∃ i : InsB, cs = i.f := by
  obtain ⟨hl, hf⟩ := trod_fld Tryz.underlying200 h 5 (by kernel_rfl)
  obtain ⟨_, _, h0⟩ := hf 0 _ 0 1 rfl rfl (by kernel_rfl)
  obtain ⟨_, _, h1⟩ := hf 1 _ 1 1 rfl rfl (by kernel_rfl)
  obtain ⟨_, _, h2⟩ := hf 2 _ 2 1 rfl rfl (by kernel_rfl)
  obtain ⟨_, _, h3⟩ := hf 3 _ 3 1 rfl rfl (by kernel_rfl)
  obtain ⟨_, _, h4⟩ := hf 4 _ 4 1 rfl rfl (by kernel_rfl)
  obtain ⟨a0, e0, _, _⟩ := DataW.trod_int Tryz.underlying3 h0
  obtain ⟨a1, e1, _, _⟩ := DataW.trod_int Tryz.underlying3 h1
  obtain ⟨a2, e2, _, _⟩ := DataW.trod_int Tryz.underlying3 h2
  obtain ⟨a3, e3, _, _⟩ := DataW.trod_int Tryz.underlying3 h3
  obtain ⟨a4, e4, _, w4⟩ := DataW.trod_int Tryz.underlying22 h4
  have := wf_u64 w4
  match cs, hl with
  | [c0, c1, c2, c3, c4], _ =>
    injection e0 with e0 _; injection e1 with e1 _; injection e2 with e2 _; injection e3 with e3 _; injection e4 with e4 _
    subst e0; subst e1; subst e2; subst e3; subst e4
    refine ⟨⟨⟨a0, a1, a2, a3, a4.toNat⟩, by dsimp only; omega⟩, ?_⟩
    unfold InsB.f Ins.v
    dsimp only
    rw [Int.toNat_of_nonneg (by omega)]
end
end Go.Proofs.YthmbgodcpgkkeaaGreat
end
section
namespace Go.Proofs.YthmbgodcpgkkeaaGreat
set_option maxRecDepth 100000
theorem Small.tw {c : Cfg} (h : Small c) : 0 ≤ c.threads * c.writes ∧ c.threads * c.writes ≤ 512 ∧ c.threads * c.writes + c.threads = c.limit := by
  have h1 := h.t0; have h2 := h.t1; have h3 := h.w0; have h4 := h.w1
  refine ⟨Int.mul_nonneg (by omega) (by omega), Int.le_trans (Int.mul_le_mul h2 h4 (by omega) (by omega)) (by decide), ?_⟩
  unfold Cfg.limit; rw [Int.mul_add, Int.mul_one]
theorem rlimit_r (c : Cfg) (hc : Small c) : RTri Tryz.prog 109 #[.agg ⟨c.v⟩] [] (.int .i64 c.limit) := by
  have := hc.t0; have := hc.t1; have := hc.w0; have := hc.w1
  have hl := hc.tw
  apply RTri.of_pure
  refine Tri.of_body (vs := [_]) Tryz.func109 rfl rfl fun w0 F => ?_
  repeat' (first | refine Ga ?_ | (refine Gb ?_; intro b) | (refine Gd ?_; intro g cap rest hcap) | (refine Gc ?_; intro ad cap)  | (refine Ge ?_ ?_ <;> (intro h; try (exfalso; omega))) | fail)
  (first | refine St.dn Tryz.func109 ⟨?_, rfl⟩ Ent.go | refine St.fl Tryz.func109 ⟨?_, rfl⟩ Ent.go)
  exact congrArg (Value.int .i64) hl.2.2
theorem rcap_r (c : Cfg) (hc : Small c) : RTri Tryz.prog 125 #[.agg ⟨c.v⟩] [] (.int .i64 c.cap) := by
  have := hc.t0; have := hc.t1; have := hc.w0; have := hc.w1
  have hl := hc.limit; have h3 := hc.tw3
  apply RTri.of_pure
  refine Tri.of_body (vs := [_]) Tryz.func125 rfl rfl fun w0 F => ?_
  repeat' (first | refine Ga ?_ | (refine Gb ?_; intro b) | (refine Gd ?_; intro g cap rest hcap) | (refine Gc ?_; intro ad cap) | (refine St.draw (id := 1) [(0, 0), (1, 1), (2, 0), (3, 1), (4, 0), (5, 0), (6, 1), (7, 1), (8, 0), (9, 0), (10, 0), (11, 0)] [] mixed (by kernel_rfl) ?_)| refine Gl (rlimit_r c hc) ?_ | (refine Ge ?_ ?_ <;> (intro h; try (exfalso; omega))) | fail)
  (first | refine St.dn Tryz.func125 ⟨?_, rfl⟩ Ent.go | refine St.fl Tryz.func125 ⟨?_, rfl⟩ Ent.go)
  rfl
theorem rstride_r (c : Cfg) (hc : Small c) : RTri Tryz.prog 189 #[.agg ⟨c.v⟩] [] (.int .i64 c.stride) := by
  have hl := hc.cap
  apply RTri.of_pure
  refine Tri.of_body (vs := [_]) Tryz.func189 rfl rfl fun w0 F => ?_
  repeat' (first | refine Ga ?_ | (refine Gb ?_; intro b) | (refine Gd ?_; intro g cap rest hcap) | (refine Gc ?_; intro ad cap) | refine Gl (rcap_r c hc) ?_ | (refine Ge ?_ ?_ <;> (intro h; try (exfalso; omega))) | fail)
  (first | refine St.dn Tryz.func189 ⟨?_, rfl⟩ Ent.go | refine St.fl Tryz.func189 ⟨?_, rfl⟩ Ent.go)
  exact congrArg (Value.int .i64) (show c.cap + 8 = 8 + c.cap by omega)
def Cfg.cntR (c : Cfg) (kind : Int) : Int :=
  if kind = 0 ∨ kind = 12 ∨ kind = 14 then 1 else if 1 ≤ kind ∧ kind ≤ 9 then c.threads else if kind = 10 then 16 else
  if kind = 11 ∨ kind = 13 ∨ kind = 16 then c.blocks else if kind = 15 then c.limit else 0
theorem rcount_r (c : Cfg) (hc : Small c) (kind : Int) : RTri Tryz.prog 187 #[.agg ⟨c.v⟩, .int .i64 kind] [] (.int .i64 (c.cntR kind)) := by
  apply RTri.of_pure
  refine Tri.of_body (vs := [_, _]) Tryz.func187 rfl rfl fun w0 F => ?_
  repeat' (first | refine Ga ?_ | (refine Gb ?_; intro b) | (refine Gd ?_; intro g cap rest hcap) | (refine Gc ?_; intro ad cap) | refine Gl (rlimit_r c hc) ?_ | (refine Ge ?_ ?_ <;> (intro h; try (exfalso; omega))) | fail)
  all_goals (first | refine St.dn Tryz.func187 ⟨?_, rfl⟩ Ent.go | refine St.fl Tryz.func187 ⟨?_, rfl⟩ Ent.go)
  all_goals refine congrArg (Value.int .i64) ?_
  all_goals unfold Cfg.cntR
  all_goals (repeat (first | rw [if_pos (by omega)] | rw [if_neg (by omega)]))
def Cfg.eachR (c : Cfg) (kind : Int) : Int := if kind = 2 then 4 else if kind = 6 then c.cap else if kind = 16 then 8 else 1
theorem reach_r (c : Cfg) (hc : Small c) (kind : Int) : RTri Tryz.prog 188 #[.agg ⟨c.v⟩, .int .i64 kind] [] (.int .i64 (c.eachR kind)) := by
  apply RTri.of_pure
  refine Tri.of_body (vs := [_, _]) Tryz.func188 rfl rfl fun w0 F => ?_
  repeat' (first | refine Ga ?_ | (refine Gb ?_; intro b) | (refine Gd ?_; intro g cap rest hcap) | (refine Gc ?_; intro ad cap) | refine Gl (rcap_r c hc) ?_ | (refine Ge ?_ ?_ <;> (intro h; try (exfalso; omega))) | fail)
  all_goals (first | refine St.dn Tryz.func188 ⟨?_, rfl⟩ Ent.go | refine St.fl Tryz.func188 ⟨?_, rfl⟩ Ent.go)
  all_goals refine congrArg (Value.int .i64) ?_
  all_goals unfold Cfg.eachR
  all_goals (repeat (first | rw [if_pos (by omega)] | rw [if_neg (by omega)]))
def Cfg.frm (c : Cfg) : Nat → Int
  | 0 => 0 | 1 => 1 | 2 => 2 | 3 => 6 | 4 => 7 | 5 => 8 | 6 => 9 | 7 => c.f7 | 8 => c.f7 + 1 | 9 => c.f7 + 2 | 10 => c.f10 | 11 => c.f11 | 12 => c.f12 | 13 => c.f13 | 14 => c.f14 | 15 => c.f15 | 16 => c.f16 | _ => c.f17
theorem rfrom_0 (c : Cfg) : RTri Tryz.prog 133 #[.agg ⟨c.v⟩, .int .i64 0] [] (.int .i64 (c.frm 0)) := by
  apply RTri.of_pure
  refine Tri.of_body (vs := [_, _]) Tryz.func133 rfl rfl fun w0 F => ?_
  repeat' (first | refine Ga ?_ | (refine Gb ?_; intro b) | (refine Gd ?_; intro g cap rest hcap) | (refine Gc ?_; intro ad cap) | (refine Ge ?_ ?_ <;> (intro h; try (exfalso; omega))) | fail)
  (first | refine St.dn Tryz.func133 ⟨?_, rfl⟩ Ent.go | refine St.fl Tryz.func133 ⟨?_, rfl⟩ Ent.go)
  rfl
theorem rfrom_1 (c : Cfg) : RTri Tryz.prog 133 #[.agg ⟨c.v⟩, .int .i64 1] [] (.int .i64 (c.frm 1)) := by
  apply RTri.of_pure
  refine Tri.of_body (vs := [_, _]) Tryz.func133 rfl rfl fun w0 F => ?_
  repeat' (first | refine Ga ?_ | (refine Gb ?_; intro b) | (refine Gd ?_; intro g cap rest hcap) | (refine Gc ?_; intro ad cap) | (refine Ge ?_ ?_ <;> (intro h; try (exfalso; omega))) | fail)
  (first | refine St.dn Tryz.func133 ⟨?_, rfl⟩ Ent.go | refine St.fl Tryz.func133 ⟨?_, rfl⟩ Ent.go)
  rfl
theorem rfrom_2 (c : Cfg) (hc : Small c) : RTri Tryz.prog 133 #[.agg ⟨c.v⟩, .int .i64 2] [] (.int .i64 (c.frm 2)) := by
  have hn := hc.nums.f7; have hn2 := hc.nums.f17; have ht := hc.ts
  have hcap := hc.cap
  have := hc.t0; have := hc.t1; have := hc.b0; have := hc.b1; have := hc.limit
  obtain ⟨hf7, hf10, hf11, hf12, hf13, hf14, hf15, hf16, hf17, hstr⟩ := c.froms
  have hcnt := rcount_r c hc 1
  rw [show c.cntR 1 = c.threads from rfl] at hcnt
  have heach := reach_r c hc 1
  rw [show c.eachR 1 = 1 from rfl] at heach
  have hstride := rstride_r c hc
  have hfrom : RTri Tryz.prog 133 #[.agg ⟨c.v⟩, .int .i64 1] [] (.int .i64 1) := by first | exact rfrom_1 c | exact rfrom_1 c hc
  apply RTri.of_pure
  refine Tri.of_body (vs := [_, _]) Tryz.func133 rfl rfl fun w0 F => ?_
  repeat' (first | refine Ga ?_ | (refine Gb ?_; intro b) | (refine Gd ?_; intro g cap rest hcap) | (refine Gc ?_; intro ad cap) | (refine St.draw (id := 4) [(0, 1), (1, 0), (2, 0), (3, 1), (4, 1), (5, 0), (6, 0), (7, 1), (8, 0), (9, 0)] [] mixed (by kernel_rfl) ?_) | refine Gl hcnt ?_ | refine Gl heach ?_ | refine Gl hstride ?_ | refine Gl hfrom ?_ | (refine Ge ?_ ?_ <;> (intro h; try (exfalso; omega))) | fail)
  (first | refine St.dn Tryz.func133 ⟨?_, rfl⟩ Ent.go | refine St.fl Tryz.func133 ⟨?_, rfl⟩ Ent.go)
  refine congrArg (Value.int .i64) ?_
  first | rfl | (show _ = 2; omega)
theorem rfrom_3 (c : Cfg) (hc : Small c) : RTri Tryz.prog 133 #[.agg ⟨c.v⟩, .int .i64 3] [] (.int .i64 (c.frm 3)) := by
  have hn := hc.nums.f7; have hn2 := hc.nums.f17; have ht := hc.ts
  have hcap := hc.cap
  have := hc.t0; have := hc.t1; have := hc.b0; have := hc.b1; have := hc.limit
  obtain ⟨hf7, hf10, hf11, hf12, hf13, hf14, hf15, hf16, hf17, hstr⟩ := c.froms
  have hcnt := rcount_r c hc 2
  rw [show c.cntR 2 = c.threads from rfl] at hcnt
  have heach := reach_r c hc 2
  rw [show c.eachR 2 = 4 from rfl] at heach
  have hstride := rstride_r c hc
  have hfrom : RTri Tryz.prog 133 #[.agg ⟨c.v⟩, .int .i64 2] [] (.int .i64 2) := by first | exact rfrom_2 c | exact rfrom_2 c hc
  apply RTri.of_pure
  refine Tri.of_body (vs := [_, _]) Tryz.func133 rfl rfl fun w0 F => ?_
  repeat' (first | refine Ga ?_ | (refine Gb ?_; intro b) | (refine Gd ?_; intro g cap rest hcap) | (refine Gc ?_; intro ad cap) | (refine St.draw (id := 4) [(0, 1), (1, 0), (2, 0), (3, 1), (4, 1), (5, 0), (6, 0), (7, 1), (8, 0), (9, 0)] [] mixed (by kernel_rfl) ?_) | refine Gl hcnt ?_ | refine Gl heach ?_ | refine Gl hstride ?_ | refine Gl hfrom ?_ | (refine Ge ?_ ?_ <;> (intro h; try (exfalso; omega))) | fail)
  (first | refine St.dn Tryz.func133 ⟨?_, rfl⟩ Ent.go | refine St.fl Tryz.func133 ⟨?_, rfl⟩ Ent.go)
  refine congrArg (Value.int .i64) ?_
  first | rfl | (show _ = 6; omega)
theorem rfrom_4 (c : Cfg) (hc : Small c) : RTri Tryz.prog 133 #[.agg ⟨c.v⟩, .int .i64 4] [] (.int .i64 (c.frm 4)) := by
  have hn := hc.nums.f7; have hn2 := hc.nums.f17; have ht := hc.ts
  have hcap := hc.cap
  have := hc.t0; have := hc.t1; have := hc.b0; have := hc.b1; have := hc.limit
  obtain ⟨hf7, hf10, hf11, hf12, hf13, hf14, hf15, hf16, hf17, hstr⟩ := c.froms
  have hcnt := rcount_r c hc 3
  rw [show c.cntR 3 = c.threads from rfl] at hcnt
  have heach := reach_r c hc 3
  rw [show c.eachR 3 = 1 from rfl] at heach
  have hstride := rstride_r c hc
  have hfrom : RTri Tryz.prog 133 #[.agg ⟨c.v⟩, .int .i64 3] [] (.int .i64 6) := by first | exact rfrom_3 c | exact rfrom_3 c hc
  apply RTri.of_pure
  refine Tri.of_body (vs := [_, _]) Tryz.func133 rfl rfl fun w0 F => ?_
  repeat' (first | refine Ga ?_ | (refine Gb ?_; intro b) | (refine Gd ?_; intro g cap rest hcap) | (refine Gc ?_; intro ad cap) | (refine St.draw (id := 4) [(0, 1), (1, 0), (2, 0), (3, 1), (4, 1), (5, 0), (6, 0), (7, 1), (8, 0), (9, 0)] [] mixed (by kernel_rfl) ?_) | refine Gl hcnt ?_ | refine Gl heach ?_ | refine Gl hstride ?_ | refine Gl hfrom ?_ | (refine Ge ?_ ?_ <;> (intro h; try (exfalso; omega))) | fail)
  (first | refine St.dn Tryz.func133 ⟨?_, rfl⟩ Ent.go | refine St.fl Tryz.func133 ⟨?_, rfl⟩ Ent.go)
  refine congrArg (Value.int .i64) ?_
  first | rfl | (show _ = 7; omega)
theorem rfrom_5 (c : Cfg) (hc : Small c) : RTri Tryz.prog 133 #[.agg ⟨c.v⟩, .int .i64 5] [] (.int .i64 (c.frm 5)) := by
  have hn := hc.nums.f7; have hn2 := hc.nums.f17; have ht := hc.ts
  have hcap := hc.cap
  have := hc.t0; have := hc.t1; have := hc.b0; have := hc.b1; have := hc.limit
  obtain ⟨hf7, hf10, hf11, hf12, hf13, hf14, hf15, hf16, hf17, hstr⟩ := c.froms
  have hcnt := rcount_r c hc 4
  rw [show c.cntR 4 = c.threads from rfl] at hcnt
  have heach := reach_r c hc 4
  rw [show c.eachR 4 = 1 from rfl] at heach
  have hstride := rstride_r c hc
  have hfrom : RTri Tryz.prog 133 #[.agg ⟨c.v⟩, .int .i64 4] [] (.int .i64 7) := by first | exact rfrom_4 c | exact rfrom_4 c hc
  apply RTri.of_pure
  refine Tri.of_body (vs := [_, _]) Tryz.func133 rfl rfl fun w0 F => ?_
  repeat' (first | refine Ga ?_ | (refine Gb ?_; intro b) | (refine Gd ?_; intro g cap rest hcap) | (refine Gc ?_; intro ad cap) | (refine St.draw (id := 4) [(0, 1), (1, 0), (2, 0), (3, 1), (4, 1), (5, 0), (6, 0), (7, 1), (8, 0), (9, 0)] [] mixed (by kernel_rfl) ?_) | refine Gl hcnt ?_ | refine Gl heach ?_ | refine Gl hstride ?_ | refine Gl hfrom ?_ | (refine Ge ?_ ?_ <;> (intro h; try (exfalso; omega))) | fail)
  (first | refine St.dn Tryz.func133 ⟨?_, rfl⟩ Ent.go | refine St.fl Tryz.func133 ⟨?_, rfl⟩ Ent.go)
  refine congrArg (Value.int .i64) ?_
  first | rfl | (show _ = 8; omega)
theorem rfrom_6 (c : Cfg) (hc : Small c) : RTri Tryz.prog 133 #[.agg ⟨c.v⟩, .int .i64 6] [] (.int .i64 (c.frm 6)) := by
  have hn := hc.nums.f7; have hn2 := hc.nums.f17; have ht := hc.ts
  have hcap := hc.cap
  have := hc.t0; have := hc.t1; have := hc.b0; have := hc.b1; have := hc.limit
  obtain ⟨hf7, hf10, hf11, hf12, hf13, hf14, hf15, hf16, hf17, hstr⟩ := c.froms
  have hcnt := rcount_r c hc 5
  rw [show c.cntR 5 = c.threads from rfl] at hcnt
  have heach := reach_r c hc 5
  rw [show c.eachR 5 = 1 from rfl] at heach
  have hstride := rstride_r c hc
  have hfrom : RTri Tryz.prog 133 #[.agg ⟨c.v⟩, .int .i64 5] [] (.int .i64 8) := by first | exact rfrom_5 c | exact rfrom_5 c hc
  apply RTri.of_pure
  refine Tri.of_body (vs := [_, _]) Tryz.func133 rfl rfl fun w0 F => ?_
  repeat' (first | refine Ga ?_ | (refine Gb ?_; intro b) | (refine Gd ?_; intro g cap rest hcap) | (refine Gc ?_; intro ad cap) | (refine St.draw (id := 4) [(0, 1), (1, 0), (2, 0), (3, 1), (4, 1), (5, 0), (6, 0), (7, 1), (8, 0), (9, 0)] [] mixed (by kernel_rfl) ?_) | refine Gl hcnt ?_ | refine Gl heach ?_ | refine Gl hstride ?_ | refine Gl hfrom ?_ | (refine Ge ?_ ?_ <;> (intro h; try (exfalso; omega))) | fail)
  (first | refine St.dn Tryz.func133 ⟨?_, rfl⟩ Ent.go | refine St.fl Tryz.func133 ⟨?_, rfl⟩ Ent.go)
  refine congrArg (Value.int .i64) ?_
  first | rfl | (show _ = 9; omega)
theorem rfrom_7 (c : Cfg) (hc : Small c) : RTri Tryz.prog 133 #[.agg ⟨c.v⟩, .int .i64 7] [] (.int .i64 (c.frm 7)) := by
  have hn := hc.nums.f7; have hn2 := hc.nums.f17; have ht := hc.ts
  have hcap := hc.cap
  have := hc.t0; have := hc.t1; have := hc.b0; have := hc.b1; have := hc.limit
  obtain ⟨hf7, hf10, hf11, hf12, hf13, hf14, hf15, hf16, hf17, hstr⟩ := c.froms
  have hcnt := rcount_r c hc 6
  rw [show c.cntR 6 = c.threads from rfl] at hcnt
  have heach := reach_r c hc 6
  rw [show c.eachR 6 = c.cap from rfl] at heach
  have hstride := rstride_r c hc
  have hfrom : RTri Tryz.prog 133 #[.agg ⟨c.v⟩, .int .i64 6] [] (.int .i64 9) := by first | exact rfrom_6 c | exact rfrom_6 c hc
  apply RTri.of_pure
  refine Tri.of_body (vs := [_, _]) Tryz.func133 rfl rfl fun w0 F => ?_
  repeat' (first | refine Ga ?_ | (refine Gb ?_; intro b) | (refine Gd ?_; intro g cap rest hcap) | (refine Gc ?_; intro ad cap) | (refine St.draw (id := 6) [(0, 0), (1, 1), (2, 1), (3, 1), (4, 0), (5, 0), (6, 0)] [] mixed (by kernel_rfl) ?_) | refine Gl hcnt ?_ | refine Gl heach ?_ | refine Gl hstride ?_ | refine Gl hfrom ?_ | (refine Ge ?_ ?_ <;> (intro h; try (exfalso; omega))) | fail)
  (first | refine St.dn Tryz.func133 ⟨?_, rfl⟩ Ent.go | refine St.fl Tryz.func133 ⟨?_, rfl⟩ Ent.go)
  refine congrArg (Value.int .i64) ?_
  first | rfl | (show _ = c.f7; omega)
theorem rfrom_8 (c : Cfg) (hc : Small c) : RTri Tryz.prog 133 #[.agg ⟨c.v⟩, .int .i64 8] [] (.int .i64 (c.frm 8)) := by
  have hn := hc.nums.f7; have hn2 := hc.nums.f17; have ht := hc.ts
  have hcap := hc.cap
  have := hc.t0; have := hc.t1; have := hc.b0; have := hc.b1; have := hc.limit
  obtain ⟨hf7, hf10, hf11, hf12, hf13, hf14, hf15, hf16, hf17, hstr⟩ := c.froms
  have hcnt := rcount_r c hc 7
  rw [show c.cntR 7 = c.threads from rfl] at hcnt
  have heach := reach_r c hc 7
  rw [show c.eachR 7 = 1 from rfl] at heach
  have hstride := rstride_r c hc
  have hfrom : RTri Tryz.prog 133 #[.agg ⟨c.v⟩, .int .i64 7] [] (.int .i64 c.f7) := by first | exact rfrom_7 c | exact rfrom_7 c hc
  apply RTri.of_pure
  refine Tri.of_body (vs := [_, _]) Tryz.func133 rfl rfl fun w0 F => ?_
  repeat' (first | refine Ga ?_ | (refine Gb ?_; intro b) | (refine Gd ?_; intro g cap rest hcap) | (refine Gc ?_; intro ad cap) | refine Gl hcnt ?_ | refine Gl heach ?_ | refine Gl hstride ?_ | refine Gl hfrom ?_ | (refine Ge ?_ ?_ <;> (intro h; try (exfalso; omega))) | fail)
  (first | refine St.dn Tryz.func133 ⟨?_, rfl⟩ Ent.go | refine St.fl Tryz.func133 ⟨?_, rfl⟩ Ent.go)
  refine congrArg (Value.int .i64) ?_
  first | rfl | (show _ = c.f7 + 1; omega)
theorem rfrom_9 (c : Cfg) (hc : Small c) : RTri Tryz.prog 133 #[.agg ⟨c.v⟩, .int .i64 9] [] (.int .i64 (c.frm 9)) := by
  have hn := hc.nums.f7; have hn2 := hc.nums.f17; have ht := hc.ts
  have hcap := hc.cap
  have := hc.t0; have := hc.t1; have := hc.b0; have := hc.b1; have := hc.limit
  obtain ⟨hf7, hf10, hf11, hf12, hf13, hf14, hf15, hf16, hf17, hstr⟩ := c.froms
  have hcnt := rcount_r c hc 7
  rw [show c.cntR 7 = c.threads from rfl] at hcnt
  have heach := reach_r c hc 7
  rw [show c.eachR 7 = 1 from rfl] at heach
  have hstride := rstride_r c hc
  have hfrom : RTri Tryz.prog 133 #[.agg ⟨c.v⟩, .int .i64 7] [] (.int .i64 c.f7) := by first | exact rfrom_7 c | exact rfrom_7 c hc
  apply RTri.of_pure
  refine Tri.of_body (vs := [_, _]) Tryz.func133 rfl rfl fun w0 F => ?_
  repeat' (first | refine Ga ?_ | (refine Gb ?_; intro b) | (refine Gd ?_; intro g cap rest hcap) | (refine Gc ?_; intro ad cap) | refine Gl hcnt ?_ | refine Gl heach ?_ | refine Gl hstride ?_ | refine Gl hfrom ?_ | (refine Ge ?_ ?_ <;> (intro h; try (exfalso; omega))) | fail)
  (first | refine St.dn Tryz.func133 ⟨?_, rfl⟩ Ent.go | refine St.fl Tryz.func133 ⟨?_, rfl⟩ Ent.go)
  refine congrArg (Value.int .i64) ?_
  first | rfl | (show _ = c.f7 + 2; omega)
theorem rfrom_10 (c : Cfg) (hc : Small c) : RTri Tryz.prog 133 #[.agg ⟨c.v⟩, .int .i64 10] [] (.int .i64 (c.frm 10)) := by
  have hn := hc.nums.f7; have hn2 := hc.nums.f17; have ht := hc.ts
  have hcap := hc.cap
  have := hc.t0; have := hc.t1; have := hc.b0; have := hc.b1; have := hc.limit
  obtain ⟨hf7, hf10, hf11, hf12, hf13, hf14, hf15, hf16, hf17, hstr⟩ := c.froms
  have hcnt := rcount_r c hc 7
  rw [show c.cntR 7 = c.threads from rfl] at hcnt
  have heach := reach_r c hc 7
  rw [show c.eachR 7 = 1 from rfl] at heach
  have hstride := rstride_r c hc
  have hfrom : RTri Tryz.prog 133 #[.agg ⟨c.v⟩, .int .i64 7] [] (.int .i64 c.f7) := by first | exact rfrom_7 c | exact rfrom_7 c hc
  apply RTri.of_pure
  refine Tri.of_body (vs := [_, _]) Tryz.func133 rfl rfl fun w0 F => ?_
  repeat' (first | refine Ga ?_ | (refine Gb ?_; intro b) | (refine Gd ?_; intro g cap rest hcap) | (refine Gc ?_; intro ad cap) | (refine St.draw (id := 10) [(0, 1), (1, 1), (2, 0), (3, 1), (4, 0), (5, 0), (6, 0)] [] mixed (by kernel_rfl) ?_) | refine Gl hcnt ?_ | refine Gl heach ?_ | refine Gl hstride ?_ | refine Gl hfrom ?_ | (refine Ge ?_ ?_ <;> (intro h; try (exfalso; omega))) | fail)
  (first | refine St.dn Tryz.func133 ⟨?_, rfl⟩ Ent.go | refine St.fl Tryz.func133 ⟨?_, rfl⟩ Ent.go)
  refine congrArg (Value.int .i64) ?_
  first | rfl | (show _ = c.f10; omega)
theorem rfrom_11 (c : Cfg) (hc : Small c) : RTri Tryz.prog 133 #[.agg ⟨c.v⟩, .int .i64 11] [] (.int .i64 (c.frm 11)) := by
  have hn := hc.nums.f7; have hn2 := hc.nums.f17; have ht := hc.ts
  have hcap := hc.cap
  have := hc.t0; have := hc.t1; have := hc.b0; have := hc.b1; have := hc.limit
  obtain ⟨hf7, hf10, hf11, hf12, hf13, hf14, hf15, hf16, hf17, hstr⟩ := c.froms
  have hcnt := rcount_r c hc 10
  rw [show c.cntR 10 = 16 from rfl] at hcnt
  have heach := reach_r c hc 10
  rw [show c.eachR 10 = 1 from rfl] at heach
  have hstride := rstride_r c hc
  have hfrom : RTri Tryz.prog 133 #[.agg ⟨c.v⟩, .int .i64 10] [] (.int .i64 c.f10) := by first | exact rfrom_10 c | exact rfrom_10 c hc
  apply RTri.of_pure
  refine Tri.of_body (vs := [_, _]) Tryz.func133 rfl rfl fun w0 F => ?_
  repeat' (first | refine Ga ?_ | (refine Gb ?_; intro b) | (refine Gd ?_; intro g cap rest hcap) | (refine Gc ?_; intro ad cap) | (refine St.draw (id := 11) [(0, 1), (1, 0), (2, 0), (3, 1), (4, 1), (5, 0), (6, 0), (7, 1), (8, 1), (9, 0), (10, 0), (11, 1), (12, 0), (13, 0), (14, 0)] [] mixed (by kernel_rfl) ?_)| refine Gl hcnt ?_ | refine Gl heach ?_ | refine Gl hstride ?_ | refine Gl hfrom ?_ | (refine Ge ?_ ?_ <;> (intro h; try (exfalso; omega))) | fail)
  (first | refine St.dn Tryz.func133 ⟨?_, rfl⟩ Ent.go | refine St.fl Tryz.func133 ⟨?_, rfl⟩ Ent.go)
  refine congrArg (Value.int .i64) ?_
  first | rfl | (show _ = c.f11; omega)
theorem rfrom_12 (c : Cfg) (hc : Small c) : RTri Tryz.prog 133 #[.agg ⟨c.v⟩, .int .i64 12] [] (.int .i64 (c.frm 12)) := by
  have hn := hc.nums.f7; have hn2 := hc.nums.f17; have ht := hc.ts
  have hcap := hc.cap
  have := hc.t0; have := hc.t1; have := hc.b0; have := hc.b1; have := hc.limit
  obtain ⟨hf7, hf10, hf11, hf12, hf13, hf14, hf15, hf16, hf17, hstr⟩ := c.froms
  have hcnt := rcount_r c hc 11
  rw [show c.cntR 11 = c.blocks from rfl] at hcnt
  have heach := reach_r c hc 11
  rw [show c.eachR 11 = 1 from rfl] at heach
  have hstride := rstride_r c hc
  have hfrom : RTri Tryz.prog 133 #[.agg ⟨c.v⟩, .int .i64 11] [] (.int .i64 c.f11) := by first | exact rfrom_11 c | exact rfrom_11 c hc
  apply RTri.of_pure
  refine Tri.of_body (vs := [_, _]) Tryz.func133 rfl rfl fun w0 F => ?_
  repeat' (first | refine Ga ?_ | (refine Gb ?_; intro b) | (refine Gd ?_; intro g cap rest hcap) | (refine Gc ?_; intro ad cap) | (refine St.draw (id := 11) [(0, 1), (1, 0), (2, 0), (3, 1), (4, 1), (5, 0), (6, 0), (7, 1), (8, 1), (9, 0), (10, 0), (11, 1), (12, 0), (13, 0), (14, 0)] [] mixed (by kernel_rfl) ?_)| refine Gl hcnt ?_ | refine Gl heach ?_ | refine Gl hstride ?_ | refine Gl hfrom ?_ | (refine Ge ?_ ?_ <;> (intro h; try (exfalso; omega))) | fail)
  (first | refine St.dn Tryz.func133 ⟨?_, rfl⟩ Ent.go | refine St.fl Tryz.func133 ⟨?_, rfl⟩ Ent.go)
  refine congrArg (Value.int .i64) ?_
  first | rfl | (show _ = c.f12; omega)
theorem rfrom_13 (c : Cfg) (hc : Small c) : RTri Tryz.prog 133 #[.agg ⟨c.v⟩, .int .i64 13] [] (.int .i64 (c.frm 13)) := by
  have hn := hc.nums.f7; have hn2 := hc.nums.f17; have ht := hc.ts
  have hcap := hc.cap
  have := hc.t0; have := hc.t1; have := hc.b0; have := hc.b1; have := hc.limit
  obtain ⟨hf7, hf10, hf11, hf12, hf13, hf14, hf15, hf16, hf17, hstr⟩ := c.froms
  have hcnt := rcount_r c hc 12
  rw [show c.cntR 12 = 1 from rfl] at hcnt
  have heach := reach_r c hc 12
  rw [show c.eachR 12 = 1 from rfl] at heach
  have hstride := rstride_r c hc
  have hfrom : RTri Tryz.prog 133 #[.agg ⟨c.v⟩, .int .i64 12] [] (.int .i64 c.f12) := by first | exact rfrom_12 c | exact rfrom_12 c hc
  apply RTri.of_pure
  refine Tri.of_body (vs := [_, _]) Tryz.func133 rfl rfl fun w0 F => ?_
  repeat' (first | refine Ga ?_ | (refine Gb ?_; intro b) | (refine Gd ?_; intro g cap rest hcap) | (refine Gc ?_; intro ad cap) | (refine St.draw (id := 11) [(0, 1), (1, 0), (2, 0), (3, 1), (4, 1), (5, 0), (6, 0), (7, 1), (8, 1), (9, 0), (10, 0), (11, 1), (12, 0), (13, 0), (14, 0)] [] mixed (by kernel_rfl) ?_)| refine Gl hcnt ?_ | refine Gl heach ?_ | refine Gl hstride ?_ | refine Gl hfrom ?_ | (refine Ge ?_ ?_ <;> (intro h; try (exfalso; omega))) | fail)
  (first | refine St.dn Tryz.func133 ⟨?_, rfl⟩ Ent.go | refine St.fl Tryz.func133 ⟨?_, rfl⟩ Ent.go)
  refine congrArg (Value.int .i64) ?_
  first | rfl | (show _ = c.f13; omega)
theorem rfrom_14 (c : Cfg) (hc : Small c) : RTri Tryz.prog 133 #[.agg ⟨c.v⟩, .int .i64 14] [] (.int .i64 (c.frm 14)) := by
  have hn := hc.nums.f7; have hn2 := hc.nums.f17; have ht := hc.ts
  have hcap := hc.cap
  have := hc.t0; have := hc.t1; have := hc.b0; have := hc.b1; have := hc.limit
  obtain ⟨hf7, hf10, hf11, hf12, hf13, hf14, hf15, hf16, hf17, hstr⟩ := c.froms
  have hcnt := rcount_r c hc 13
  rw [show c.cntR 13 = c.blocks from rfl] at hcnt
  have heach := reach_r c hc 13
  rw [show c.eachR 13 = 1 from rfl] at heach
  have hstride := rstride_r c hc
  have hfrom : RTri Tryz.prog 133 #[.agg ⟨c.v⟩, .int .i64 13] [] (.int .i64 c.f13) := by first | exact rfrom_13 c | exact rfrom_13 c hc
  apply RTri.of_pure
  refine Tri.of_body (vs := [_, _]) Tryz.func133 rfl rfl fun w0 F => ?_
  repeat' (first | refine Ga ?_ | (refine Gb ?_; intro b) | (refine Gd ?_; intro g cap rest hcap) | (refine Gc ?_; intro ad cap) | (refine St.draw (id := 11) [(0, 1), (1, 0), (2, 0), (3, 1), (4, 1), (5, 0), (6, 0), (7, 1), (8, 1), (9, 0), (10, 0), (11, 1), (12, 0), (13, 0), (14, 0)] [] mixed (by kernel_rfl) ?_)| refine Gl hcnt ?_ | refine Gl heach ?_ | refine Gl hstride ?_ | refine Gl hfrom ?_ | (refine Ge ?_ ?_ <;> (intro h; try (exfalso; omega))) | fail)
  (first | refine St.dn Tryz.func133 ⟨?_, rfl⟩ Ent.go | refine St.fl Tryz.func133 ⟨?_, rfl⟩ Ent.go)
  refine congrArg (Value.int .i64) ?_
  first | rfl | (show _ = c.f14; omega)
theorem rfrom_15 (c : Cfg) (hc : Small c) : RTri Tryz.prog 133 #[.agg ⟨c.v⟩, .int .i64 15] [] (.int .i64 (c.frm 15)) := by
  have hn := hc.nums.f7; have hn2 := hc.nums.f17; have ht := hc.ts
  have hcap := hc.cap
  have := hc.t0; have := hc.t1; have := hc.b0; have := hc.b1; have := hc.limit
  obtain ⟨hf7, hf10, hf11, hf12, hf13, hf14, hf15, hf16, hf17, hstr⟩ := c.froms
  have hcnt := rcount_r c hc 14
  rw [show c.cntR 14 = 1 from rfl] at hcnt
  have heach := reach_r c hc 14
  rw [show c.eachR 14 = 1 from rfl] at heach
  have hstride := rstride_r c hc
  have hfrom : RTri Tryz.prog 133 #[.agg ⟨c.v⟩, .int .i64 14] [] (.int .i64 c.f14) := by first | exact rfrom_14 c | exact rfrom_14 c hc
  apply RTri.of_pure
  refine Tri.of_body (vs := [_, _]) Tryz.func133 rfl rfl fun w0 F => ?_
  repeat' (first | refine Ga ?_ | (refine Gb ?_; intro b) | (refine Gd ?_; intro g cap rest hcap) | (refine Gc ?_; intro ad cap) | (refine St.draw (id := 11) [(0, 1), (1, 0), (2, 0), (3, 1), (4, 1), (5, 0), (6, 0), (7, 1), (8, 1), (9, 0), (10, 0), (11, 1), (12, 0), (13, 0), (14, 0)] [] mixed (by kernel_rfl) ?_)| refine Gl hcnt ?_ | refine Gl heach ?_ | refine Gl hstride ?_ | refine Gl hfrom ?_ | (refine Ge ?_ ?_ <;> (intro h; try (exfalso; omega))) | fail)
  (first | refine St.dn Tryz.func133 ⟨?_, rfl⟩ Ent.go | refine St.fl Tryz.func133 ⟨?_, rfl⟩ Ent.go)
  refine congrArg (Value.int .i64) ?_
  first | rfl | (show _ = c.f15; omega)
theorem rfrom_16 (c : Cfg) (hc : Small c) : RTri Tryz.prog 133 #[.agg ⟨c.v⟩, .int .i64 16] [] (.int .i64 (c.frm 16)) := by
  have hn := hc.nums.f7; have hn2 := hc.nums.f17; have ht := hc.ts
  have hcap := hc.cap
  have := hc.t0; have := hc.t1; have := hc.b0; have := hc.b1; have := hc.limit
  obtain ⟨hf7, hf10, hf11, hf12, hf13, hf14, hf15, hf16, hf17, hstr⟩ := c.froms
  have hcnt := rcount_r c hc 15
  rw [show c.cntR 15 = c.limit from rfl] at hcnt
  have heach := reach_r c hc 15
  rw [show c.eachR 15 = 1 from rfl] at heach
  have hstride := rstride_r c hc
  have hfrom : RTri Tryz.prog 133 #[.agg ⟨c.v⟩, .int .i64 15] [] (.int .i64 c.f15) := by first | exact rfrom_15 c | exact rfrom_15 c hc
  apply RTri.of_pure
  refine Tri.of_body (vs := [_, _]) Tryz.func133 rfl rfl fun w0 F => ?_
  repeat' (first | refine Ga ?_ | (refine Gb ?_; intro b) | (refine Gd ?_; intro g cap rest hcap) | (refine Gc ?_; intro ad cap) | (refine St.draw (id := 11) [(0, 1), (1, 0), (2, 0), (3, 1), (4, 1), (5, 0), (6, 0), (7, 1), (8, 1), (9, 0), (10, 0), (11, 1), (12, 0), (13, 0), (14, 0)] [] mixed (by kernel_rfl) ?_)| refine Gl hcnt ?_ | refine Gl heach ?_ | refine Gl hstride ?_ | refine Gl hfrom ?_ | (refine Ge ?_ ?_ <;> (intro h; try (exfalso; omega))) | fail)
  (first | refine St.dn Tryz.func133 ⟨?_, rfl⟩ Ent.go | refine St.fl Tryz.func133 ⟨?_, rfl⟩ Ent.go)
  refine congrArg (Value.int .i64) ?_
  first | rfl | (show _ = c.f16; omega)
end Go.Proofs.YthmbgodcpgkkeaaGreat
end
