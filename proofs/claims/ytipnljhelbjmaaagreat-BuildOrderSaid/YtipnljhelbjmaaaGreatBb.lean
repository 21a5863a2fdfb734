/-
  Package build: a transaction that is made: its numbers, in plain terms.
-/
import Derived.Test.YtipnljhelbjmaaaGreatBa
namespace Go.Proofs.YtipnljhelbjmaaaGreat
set_option maxRecDepth 100000
/-- behind writing how a pool stands -/
def endP (c : Cfg) (room : Nat) (p : Po) (puts : List (Int × Nat)) : List (Int × Nat) :=
  if p.nl = p.wl then (if p.nt = p.wt then puts else putP room puts (c.at 12 0 0) p.nt.toNat) else putP room (if p.nt = p.wt then puts else putP room puts (c.at 12 0 0) p.nt.toNat) (c.at 14 0 0) p.nl.toNat
theorem pend_tE (Pb W room : Nat) (c : Cfg) (hc : Small c) (p : Po) (puts : List (Int × Nat)) (hnt : 0 ≤ p.nt ∧ p.nt ≤ 1000000) (hnl : 0 ≤ p.nl ∧ p.nl ≤ 1000000) (hlen : puts.length + 2 ≤ 1000000000) :
    Tri Tryz.prog 148 #[.pointer (some ⟨Pb, 0, none⟩), .pointer (some ⟨W, 0, none⟩)] [PlE Pb c p, Ws W room puts]
      fun r L => r = .tuple ⟨[]⟩ ∧ L = [PlE Pb c p, Ws W room (endP c room p puts)] := by
  refine Tri.ex_out fun x => ?_
  have htk := take_p c x.N p (.slice x.lad p.limbo.length x.lcap)
  have hat := fun k => at_r c hc k 0 0
  have e1 : (p.nt.toNat : Int) = p.nt := by omega
  have e2 : (p.nl.toNat : Int) = p.nl := by omega
  unfold endP
  have h1 := wput_t W room puts (c.at 12 0 0) p.nt.toNat (by omega)
  rw [e1] at h1
  have hl := putP_len room puts (c.at 12 0 0) p.nt.toNat
  by_cases ht : p.nt = p.wt
  · rw [if_pos ht]
    by_cases hn : p.nl = p.wl
    · rw [if_pos hn]
      refine Tri.of_body (vs := [_, _]) Tryz.func148 rfl rfl fun w0 F => ?_
      repeat' (first | (apply Ya; exact Oa) | (apply Yb; exact Ob) | (apply Yc; exact Oc; intro b) | (apply Ye; exact Oe; intro g cap rest hcap) | (apply Yd; exact Od; intro ad cap) | (apply Yf; exact Oj) | (apply Yg; exact Oj; exact ⟨rfl, rfl⟩) | (apply Yh; exact Oj; rfl) | (apply Yi; exact Oj; exact On; all_goals (intro h; try (exfalso; omega))) | apply StL.nil | apply St.region | apply St.seq | apply St.block | apply St.inBlock | apply St.skip | (apply St.exit; rfl) | (apply St.cond_t; rfl) | (apply St.cond_f; rfl) | (apply Ud; rfl; exact On; all_goals (intro h; try (exfalso; omega))) | (apply Za; rfl; exact Oa) | (apply Zb; rfl; exact Oa; exact Ent.go) | (apply Zc; rfl; exact Ob) | (apply Zd; rfl; exact Oc; intro b; refine ⟨Ent.go, ?_⟩) | (apply Ze; rfl; exact Oc; intro b) | (apply Zf; rfl; exact Oe; intro g cap rest hcap) | (apply Zg; rfl; exact Od; intro ad cap) | apply StD.nil | exact StD.nope | apply StD.pick | (apply StD.claim; rfl; intro b) | (apply Zi; rfl; exact Oj; exact Oa) | (apply Zj; rfl; exact Oj; exact Oa; exact Ent.go) | (apply Zk; rfl; exact Oj; exact ⟨rfl, rfl⟩) | (apply Zl; rfl; exact Oj; exact ⟨rfl, rfl⟩; exact Ent.go) | (apply Zm; rfl; exact Oj; rfl) | (apply Zn; rfl; exact Oj; exact Ent.go; rfl) | (refine St.draw (id := 0) [(0, 0), (1, 0), (2, 0), (3, 0), (4, 1), (5, 0), (6, 0), (7, 0), (8, 0), (9, 1), (10, 0)] [] mixed (by kernel_rfl) ?_) | (refine St.draw (id := 1) [(0, 0), (1, 0), (2, 0), (3, 0), (4, 1), (5, 1), (6, 0), (7, 0), (8, 0), (9, 0), (10, 1), (11, 0), (12, 3)] [12] mixed (by kernel_rfl) ?_) | (refine St.draw (id := 2) [(0, 0), (1, 0), (2, 0), (3, 0), (4, 1), (5, 0), (6, 0), (7, 0), (8, 0), (9, 1), (10, 0)] [] mixed (by kernel_rfl) ?_) | (refine St.draw (id := 3) [(0, 0), (1, 0), (2, 0), (3, 0), (4, 1), (5, 1), (6, 0), (7, 0), (8, 0), (9, 0), (10, 1), (11, 0), (12, 3)] [12] mixed (by kernel_rfl) ?_)  | (apply Zo; rfl; exact Oj; exact On; all_goals (intro h; try (exfalso; omega))))
      refine St.f1 Tryz.func148 ⟨_, ⟨rfl, rfl⟩, ?_⟩
      exact Ent.trans Ent.go (Ent.ex_in (Ls := plL Pb c p) x)
    · rw [if_neg hn]
      have h2 := wput_t W room puts (c.at 14 0 0) p.nl.toNat (by omega)
      rw [e2] at h2
      refine Tri.of_body (vs := [_, _]) Tryz.func148 rfl rfl fun w0 F => ?_
      repeat' (first | (apply Ya; exact Oa) | (apply Yb; exact Ob) | (apply Yc; exact Oc; intro b) | (apply Ye; exact Oe; intro g cap rest hcap) | (apply Yd; exact Od; intro ad cap) | (apply Yf; exact Oj) | (apply Yg; exact Oj; exact ⟨rfl, rfl⟩) | (apply Yh; exact Oj; rfl) | (apply Yi; exact Oj; exact On; all_goals (intro h; try (exfalso; omega))) | apply StL.nil | apply St.region | apply St.seq | apply St.block | apply St.inBlock | apply St.skip | (apply St.exit; rfl) | (apply St.cond_t; rfl) | (apply St.cond_f; rfl) | (apply Ud; rfl; exact On; all_goals (intro h; try (exfalso; omega))) | (apply Za; rfl; exact Oa) | (apply Zb; rfl; exact Oa; exact Ent.go) | (apply Zc; rfl; exact Ob) | (apply Zd; rfl; exact Oc; intro b; refine ⟨Ent.go, ?_⟩) | (apply Ze; rfl; exact Oc; intro b) | (apply Zf; rfl; exact Oe; intro g cap rest hcap) | (apply Zg; rfl; exact Od; intro ad cap) | apply StD.nil | exact StD.nope | apply StD.pick | (apply StD.claim; rfl; intro b) | (apply Zi; rfl; exact Oj; exact Oa) | (apply Zj; rfl; exact Oj; exact Oa; exact Ent.go) | (apply Zk; rfl; exact Oj; exact ⟨rfl, rfl⟩) | (apply Zl; rfl; exact Oj; exact ⟨rfl, rfl⟩; exact Ent.go) | (apply Zm; rfl; exact Oj; rfl) | (apply Zn; rfl; exact Oj; exact Ent.go; rfl) | (refine St.draw (id := 0) [(0, 0), (1, 0), (2, 0), (3, 0), (4, 1), (5, 0), (6, 0), (7, 0), (8, 0), (9, 1), (10, 0)] [] mixed (by kernel_rfl) ?_) | (refine St.draw (id := 1) [(0, 0), (1, 0), (2, 0), (3, 0), (4, 1), (5, 1), (6, 0), (7, 0), (8, 0), (9, 0), (10, 1), (11, 0), (12, 3)] [12] mixed (by kernel_rfl) ?_) | (refine St.draw (id := 2) [(0, 0), (1, 0), (2, 0), (3, 0), (4, 1), (5, 0), (6, 0), (7, 0), (8, 0), (9, 1), (10, 0)] [] mixed (by kernel_rfl) ?_) | (refine St.draw (id := 3) [(0, 0), (1, 0), (2, 0), (3, 0), (4, 1), (5, 1), (6, 0), (7, 0), (8, 0), (9, 0), (10, 1), (11, 0), (12, 3)] [12] mixed (by kernel_rfl) ?_) | (apply Ka; exact Og; exact hat _; exact Oh) | (apply Kb; rfl; exact Og; exact hat _; exact Oi) | (apply Kc; rfl; exact Oj; exact Og; exact hat _; exact Oi) | (apply Kd; exact Og; exact h2; exact Oh; rintro _ _ ⟨rfl, rfl⟩) | (apply Ke; rfl; exact Og; exact h2; exact Oh; rintro _ _ ⟨rfl, rfl⟩) | (apply Kf; rfl; exact Og; exact h2; exact Oh; rintro _ _ ⟨rfl, rfl⟩; refine ⟨Ent.go, ?_⟩) | (apply Zo; rfl; exact Oj; exact On; all_goals (intro h; try (exfalso; omega))))
      refine St.f1 Tryz.func148 ⟨_, ⟨rfl, rfl⟩, ?_⟩
      exact Ent.trans Ent.go (Ent.ex_in (Ls := plL Pb c p) x)
  · rw [if_neg ht]
    by_cases hn : p.nl = p.wl
    · rw [if_pos hn]
      refine Tri.of_body (vs := [_, _]) Tryz.func148 rfl rfl fun w0 F => ?_
      repeat' (first | (apply Ya; exact Oa) | (apply Yb; exact Ob) | (apply Yc; exact Oc; intro b) | (apply Ye; exact Oe; intro g cap rest hcap) | (apply Yd; exact Od; intro ad cap) | (apply Yf; exact Oj) | (apply Yg; exact Oj; exact ⟨rfl, rfl⟩) | (apply Yh; exact Oj; rfl) | (apply Yi; exact Oj; exact On; all_goals (intro h; try (exfalso; omega))) | apply StL.nil | apply St.region | apply St.seq | apply St.block | apply St.inBlock | apply St.skip | (apply St.exit; rfl) | (apply St.cond_t; rfl) | (apply St.cond_f; rfl) | (apply Ud; rfl; exact On; all_goals (intro h; try (exfalso; omega))) | (apply Za; rfl; exact Oa) | (apply Zb; rfl; exact Oa; exact Ent.go) | (apply Zc; rfl; exact Ob) | (apply Zd; rfl; exact Oc; intro b; refine ⟨Ent.go, ?_⟩) | (apply Ze; rfl; exact Oc; intro b) | (apply Zf; rfl; exact Oe; intro g cap rest hcap) | (apply Zg; rfl; exact Od; intro ad cap) | apply StD.nil | exact StD.nope | apply StD.pick | (apply StD.claim; rfl; intro b) | (apply Zi; rfl; exact Oj; exact Oa) | (apply Zj; rfl; exact Oj; exact Oa; exact Ent.go) | (apply Zk; rfl; exact Oj; exact ⟨rfl, rfl⟩) | (apply Zl; rfl; exact Oj; exact ⟨rfl, rfl⟩; exact Ent.go) | (apply Zm; rfl; exact Oj; rfl) | (apply Zn; rfl; exact Oj; exact Ent.go; rfl) | (refine St.draw (id := 0) [(0, 0), (1, 0), (2, 0), (3, 0), (4, 1), (5, 0), (6, 0), (7, 0), (8, 0), (9, 1), (10, 0)] [] mixed (by kernel_rfl) ?_) | (refine St.draw (id := 1) [(0, 0), (1, 0), (2, 0), (3, 0), (4, 1), (5, 1), (6, 0), (7, 0), (8, 0), (9, 0), (10, 1), (11, 0), (12, 3)] [12] mixed (by kernel_rfl) ?_) | (refine St.draw (id := 2) [(0, 0), (1, 0), (2, 0), (3, 0), (4, 1), (5, 0), (6, 0), (7, 0), (8, 0), (9, 1), (10, 0)] [] mixed (by kernel_rfl) ?_) | (refine St.draw (id := 3) [(0, 0), (1, 0), (2, 0), (3, 0), (4, 1), (5, 1), (6, 0), (7, 0), (8, 0), (9, 0), (10, 1), (11, 0), (12, 3)] [12] mixed (by kernel_rfl) ?_) | (apply Ka; exact Og; exact hat _; exact Oh) | (apply Kb; rfl; exact Og; exact hat _; exact Oi) | (apply Kc; rfl; exact Oj; exact Og; exact hat _; exact Oi) | (apply Kd; exact Og; exact h1; exact Oh; rintro _ _ ⟨rfl, rfl⟩) | (apply Ke; rfl; exact Og; exact h1; exact Oh; rintro _ _ ⟨rfl, rfl⟩) | (apply Kf; rfl; exact Og; exact h1; exact Oh; rintro _ _ ⟨rfl, rfl⟩; refine ⟨Ent.go, ?_⟩) | (apply Zo; rfl; exact Oj; exact On; all_goals (intro h; try (exfalso; omega))))
      refine St.f1 Tryz.func148 ⟨_, ⟨rfl, rfl⟩, ?_⟩
      exact Ent.trans Ent.go (Ent.ex_in (Ls := plL Pb c p) x)
    · rw [if_neg hn]
      have h2 := wput_t W room (putP room puts (c.at 12 0 0) p.nt.toNat) (c.at 14 0 0) p.nl.toNat (by omega)
      rw [e2] at h2
      refine Tri.of_body (vs := [_, _]) Tryz.func148 rfl rfl fun w0 F => ?_
      repeat' (first | (apply Ya; exact Oa) | (apply Yb; exact Ob) | (apply Yc; exact Oc; intro b) | (apply Ye; exact Oe; intro g cap rest hcap) | (apply Yd; exact Od; intro ad cap) | (apply Yf; exact Oj) | (apply Yg; exact Oj; exact ⟨rfl, rfl⟩) | (apply Yh; exact Oj; rfl) | (apply Yi; exact Oj; exact On; all_goals (intro h; try (exfalso; omega))) | apply StL.nil | apply St.region | apply St.seq | apply St.block | apply St.inBlock | apply St.skip | (apply St.exit; rfl) | (apply St.cond_t; rfl) | (apply St.cond_f; rfl) | (apply Ud; rfl; exact On; all_goals (intro h; try (exfalso; omega))) | (apply Za; rfl; exact Oa) | (apply Zb; rfl; exact Oa; exact Ent.go) | (apply Zc; rfl; exact Ob) | (apply Zd; rfl; exact Oc; intro b; refine ⟨Ent.go, ?_⟩) | (apply Ze; rfl; exact Oc; intro b) | (apply Zf; rfl; exact Oe; intro g cap rest hcap) | (apply Zg; rfl; exact Od; intro ad cap) | apply StD.nil | exact StD.nope | apply StD.pick | (apply StD.claim; rfl; intro b) | (apply Zi; rfl; exact Oj; exact Oa) | (apply Zj; rfl; exact Oj; exact Oa; exact Ent.go) | (apply Zk; rfl; exact Oj; exact ⟨rfl, rfl⟩) | (apply Zl; rfl; exact Oj; exact ⟨rfl, rfl⟩; exact Ent.go) | (apply Zm; rfl; exact Oj; rfl) | (apply Zn; rfl; exact Oj; exact Ent.go; rfl) | (refine St.draw (id := 0) [(0, 0), (1, 0), (2, 0), (3, 0), (4, 1), (5, 0), (6, 0), (7, 0), (8, 0), (9, 1), (10, 0)] [] mixed (by kernel_rfl) ?_) | (refine St.draw (id := 1) [(0, 0), (1, 0), (2, 0), (3, 0), (4, 1), (5, 1), (6, 0), (7, 0), (8, 0), (9, 0), (10, 1), (11, 0), (12, 3)] [12] mixed (by kernel_rfl) ?_) | (refine St.draw (id := 2) [(0, 0), (1, 0), (2, 0), (3, 0), (4, 1), (5, 0), (6, 0), (7, 0), (8, 0), (9, 1), (10, 0)] [] mixed (by kernel_rfl) ?_) | (refine St.draw (id := 3) [(0, 0), (1, 0), (2, 0), (3, 0), (4, 1), (5, 1), (6, 0), (7, 0), (8, 0), (9, 0), (10, 1), (11, 0), (12, 3)] [12] mixed (by kernel_rfl) ?_) | (apply Ka; exact Og; exact hat _; exact Oh) | (apply Kb; rfl; exact Og; exact hat _; exact Oi) | (apply Kc; rfl; exact Oj; exact Og; exact hat _; exact Oi) | (apply Kd; exact Og; exact h1; exact Oh; rintro _ _ ⟨rfl, rfl⟩) | (apply Ke; rfl; exact Og; exact h1; exact Oh; rintro _ _ ⟨rfl, rfl⟩) | (apply Kf; rfl; exact Og; exact h1; exact Oh; rintro _ _ ⟨rfl, rfl⟩; refine ⟨Ent.go, ?_⟩) | (apply Kd; exact Og; exact h2; exact Oh; rintro _ _ ⟨rfl, rfl⟩) | (apply Ke; rfl; exact Og; exact h2; exact Oh; rintro _ _ ⟨rfl, rfl⟩) | (apply Kf; rfl; exact Og; exact h2; exact Oh; rintro _ _ ⟨rfl, rfl⟩; refine ⟨Ent.go, ?_⟩) | (apply Zo; rfl; exact Oj; exact On; all_goals (intro h; try (exfalso; omega))))
      refine St.f1 Tryz.func148 ⟨_, ⟨rfl, rfl⟩, ?_⟩
      exact Ent.trans Ent.go (Ent.ex_in (Ls := plL Pb c p) x)
/-- a call that a transaction does -/
structure BRow where
  who : Int
  tag : Nat
  rc : Int
  rv : Nat
  news : List Nat
/-- a Build's own numbers -/
structure Bs where
  next : Int
  u : Int
  ann : Cell
  args : List Nat
  given : Int
  s : Int
/-- a transaction that is made, and all that it is over -/
structure Bm where
  b : Bs
  e : Xm
  rows : List BRow
abbrev Progs := List (List Ins)
def progOf (progs : Progs) (n : Nat) : List Ins := progs.getD n []
def Bm.pass (c : Cfg) (room : Nat) (m : Bm) : Bm :=
  if m.b.u + 1 = c.threads then { m with b := { m.b with u := m.b.u + 1, next := 1, s := 1 }, e := { m.e with puts := endP c room m.e.p m.e.puts } } else { m with b := { m.b with u := m.b.u + 1, next := 1 } }
def Bm.told (c : Cfg) (room : Nat) (m : Bm) : Bm :=
  { m with rows := m.rows ++ [⟨m.b.u, m.b.ann.seq, m.e.x.rc, m.e.x.rv, m.e.news⟩], e := { m.e with puts := putP room (putP room (putP room m.e.puts (c.at 8 m.b.u 0) m.e.x.rc.toNat) (c.at 9 m.b.u 0) m.e.x.rv) (c.at 7 m.b.u 0) m.b.ann.seq } }
def Bm.ran (c : Cfg) (room : Nat) (m : Bm) : Bm :=
  if m.e.x.s = 2 then { m with b := { m.b with s := 2 } } else if m.e.x.s = 1 then (m.told c room).pass c room else m
def Bm.begin (c : Cfg) (room : Nat) (progs : Progs) (m : Bm) : Bm :=
  Bm.ran c room { m with b := { m.b with next := 4 }, e := Xm.start c room (progOf progs m.b.ann.val) m.e.v m.e.p m.e.puts m.b.args }
def Bm.tag (c : Cfg) (room : Nat) (m : Bm) : Bm :=
  if m.e.v.s = 2 then { m with b := { m.b with s := 2 } } else if m.e.v.val = m.b.ann.seq then m.pass c room else { m with b := { m.b with given := 0, next := 3 } }
def Bm.announce (c : Cfg) (room : Nat) (m : Bm) : Bm :=
  if m.b.ann.seq = 0 then m.pass c room else { m with b := { m.b with next := 2 }, e := { m.e with v := m.e.v.cell c (c.at 7 m.b.u 0) } }
def Bm.pooled (c : Cfg) (room : Nat) (m : Bm) : Bm :=
  if m.e.p.s = 2 then { m with b := { m.b with s := 2 } } else
  if m.e.p.s = 1 then { m with b := { m.b with next := 1 }, e := { m.e with p := m.e.p.settled c room m.e.puts, puts := (setGo c room m.e.p.names 0 m.e.p.limbo ⟨0, m.e.p.nt, m.e.puts⟩).puts } } else m
def Bm.tell (c : Cfg) (room : Nat) (progs : Progs) (m : Bm) (o : Out) : Bm :=
  if m.b.s ≠ 0 then m else
  if m.b.next = 0 then Bm.pooled c room { m with e := { m.e with p := m.e.p.tell c o } } else
  if m.b.next = 1 then Bm.announce c room { m with b := { m.b with ann := o.was } } else
  if m.b.next = 2 then Bm.tag c room { m with e := { m.e with v := m.e.v.tell o } } else
  if m.b.next = 3 then (if m.b.given + 1 = 4 then Bm.begin c room progs { m with b := { m.b with args := m.b.args.set m.b.given.toNat o.was.val, given := m.b.given + 1 } } else { m with b := { m.b with args := m.b.args.set m.b.given.toNat o.was.val, given := m.b.given + 1 } }) else
  Bm.ran c room { m with e := m.e.tell c room (progOf progs m.b.ann.val) o }
def Bm.ask (c : Cfg) (m : Bm) : MOp × Bool :=
  if m.b.s ≠ 0 then (mop 0 0 0, false) else
  if m.b.next = 0 then m.e.p.ask c else
  if m.b.next = 1 then (mop 0 (c.at 1 m.b.u 0) 0, true) else
  if m.b.next = 2 then m.e.v.ask c else
  if m.b.next = 3 then (mop 0 (c.at 2 m.b.u m.b.given) 0, true) else m.e.ask c
def Bm.new (who : Int) (seq : Nat) : Bm := ⟨⟨0, 0, ⟨0, 0⟩, [0, 0, 0, 0], 0, 0⟩, ⟨⟨[0, 0, 0, 0], 0, 0, 0, regs0, 0, 0, 0, false, ins0, 0, 0, 0⟩, Vw.new who seq, Po.new seq, [], []⟩, []⟩
/-- a Build's own cells -/
def bdV (c : Cfg) (pv : Value) (V Pb W : Nat) (xv rv : Value) (b : Bs) : List Value :=
  c.m ++ (pv :: .pointer (some ⟨V, 0, none⟩) :: .pointer (some ⟨Pb, 0, none⟩) :: .pointer (some ⟨W, 0, none⟩) :: xv :: .int .i64 b.next :: .int .i64 b.u :: .int .u64 (b.ann.val : Int) :: .int .u64 (b.ann.seq : Int) ::
    (g4 b.args ++ [.int .i64 b.given, rv, .int .i64 b.s]))
theorem take_b (c : Cfg) (pv : Value) (V Pb W : Nat) (xv rv : Value) (b : Bs) : TakeN 24 (bdV c pv V Pb W xv rv b) c.m := TakeN.app c.m _
/-- a row, with where its handles lie -/
abbrev RowH := BRow × Option Addr × Nat
def rowV (r : RowH) : List Value := [.int .i64 r.1.who, .int .u64 (r.1.tag : Int), .int .i64 r.1.rc, .int .u64 (r.1.rv : Int), .slice r.2.1 r.1.news.length r.2.2]
def rowP (r : RowH) : HProp := Row (.slice r.2.1 r.1.news.length r.2.2) 22 1 r.1.news.length (u64s r.1.news)
/-- several assertions as one -/
def star (L : List HProp) : HProp := ex (ι := Unit) fun _ => L
theorem Ent.star_in (L : List HProp) {M : List HProp} : Ent (L ++ M) (star L :: M) := Ent.ex_in (Ls := fun _ : Unit => L) ()
theorem Ent.star_out {L M : List HProp} : Ent (star L :: M) (L ++ M) := by
  unfold Ent
  intro h hs
  obtain ⟨_, h1⟩ := sat_ex hs
  exact h1
theorem Ent.star_snoc (L : List HProp) (p : HProp) {M : List HProp} : Ent (p :: star L :: M) (star (L ++ [p]) :: M) := by
  refine Ent.trans ?_ (Ent.star_in (L ++ [p]))
  refine Ent.trans (Ent.cons Ent.star_out) ?_
  rw [List.append_assoc]
  exact Ent.mid
end Go.Proofs.YtipnljhelbjmaaaGreat
