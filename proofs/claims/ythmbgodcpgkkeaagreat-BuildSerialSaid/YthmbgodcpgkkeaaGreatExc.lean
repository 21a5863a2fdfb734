/-
  Package exec: block, reads, taken, goOn. Package exec: goOn, fetch.
-/
import Derived.Test.YthmbgodcpgkkeaaGreatTwk
section
namespace Go.Proofs.YthmbgodcpgkkeaaGreat
structure InsOk (i : Ins) : Prop where
  a0 : 0 ≤ i.a
  a1 : i.a < 16
  b0 : 0 ≤ i.b
  b1 : i.b < 16
  c0 : 0 ≤ i.c
  c1 : i.c < 16
def Xs.reg (x : Xs) (a : Int) : Nat := x.regs.getD a.toNat 0
def Xs.hOf (x : Xs) : Nat := if x.i.op = 16 then x.reg x.i.a else x.reg x.i.b
def Xs.wOf (x : Xs) : Nat := if x.i.op = 12 ∨ x.i.op = 14 then x.reg x.i.c else if x.i.op = 16 then 0 else x.i.imm
def Xs.block (c : Cfg) (x : Xs) : Int × Int × Bool := if x.hOf < 1 ∨ c.blocks < (x.hOf : Int) ∨ 8 ≤ x.wOf then (0, 0, false) else ((x.hOf : Int) - 1, (x.wOf : Int), true)
set_option maxRecDepth 100000 in
theorem xblock_r (X V Pb W : Nat) (c : Cfg) (hc : Small c) (cv nv : Value) (x : Xs) (hi : InsOk x.i) : RTri Tryz.prog 250 #[.pointer (some ⟨X, 0, none⟩)] [bl X 221 (exV c cv V Pb W nv x)]
    (.tuple ⟨[.int .i64 (x.block c).1, .int .i64 (x.block c).2.1, .bool (x.block c).2.2]⟩) := by
  apply RTri.of_reads
  intro q hq
  have hX := RdC.of_sat hq (ReadsC.here RdC.bl)
  have hcf := cfg_r c
  have htk := take_x c cv V Pb W nv x
  have ha : NthN _ _ (Value.int .u64 ((x.reg x.i.a : Nat) : Int)) := ex_reg c cv V Pb W nv x hi.a0 hi.a1
  have hb : NthN _ _ (Value.int .u64 ((x.reg x.i.b : Nat) : Int)) := ex_reg c cv V Pb W nv x hi.b0 hi.b1
  have hcc : NthN _ _ (Value.int .u64 ((x.reg x.i.c : Nat) : Int)) := ex_reg c cv V Pb W nv x hi.c0 hi.c1
  have := hi.a0; have := hi.a1; have := hi.b0; have := hi.b1; have := hi.c0; have := hi.c1; have := hc.b0; have := hc.b1
  by_cases h16 : x.i.op = 16
  · have e1 : x.hOf = x.reg x.i.a := if_pos h16
    have e2 : x.wOf = 0 := (if_neg (by omega)).trans (if_pos h16)
    unfold Xs.block
    rw [e1, e2]
    generalize x.reg x.i.a = ra at *
    generalize x.reg x.i.b = rb at *
    generalize x.reg x.i.c = rc at *
    refine Tri.of_body (vs := [_]) Tryz.func250 rfl rfl fun w0 F => ?_
    repeat' (first | refine Ga ?_ | (refine Gb ?_; intro b) | (refine Gd ?_; intro g cap rest hcap) | (refine Gc ?_; intro ad cap) | (refine St.draw (id := 1) [(0, 0), (1, 0), (2, 0), (3, 0), (4, 0), (5, 1), (6, 0), (7, 0), (8, 0), (9, 1), (10, 0), (11, 0), (12, 0), (13, 0), (14, 1), (15, 0), (16, 0)] [] mixed (by kernel_rfl) ?_) | (refine St.draw (id := 5) [(0, 0), (1, 0), (2, 0), (3, 0), (4, 0), (5, 1), (6, 0), (7, 0), (8, 0), (9, 1), (10, 0)] [] mixed (by kernel_rfl) ?_) | (refine St.draw (id := 7) [(0, 0), (1, 0), (2, 0), (3, 0), (4, 0), (5, 1), (6, 0), (7, 0), (8, 0), (9, 1), (10, 0), (11, 0)] [] mixed (by kernel_rfl) ?_)| refine Gl hcf ?_ | (refine Ge ?_ ?_ <;> (intro h; try (exfalso; omega))) | fail)
    all_goals (first | refine St.dn Tryz.func250 ⟨?_, rfl⟩ Ent.go | refine St.fl Tryz.func250 ⟨?_, rfl⟩ Ent.go)
    all_goals (repeat (first | rw [if_pos (by omega)] | rw [if_neg (by omega)]))
    all_goals rfl
  · have e1 : x.hOf = x.reg x.i.b := if_neg h16
    by_cases h12 : x.i.op = 12 ∨ x.i.op = 14
    · have e2 : x.wOf = x.reg x.i.c := if_pos h12
      unfold Xs.block
      rw [e1, e2]
      generalize x.reg x.i.a = ra at *
      generalize x.reg x.i.b = rb at *
      generalize x.reg x.i.c = rc at *
      refine Tri.of_body (vs := [_]) Tryz.func250 rfl rfl fun w0 F => ?_
      repeat' (first | refine Ga ?_ | (refine Gb ?_; intro b) | (refine Gd ?_; intro g cap rest hcap) | (refine Gc ?_; intro ad cap) | (refine St.draw (id := 1) [(0, 0), (1, 0), (2, 0), (3, 0), (4, 0), (5, 1), (6, 0), (7, 0), (8, 0), (9, 1), (10, 0), (11, 0), (12, 0), (13, 0), (14, 1), (15, 0), (16, 0)] [] mixed (by kernel_rfl) ?_) | (refine St.draw (id := 5) [(0, 0), (1, 0), (2, 0), (3, 0), (4, 0), (5, 1), (6, 0), (7, 0), (8, 0), (9, 1), (10, 0)] [] mixed (by kernel_rfl) ?_) | (refine St.draw (id := 7) [(0, 0), (1, 0), (2, 0), (3, 0), (4, 0), (5, 1), (6, 0), (7, 0), (8, 0), (9, 1), (10, 0), (11, 0)] [] mixed (by kernel_rfl) ?_)| refine Gl hcf ?_ | (refine Ge ?_ ?_ <;> (intro h; try (exfalso; omega))) | fail)
      all_goals (first | refine St.dn Tryz.func250 ⟨?_, rfl⟩ Ent.go | refine St.fl Tryz.func250 ⟨?_, rfl⟩ Ent.go)
      all_goals (repeat (first | rw [if_pos (by omega)] | rw [if_neg (by omega)]))
      all_goals rfl
    · have e2 : x.wOf = x.i.imm := (if_neg h12).trans (if_neg h16)
      unfold Xs.block
      rw [e1, e2]
      generalize x.reg x.i.a = ra at *
      generalize x.reg x.i.b = rb at *
      generalize x.reg x.i.c = rc at *
      refine Tri.of_body (vs := [_]) Tryz.func250 rfl rfl fun w0 F => ?_
      repeat' (first | refine Ga ?_ | (refine Gb ?_; intro b) | (refine Gd ?_; intro g cap rest hcap) | (refine Gc ?_; intro ad cap) | (refine St.draw (id := 1) [(0, 0), (1, 0), (2, 0), (3, 0), (4, 0), (5, 1), (6, 0), (7, 0), (8, 0), (9, 1), (10, 0), (11, 0), (12, 0), (13, 0), (14, 1), (15, 0), (16, 0)] [] mixed (by kernel_rfl) ?_) | (refine St.draw (id := 5) [(0, 0), (1, 0), (2, 0), (3, 0), (4, 0), (5, 1), (6, 0), (7, 0), (8, 0), (9, 1), (10, 0)] [] mixed (by kernel_rfl) ?_) | (refine St.draw (id := 7) [(0, 0), (1, 0), (2, 0), (3, 0), (4, 0), (5, 1), (6, 0), (7, 0), (8, 0), (9, 1), (10, 0), (11, 0)] [] mixed (by kernel_rfl) ?_)| refine Gl hcf ?_ | (refine Ge ?_ ?_ <;> (intro h; try (exfalso; omega))) | fail)
      all_goals (first | refine St.dn Tryz.func250 ⟨?_, rfl⟩ Ent.go | refine St.fl Tryz.func250 ⟨?_, rfl⟩ Ent.go)
      all_goals (repeat (first | rw [if_pos (by omega)] | rw [if_neg (by omega)]))
      all_goals rfl
def readsB (op : Int) : Bool := op == 11 || op == 12
theorem xreads_r (op : Int) : RTri Tryz.prog 284 #[.int .i64 op] [] (.bool (readsB op)) := by
  apply RTri.of_pure
  refine Tri.of_body (vs := [_]) Tryz.func284 rfl rfl fun w0 F => ?_
  repeat' (first | refine Ga ?_ | (refine Gb ?_; intro b) | (refine Gd ?_; intro g cap rest hcap) | (refine Gc ?_; intro ad cap)  | (refine Ge ?_ ?_ <;> (intro h; try (exfalso; omega))) | fail)
  all_goals (first | refine St.dn Tryz.func284 ⟨?_, rfl⟩ Ent.go | refine St.fl Tryz.func284 ⟨?_, rfl⟩ Ent.go)
  all_goals refine congrArg Value.bool ?_
  all_goals simp [readsB, *]
def xeL (X : Nat) (c : Cfg) (cv : Value) (V Pb W : Nat) (x : Xs) (news : List Nat) (a : Option Addr × Nat) : List HProp := [bl X 221 (exV c cv V Pb W (.slice a.1 news.length a.2) x), Row (.slice a.1 news.length a.2) 22 1 news.length (u64s news)]
def XeE (X : Nat) (c : Cfg) (cv : Value) (V Pb W : Nat) (x : Xs) (news : List Nat) : HProp := ex (xeL X c cv V Pb W x news)
def Xm.taken (c : Cfg) (room : Nat) (m : Xm) (b : Nat) : Xm :=
  if c.blocks ≤ (b : Int) then m.fail 43 0 else
  { m with p := { m.p with nt := (takeP c room m.p.nt m.puts b).1 }, puts := (takeP c room m.p.nt m.puts b).2, news := m.news ++ [b + 1], x := { m.x with regs := m.x.regs.set m.x.i.a.toNat (b + 1) } }
/-- what holds of the numbers of a program that runs -/
structure Xok (m : Xm) : Prop where
  mark : m.x.mark ≤ m.puts.length
  len : m.puts.length ≤ 999999900
  w0 : 0 ≤ m.x.writes
  w1 : m.x.writes ≤ 1000000
  nt0 : 0 ≤ m.p.nt
  nt1 : m.p.nt ≤ 1000000
  nl0 : 0 ≤ m.p.nl
  nl1 : m.p.nl ≤ 1000000
  news : m.news.length ≤ 1000000
  regs : m.x.regs.length = 16
  args : m.x.args.length = 4
  i : InsOk m.x.i
set_option maxRecDepth 100000 in
theorem xtaken_t (X V Pb W room : Nat) (c : Cfg) (hc : Small c) (cv : Value) (m : Xm) (hm : Xok m) (bk : Nat) :
    Tri Tryz.prog 249 #[.pointer (some ⟨X, 0, none⟩), .int .u64 (bk : Int)] [XeE X c cv V Pb W m.x m.news, Pl Pb c m.p, Ws W room m.puts]
      fun r L => r = .tuple ⟨[]⟩ ∧ L = [XeE X c cv V Pb W (m.taken c room bk).x (m.taken c room bk).news, Pl Pb c (m.taken c room bk).p, Ws W room (m.taken c room bk).puts] := by
  refine Tri.ex_out ?_
  rintro ⟨nad, ncap⟩
  have hlen := hm.len
  have hnl := hm.news
  have hcf := cfg_r c
  have htk := take_x c cv V Pb W (.slice nad m.news.length ncap) m.x
  have ha0 := hm.i.a0; have ha1 := hm.i.a1
  have := hc.b0; have := hc.b1
  unfold Xm.taken
  by_cases h1 : c.blocks ≤ (bk : Int)
  · rw [if_pos h1]
    dsimp only [Xm.fail]
    have hf := xfail_t X V Pb W room c cv (.slice nad m.news.length ncap) m.x m.p m.puts 43 0 hm.mark (by omega)
    refine Tri.of_body (vs := [_, _]) Tryz.func249 rfl rfl fun w0 F => ?_
    repeat' (first | refine Ga ?_ | (refine Gb ?_; intro b) | (refine Gd ?_; intro g cap rest hcap) | (refine Gc ?_; intro ad cap) | (refine St.draw (id := 2) [(0, 0), (1, 0), (2, 0), (3, 1), (4, 0), (5, 0), (6, 0), (7, 1), (8, 0), (9, 0), (10, 3)] [10] mixed (by kernel_rfl) ?_) | (refine St.draw (id := 4) [(0, 0), (1, 0), (2, 0), (3, 0), (4, 0), (5, 1), (6, 0), (7, 0), (8, 0), (9, 0), (10, 0), (11, 3)] [11] mixed (by kernel_rfl) ?_)| refine Gl hcf ?_ | (refine Gt hf ?_; rintro _ _ ⟨rfl, rfl⟩) | (refine Ge ?_ ?_ <;> (intro h; try (exfalso; omega))) | fail)
    refine St.d1 Tryz.func249 ⟨_, ⟨rfl, rfl⟩, ?_⟩
    exact Ent.trans Ent.go (Ent.ex_in (Ls := xeL X c cv V Pb W { m.x with s := 1, rc := 43, rv := 0 } m.news) (nad, ncap))
  · rw [if_neg h1]
    dsimp only
    have ht := ptake_t Pb W room c hc m.p m.puts bk (by omega) ⟨hm.nt0, hm.nt1⟩
    have hsr := fun nv => ex_setreg c cv V Pb W nv m.x hm.regs ha0 ha1 (bk + 1)
    refine Tri.of_body (vs := [_, _]) Tryz.func249 rfl rfl fun w0 F => ?_
    repeat' (first | refine Ga ?_ | (refine Gb ?_; intro b) | (refine Gd ?_; intro g cap rest hcap) | (refine Gc ?_; intro ad cap) | (refine St.draw (id := 2) [(0, 0), (1, 0), (2, 0), (3, 1), (4, 0), (5, 0), (6, 0), (7, 1), (8, 0), (9, 0), (10, 3)] [10] mixed (by kernel_rfl) ?_) | (refine St.draw (id := 4) [(0, 0), (1, 0), (2, 0), (3, 0), (4, 0), (5, 1), (6, 0), (7, 0), (8, 0), (9, 0), (10, 0), (11, 3)] [11] mixed (by kernel_rfl) ?_)| refine Gl hcf ?_ | (refine Gt ht ?_; rintro _ _ ⟨rfl, rfl⟩) | (refine Ge ?_ ?_ <;> (intro h; try (exfalso; omega))) | fail)
    have hsr2 := hsr (.slice ad (m.news.length + 1) cap)
    repeat' (first | refine Ga ?_ | (refine Gb ?_; intro b) | (refine Gd ?_; intro g cap rest hcap) | (refine Gc ?_; intro ad cap) | (refine St.draw (id := 2) [(0, 0), (1, 0), (2, 0), (3, 1), (4, 0), (5, 0), (6, 0), (7, 1), (8, 0), (9, 0), (10, 3)] [10] mixed (by kernel_rfl) ?_) | (refine St.draw (id := 4) [(0, 0), (1, 0), (2, 0), (3, 0), (4, 0), (5, 1), (6, 0), (7, 0), (8, 0), (9, 0), (10, 0), (11, 3)] [11] mixed (by kernel_rfl) ?_)| refine Gl hcf ?_ | (refine Ge ?_ ?_ <;> (intro h; try (exfalso; omega))) | fail)
    refine St.f1 Tryz.func249 ⟨_, ⟨rfl, rfl⟩, ?_⟩
    refine Ent.trans ?_ (Ent.ex_in (Ls := xeL X c cv V Pb W { m.x with regs := m.x.regs.set m.x.i.a.toNat (bk + 1) } (m.news ++ [bk + 1])) (ad, cap))
    unfold xeL; dsimp only
    rw [List.length_append, u64s_snoc]
    exact Ent.go
end Go.Proofs.YthmbgodcpgkkeaaGreat
end
section
namespace Go.Proofs.YthmbgodcpgkkeaaGreat
def Xs.bN (c : Cfg) (x : Xs) : Nat := (x.block c).1.toNat
theorem Xs.bN_eq (c : Cfg) (x : Xs) : (x.block c).1 = (x.bN c : Int) := by
  unfold Xs.bN Xs.block
  split
  · rfl
  · dsimp only; omega
def Xm.goOn (c : Cfg) (room : Nat) (m : Xm) (val : Nat) : Xm :=
  if m.x.i.op = 9 ∨ m.x.i.op = 11 ∨ m.x.i.op = 12 then { m with x := { m.x with regs := m.x.regs.set m.x.i.a.toNat val } } else
  if m.x.i.op = 15 then m.taken c room val else
  if m.x.i.op = 13 ∨ m.x.i.op = 14 then (if (m.pay c).2 then { (m.pay c).1 with puts := putP room (m.pay c).1.puts (c.at 16 (m.x.block c).1 (m.x.block c).2.1) (m.x.reg m.x.i.a) } else (m.pay c).1) else
  if m.x.i.op = 16 then (if (m.pay c).2 then { (m.pay c).1 with p := { (m.pay c).1.p with nl := (giveP c room (m.pay c).1.p.nl (m.pay c).1.puts (m.x.bN c)).1 }, puts := (giveP c room (m.pay c).1.p.nl (m.pay c).1.puts (m.x.bN c)).2 } else (m.pay c).1) else m
theorem Xm.pay_news (c : Cfg) (m : Xm) : (m.pay c).1.news = m.news := by unfold Xm.pay Xm.fail; split <;> rfl
theorem Xm.pay_t {c : Cfg} {m : Xm} (h : (m.pay c).2 = true) : (m.pay c).1 = { m with x := { m.x with writes := m.x.writes + costs m.x.i.op } } := by
  unfold Xm.pay at *; split at h
  · cases h
  · rename_i h1; rw [if_neg h1]
theorem Xm.pay_f {c : Cfg} {m : Xm} (h : (m.pay c).2 = false) : (m.pay c).1 = m.fail 42 0 := by
  unfold Xm.pay at *; split at h
  · rename_i h1; rw [if_pos h1]
  · cases h
set_option maxHeartbeats 1000000 in
set_option maxRecDepth 100000 in
theorem xgoOn_t (X V Pb W room : Nat) (c : Cfg) (hc : Small c) (cv : Value) (m : Xm) (hm : Xok m) (val : Nat) :
    Tri Tryz.prog 195 #[.pointer (some ⟨X, 0, none⟩), .int .u64 (val : Int)] [XeE X c cv V Pb W m.x m.news, Pl Pb c m.p, Ws W room m.puts]
      fun r L => r = .tuple ⟨[]⟩ ∧ L = [XeE X c cv V Pb W (m.goOn c room val).x (m.goOn c room val).news, Pl Pb c (m.goOn c room val).p, Ws W room (m.goOn c room val).puts] := by
  have htak := xtaken_t X V Pb W room c hc cv m hm val
  refine Tri.ex_out ?_
  rintro ⟨nad, ncap⟩
  have ha0 := hm.i.a0; have ha1 := hm.i.a1
  have hlen := hm.len
  unfold Xm.goOn
  by_cases h1 : m.x.i.op = 9 ∨ m.x.i.op = 11 ∨ m.x.i.op = 12
  · rw [if_pos h1]
    dsimp only
    have hsr := ex_setreg c cv V Pb W (.slice nad m.news.length ncap) m.x hm.regs ha0 ha1 val
    refine Tri.of_body (vs := [_, _]) Tryz.func195 rfl rfl fun w0 F => ?_
    repeat' (first | refine Ga ?_ | (refine Gb ?_; intro b) | (refine Gd ?_; intro g cap rest hcap) | (refine Gc ?_; intro ad cap) | (refine St.draw (id := 5) [(0, 0), (1, 0), (2, 1), (3, 0), (4, 0), (5, 0), (6, 0), (7, 3)] [7] mixed (by kernel_rfl) ?_) | (refine St.draw (id := 12) [(0, 0), (1, 0), (2, 0), (3, 1), (4, 0), (5, 0), (6, 0), (7, 1), (8, 0), (9, 0), (10, 1), (11, 0), (12, 0), (13, 1), (14, 0), (15, 0), (16, 0), (17, 1), (18, 3)] [18] mixed (by kernel_rfl) ?_) | (refine St.draw (id := 16) [(0, 0), (1, 0), (2, 0), (3, 1), (4, 0), (5, 0), (6, 0), (7, 1), (8, 0), (9, 3)] [9] mixed (by kernel_rfl) ?_) | (refine Ge ?_ ?_ <;> (intro h; try (exfalso; omega))) | fail)
    all_goals
      refine St.f1 Tryz.func195 ⟨_, ⟨rfl, rfl⟩, ?_⟩
      exact Ent.trans Ent.go (Ent.ex_in (Ls := xeL X c cv V Pb W { m.x with regs := m.x.regs.set m.x.i.a.toNat val } m.news) (nad, ncap))
  · rw [if_neg h1]
    by_cases h2 : m.x.i.op = 15
    · rw [if_pos h2]
      have htak := htak.ent (L := [bl X 221 (exV c cv V Pb W (.slice nad m.news.length ncap) m.x), Row (.slice nad m.news.length ncap) 22 1 m.news.length (u64s m.news), Pl Pb c m.p, Ws W room m.puts]) (Ent.ex_in (Ls := xeL X c cv V Pb W m.x m.news) (nad, ncap))
      refine Tri.of_body (vs := [_, _]) Tryz.func195 rfl rfl fun w0 F => ?_
      repeat' (first | refine Ga ?_ | (refine Gb ?_; intro b) | (refine Gd ?_; intro g cap rest hcap) | (refine Gc ?_; intro ad cap) | (refine St.draw (id := 5) [(0, 0), (1, 0), (2, 1), (3, 0), (4, 0), (5, 0), (6, 0), (7, 3)] [7] mixed (by kernel_rfl) ?_) | (refine St.draw (id := 12) [(0, 0), (1, 0), (2, 0), (3, 1), (4, 0), (5, 0), (6, 0), (7, 1), (8, 0), (9, 0), (10, 1), (11, 0), (12, 0), (13, 1), (14, 0), (15, 0), (16, 0), (17, 1), (18, 3)] [18] mixed (by kernel_rfl) ?_) | (refine St.draw (id := 16) [(0, 0), (1, 0), (2, 0), (3, 1), (4, 0), (5, 0), (6, 0), (7, 1), (8, 0), (9, 3)] [9] mixed (by kernel_rfl) ?_) | (refine Gt htak ?_; rintro _ _ ⟨rfl, rfl⟩) | (refine Ge ?_ ?_ <;> (intro h; try (exfalso; omega))) | fail)
      refine St.f1 Tryz.func195 ⟨_, ⟨rfl, rfl⟩, ?_⟩
      exact Ent.go
    · rw [if_neg h2]
      have hbl := xblock_r X V Pb W c hc cv (.slice nad m.news.length ncap) m.x hm.i
      have hpay := xpay_t X V Pb W room c hc cv (.slice nad m.news.length ncap) m hm.mark (by omega) ⟨hm.w0, hm.w1⟩
      have hpn := m.pay_news c
      by_cases h3 : m.x.i.op = 13 ∨ m.x.i.op = 14
      · rw [if_pos h3]
        cases hp : (m.pay c).2 with
        | false =>
          rw [hp] at hpay
          rw [if_neg (by decide)]
          refine Tri.of_body (vs := [_, _]) Tryz.func195 rfl rfl fun w0 F => ?_
          repeat' (first | refine Ga ?_ | (refine Gb ?_; intro b) | (refine Gd ?_; intro g cap rest hcap) | (refine Gc ?_; intro ad cap) | (refine St.draw (id := 5) [(0, 0), (1, 0), (2, 1), (3, 0), (4, 0), (5, 0), (6, 0), (7, 3)] [7] mixed (by kernel_rfl) ?_) | (refine St.draw (id := 12) [(0, 0), (1, 0), (2, 0), (3, 1), (4, 0), (5, 0), (6, 0), (7, 1), (8, 0), (9, 0), (10, 1), (11, 0), (12, 0), (13, 1), (14, 0), (15, 0), (16, 0), (17, 1), (18, 3)] [18] mixed (by kernel_rfl) ?_) | (refine St.draw (id := 16) [(0, 0), (1, 0), (2, 0), (3, 1), (4, 0), (5, 0), (6, 0), (7, 1), (8, 0), (9, 3)] [9] mixed (by kernel_rfl) ?_)| refine Gl hbl ?_ | (refine Gt hpay ?_; rintro _ _ ⟨rfl, rfl⟩) | (refine Ge ?_ ?_ <;> (intro h; try (exfalso; omega))) | fail)
          all_goals
            refine St.f1 Tryz.func195 ⟨_, ⟨rfl, rfl⟩, ?_⟩
            rw [hpn]
            exact Ent.trans Ent.go (Ent.ex_in (Ls := xeL X c cv V Pb W (m.pay c).1.x m.news) (nad, ncap))
        | true =>
          rw [hp] at hpay
          rw [if_pos rfl]
          rw [Xm.pay_t hp] at hpay ⊢
          dsimp only at hpay ⊢
          have hat := at_r c hc 16 (m.x.block c).1 (m.x.block c).2.1
          have hrg : NthN _ _ (Value.int .u64 ((m.x.reg m.x.i.a : Nat) : Int)) := ex_reg c cv V Pb W (.slice nad m.news.length ncap) { m.x with writes := m.x.writes + costs m.x.i.op } ha0 ha1
          have hput := wput_t W room m.puts (c.at 16 (m.x.block c).1 (m.x.block c).2.1) (m.x.reg m.x.i.a) (by omega)
          have htk := take_x c cv V Pb W (.slice nad m.news.length ncap) { m.x with writes := m.x.writes + costs m.x.i.op }
          refine Tri.of_body (vs := [_, _]) Tryz.func195 rfl rfl fun w0 F => ?_
          repeat' (first | refine Ga ?_ | (refine Gb ?_; intro b) | (refine Gd ?_; intro g cap rest hcap) | (refine Gc ?_; intro ad cap) | (refine St.draw (id := 5) [(0, 0), (1, 0), (2, 1), (3, 0), (4, 0), (5, 0), (6, 0), (7, 3)] [7] mixed (by kernel_rfl) ?_) | (refine St.draw (id := 12) [(0, 0), (1, 0), (2, 0), (3, 1), (4, 0), (5, 0), (6, 0), (7, 1), (8, 0), (9, 0), (10, 1), (11, 0), (12, 0), (13, 1), (14, 0), (15, 0), (16, 0), (17, 1), (18, 3)] [18] mixed (by kernel_rfl) ?_) | (refine St.draw (id := 16) [(0, 0), (1, 0), (2, 0), (3, 1), (4, 0), (5, 0), (6, 0), (7, 1), (8, 0), (9, 3)] [9] mixed (by kernel_rfl) ?_)| refine Gl hbl ?_ | refine Gl hat ?_ | (refine Gt hpay ?_; rintro _ _ ⟨rfl, rfl⟩) | (refine Gt hput ?_; rintro _ _ ⟨rfl, rfl⟩) | (refine Ge ?_ ?_ <;> (intro h; try (exfalso; omega))) | fail)
          all_goals
            refine St.f1 Tryz.func195 ⟨_, ⟨rfl, rfl⟩, ?_⟩
            exact Ent.trans Ent.go (Ent.ex_in (Ls := xeL X c cv V Pb W { m.x with writes := m.x.writes + costs m.x.i.op } m.news) (nad, ncap))
      · rw [if_neg h3]
        by_cases h4 : m.x.i.op = 16
        · rw [if_pos h4]
          rw [Xs.bN_eq] at hbl
          cases hp : (m.pay c).2 with
          | false =>
            rw [hp] at hpay
            rw [if_neg (by decide)]
            refine Tri.of_body (vs := [_, _]) Tryz.func195 rfl rfl fun w0 F => ?_
            repeat' (first | refine Ga ?_ | (refine Gb ?_; intro b) | (refine Gd ?_; intro g cap rest hcap) | (refine Gc ?_; intro ad cap) | (refine St.draw (id := 5) [(0, 0), (1, 0), (2, 1), (3, 0), (4, 0), (5, 0), (6, 0), (7, 3)] [7] mixed (by kernel_rfl) ?_) | (refine St.draw (id := 12) [(0, 0), (1, 0), (2, 0), (3, 1), (4, 0), (5, 0), (6, 0), (7, 1), (8, 0), (9, 0), (10, 1), (11, 0), (12, 0), (13, 1), (14, 0), (15, 0), (16, 0), (17, 1), (18, 3)] [18] mixed (by kernel_rfl) ?_) | (refine St.draw (id := 16) [(0, 0), (1, 0), (2, 0), (3, 1), (4, 0), (5, 0), (6, 0), (7, 1), (8, 0), (9, 3)] [9] mixed (by kernel_rfl) ?_)| refine Gl hbl ?_ | (refine Gt hpay ?_; rintro _ _ ⟨rfl, rfl⟩) | (refine Ge ?_ ?_ <;> (intro h; try (exfalso; omega))) | fail)
            all_goals
              refine St.f1 Tryz.func195 ⟨_, ⟨rfl, rfl⟩, ?_⟩
              rw [hpn]
              exact Ent.trans Ent.go (Ent.ex_in (Ls := xeL X c cv V Pb W (m.pay c).1.x m.news) (nad, ncap))
          | true =>
            rw [hp] at hpay
            rw [if_pos rfl]
            rw [Xm.pay_t hp] at hpay ⊢
            dsimp only at hpay ⊢
            have hgv := pgive_t Pb W room c hc m.p m.puts (m.x.bN c) (by omega) hm.nl0
            refine Tri.of_body (vs := [_, _]) Tryz.func195 rfl rfl fun w0 F => ?_
            repeat' (first | refine Ga ?_ | (refine Gb ?_; intro b) | (refine Gd ?_; intro g cap rest hcap) | (refine Gc ?_; intro ad cap) | (refine St.draw (id := 5) [(0, 0), (1, 0), (2, 1), (3, 0), (4, 0), (5, 0), (6, 0), (7, 3)] [7] mixed (by kernel_rfl) ?_) | (refine St.draw (id := 12) [(0, 0), (1, 0), (2, 0), (3, 1), (4, 0), (5, 0), (6, 0), (7, 1), (8, 0), (9, 0), (10, 1), (11, 0), (12, 0), (13, 1), (14, 0), (15, 0), (16, 0), (17, 1), (18, 3)] [18] mixed (by kernel_rfl) ?_) | (refine St.draw (id := 16) [(0, 0), (1, 0), (2, 0), (3, 1), (4, 0), (5, 0), (6, 0), (7, 1), (8, 0), (9, 3)] [9] mixed (by kernel_rfl) ?_)| refine Gl hbl ?_ | (refine Gt hpay ?_; rintro _ _ ⟨rfl, rfl⟩) | (refine Gt hgv ?_; rintro _ _ ⟨rfl, rfl⟩) | (refine Ge ?_ ?_ <;> (intro h; try (exfalso; omega))) | fail)
            all_goals
              refine St.f1 Tryz.func195 ⟨_, ⟨rfl, rfl⟩, ?_⟩
              exact Ent.trans Ent.go (Ent.ex_in (Ls := xeL X c cv V Pb W { m.x with writes := m.x.writes + costs m.x.i.op } m.news) (nad, ncap))
        · rw [if_neg h4]
          refine Tri.of_body (vs := [_, _]) Tryz.func195 rfl rfl fun w0 F => ?_
          repeat' (first | refine Ga ?_ | (refine Gb ?_; intro b) | (refine Gd ?_; intro g cap rest hcap) | (refine Gc ?_; intro ad cap) | (refine St.draw (id := 5) [(0, 0), (1, 0), (2, 1), (3, 0), (4, 0), (5, 0), (6, 0), (7, 3)] [7] mixed (by kernel_rfl) ?_) | (refine St.draw (id := 12) [(0, 0), (1, 0), (2, 0), (3, 1), (4, 0), (5, 0), (6, 0), (7, 1), (8, 0), (9, 0), (10, 1), (11, 0), (12, 0), (13, 1), (14, 0), (15, 0), (16, 0), (17, 1), (18, 3)] [18] mixed (by kernel_rfl) ?_) | (refine St.draw (id := 16) [(0, 0), (1, 0), (2, 0), (3, 1), (4, 0), (5, 0), (6, 0), (7, 1), (8, 0), (9, 3)] [9] mixed (by kernel_rfl) ?_) | (refine Ge ?_ ?_ <;> (intro h; try (exfalso; omega))) | fail)
          refine St.f1 Tryz.func195 ⟨_, ⟨rfl, rfl⟩, ?_⟩
          exact Ent.trans Ent.go (Ent.ex_in (Ls := xeL X c cv V Pb W m.x m.news) (nad, ncap))
end Go.Proofs.YthmbgodcpgkkeaaGreat
end
