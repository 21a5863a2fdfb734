/-
  Package pool: New, Ask, Tell, Mark, Back, Top.
-/
import Derived.Test.YtipnljhelbjmaaaGreatVw
namespace Go.Proofs.YtipnljhelbjmaaaGreat
theorem mget_mput {β : Type} (m : List (Int × β)) (k k' : Int) (x : β) : mget (mput m k x) k' = if k' = k then some x else mget m k' := by
  induction m with
  | nil =>
    simp only [mput, mget]
    by_cases h : k = k'
    · subst h; simp
    · rw [if_neg h, if_neg (fun e => h e.symm)]
  | cons p m ih =>
    obtain ⟨a, y⟩ := p
    by_cases hak : a = k
    · subst hak
      simp only [mput, if_true, mget]
      by_cases h : a = k'
      · subst h; simp
      · rw [if_neg h, if_neg h, if_neg (fun e => h e.symm)]
    · simp only [mput, hak, if_false, mget, ih]
      by_cases h : a = k'
      · subst h; simp [hak]
      · rw [if_neg h, if_neg h]
instance : MapTy Tryz.prog 146 Int Int (Value.int .u64) (Value.int .i64) 0 := MapTy.int Tryz.underlying146 Tryz.underlying22 (inferInstance : Zer Tryz.prog 3 (.int .i64 0)).h
def cnt (names : List Nat) (k : Int) : Int := (names.countP (fun (x : Nat) => decide ((x : Int) = k)) : Nat)
theorem cnt_snoc (names : List Nat) (x : Nat) (k : Int) : cnt (names ++ [x]) k = if k = (x : Int) then cnt names (x : Int) + 1 else cnt names k := by
  unfold cnt
  rw [List.countP_append, List.countP_singleton]
  by_cases h : k = (x : Int)
  · subst h; simp
  · rw [if_neg h, if_neg (by simpa using fun e => h e.symm)]; simp
theorem cnt_le (names : List Nat) (k : Int) : 0 ≤ cnt names k ∧ cnt names k ≤ names.length := by
  unfold cnt
  have : names.countP (fun (x : Nat) => decide ((x : Int) = k)) ≤ names.length := List.countP_le_length
  omega
structure Po where
  seq : Nat
  next : Int
  names : List Nat
  wt : Int
  wl : Int
  nt : Int
  nl : Int
  limbo : List Nat
  s : Int
structure PoX (names : List Nat) where
  N : Nat
  lad : Option Addr
  lcap : Nat
  m : List (Int × Int)
  hm : ∀ k, (mget m k).getD 0 = cnt names k
def poolV (c : Cfg) (N : Nat) (p : Po) (lv : Value) : List Value := c.m ++ [.int .u64 (p.seq : Int), .int .i64 p.next, .map (some N), .int .i64 p.wt, .int .i64 p.wl, .int .i64 p.nt, .int .i64 p.nl, lv, .int .i64 p.s]
theorem take_p (c : Cfg) (N : Nat) (p : Po) (lv : Value) : TakeN 24 (poolV c N p lv) c.m := TakeN.app c.m _
def plL (Pb : Nat) (c : Cfg) (p : Po) (x : PoX p.names) : List HProp := [bl Pb 148 (poolV c x.N p (.slice x.lad p.limbo.length x.lcap)), Mp x.N (Value.int .u64) (Value.int .i64) x.m, Row (.slice x.lad p.limbo.length x.lcap) 22 1 p.limbo.length (u64s p.limbo)]
def PlE (Pb : Nat) (c : Cfg) (p : Po) : HProp := ex (plL Pb c p)
def Po.new (seq : Nat) : Po := ⟨seq, 0, [], 0, 0, 0, 0, [], 0⟩
set_option maxRecDepth 100000 in
theorem pnew_tE (c : Cfg) (seq : Nat) : Tri Tryz.prog 11 #[.agg ⟨c.m⟩, .int .u64 (seq : Int)] [] fun r L => ∃ Pb, r = .pointer (some ⟨Pb, 0, none⟩) ∧ L = [PlE Pb c (Po.new seq)] := by
  refine Tri.of_body (vs := [_, _]) Tryz.func11 rfl rfl fun w0 F => ?_
  repeat' (first | (apply Ya; exact Oa) | (apply Yb; exact Ob) | (apply Yc; exact Oc; intro b) | (apply Ye; exact Oe; intro g cap rest hcap) | (apply Yd; exact Od; intro ad cap) | (apply Yf; exact Oj) | (apply Yg; exact Oj; exact ⟨rfl, rfl⟩) | (apply Yh; exact Oj; rfl) | (apply Yi; exact Oj; exact On; all_goals (intro h; try (exfalso; omega))) | apply StL.nil | apply St.region | apply St.seq | apply St.block | apply St.inBlock | apply St.skip | (apply St.exit; rfl) | (apply St.cond_t; rfl) | (apply St.cond_f; rfl) | (apply Ud; rfl; exact On; all_goals (intro h; try (exfalso; omega))) | (apply Za; rfl; exact Oa) | (apply Zb; rfl; exact Oa; exact Ent.go) | (apply Zc; rfl; exact Ob) | (apply Zd; rfl; exact Oc; intro b; refine ⟨Ent.go, ?_⟩) | (apply Ze; rfl; exact Oc; intro b) | (apply Zf; rfl; exact Oe; intro g cap rest hcap) | (apply Zg; rfl; exact Od; intro ad cap) | apply StD.nil | exact StD.nope | apply StD.pick | (apply StD.claim; rfl; intro b) | (apply Zi; rfl; exact Oj; exact Oa) | (apply Zj; rfl; exact Oj; exact Oa; exact Ent.go) | (apply Zk; rfl; exact Oj; exact ⟨rfl, rfl⟩) | (apply Zl; rfl; exact Oj; exact ⟨rfl, rfl⟩; exact Ent.go) | (apply Zm; rfl; exact Oj; rfl) | (apply Zn; rfl; exact Oj; exact Ent.go; rfl)   | (apply Zo; rfl; exact Oj; exact On; all_goals (intro h; try (exfalso; omega))))
  rename_i N
  refine St.d1 Tryz.func11 ⟨_, ⟨_, rfl, rfl⟩, ?_⟩
  refine Ent.trans ?_ (Ent.ex_in (Ls := plL _ c (Po.new seq)) ⟨N, none, 0, [], fun k => rfl⟩)
  refine Ent.trans (Ent.row_nil 22 1) ?_
  exact Ent.go
set_option maxRecDepth 100000 in
theorem pStatus_rE (Pb : Nat) (c : Cfg) (p : Po) : RTri Tryz.prog 120 #[.pointer (some ⟨Pb, 0, none⟩)] [PlE Pb c p] (.int .i64 p.s) := by
  refine RTri.of_exact fun W0 hs => ?_
  obtain ⟨x, hs⟩ := sat_ex hs
  have hW := RdC.exact hs (ReadsC.here RdC.bl)
  refine Tri.of_body (vs := [_]) Tryz.func120 rfl rfl fun w0 F => ?_
  repeat' (first | (apply Ya; exact Oa) | (apply Yb; exact Ob) | (apply Yc; exact Oc; intro b) | (apply Ye; exact Oe; intro g cap rest hcap) | (apply Yd; exact Od; intro ad cap) | (apply Yf; exact Oj) | (apply Yg; exact Oj; exact ⟨rfl, rfl⟩) | (apply Yh; exact Oj; rfl) | (apply Yi; exact Oj; exact On; all_goals (intro h; try (exfalso; omega))) | apply StL.nil | apply St.region | apply St.seq | apply St.block | apply St.inBlock | apply St.skip | (apply St.exit; rfl) | (apply St.cond_t; rfl) | (apply St.cond_f; rfl) | (apply Ud; rfl; exact On; all_goals (intro h; try (exfalso; omega))) | (apply Za; rfl; exact Oa) | (apply Zb; rfl; exact Oa; exact Ent.go) | (apply Zc; rfl; exact Ob) | (apply Zd; rfl; exact Oc; intro b; refine ⟨Ent.go, ?_⟩) | (apply Ze; rfl; exact Oc; intro b) | (apply Zf; rfl; exact Oe; intro g cap rest hcap) | (apply Zg; rfl; exact Od; intro ad cap) | apply StD.nil | exact StD.nope | apply StD.pick | (apply StD.claim; rfl; intro b) | (apply Zi; rfl; exact Oj; exact Oa) | (apply Zj; rfl; exact Oj; exact Oa; exact Ent.go) | (apply Zk; rfl; exact Oj; exact ⟨rfl, rfl⟩) | (apply Zl; rfl; exact Oj; exact ⟨rfl, rfl⟩; exact Ent.go) | (apply Zm; rfl; exact Oj; rfl) | (apply Zn; rfl; exact Oj; exact Ent.go; rfl)   | (apply Zo; rfl; exact Oj; exact On; all_goals (intro h; try (exfalso; omega))))
  (first | refine St.dn Tryz.func120 ⟨?_, rfl⟩ Ent.go | refine St.fl Tryz.func120 ⟨?_, rfl⟩ Ent.go)
  rfl
set_option maxRecDepth 100000 in
theorem pMark_rE (Pb : Nat) (c : Cfg) (p : Po) : RTri Tryz.prog 26 #[.pointer (some ⟨Pb, 0, none⟩)] [PlE Pb c p] (.agg ⟨[.int .i64 p.nt, .int .i64 p.nl]⟩) := by
  refine RTri.of_exact fun W0 hs => ?_
  obtain ⟨x, hs⟩ := sat_ex hs
  have hW := RdC.exact hs (ReadsC.here RdC.bl)
  refine Tri.of_body (vs := [_]) Tryz.func26 rfl rfl fun w0 F => ?_
  repeat' (first | (apply Ya; exact Oa) | (apply Yb; exact Ob) | (apply Yc; exact Oc; intro b) | (apply Ye; exact Oe; intro g cap rest hcap) | (apply Yd; exact Od; intro ad cap) | (apply Yf; exact Oj) | (apply Yg; exact Oj; exact ⟨rfl, rfl⟩) | (apply Yh; exact Oj; rfl) | (apply Yi; exact Oj; exact On; all_goals (intro h; try (exfalso; omega))) | apply StL.nil | apply St.region | apply St.seq | apply St.block | apply St.inBlock | apply St.skip | (apply St.exit; rfl) | (apply St.cond_t; rfl) | (apply St.cond_f; rfl) | (apply Ud; rfl; exact On; all_goals (intro h; try (exfalso; omega))) | (apply Za; rfl; exact Oa) | (apply Zb; rfl; exact Oa; exact Ent.go) | (apply Zc; rfl; exact Ob) | (apply Zd; rfl; exact Oc; intro b; refine ⟨Ent.go, ?_⟩) | (apply Ze; rfl; exact Oc; intro b) | (apply Zf; rfl; exact Oe; intro g cap rest hcap) | (apply Zg; rfl; exact Od; intro ad cap) | apply StD.nil | exact StD.nope | apply StD.pick | (apply StD.claim; rfl; intro b) | (apply Zi; rfl; exact Oj; exact Oa) | (apply Zj; rfl; exact Oj; exact Oa; exact Ent.go) | (apply Zk; rfl; exact Oj; exact ⟨rfl, rfl⟩) | (apply Zl; rfl; exact Oj; exact ⟨rfl, rfl⟩; exact Ent.go) | (apply Zm; rfl; exact Oj; rfl) | (apply Zn; rfl; exact Oj; exact Ent.go; rfl)   | (apply Zo; rfl; exact Oj; exact On; all_goals (intro h; try (exfalso; omega))))
  (first | refine St.dn Tryz.func26 ⟨?_, rfl⟩ Ent.go | refine St.fl Tryz.func26 ⟨?_, rfl⟩ Ent.go)
  rfl
set_option maxRecDepth 100000 in
theorem pback_tE (Pb : Nat) (c : Cfg) (p : Po) (t l : Int) : Tri Tryz.prog 108 #[.pointer (some ⟨Pb, 0, none⟩), .agg ⟨[.int .i64 t, .int .i64 l]⟩] [PlE Pb c p] fun r L => r = .tuple ⟨[]⟩ ∧ L = [PlE Pb c { p with nt := t, nl := l }] := by
  refine Tri.ex_out fun x => ?_
  refine Tri.of_body (vs := [_, _]) Tryz.func108 rfl rfl fun w0 F => ?_
  repeat' (first | (apply Ya; exact Oa) | (apply Yb; exact Ob) | (apply Yc; exact Oc; intro b) | (apply Ye; exact Oe; intro g cap rest hcap) | (apply Yd; exact Od; intro ad cap) | (apply Yf; exact Oj) | (apply Yg; exact Oj; exact ⟨rfl, rfl⟩) | (apply Yh; exact Oj; rfl) | (apply Yi; exact Oj; exact On; all_goals (intro h; try (exfalso; omega))) | apply StL.nil | apply St.region | apply St.seq | apply St.block | apply St.inBlock | apply St.skip | (apply St.exit; rfl) | (apply St.cond_t; rfl) | (apply St.cond_f; rfl) | (apply Ud; rfl; exact On; all_goals (intro h; try (exfalso; omega))) | (apply Za; rfl; exact Oa) | (apply Zb; rfl; exact Oa; exact Ent.go) | (apply Zc; rfl; exact Ob) | (apply Zd; rfl; exact Oc; intro b; refine ⟨Ent.go, ?_⟩) | (apply Ze; rfl; exact Oc; intro b) | (apply Zf; rfl; exact Oe; intro g cap rest hcap) | (apply Zg; rfl; exact Od; intro ad cap) | apply StD.nil | exact StD.nope | apply StD.pick | (apply StD.claim; rfl; intro b) | (apply Zi; rfl; exact Oj; exact Oa) | (apply Zj; rfl; exact Oj; exact Oa; exact Ent.go) | (apply Zk; rfl; exact Oj; exact ⟨rfl, rfl⟩) | (apply Zl; rfl; exact Oj; exact ⟨rfl, rfl⟩; exact Ent.go) | (apply Zm; rfl; exact Oj; rfl) | (apply Zn; rfl; exact Oj; exact Ent.go; rfl)   | (apply Zo; rfl; exact Oj; exact On; all_goals (intro h; try (exfalso; omega))))
  refine St.f1 Tryz.func108 ⟨_, ⟨rfl, rfl⟩, ?_⟩
  exact Ent.trans Ent.go (Ent.ex_in (Ls := plL Pb c { p with nt := t, nl := l }) x)
def Po.top (c : Cfg) (p : Po) : Int × Bool := if p.nt = 0 then (-1, false) else (c.at 13 (p.nt - 1) 0, true)
set_option maxRecDepth 100000 in
theorem ptop_rE (Pb : Nat) (c : Cfg) (hc : Small c) (p : Po) (ht : 0 ≤ p.nt ∧ p.nt ≤ 1000000) : RTri Tryz.prog 155 #[.pointer (some ⟨Pb, 0, none⟩)] [PlE Pb c p] (.tuple ⟨[.int .i64 (p.top c).1, .bool (p.top c).2]⟩) := by
  refine RTri.of_exact fun W0 hs => ?_
  obtain ⟨x, hs⟩ := sat_ex hs
  have hW := RdC.exact hs (ReadsC.here RdC.bl)
  have htk := take_p c x.N p (.slice x.lad p.limbo.length x.lcap)
  have ha := at_r c hc 13 (p.nt - 1) 0
  unfold Po.top
  refine Tri.of_body (vs := [_]) Tryz.func155 rfl rfl fun w0 F => ?_
  repeat' (first | (apply Ya; exact Oa) | (apply Yb; exact Ob) | (apply Yc; exact Oc; intro b) | (apply Ye; exact Oe; intro g cap rest hcap) | (apply Yd; exact Od; intro ad cap) | (apply Yf; exact Oj) | (apply Yg; exact Oj; exact ⟨rfl, rfl⟩) | (apply Yh; exact Oj; rfl) | (apply Yi; exact Oj; exact On; all_goals (intro h; try (exfalso; omega))) | apply StL.nil | apply St.region | apply St.seq | apply St.block | apply St.inBlock | apply St.skip | (apply St.exit; rfl) | (apply St.cond_t; rfl) | (apply St.cond_f; rfl) | (apply Ud; rfl; exact On; all_goals (intro h; try (exfalso; omega))) | (apply Za; rfl; exact Oa) | (apply Zb; rfl; exact Oa; exact Ent.go) | (apply Zc; rfl; exact Ob) | (apply Zd; rfl; exact Oc; intro b; refine ⟨Ent.go, ?_⟩) | (apply Ze; rfl; exact Oc; intro b) | (apply Zf; rfl; exact Oe; intro g cap rest hcap) | (apply Zg; rfl; exact Od; intro ad cap) | apply StD.nil | exact StD.nope | apply StD.pick | (apply StD.claim; rfl; intro b) | (apply Zi; rfl; exact Oj; exact Oa) | (apply Zj; rfl; exact Oj; exact Oa; exact Ent.go) | (apply Zk; rfl; exact Oj; exact ⟨rfl, rfl⟩) | (apply Zl; rfl; exact Oj; exact ⟨rfl, rfl⟩; exact Ent.go) | (apply Zm; rfl; exact Oj; rfl) | (apply Zn; rfl; exact Oj; exact Ent.go; rfl) | (refine St.draw (id := 3) [(0, 0), (1, 0), (2, 0), (3, 1), (4, 0), (5, 0), (6, 0), (7, 0), (8, 1), (9, 0), (10, 1), (11, 0), (12, 0)] [] mixed (by kernel_rfl) ?_) | (apply Ka; exact Og; exact ha; exact Oh) | (apply Kb; rfl; exact Og; exact ha; exact Oi) | (apply Kc; rfl; exact Oj; exact Og; exact ha; exact Oi) | (apply Zo; rfl; exact Oj; exact On; all_goals (intro h; try (exfalso; omega))))
  all_goals (first | refine St.dn Tryz.func155 ⟨?_, rfl⟩ Ent.go | refine St.fl Tryz.func155 ⟨?_, rfl⟩ Ent.go)
  all_goals (first | rw [if_pos (by assumption)] | rw [if_neg (by assumption)])
  all_goals rfl
def Po.ask (c : Cfg) (p : Po) : MOp × Bool :=
  if p.s ≠ 0 then (mop 0 0 0, false) else if p.next < c.threads then (mop 0 (c.at 3 p.next 0) 0, true) else if p.next = c.threads then (mop 0 (c.at 12 0 0) 0, true) else
  if p.next = c.threads + 1 then (mop 0 (c.at 14 0 0) 0, true) else (mop 0 (c.at 15 (p.next - c.threads - 2) 0) 0, true)
set_option maxRecDepth 100000 in
theorem pask_rE (Pb : Nat) (c : Cfg) (hc : Small c) (p : Po) (hn : 0 ≤ p.next ∧ p.next ≤ 1000000) : RTri Tryz.prog 85 #[.pointer (some ⟨Pb, 0, none⟩)] [PlE Pb c p] (.tuple ⟨[.agg ⟨(p.ask c).1.v⟩, .bool (p.ask c).2]⟩) := by
  refine RTri.of_exact fun W0 hs => ?_
  obtain ⟨x, hs⟩ := sat_ex hs
  have hW := RdC.exact hs (ReadsC.here RdC.bl)
  have htk := take_p c x.N p (.slice x.lad p.limbo.length x.lcap)
  have hcf := cfg_r c
  have h1 := at_r c hc 3 p.next 0
  have h2 := at_r c hc 12 0 0
  have h3 := at_r c hc 14 0 0
  have h4 := at_r c hc 15 (p.next - c.threads - 2) 0
  have := hc.t0; have := hc.t1
  unfold Po.ask
  refine Tri.of_body (vs := [_]) Tryz.func85 rfl rfl fun w0 F => ?_
  repeat' (first | (apply Ya; exact Oa) | (apply Yb; exact Ob) | (apply Yc; exact Oc; intro b) | (apply Ye; exact Oe; intro g cap rest hcap) | (apply Yd; exact Od; intro ad cap) | (apply Yf; exact Oj) | (apply Yg; exact Oj; exact ⟨rfl, rfl⟩) | (apply Yh; exact Oj; rfl) | (apply Yi; exact Oj; exact On; all_goals (intro h; try (exfalso; omega))) | apply StL.nil | apply St.region | apply St.seq | apply St.block | apply St.inBlock | apply St.skip | (apply St.exit; rfl) | (apply St.cond_t; rfl) | (apply St.cond_f; rfl) | (apply Ud; rfl; exact On; all_goals (intro h; try (exfalso; omega))) | (apply Za; rfl; exact Oa) | (apply Zb; rfl; exact Oa; exact Ent.go) | (apply Zc; rfl; exact Ob) | (apply Zd; rfl; exact Oc; intro b; refine ⟨Ent.go, ?_⟩) | (apply Ze; rfl; exact Oc; intro b) | (apply Zf; rfl; exact Oe; intro g cap rest hcap) | (apply Zg; rfl; exact Od; intro ad cap) | apply StD.nil | exact StD.nope | apply StD.pick | (apply StD.claim; rfl; intro b) | (apply Zi; rfl; exact Oj; exact Oa) | (apply Zj; rfl; exact Oj; exact Oa; exact Ent.go) | (apply Zk; rfl; exact Oj; exact ⟨rfl, rfl⟩) | (apply Zl; rfl; exact Oj; exact ⟨rfl, rfl⟩; exact Ent.go) | (apply Zm; rfl; exact Oj; rfl) | (apply Zn; rfl; exact Oj; exact Ent.go; rfl) | (refine St.draw (id := 5) [(0, 0), (1, 0), (2, 0), (3, 1), (4, 0), (5, 0), (6, 0), (7, 1), (8, 1), (9, 0), (10, 3), (11, 0)] [10] mixed (by kernel_rfl) ?_) | (refine St.draw (id := 10) [(0, 0), (1, 0), (2, 0), (3, 1), (4, 0), (5, 0), (6, 0), (7, 1), (8, 0), (9, 0), (10, 0), (11, 1), (12, 0), (13, 3), (14, 0)] [13] mixed (by kernel_rfl) ?_) | (apply Ka; exact Og; exact hcf; exact Oh) | (apply Kb; rfl; exact Og; exact hcf; exact Oi) | (apply Kc; rfl; exact Oj; exact Og; exact hcf; exact Oi) | (apply Ka; exact Og; exact h1; exact Oh) | (apply Kb; rfl; exact Og; exact h1; exact Oi) | (apply Kc; rfl; exact Oj; exact Og; exact h1; exact Oi) | (apply Ka; exact Og; exact h2; exact Oh) | (apply Kb; rfl; exact Og; exact h2; exact Oi) | (apply Kc; rfl; exact Oj; exact Og; exact h2; exact Oi) | (apply Ka; exact Og; exact h3; exact Oh) | (apply Kb; rfl; exact Og; exact h3; exact Oi) | (apply Kc; rfl; exact Oj; exact Og; exact h3; exact Oi) | (apply Ka; exact Og; exact h4; exact Oh) | (apply Kb; rfl; exact Og; exact h4; exact Oi) | (apply Kc; rfl; exact Oj; exact Og; exact h4; exact Oi) | (apply Zo; rfl; exact Oj; exact On; all_goals (intro h; try (exfalso; omega))))
  all_goals (first | refine St.dn Tryz.func85 ⟨?_, rfl⟩ Ent.go | refine St.fl Tryz.func85 ⟨?_, rfl⟩ Ent.go)
  all_goals (repeat (first | rw [if_pos (by omega)] | rw [if_neg (by omega)]))
  all_goals rfl
def Po.fin (c : Cfg) (p : Po) : Po := if c.threads + 1 < p.next ∧ (p.limbo.length : Int) = p.wl then { p with nt := p.wt, nl := p.wl, s := 1 } else p
def minI (a b : Int) : Int := if b < a then b else a
def Po.tell (c : Cfg) (p : Po) (o : Out) : Po :=
  if p.s ≠ 0 then p else if p.next < c.threads then Po.fin c { p with names := p.names ++ [o.was.val], next := p.next + 1 } else if p.seq < o.was.seq then { p with s := 2 } else
  if p.next = c.threads then Po.fin c { p with wt := minI o.was.val c.blocks, next := p.next + 1 } else if p.next = c.threads + 1 then Po.fin c { p with wl := minI o.was.val c.limit, next := p.next + 1 } else
  Po.fin c { p with limbo := p.limbo ++ [o.was.val], next := p.next + 1 }
theorem u64s_snoc (l : List Nat) (x : Nat) : u64s (l ++ [x]) = u64s l ++ [.int .u64 (x : Int)] := by simp [u64s]
set_option maxRecDepth 100000 in
theorem ptell_tE (Pb : Nat) (c : Cfg) (hc : Small c) (p : Po) (o : Out) (hn : 0 ≤ p.next ∧ p.next ≤ 1000000) (hna : p.names.length ≤ 1000000) (hli : p.limbo.length ≤ 1000000) : Tri Tryz.prog 12 #[.pointer (some ⟨Pb, 0, none⟩), .agg ⟨o.v⟩] [PlE Pb c p] fun r L => r = .tuple ⟨[]⟩ ∧ L = [PlE Pb c (p.tell c o)] := by
  refine Tri.ex_out fun x => ?_
  have htk := take_p c x.N p (.slice x.lad p.limbo.length x.lcap)
  have hcf := cfg_r c
  have hlm := limit_r c hc c.fr
  have hcn := x.hm (o.was.val : Int)
  have hcl := cnt_le p.names (o.was.val : Int)
  have hnew : ∀ k, (mget (mput x.m o.was.val ((mget x.m o.was.val).getD 0 + 1)) k).getD 0 = cnt (p.names ++ [o.was.val]) k := by
    intro k
    rw [mget_mput, cnt_snoc]
    split
    · rw [Option.getD_some, hcn]
    · exact x.hm k
  have := hc.t0; have := hc.t1; have := hc.b0; have := hc.b1; have := hc.limit
  refine Tri.of_body (vs := [_, _]) Tryz.func12 rfl rfl fun w0 F => ?_
  repeat' (first | (apply Ya; exact Oa) | (apply Yb; exact Ob) | (apply Yc; exact Oc; intro b) | (apply Ye; exact Oe; intro g cap rest hcap) | (apply Yd; exact Od; intro ad cap) | (apply Yf; exact Oj) | (apply Yg; exact Oj; exact ⟨rfl, rfl⟩) | (apply Yh; exact Oj; rfl) | (apply Yi; exact Oj; exact On; all_goals (intro h; try (exfalso; omega))) | apply StL.nil | apply St.region | apply St.seq | apply St.block | apply St.inBlock | apply St.skip | (apply St.exit; rfl) | (apply St.cond_t; rfl) | (apply St.cond_f; rfl) | (apply Ud; rfl; exact On; all_goals (intro h; try (exfalso; omega))) | (apply Za; rfl; exact Oa) | (apply Zb; rfl; exact Oa; exact Ent.go) | (apply Zc; rfl; exact Ob) | (apply Zd; rfl; exact Oc; intro b; refine ⟨Ent.go, ?_⟩) | (apply Ze; rfl; exact Oc; intro b) | (apply Zf; rfl; exact Oe; intro g cap rest hcap) | (apply Zg; rfl; exact Od; intro ad cap) | apply StD.nil | exact StD.nope | apply StD.pick | (apply StD.claim; rfl; intro b) | (apply Zi; rfl; exact Oj; exact Oa) | (apply Zj; rfl; exact Oj; exact Oa; exact Ent.go) | (apply Zk; rfl; exact Oj; exact ⟨rfl, rfl⟩) | (apply Zl; rfl; exact Oj; exact ⟨rfl, rfl⟩; exact Ent.go) | (apply Zm; rfl; exact Oj; rfl) | (apply Zn; rfl; exact Oj; exact Ent.go; rfl) | (refine St.draw (id := 6) [(0, 0), (1, 0), (2, 0), (3, 1), (4, 0), (5, 1), (6, 1), (7, 0), (8, 3)] [8] mixed (by kernel_rfl) ?_) | (refine St.draw (id := 7) [(0, 0), (1, 1), (2, 0), (3, 0), (4, 0), (5, 1), (6, 0), (7, 0)] [] mixed (by kernel_rfl) ?_) | (refine St.draw (id := 10) [(0, 0), (1, 0), (2, 1), (3, 0), (4, 0), (5, 0), (6, 1), (7, 1), (8, 0), (9, 0), (10, 0), (11, 0), (12, 0), (13, 0), (14, 0), (15, 3)] [15] mixed (by kernel_rfl) ?_) | (refine St.draw (id := 12) [(0, 0), (1, 0), (2, 1), (3, 0), (4, 0), (5, 0), (6, 1), (7, 1), (8, 0), (9, 0), (10, 0), (11, 0), (12, 0), (13, 0), (14, 3)] [14] mixed (by kernel_rfl) ?_) | (refine St.draw (id := 3) [(0, 0), (1, 0), (2, 0), (3, 0), (4, 1), (5, 0), (6, 1), (7, 2), (8, 3), (9, 0), (10, 0), (11, 3)] [8, 11] mixed (by kernel_rfl) ?_) | (refine St.draw (id := 14) [(0, 0), (1, 0), (2, 0), (3, 1), (4, 0), (5, 0), (6, 0), (7, 0), (8, 0), (9, 0), (10, 0), (11, 1), (12, 0), (13, 0), (14, 0), (15, 0), (16, 0), (17, 1), (18, 0), (19, 0)] [] mixed (by kernel_rfl) ?_) | (apply Ka; exact Og; exact hcf; exact Oh) | (apply Kb; rfl; exact Og; exact hcf; exact Oi) | (apply Kc; rfl; exact Oj; exact Og; exact hcf; exact Oi) | (apply Ka; exact Og; exact hlm; exact Oh) | (apply Kb; rfl; exact Og; exact hlm; exact Oi) | (apply Kc; rfl; exact Oj; exact Og; exact hlm; exact Oi) | (apply Zo; rfl; exact Oj; exact On; all_goals (intro h; try (exfalso; omega))))
  · have e : p.tell c o = p := by
      unfold Po.tell Po.fin; dsimp only
      repeat (first | rw [if_pos (by omega)] | rw [if_neg (by omega)])
    rw [e]
    refine St.d1 Tryz.func12 ⟨_, ⟨rfl, rfl⟩, ?_⟩
    exact Ent.trans Ent.go (Ent.ex_in (Ls := plL Pb c p) x)
  · have e : p.tell c o = { p with names := p.names ++ [o.was.val], next := p.next + 1 } := by
      unfold Po.tell Po.fin; dsimp only
      repeat (first | rw [if_pos (by omega)] | rw [if_neg (by omega)])
    rw [e]
    refine St.f1 Tryz.func12 ⟨_, ⟨rfl, rfl⟩, ?_⟩
    exact Ent.trans Ent.go (Ent.ex_in (Ls := plL Pb c { p with names := p.names ++ [o.was.val], next := p.next + 1 }) ⟨x.N, x.lad, x.lcap, mput x.m o.was.val ((mget x.m o.was.val).getD 0 + 1), hnew⟩)
  · have e : p.tell c o = { p with s := 2 } := by
      unfold Po.tell Po.fin; dsimp only
      repeat (first | rw [if_pos (by omega)] | rw [if_neg (by omega)])
    rw [e]
    refine St.d1 Tryz.func12 ⟨_, ⟨rfl, rfl⟩, ?_⟩
    exact Ent.trans Ent.go (Ent.ex_in (Ls := plL Pb c { p with s := 2 }) x)
  · have e : p.tell c o = { p with wt := minI o.was.val c.blocks, next := p.next + 1 } := by
      unfold Po.tell Po.fin; dsimp only
      repeat (first | rw [if_pos (by omega)] | rw [if_neg (by omega)])
    rw [e]
    refine St.f1 Tryz.func12 ⟨_, ⟨rfl, rfl⟩, ?_⟩
    exact Ent.trans Ent.go (Ent.ex_in (Ls := plL Pb c { p with wt := minI o.was.val c.blocks, next := p.next + 1 }) x)
  · have e : p.tell c o = { p with wl := minI o.was.val c.limit, next := p.next + 1, nt := p.wt, nl := minI o.was.val c.limit, s := 1 } := by
      unfold Po.tell Po.fin; dsimp only
      rw [if_neg (by omega), if_neg (by omega), if_neg (by omega), if_neg (by omega), if_pos (by omega), if_pos ⟨by omega, h⟩]
    rw [e]
    refine St.f1 Tryz.func12 ⟨_, ⟨rfl, rfl⟩, ?_⟩
    exact Ent.trans Ent.go (Ent.ex_in (Ls := plL Pb c { p with wl := minI o.was.val c.limit, next := p.next + 1, nt := p.wt, nl := minI o.was.val c.limit, s := 1 }) x)
  · have e : p.tell c o = { p with wl := minI o.was.val c.limit, next := p.next + 1 } := by
      unfold Po.tell Po.fin; dsimp only
      rw [if_neg (by omega), if_neg (by omega), if_neg (by omega), if_neg (by omega), if_pos (by omega), if_neg (fun hh => h hh.2)]
    rw [e]
    refine St.f1 Tryz.func12 ⟨_, ⟨rfl, rfl⟩, ?_⟩
    exact Ent.trans Ent.go (Ent.ex_in (Ls := plL Pb c { p with wl := minI o.was.val c.limit, next := p.next + 1 }) x)
  · have e : p.tell c o = { p with limbo := p.limbo ++ [o.was.val], next := p.next + 1, nt := p.wt, nl := p.wl, s := 1 } := by
      unfold Po.tell Po.fin; dsimp only
      rw [List.length_append]
      rw [if_neg (by omega), if_neg (by omega), if_neg (by omega), if_neg (by omega), if_neg (by omega), if_pos ⟨by omega, h⟩]
    rw [e]
    refine St.f1 Tryz.func12 ⟨_, ⟨rfl, rfl⟩, ?_⟩
    refine Ent.trans ?_ (Ent.ex_in (Ls := plL Pb c { p with limbo := p.limbo ++ [o.was.val], next := p.next + 1, nt := p.wt, nl := p.wl, s := 1 }) ⟨x.N, ad, cap, x.m, x.hm⟩)
    unfold plL; dsimp only
    rw [List.length_append, u64s_snoc]
    exact Ent.go
  · have e : p.tell c o = { p with limbo := p.limbo ++ [o.was.val], next := p.next + 1 } := by
      unfold Po.tell Po.fin; dsimp only
      rw [List.length_append]
      rw [if_neg (by omega), if_neg (by omega), if_neg (by omega), if_neg (by omega), if_neg (by omega), if_neg (fun hh => h hh.2)]
    rw [e]
    refine St.f1 Tryz.func12 ⟨_, ⟨rfl, rfl⟩, ?_⟩
    refine Ent.trans ?_ (Ent.ex_in (Ls := plL Pb c { p with limbo := p.limbo ++ [o.was.val], next := p.next + 1 }) ⟨x.N, ad, cap, x.m, x.hm⟩)
    unfold plL; dsimp only
    rw [List.length_append, u64s_snoc]
    exact Ent.go
end Go.Proofs.YtipnljhelbjmaaaGreat
