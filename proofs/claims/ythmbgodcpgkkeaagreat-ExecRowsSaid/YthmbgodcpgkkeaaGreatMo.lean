/-
  Package exec: block, reads, taken, goOn. Ranges over functions that hand memory on; lists that can be read. Package model: a state; New, Root, Block, Clone.
-/
import Derived.Test.YthmbgodcpgkkeaaGreatRowp
import Derived.Test.YthmbgodcpgkkeaaGreatInsc
section
namespace Go.Proofs.YthmbgodcpgkkeaaGreat
structure InsOk (i : Ins) : Prop where
  a0 : 0 ≤ i.a
  a1 : i.a < 16
  b0 : 0 ≤ i.b
  b1 : i.b < 16
  c0 : 0 ≤ i.c
  c1 : i.c < 16
def Xs.reg (x : Xs) (a : Int) : Nat := x.regs.getD a.toNat 0
def Xs.hOf (x : Xs) : Nat := if x.i.op = 16 then x.reg x.i.a else x.reg x.i.b
def Xs.wOf (x : Xs) : Nat := if x.i.op = 12 ∨ x.i.op = 14 then x.reg x.i.c else if x.i.op = 16 then 0 else x.i.imm
def Xs.block (c : Cfg) (x : Xs) : Int × Int × Bool := if x.hOf < 1 ∨ c.blocks < (x.hOf : Int) ∨ 8 ≤ x.wOf then (0, 0, false) else ((x.hOf : Int) - 1, (x.wOf : Int), true)
set_option maxRecDepth 100000 in
theorem xblock_r (X V Pb W : Nat) (c : Cfg) (hc : Small c) (cv nv : Value) (x : Xs) (hi : InsOk x.i) : RTri Tryz.prog 250 #[.pointer (some ⟨X, 0, none⟩)] [bl X 221 (exV c cv V Pb W nv x)]
    (.tuple ⟨[.int .i64 (x.block c).1, .int .i64 (x.block c).2.1, .bool (x.block c).2.2]⟩) := by
  apply RTri.of_reads
  intro q hq
  have hX := RdC.of_sat hq (ReadsC.here RdC.bl)
  have hcf := cfg_r c
  have htk := take_x c cv V Pb W nv x
  have ha : NthN _ _ (Value.int .u64 ((x.reg x.i.a : Nat) : Int)) := ex_reg c cv V Pb W nv x hi.a0 hi.a1
  have hb : NthN _ _ (Value.int .u64 ((x.reg x.i.b : Nat) : Int)) := ex_reg c cv V Pb W nv x hi.b0 hi.b1
  have hcc : NthN _ _ (Value.int .u64 ((x.reg x.i.c : Nat) : Int)) := ex_reg c cv V Pb W nv x hi.c0 hi.c1
  have := hi.a0; have := hi.a1; have := hi.b0; have := hi.b1; have := hi.c0; have := hi.c1; have := hc.b0; have := hc.b1
  by_cases h16 : x.i.op = 16
  · have e1 : x.hOf = x.reg x.i.a := if_pos h16
    have e2 : x.wOf = 0 := (if_neg (by omega)).trans (if_pos h16)
    unfold Xs.block
    rw [e1, e2]
    generalize x.reg x.i.a = ra at *
    generalize x.reg x.i.b = rb at *
    generalize x.reg x.i.c = rc at *
    refine Tri.of_body (vs := [_]) Tryz.func250 rfl rfl fun w0 F => ?_
    repeat' (first | refine Ga ?_ | (refine Gb ?_; intro b) | (refine Gd ?_; intro g cap rest hcap) | (refine Gc ?_; intro ad cap) | (refine St.draw (id := 1) [(0, 0), (1, 0), (2, 0), (3, 0), (4, 0), (5, 1), (6, 0), (7, 0), (8, 0), (9, 1), (10, 0), (11, 0), (12, 0), (13, 0), (14, 1), (15, 0), (16, 0)] [] mixed (by kernel_rfl) ?_) | (refine St.draw (id := 5) [(0, 0), (1, 0), (2, 0), (3, 0), (4, 0), (5, 1), (6, 0), (7, 0), (8, 0), (9, 1), (10, 0)] [] mixed (by kernel_rfl) ?_) | (refine St.draw (id := 7) [(0, 0), (1, 0), (2, 0), (3, 0), (4, 0), (5, 1), (6, 0), (7, 0), (8, 0), (9, 1), (10, 0), (11, 0)] [] mixed (by kernel_rfl) ?_)| refine Gl hcf ?_ | (refine Ge ?_ ?_ <;> (intro h; try (exfalso; omega))) | fail)
    all_goals (first | refine St.dn Tryz.func250 ⟨?_, rfl⟩ Ent.go | refine St.fl Tryz.func250 ⟨?_, rfl⟩ Ent.go)
    all_goals (repeat (first | rw [if_pos (by omega)] | rw [if_neg (by omega)]))
    all_goals rfl
  · have e1 : x.hOf = x.reg x.i.b := if_neg h16
    by_cases h12 : x.i.op = 12 ∨ x.i.op = 14
    · have e2 : x.wOf = x.reg x.i.c := if_pos h12
      unfold Xs.block
      rw [e1, e2]
      generalize x.reg x.i.a = ra at *
      generalize x.reg x.i.b = rb at *
      generalize x.reg x.i.c = rc at *
      refine Tri.of_body (vs := [_]) Tryz.func250 rfl rfl fun w0 F => ?_
      repeat' (first | refine Ga ?_ | (refine Gb ?_; intro b) | (refine Gd ?_; intro g cap rest hcap) | (refine Gc ?_; intro ad cap) | (refine St.draw (id := 1) [(0, 0), (1, 0), (2, 0), (3, 0), (4, 0), (5, 1), (6, 0), (7, 0), (8, 0), (9, 1), (10, 0), (11, 0), (12, 0), (13, 0), (14, 1), (15, 0), (16, 0)] [] mixed (by kernel_rfl) ?_) | (refine St.draw (id := 5) [(0, 0), (1, 0), (2, 0), (3, 0), (4, 0), (5, 1), (6, 0), (7, 0), (8, 0), (9, 1), (10, 0)] [] mixed (by kernel_rfl) ?_) | (refine St.draw (id := 7) [(0, 0), (1, 0), (2, 0), (3, 0), (4, 0), (5, 1), (6, 0), (7, 0), (8, 0), (9, 1), (10, 0), (11, 0)] [] mixed (by kernel_rfl) ?_)| refine Gl hcf ?_ | (refine Ge ?_ ?_ <;> (intro h; try (exfalso; omega))) | fail)
      all_goals (first | refine St.dn Tryz.func250 ⟨?_, rfl⟩ Ent.go | refine St.fl Tryz.func250 ⟨?_, rfl⟩ Ent.go)
      all_goals (repeat (first | rw [if_pos (by omega)] | rw [if_neg (by omega)]))
      all_goals rfl
    · have e2 : x.wOf = x.i.imm := (if_neg h12).trans (if_neg h16)
      unfold Xs.block
      rw [e1, e2]
      generalize x.reg x.i.a = ra at *
      generalize x.reg x.i.b = rb at *
      generalize x.reg x.i.c = rc at *
      refine Tri.of_body (vs := [_]) Tryz.func250 rfl rfl fun w0 F => ?_
      repeat' (first | refine Ga ?_ | (refine Gb ?_; intro b) | (refine Gd ?_; intro g cap rest hcap) | (refine Gc ?_; intro ad cap) | (refine St.draw (id := 1) [(0, 0), (1, 0), (2, 0), (3, 0), (4, 0), (5, 1), (6, 0), (7, 0), (8, 0), (9, 1), (10, 0), (11, 0), (12, 0), (13, 0), (14, 1), (15, 0), (16, 0)] [] mixed (by kernel_rfl) ?_) | (refine St.draw (id := 5) [(0, 0), (1, 0), (2, 0), (3, 0), (4, 0), (5, 1), (6, 0), (7, 0), (8, 0), (9, 1), (10, 0)] [] mixed (by kernel_rfl) ?_) | (refine St.draw (id := 7) [(0, 0), (1, 0), (2, 0), (3, 0), (4, 0), (5, 1), (6, 0), (7, 0), (8, 0), (9, 1), (10, 0), (11, 0)] [] mixed (by kernel_rfl) ?_)| refine Gl hcf ?_ | (refine Ge ?_ ?_ <;> (intro h; try (exfalso; omega))) | fail)
      all_goals (first | refine St.dn Tryz.func250 ⟨?_, rfl⟩ Ent.go | refine St.fl Tryz.func250 ⟨?_, rfl⟩ Ent.go)
      all_goals (repeat (first | rw [if_pos (by omega)] | rw [if_neg (by omega)]))
      all_goals rfl
def readsB (op : Int) : Bool := op == 11 || op == 12
theorem xreads_r (op : Int) : RTri Tryz.prog 284 #[.int .i64 op] [] (.bool (readsB op)) := by
  apply RTri.of_pure
  refine Tri.of_body (vs := [_]) Tryz.func284 rfl rfl fun w0 F => ?_
  repeat' (first | refine Ga ?_ | (refine Gb ?_; intro b) | (refine Gd ?_; intro g cap rest hcap) | (refine Gc ?_; intro ad cap)  | (refine Ge ?_ ?_ <;> (intro h; try (exfalso; omega))) | fail)
  all_goals (first | refine St.dn Tryz.func284 ⟨?_, rfl⟩ Ent.go | refine St.fl Tryz.func284 ⟨?_, rfl⟩ Ent.go)
  all_goals refine congrArg Value.bool ?_
  all_goals simp [readsB, *]
def xeL (X : Nat) (c : Cfg) (cv : Value) (V Pb W : Nat) (x : Xs) (news : List Nat) (a : Option Addr × Nat) : List HProp := [bl X 221 (exV c cv V Pb W (.slice a.1 news.length a.2) x), Row (.slice a.1 news.length a.2) 22 1 news.length (u64s news)]
def XeE (X : Nat) (c : Cfg) (cv : Value) (V Pb W : Nat) (x : Xs) (news : List Nat) : HProp := ex (xeL X c cv V Pb W x news)
def Xm.taken (c : Cfg) (room : Nat) (m : Xm) (b : Nat) : Xm :=
  if c.blocks ≤ (b : Int) then m.fail 43 0 else
  { m with p := { m.p with nt := (takeP c room m.p.nt m.puts b).1 }, puts := (takeP c room m.p.nt m.puts b).2, news := m.news ++ [b + 1], x := { m.x with regs := m.x.regs.set m.x.i.a.toNat (b + 1) } }
/-- what holds of the numbers of a program that runs -/
structure Xok (m : Xm) : Prop where
  mark : m.x.mark ≤ m.puts.length
  len : m.puts.length ≤ 999999900
  w0 : 0 ≤ m.x.writes
  w1 : m.x.writes ≤ 1000000
  nt0 : 0 ≤ m.p.nt
  nt1 : m.p.nt ≤ 1000000
  nl0 : 0 ≤ m.p.nl
  nl1 : m.p.nl ≤ 1000000
  news : m.news.length ≤ 1000000
  regs : m.x.regs.length = 16
  args : m.x.args.length = 4
  i : InsOk m.x.i
set_option maxRecDepth 100000 in
theorem xtaken_t (X V Pb W room : Nat) (c : Cfg) (hc : Small c) (cv : Value) (m : Xm) (hm : Xok m) (bk : Nat) :
    Tri Tryz.prog 249 #[.pointer (some ⟨X, 0, none⟩), .int .u64 (bk : Int)] [XeE X c cv V Pb W m.x m.news, Pl Pb c m.p, Ws W room m.puts]
      fun r L => r = .tuple ⟨[]⟩ ∧ L = [XeE X c cv V Pb W (m.taken c room bk).x (m.taken c room bk).news, Pl Pb c (m.taken c room bk).p, Ws W room (m.taken c room bk).puts] := by
  refine Tri.ex_out ?_
  rintro ⟨nad, ncap⟩
  have hlen := hm.len
  have hnl := hm.news
  have hcf := cfg_r c
  have htk := take_x c cv V Pb W (.slice nad m.news.length ncap) m.x
  have ha0 := hm.i.a0; have ha1 := hm.i.a1
  have := hc.b0; have := hc.b1
  unfold Xm.taken
  by_cases h1 : c.blocks ≤ (bk : Int)
  · rw [if_pos h1]
    dsimp only [Xm.fail]
    have hf := xfail_t X V Pb W room c cv (.slice nad m.news.length ncap) m.x m.p m.puts 43 0 hm.mark (by omega)
    refine Tri.of_body (vs := [_, _]) Tryz.func249 rfl rfl fun w0 F => ?_
    repeat' (first | refine Ga ?_ | (refine Gb ?_; intro b) | (refine Gd ?_; intro g cap rest hcap) | (refine Gc ?_; intro ad cap) | (refine St.draw (id := 2) [(0, 0), (1, 0), (2, 0), (3, 1), (4, 0), (5, 0), (6, 0), (7, 1), (8, 0), (9, 0), (10, 3)] [10] mixed (by kernel_rfl) ?_) | (refine St.draw (id := 4) [(0, 0), (1, 0), (2, 0), (3, 0), (4, 0), (5, 1), (6, 0), (7, 0), (8, 0), (9, 0), (10, 0), (11, 3)] [11] mixed (by kernel_rfl) ?_)| refine Gl hcf ?_ | (refine Gt hf ?_; rintro _ _ ⟨rfl, rfl⟩) | (refine Ge ?_ ?_ <;> (intro h; try (exfalso; omega))) | fail)
    refine St.d1 Tryz.func249 ⟨_, ⟨rfl, rfl⟩, ?_⟩
    exact Ent.trans Ent.go (Ent.ex_in (Ls := xeL X c cv V Pb W { m.x with s := 1, rc := 43, rv := 0 } m.news) (nad, ncap))
  · rw [if_neg h1]
    dsimp only
    have ht := ptake_t Pb W room c hc m.p m.puts bk (by omega) ⟨hm.nt0, hm.nt1⟩
    have hsr := fun nv => ex_setreg c cv V Pb W nv m.x hm.regs ha0 ha1 (bk + 1)
    refine Tri.of_body (vs := [_, _]) Tryz.func249 rfl rfl fun w0 F => ?_
    repeat' (first | refine Ga ?_ | (refine Gb ?_; intro b) | (refine Gd ?_; intro g cap rest hcap) | (refine Gc ?_; intro ad cap) | (refine St.draw (id := 2) [(0, 0), (1, 0), (2, 0), (3, 1), (4, 0), (5, 0), (6, 0), (7, 1), (8, 0), (9, 0), (10, 3)] [10] mixed (by kernel_rfl) ?_) | (refine St.draw (id := 4) [(0, 0), (1, 0), (2, 0), (3, 0), (4, 0), (5, 1), (6, 0), (7, 0), (8, 0), (9, 0), (10, 0), (11, 3)] [11] mixed (by kernel_rfl) ?_)| refine Gl hcf ?_ | (refine Gt ht ?_; rintro _ _ ⟨rfl, rfl⟩) | (refine Ge ?_ ?_ <;> (intro h; try (exfalso; omega))) | fail)
    have hsr2 := hsr (.slice ad (m.news.length + 1) cap)
    repeat' (first | refine Ga ?_ | (refine Gb ?_; intro b) | (refine Gd ?_; intro g cap rest hcap) | (refine Gc ?_; intro ad cap) | (refine St.draw (id := 2) [(0, 0), (1, 0), (2, 0), (3, 1), (4, 0), (5, 0), (6, 0), (7, 1), (8, 0), (9, 0), (10, 3)] [10] mixed (by kernel_rfl) ?_) | (refine St.draw (id := 4) [(0, 0), (1, 0), (2, 0), (3, 0), (4, 0), (5, 1), (6, 0), (7, 0), (8, 0), (9, 0), (10, 0), (11, 3)] [11] mixed (by kernel_rfl) ?_)| refine Gl hcf ?_ | (refine Ge ?_ ?_ <;> (intro h; try (exfalso; omega))) | fail)
    refine St.f1 Tryz.func249 ⟨_, ⟨rfl, rfl⟩, ?_⟩
    refine Ent.trans ?_ (Ent.ex_in (Ls := xeL X c cv V Pb W { m.x with regs := m.x.regs.set m.x.i.a.toNat (bk + 1) } (m.news ++ [bk + 1])) (ad, cap))
    unfold xeL; dsimp only
    rw [List.length_append, u64s_snoc]
    exact Ent.go
end Go.Proofs.YthmbgodcpgkkeaaGreat
end
section
namespace Go.Proofs.YthmbgodcpgkkeaaGreat
set_option maxRecDepth 100000
/-- a slice that can be read -/
def ListR {α : Type} (f : α → List Value) (q : HProp) (v : Value) (xs : List α) : Prop :=
  ∃ ad cap, v = .slice ad xs.length cap ∧ xs.length ≤ cap ∧ (xs.length = 0 ∨ ∃ b o l rest, ad = some ⟨b, o, none⟩ ∧ RdC q b l ∧ DropN o l (xs.flatMap f ++ rest))
theorem ListR.at {α : Type} {f : α → List Value} {sz : Nat} (hf : ∀ x, (f x).length = sz) {q : HProp} {ad : Option Addr} {xs : List α} (h : xs.length = 0 ∨ ∃ b o l rest, ad = some ⟨b, o, none⟩ ∧ RdC q b l ∧ DropN o l (xs.flatMap f ++ rest)) (i : Nat) (hi : i < xs.length) :
    ∃ b o l l1, ad = some ⟨b, o, none⟩ ∧ RdC q b l ∧ DropN (o + (i : Int).toNat * sz) l l1 ∧ TakeN sz l1 (f xs[i]) := by
  rcases h with h | ⟨b, o, l, rest, h1, h2, h3⟩
  · omega
  · refine ⟨b, o, l, f xs[i] ++ (xs.drop (i + 1)).flatMap f ++ rest, h1, h2, h3.add ((DropN.flat hf hi).more rest), ?_⟩
    rw [List.append_assoc]; rw [← hf xs[i]]; exact TakeN.app (f xs[i]) _
theorem NthN.part {α : Type} {n m j : Nat} {l l1 vs : List α} {v : α} (h : DropN n l l1) (k : TakeN m l1 vs) (e : NthN j vs v) : NthN (n + j) l v := by
  obtain ⟨h1, _⟩ := h.eq
  obtain ⟨h3, _⟩ := k.eq
  have h5 := e.eq
  refine NthN.of ?_
  rw [← h3, ← h1, List.getElem?_take, List.getElem?_drop] at h5
  split at h5
  · exact h5
  · cases h5
theorem St.rowL {P : Program} {C : Cx} {k : List Item} {E : Env} {L : List HProp} {α : Type} {f : α → List Value} {v : Value} {e sz n : Nat} {xs : List α} (hn : xs.length = n)
    (h : ∀ R, ListR f R v xs → St P C k E (R :: L)) : St P C k E (Row v e sz n (xs.flatMap f) :: L) := by
  refine St.rowC (fun h0 h1 _ => ?_) (fun g cap rest hv hr => ?_)
  · exact (h (Row (.slice none 0 0) e sz 0 []) ⟨none, 0, by rw [h0, hn, h1], by omega, .inl (by omega)⟩).conv (Sub.refl _) (Ent.row_nil e sz)
  · exact h _ ⟨_, _, by rw [hv, hn], by rw [hn]; exact hr.le, .inr ⟨g, 0, _, rest, rfl, RdC.bl, .zero⟩⟩
theorem ListR.weak {α : Type} {f : α → List Value} {q q' : HProp} {v : Value} {xs : List α} (h : ListR f q v xs) (hq : ∀ b l, RdC q b l → RdC q' b l) : ListR f q' v xs := by
  obtain ⟨ad, cap, h1, h0, h2⟩ := h
  refine ⟨ad, cap, h1, h0, ?_⟩
  rcases h2 with h2 | ⟨b, o, l, rest, e, hr, hd⟩
  · exact .inl h2
  · exact .inr ⟨b, o, l, rest, e, hq _ _ hr, hd⟩
theorem mput_all {κ β : Type} [DecidableEq κ] {q : β → Prop} (k : κ) (x : β) (hx : q x) : ∀ (m : List (κ × β)), (∀ p ∈ m, q p.2) → ∀ p ∈ mput m k x, q p.2
  | [], _, p, hp => by
    simp only [mput, List.mem_singleton] at hp
    subst hp; exact hx
  | (a, y) :: m, h, p, hp => by
    unfold mput at hp
    split at hp
    · rcases List.mem_cons.1 hp with rfl | hp
      · exact hx
      · exact h p (List.mem_cons_of_mem _ hp)
    · rcases List.mem_cons.1 hp with rfl | hp
      · exact h _ (List.mem_cons_self ..)
      · exact mput_all k x hx m (fun p hp => h p (List.mem_cons_of_mem _ hp)) p hp
/-- x[1:] -/
theorem ListR.tail {α : Type} {f : α → List Value} {sz : Nat} {q : HProp} {ad : Option Addr} {n cap : Nat} {x : α} {xs : List α} (hf : (f x).length = sz) (h : ListR f q (.slice ad n cap) (x :: xs)) : ListR f q (.slice (tlA ad cap sz) (n - 1) (cap - 1)) xs := by
  obtain ⟨ad', cap', h1, h0, h2⟩ := h
  injection h1 with e1 e2 e3
  subst e1 e3
  rw [List.length_cons] at e2 h0
  refine ⟨tlA ad cap sz, cap - 1, by rw [e2]; rfl, by omega, ?_⟩
  rcases h2 with h2 | ⟨b, o, l, rest, rfl, hr, hd⟩
  · simp at h2
  · by_cases h3 : xs.length = 0
    · exact .inl h3
    · refine .inr ⟨b, o + sz, l, rest, ?_, hr, ?_⟩
      · unfold tlA
        rw [if_neg (by omega), Option.map_some, Addr.add]
        split
        · next h => subst h; rfl
        · rfl
      · refine hd.add ?_
        rw [List.flatMap_cons, List.append_assoc, ← hf]
        exact DropN.app _ _
theorem ListR.at' {α : Type} {f : α → List Value} {sz : Nat} (hf : ∀ x, (f x).length = sz) {q : HProp} {ad : Option Addr} {n cap : Nat} {xs : List α} (h : ListR f q (.slice ad n cap) xs) (i : Nat) (hi : i < xs.length) :
    ∃ b o l l1, ad = some ⟨b, o, none⟩ ∧ RdC q b l ∧ DropN (o + (i : Int).toNat * sz) l l1 ∧ TakeN sz l1 (f xs[i]) := by
  obtain ⟨_, _, h1, _, h2⟩ := h
  injection h1 with e1 _ _
  subst e1
  exact ListR.at hf h2 i hi
end Go.Proofs.YthmbgodcpgkkeaaGreat
end
section
namespace Go.Proofs.YthmbgodcpgkkeaaGreat
/-- maps.clone: a map of its own -/
theorem OpOk.mclone {P : Program} {n' : Fi} {E : Env} {L : List HProp} {ty : TypeId} {g : FuncId} {fn : Func} {u : TypeId} {x : Operand} {ats : Array TypeId} {b : Nat} {κ β : Type} {enc : κ → Value} {f : β → Value} {m : List (κ × β)} {L1 : List HProp} (hf : P.funcs[g]? = some fn) (h1 : (fn.name == "runtime.NumGoroutine") = false) (h2 : fn.body.isNone = true) (h3 : Extern.findNext fn = none)
    (h4 : Extern.find fn = some Extern.MapsClone.clone) (hx : ev E x = some (.iface u (.map (some b)))) (ht : Take (Mp b enc f m) L L1) :
    OpOk P n' (.call { callee := .value (.func g), args := ⟨[x]⟩, argTypes := ats }) ty E L (fun v L' => ∃ c, v = .iface u (.map (some c)) ∧ L' = Mp c enc f m :: Mp b enc f m :: L1) := by
  unfold OpOk
  intro d ps af gd a w ha X hs
  have hs1 := (ht.app X).sat hs
  obtain ⟨es, ck, hmi, hs2⟩ := Mp.open hs1
  have hb : w.heap[b]? = some (.map ⟨es⟩ ck) := (Reads.here Rd.pt).sat hs2
  have e1 := run_callFunc_extern (P := P) hf h1 h2 h3 (e := Extern.MapsClone.clone) h4
  have e2 : (Extern.MapsClone.clone #[.iface u (.map (some b))]).run P w = .ok (.iface u (.map (some w.heap.size))) (w.alloc (.map ⟨es⟩ ck)) := by
    have e : Extern.MapsClone.clone #[.iface u (.map (some b))] = (getObj b >>= fun o => match o with
      | .map entries clock => (newObj (.map entries clock) >>= fun n => pure (.iface u (.map (some n))))
      | _ => stuck "maps.clone: a map expected") := rfl
    rw [e]
    simp [getObj, newObj, Sem.run, hb]
  have e3 := e1 #[.iface u (.map (some b))] w
  rw [e2] at e3
  refine ⟨.iface u (.map (some w.heap.size)), w.alloc (.map ⟨es⟩ ck), Mp w.heap.size enc f m :: Mp b enc f m :: L1, .inl ?_, ⟨_, rfl, rfl⟩, Mp.shut hmi (sat_alloc hs1 _), ⟨rfl, rfl, rfl⟩⟩
  have e4 : a.eval x = .iface u (.map (some b)) := ha.ev hx
  have e5 : a.eval (.func g) = .func (.func g) #[] #[] := rfl
  simp [execOp, resolve, invoke, Deferred.ofValue, e4, e5, e3]
set_option maxRecDepth 100000
def zero8 : List Nat := [0, 0, 0, 0, 0, 0, 0, 0]
def aggL (l : List Nat) : Value := .agg ⟨u64s l⟩
abbrev u64K : Int → Value := Value.int .u64
instance mapBlocks : MapTy Tryz.prog 248 Int (List Nat) u64K aggL zero8 := MapTy.int (kt := 22) (et := 257) (by kernel_rfl) (by kernel_rfl) (fun w => by rfl)
theorem eight_of {α : Type} {l : List α} (h : l.length = 8) : ∃ x0 x1 x2 x3 x4 x5 x6 x7, l = [x0, x1, x2, x3, x4, x5, x6, x7] := by
  match l, h with
  | [x0, x1, x2, x3, x4, x5, x6, x7], _ => exact ⟨_, _, _, _, _, _, _, _, rfl⟩
theorem mget_mem {κ β : Type} [DecidableEq κ] {k : κ} {x : β} : ∀ {m : List (κ × β)}, mget m k = some x → (k, x) ∈ m
  | [], h => by cases h
  | (y, z) :: m, h => by
    unfold mget at h
    split at h
    · injection h with h; subst h; subst y; simp
    · exact List.mem_cons_of_mem _ (mget_mem h)
/-- roots, and blocks by their handles -/
structure Ms where
  roots : List Nat
  blocks : List (Int × List Nat)
structure MsOk (m : Ms) : Prop where
  r : m.roots.length = 16
  b : ∀ p ∈ m.blocks, p.2.length = 8
theorem MsOk.get {m : Ms} (h : MsOk m) (k : Int) : ((mget m.blocks k).getD zero8).length = 8 := by
  cases hq : mget m.blocks k with
  | none => rfl
  | some l => exact h.b _ (mget_mem hq)
/-- a state's own cells -/
def stV (roots : List Nat) (mb : Nat) : List Value := g16 roots ++ [.map (some mb)]
def msL (S : Nat) (m : Ms) (mb : Nat) : List HProp := [bl S 250 (stV m.roots mb), Mp mb u64K aggL m.blocks]
def MsE (S : Nat) (m : Ms) : HProp := ex (msL S m)
theorem Ent.ms {S mb : Nat} {m : Ms} {L : List HProp} : Ent (bl S 250 (stV m.roots mb) :: Mp mb u64K aggL m.blocks :: L) (MsE S m :: L) := Ent.ex_in (Ls := msL S m) mb
def rootOf (roots : List Nat) (k : Int) : Nat := if k < 0 ∨ 16 ≤ k then 0 else roots.getD k.toNat 0
theorem g16_at {l : List Nat} (rest : List Value) {a : Int} (h0 : 0 ≤ a) (h1 : a < 16) : NthN (0 + 0 + a.toNat * 1) (g16 l ++ rest) (.int .u64 ((l.getD a.toNat 0 : Nat) : Int)) := by
  have h : a = 0 ∨ a = 1 ∨ a = 2 ∨ a = 3 ∨ a = 4 ∨ a = 5 ∨ a = 6 ∨ a = 7 ∨ a = 8 ∨ a = 9 ∨ a = 10 ∨ a = 11 ∨ a = 12 ∨ a = 13 ∨ a = 14 ∨ a = 15 := by omega
  rcases h with rfl | rfl | rfl | rfl | rfl | rfl | rfl | rfl | rfl | rfl | rfl | rfl | rfl | rfl | rfl | rfl <;> exact NthN.of rfl
def ms0 : Ms := ⟨[0, 0, 0, 0, 0, 0, 0, 0, 0, 0, 0, 0, 0, 0, 0, 0], []⟩
theorem mnew_t : Tri Tryz.prog 55 #[] [] fun v L => ∃ S, v = .pointer (some ⟨S, 0, none⟩) ∧ L = [MsE S ms0] := by
  refine Tri.of_body (vs := []) Tryz.func55 rfl rfl fun w0 F => ?_
  repeat' (first | refine Ga ?_ | (refine Gb ?_; intro b) | (refine Gd ?_; intro g cap rest hcap) | (refine Gc ?_; intro ad cap)  | (refine Ge ?_ ?_ <;> (intro h; try (exfalso; omega))) | fail)
  rename_i mb
  refine St.d1 Tryz.func55 ⟨_, ⟨b, rfl, rfl⟩, Ent.trans ?_ (Ent.ms (mb := mb))⟩
  exact Ent.go
theorem mroot_r (S : Nat) (m : Ms) (k : Int) : RTri Tryz.prog 146 #[.pointer (some ⟨S, 0, none⟩), .int .i64 k] [MsE S m] (.int .u64 (rootOf m.roots k : Int)) := by
  refine RTri.of_exact fun W0 hs => ?_
  obtain ⟨mb, hs⟩ := sat_ex hs
  have hrd := RdC.exact hs (ReadsC.here RdC.bl)
  unfold rootOf
  by_cases h : k < 0 ∨ 16 ≤ k
  · rw [if_pos h]
    by_cases h0 : k < 0
    · refine Tri.of_body (vs := [_, _]) Tryz.func146 rfl rfl fun w0 F => ?_
      repeat' (first | refine Ga ?_ | (refine Gb ?_; intro b) | (refine Gd ?_; intro g cap rest hcap) | (refine Gc ?_; intro ad cap)  | (refine Ge ?_ ?_ <;> (intro h; try (exfalso; omega))) | fail)
      refine St.d1 Tryz.func146 ⟨_, ⟨rfl, rfl⟩, Ent.go⟩
    · have h1 : 16 ≤ k := by omega
      refine Tri.of_body (vs := [_, _]) Tryz.func146 rfl rfl fun w0 F => ?_
      repeat' (first | refine Ga ?_ | (refine Gb ?_; intro b) | (refine Gd ?_; intro g cap rest hcap) | (refine Gc ?_; intro ad cap)  | (refine Ge ?_ ?_ <;> (intro h; try (exfalso; omega))) | fail)
      refine St.d1 Tryz.func146 ⟨_, ⟨rfl, rfl⟩, Ent.go⟩
  · rw [if_neg h]
    have hn : NthN (0 + 0 + k.toNat * 1) (stV m.roots mb) (.int .u64 ((m.roots.getD k.toNat 0 : Nat) : Int)) := g16_at _ (by omega) (by omega)
    refine Tri.of_body (vs := [_, _]) Tryz.func146 rfl rfl fun w0 F => ?_
    repeat' (first | refine Ga ?_ | (refine Gb ?_; intro b) | (refine Gd ?_; intro g cap rest hcap) | (refine Gc ?_; intro ad cap)  | (refine Ge ?_ ?_ <;> (intro h; try (exfalso; omega))) | fail)
    refine St.d1 Tryz.func146 ⟨_, ⟨rfl, rfl⟩, Ent.go⟩
theorem RdM.exact {W : World} {L : List HProp} {b : Nat} {κ β : Type} {enc : κ → Value} {f : β → Value} {m : List (κ × β)} (hs : Sat L (hpOf W)) (r : ReadsM b enc f m L) : RdM (exact' W) b enc f m :=
  RdM.of_sat (p := exact' W) (fun k hk => by rw [show k = hpOf W from hk]; exact hs) r
theorem mblock_r (S : Nat) (m : Ms) (hm : MsOk m) (h : Nat) : RTri Tryz.prog 147 #[.pointer (some ⟨S, 0, none⟩), .int .u64 (h : Int)] [MsE S m]
    (.tuple ⟨[aggL ((mget m.blocks (h : Int)).getD zero8), .bool (mget m.blocks (h : Int)).isSome]⟩) := by
  refine RTri.of_exact fun W0 hs => ?_
  obtain ⟨mb, hs⟩ := sat_ex hs
  have hX := RdC.exact hs (ReadsC.here RdC.bl)
  have hM := RdM.exact hs (ReadsM.there (ReadsM.here RdM.mp))
  unfold stV g16 at hX
  obtain ⟨x0, x1, x2, x3, x4, x5, x6, x7, hg⟩ := eight_of (hm.get (h : Int))
  have hag : aggL ((mget m.blocks (h : Int)).getD zero8) = .agg ⟨[.int .u64 (x0 : Int), .int .u64 (x1 : Int), .int .u64 (x2 : Int), .int .u64 (x3 : Int), .int .u64 (x4 : Int), .int .u64 (x5 : Int), .int .u64 (x6 : Int), .int .u64 (x7 : Int)]⟩ := by rw [hg]; rfl
  rw [hag]
  refine Tri.of_body (vs := [_, _]) Tryz.func147 rfl rfl fun w0 F => ?_
  repeat' (first | refine Ga ?_ | (refine Gb ?_; intro b) | (refine Gd ?_; intro g cap rest hcap) | (refine Gc ?_; intro ad cap)  | (refine Ge ?_ ?_ <;> (intro h; try (exfalso; omega))) | fail)
  rw [hag]
  repeat' (first | refine Ga ?_ | (refine Gb ?_; intro b) | (refine Gd ?_; intro g cap rest hcap) | (refine Gc ?_; intro ad cap)  | (refine Ge ?_ ?_ <;> (intro h; try (exfalso; omega))) | fail)
  refine St.d1 Tryz.func147 ⟨_, ⟨rfl, rfl⟩, Ent.go⟩
theorem OpV.eqM0 {P : Program} {n' : Fi} {E : Env} {L : List HProp} {ty : TypeId} {t t' kt et : Nat} {x y : Operand} {b : Nat} [hu : Und P t (.map kt et)] (hx : ev E x = some (.map (some b))) (hy : ev E y = some (.map none)) : OpV P n' (.binOp .eql t x y t') ty E L (.bool false) := by
  unfold OpV
  exact (fun _ _ _ _ a w ha _ => by
    have h0 : ∀ d, (Op.equalIn (d + 1) t (.map (some b)) (.map none)).run P w = .ok false w := fun d => by simp [Op.equalIn, run_underlying hu.h]
    have h1 := h0 9999
    simp only [execOp, ha.ev hx, ha.ev hy, Sem.run_bind, eqGuard, binOp, Op.equal, Op.maxDepth]
    simp [h1])
set_option maxHeartbeats 1000000 in
theorem mapsClone_t (mb : Nat) (m : List (Int × List Nat)) : Tri Tryz.prog 206 #[.map (some mb)] [Mp mb u64K aggL m] fun v L => ∃ c, v = .map (some c) ∧ L = [Mp c u64K aggL m, Mp mb u64K aggL m] := by
  refine Tri.of_body (vs := [_]) Tryz.func206 rfl rfl fun w0 F => ?_
  repeat' (first | refine Ga ?_ | (refine Gb ?_; intro b) | (refine Gd ?_; intro g cap rest hcap) | (refine Gc ?_; intro ad cap)  | (refine Ge ?_ ?_ <;> (intro h; try (exfalso; omega))) | fail)
  (apply StL.v; (apply OpV.eqM0; rfl; rfl); rfl)
  repeat' (first | refine Ga ?_ | (refine Gb ?_; intro b) | (refine Gd ?_; intro g cap rest hcap) | (refine Gc ?_; intro ad cap)  | (refine Ge ?_ ?_ <;> (intro h; try (exfalso; omega))) | fail)
  (apply StL.ok; (apply OpOk.mclone (fn := Tryz.f268) Tryz.func268 (by kernel_rfl) rfl (by kernel_rfl) (by kernel_rfl) rfl Take.go); rfl; rintro _ _ ⟨c, rfl, rfl⟩)
  repeat' (first | refine Ga ?_ | (refine Gb ?_; intro b) | (refine Gd ?_; intro g cap rest hcap) | (refine Gc ?_; intro ad cap)  | (refine Ge ?_ ?_ <;> (intro h; try (exfalso; omega))) | fail)
  refine St.d1 Tryz.func206 ⟨_, ⟨c, rfl, rfl⟩, Ent.go⟩
theorem mclone_t (S : Nat) (m : Ms) : Tri Tryz.prog 144 #[.pointer (some ⟨S, 0, none⟩)] [MsE S m] fun v L => ∃ S', v = .pointer (some ⟨S', 0, none⟩) ∧ L = [MsE S' m, MsE S m] := by
  refine Tri.ex_out fun mb => ?_
  unfold msL
  have hc := mapsClone_t mb m.blocks
  have htk : TakeN 16 (stV m.roots mb) (g16 m.roots) := TakeN.app (g16 m.roots) _
  have hdr : DropN (0 + 0) (stV m.roots mb) (stV m.roots mb) := .zero
  have hgl : (g16 m.roots).length = 16 := rfl
  refine Tri.of_body (vs := [_]) Tryz.func144 rfl rfl fun w0 F => ?_
  repeat' (first | refine Ga ?_ | (refine Gb ?_; intro b) | (refine Gd ?_; intro g cap rest hcap) | (refine Gc ?_; intro ad cap) | (refine St.draw (id := 1) [(0, 0), (1, 0), (2, 0), (3, 1), (4, 0), (5, 0), (6, 0), (7, 1), (8, 2), (9, 0), (10, 2), (11, 0)] [] mixed (by kernel_rfl) ?_) | (refine Gt hc ?_; rintro _ _ ⟨c, rfl, rfl⟩) | (refine Gu hc ?_; rintro _ _ ⟨c, rfl, rfl⟩; refine ⟨Ent.go, ?_⟩) | (refine Ge ?_ ?_ <;> (intro h; try (exfalso; omega))) | fail)
  refine St.d1 Tryz.func144 ⟨_, ⟨b, rfl, rfl⟩, ?_⟩
  refine Ent.trans ?_ (Ent.ms (S := b) (mb := c) (m := m) (L := MsE S m :: F))
  refine Ent.trans ?_ (Ent.cons (Ent.cons (Ent.ms (S := S) (mb := mb) (m := m) (L := F))))
  exact Ent.go
end Go.Proofs.YthmbgodcpgkkeaaGreat
end
