/-
  Package sched: how all threads lie, as one; Idle, Picks. Package slices: Clone, of what can be read. Package sched: New. Package sched: New.
-/
import Derived.Test.YtemaaenipjinaaaGreatSf
import Derived.Test.YtemaaenipjinaaaGreatFz
section
namespace Go.Proofs.YtemaaenipjinaaaGreat
set_option maxRecDepth 100000
def thP (c : Cfg) (pv : Value) (q : HProp) (progs : Progs) (x : ThH) : HProp := star [x.qc, atP c pv q progs x.u.at_ x.Cb]
structure SdX (m : Sd) where
  Mb : Nat
  C : Nat
  Tb : Nat
  cap : Nat
  trest : List Value
  xs : List ThH
  hxs : xs.map (·.u) = m.ths
  rad : Option Addr
  rcap : Nat
  wad : Option Addr
  wcap : Nat
  rs : List SRowH
  hrs : rs.map (·.1) = m.rows
def sdL (Sb : Nat) (c : Cfg) (pv : Value) (q : HProp) (progs : Progs) (m : Sd) (x : SdX m) : List HProp :=
  [bl Sb 188 (sdV c x.Mb pv x.Tb x.xs.length x.cap m.picks (.slice x.rad m.recs.length x.rcap) (.slice x.wad x.rs.length x.wcap)), Mm x.Mb x.C m.mem, bl x.Tb 192 (x.xs.flatMap thV ++ x.trest), star (x.xs.map (thP c pv q progs)),
    Row (.slice x.rad m.recs.length x.rcap) 116 13 m.recs.length (m.recs.flatMap recV), Row (.slice x.wad x.rs.length x.wcap) 120 6 x.rs.length (x.rs.flatMap srV), star (x.rs.map srP), q]
def SdE (Sb : Nat) (c : Cfg) (pv : Value) (q : HProp) (progs : Progs) (m : Sd) : HProp := ex (sdL Sb c pv q progs m)
theorem map_getD {α β : Type} (f : α → β) {l : List α} {i : Nat} (h : i < l.length) (d : β) : (l.map f).getD i d = f l[i] := by
  rw [List.getD_eq_getElem?_getD, List.getElem?_map, List.getElem?_eq_getElem h]; rfl
section
variable {Sb : Nat} {c : Cfg} (hc : Small c) {pv : Value} {q : HProp} {progs : Progs} {m : Sd}
theorem idle_r (t : Int) : RTri Tryz.prog 54 #[.pointer (some ⟨Sb, 0, none⟩), .int .i64 t] [SdE Sb c pv q progs m] (.bool (m.idle t)) := by
  refine RTri.of_exact fun W0 hs => ?_
  obtain ⟨x, hs⟩ := sat_ex hs
  have hS := RdC.exact hs (ReadsC.here RdC.bl)
  have hT := RdC.exact hs (ReadsC.there (ReadsC.there (ReadsC.here RdC.bl)))
  have hn : m.ths.length = x.xs.length := by rw [← x.hxs, List.length_map]
  unfold Sd.idle
  rw [hn]
  by_cases h0 : t < 0
  · rw [decide_eq_true h0]
    refine Tri.of_body (vs := [_, _]) Tryz.func54 rfl rfl fun w0 F => ?_
    repeat' (first | refine Ga ?_ | (refine Gb ?_; intro b) | (refine Gd ?_; intro g cap rest hcap) | (refine Gc ?_; intro ad cap)  | (refine Ge ?_ ?_ <;> (intro h; try (exfalso; omega))) | fail)
    all_goals first | (exfalso; omega) | skip
    all_goals (first | refine St.dn Tryz.func54 ⟨?_, rfl⟩ Ent.go | refine St.fl Tryz.func54 ⟨?_, rfl⟩ Ent.go)
    all_goals rfl
  by_cases h1 : (x.xs.length : Int) ≤ t
  · rw [decide_eq_false h0, decide_eq_true h1]
    refine Tri.of_body (vs := [_, _]) Tryz.func54 rfl rfl fun w0 F => ?_
    repeat' (first | refine Ga ?_ | (refine Gb ?_; intro b) | (refine Gd ?_; intro g cap rest hcap) | (refine Gc ?_; intro ad cap)  | (refine Ge ?_ ?_ <;> (intro h; try (exfalso; omega))) | fail)
    all_goals first | (exfalso; omega) | skip
    all_goals (first | refine St.dn Tryz.func54 ⟨?_, rfl⟩ Ent.go | refine St.fl Tryz.func54 ⟨?_, rfl⟩ Ent.go)
    all_goals rfl
  have hlt : t.toNat < x.xs.length := by omega
  have e1 : m.ths.getD t.toNat th0 = (x.xs[t.toNat]).u := by rw [← x.hxs]; exact map_getD _ hlt _
  have hn0 : NthN (t.toNat * 5 + 0) (x.xs.flatMap thV ++ x.trest) (x.xs[t.toNat]).cv := (NthN.flat thV_len hlt .zero).app_left _
  have hn1 : NthN (t.toNat * 5 + 1) (x.xs.flatMap thV ++ x.trest) (thPt (x.xs[t.toNat]).u.at_ (x.xs[t.toNat]).Cb) := (NthN.flat thV_len hlt NthN.zero.succ).app_left _
  rw [e1, decide_eq_false h0, decide_eq_false h1]
  generalize x.xs[t.toNat] = y at hn0 hn1 ⊢
  obtain ⟨⟨calls, at_, rec, cnt, lk⟩, cv, qc, hcl, Cb⟩ := y
  obtain ⟨cad, ccap, rfl, _⟩ := hcl
  dsimp only at hn0 hn1 ⊢
  unfold Th.idle
  dsimp only
  cases at_ with
  | some a =>
    unfold thPt at hn1
    dsimp only at hn1
    refine Tri.of_body (vs := [_, _]) Tryz.func54 rfl rfl fun w0 F => ?_
    repeat' (first | refine Ga ?_ | (refine Gb ?_; intro b) | (refine Gd ?_; intro g cap rest hcap) | (refine Gc ?_; intro ad cap)  | (refine Ge ?_ ?_ <;> (intro h; try (exfalso; omega))) | fail)
    all_goals first | (exfalso; omega) | skip
    all_goals (first | refine St.dn Tryz.func54 ⟨?_, rfl⟩ Ent.go | refine St.fl Tryz.func54 ⟨?_, rfl⟩ Ent.go)
    all_goals rfl
  | none =>
    unfold thPt at hn1
    dsimp only at hn1
    refine Tri.of_body (vs := [_, _]) Tryz.func54 rfl rfl fun w0 F => ?_
    repeat' (first | refine Ga ?_ | (refine Gb ?_; intro b) | (refine Gd ?_; intro g cap rest hcap) | (refine Gc ?_; intro ad cap)  | (refine Ge ?_ ?_ <;> (intro h; try (exfalso; omega))) | fail)
    all_goals first | (exfalso; omega) | skip
    all_goals (first | refine St.dn Tryz.func54 ⟨?_, rfl⟩ Ent.go | refine St.fl Tryz.func54 ⟨?_, rfl⟩ Ent.go)
    all_goals (cases calls <;> rfl)
theorem picks_r : RTri Tryz.prog 47 #[.pointer (some ⟨Sb, 0, none⟩)] [SdE Sb c pv q progs m] (.int .i64 (m.picks : Int)) := by
  refine RTri.of_exact fun W0 hs => ?_
  obtain ⟨x, hs⟩ := sat_ex hs
  have hS := RdC.exact hs (ReadsC.here RdC.bl)
  refine Tri.of_body (vs := [_]) Tryz.func47 rfl rfl fun w0 F => ?_
  repeat' (first | refine Ga ?_ | (refine Gb ?_; intro b) | (refine Gd ?_; intro g cap rest hcap) | (refine Gc ?_; intro ad cap)  | (refine Ge ?_ ?_ <;> (intro h; try (exfalso; omega))) | fail)
  (first | refine St.dn Tryz.func47 ⟨?_, rfl⟩ Ent.go | refine St.fl Tryz.func47 ⟨?_, rfl⟩ Ent.go)
  rfl
end
end Go.Proofs.YtemaaenipjinaaaGreat
end
section
namespace Go.Proofs.YtemaaenipjinaaaGreat
set_option maxRecDepth 100000
section rules
variable {P : Program} {n' : Fi} {E : Env} {L : List HProp} {ty : TypeId}
/-- append(x, y...) where y has nothing -/
theorem OpOk.append0 {t e sz n cap c2 : Nat} {ad ad2 : Option Addr} {s x : Operand} {xs : List Value} {L1 : List HProp} [hu : Und P t (.slice e)] [hs : Siz P e sz] (hv : ev E s = some (.slice ad n cap)) (hx : ev E x = some (.slice ad2 0 c2)) (ht : Take (Row (.slice ad n cap) e sz n xs) L L1) :
    OpOk P n' (.call { callee := .builtin .append, args := ⟨[s, x]⟩, argTypes := ⟨[t, t]⟩ }) ty E L (fun v' L' => v' = .slice ad n cap ∧ L' = L) := by
  unfold OpOk
  intro d ps af g a w ha X hsat
  have hle : n ≤ cap := by
    have h1 := (ht.app X).sat hsat
    rw [sat_cons] at h1
    obtain ⟨_, _, _, _, ⟨_, hr⟩, _⟩ := h1
    rcases hr with ⟨h, h0⟩ | ⟨_, _, _, h, hc, _⟩
    · omega
    · injection h with _ _ h3
      omega
  refine ⟨_, w, L, .inl ?_, ⟨rfl, rfl⟩, hsat, Old.refl w⟩
  cases ad <;> cases ad2 <;> simp [execOp, resolve, invoke, builtin, ha.ev hv, ha.ev hx, Builtin.append_, run_underlying hu.h, hs.h, Builtin.lenOf, Builtin.firstCells, loadCells, loadCellsFrom, storeCells, hle]
end rules
/-- what lies at a slice's address -/
def RdS {α : Type} (f : α → List Value) (q : HProp) (ad : Option Addr) (xs : List α) : Prop := xs.length = 0 ∨ ∃ b o l rest, ad = some ⟨b, o, none⟩ ∧ RdC q b l ∧ DropN o l (xs.flatMap f ++ rest)
theorem one_flat {α : Type} {f : α → List Value} (h : ∀ x, (f x).all one = true) (l : List α) : (l.flatMap f).all one = true := by
  induction l with
  | nil => rfl
  | cons x l ih => rw [List.flatMap_cons, List.all_append, h, ih]; rfl
theorem clone_Ins (q : HProp) (ad : Option Addr) (cap : Nat) (xs : List Ins) (h : RdS Ins.v q ad xs) (hn : xs.length ≤ 1000) : Tri Tryz.prog 95 #[.slice ad xs.length cap] [q]
    fun r L => ∃ (R : HProp) (ad2 : Option Addr) (cap2 : Nat), ListR Ins.v R (.slice ad2 xs.length cap2) xs ∧ r = .slice ad2 xs.length cap2 ∧ L = [R, q] := by
  have hone : (xs.flatMap Ins.v).all one = true := one_flat (fun _ => rfl) xs
  cases ad with
  | none =>
    have h0 : xs.length = 0 := by
      rcases h with h | ⟨b, o, l, rest, h, _⟩
      · exact h
      · cases h
    obtain rfl : xs = [] := List.eq_nil_of_length_eq_zero h0
    show Tri _ _ #[.slice none 0 cap] _ _
    refine Tri.of_body (vs := [_]) Tryz.func95 rfl rfl fun w0 F => ?_
    repeat' (first | refine Ga ?_ | (refine Gb ?_; intro b) | (refine Gd ?_; intro g cap rest hcap) | (refine Gc ?_; intro ad cap)  | (refine Ge ?_ ?_ <;> (intro h; try (exfalso; omega))) | fail)
    refine St.d1 Tryz.func95 ⟨_, ⟨star [], none, 0, ⟨none, 0, rfl, Nat.le_refl _, .inl rfl⟩, rfl, rfl⟩, ?_⟩
    exact Ent.trans (Ent.star_in []) Ent.go
  | some a =>
    by_cases h0 : xs.length = 0
    · obtain rfl : xs = [] := List.eq_nil_of_length_eq_zero h0
      show Tri _ _ #[.slice (some a) 0 cap] _ _
      refine Tri.of_body (vs := [_]) Tryz.func95 rfl rfl fun w0 F => ?_
      repeat' (first | refine St.halt 3 ?_ |refine Ga ?_ | (refine Gb ?_; intro b) | (refine Gd ?_; intro g cap rest hcap) | (refine Gc ?_; intro ad cap)  | (refine Ge ?_ ?_ <;> (intro h; try (exfalso; omega))) | fail)
      apply Halt.go
      iterate 4 (first | refine Ga ?_ | (refine Gb ?_; intro b) | (refine Gd ?_; intro g cap rest hcap) | (refine Gc ?_; intro ad cap)  | (refine Ge ?_ ?_ <;> (intro h; try (exfalso; omega))) | fail)
      refine StL.conv ?_ (Sub.refl _) (Ent.row_bl (sz := 5) (n := 0) (l := []) (by simp) (Nat.zero_le _))
      (apply StL.ok; (apply OpOk.append0; rfl; rfl; exact Take.go); rfl; rintro _ _ ⟨rfl, rfl⟩)
      repeat' (first | refine Ga ?_ | (refine Gb ?_; intro b) | (refine Gd ?_; intro g cap rest hcap) | (refine Gc ?_; intro ad cap)  | (refine Ge ?_ ?_ <;> (intro h; try (exfalso; omega))) | fail)
      refine St.d1 Tryz.func95 ⟨_, ⟨star [], _, _, ⟨_, _, rfl, Nat.le_refl _, .inl rfl⟩, rfl, rfl⟩, ?_⟩
      exact Ent.trans (Ent.star_in []) Ent.go
    · rcases h with h | ⟨b, o, l, rest, h1, h2, h3⟩
      · exact absurd h h0
      injection h1 with h1
      subst h1
      have htk : TakeN (xs.length * 5) (xs.flatMap Ins.v ++ rest) (xs.flatMap Ins.v) := by
        rw [← flat_len (f := Ins.v) (fun _ => rfl) xs]; exact TakeN.app _ _
      refine Tri.of_body (vs := [_]) Tryz.func95 rfl rfl fun w0 F => ?_
      repeat' (first | refine Ga ?_ | (refine Gb ?_; intro b) | (refine Gd ?_; intro g cap rest hcap) | (refine Gc ?_; intro ad cap)  | (refine Ge ?_ ?_ <;> (intro h; try (exfalso; omega))) | fail)
      refine St.d1 Tryz.func95 ⟨_, ⟨bl g 140 (xs.flatMap Ins.v ++ rest), some ⟨g, 0, none⟩, cap, ⟨some ⟨g, 0, none⟩, cap, rfl, hcap, .inr ⟨g, 0, _, rest, rfl, RdC.bl, .zero⟩⟩, rfl, rfl⟩, Ent.go⟩
theorem clone_Jb (q : HProp) (ad : Option Addr) (cap : Nat) (xs : List Jb) (h : RdS jbV q ad xs) (hn : xs.length ≤ 1000) : Tri Tryz.prog 96 #[.slice ad xs.length cap] [q]
    fun r L => ∃ (R : HProp) (ad2 : Option Addr) (cap2 : Nat), ListR jbV R (.slice ad2 xs.length cap2) xs ∧ r = .slice ad2 xs.length cap2 ∧ L = [R, q] := by
  have hone : (xs.flatMap jbV).all one = true := one_flat (fun _ => rfl) xs
  cases ad with
  | none =>
    have h0 : xs.length = 0 := by
      rcases h with h | ⟨b, o, l, rest, h, _⟩
      · exact h
      · cases h
    obtain rfl : xs = [] := List.eq_nil_of_length_eq_zero h0
    show Tri _ _ #[.slice none 0 cap] _ _
    refine Tri.of_body (vs := [_]) Tryz.func96 rfl rfl fun w0 F => ?_
    repeat' (first | refine Ga ?_ | (refine Gb ?_; intro b) | (refine Gd ?_; intro g cap rest hcap) | (refine Gc ?_; intro ad cap)  | (refine Ge ?_ ?_ <;> (intro h; try (exfalso; omega))) | fail)
    refine St.d1 Tryz.func96 ⟨_, ⟨star [], none, 0, ⟨none, 0, rfl, Nat.le_refl _, .inl rfl⟩, rfl, rfl⟩, ?_⟩
    exact Ent.trans (Ent.star_in []) Ent.go
  | some a =>
    by_cases h0 : xs.length = 0
    · obtain rfl : xs = [] := List.eq_nil_of_length_eq_zero h0
      show Tri _ _ #[.slice (some a) 0 cap] _ _
      refine Tri.of_body (vs := [_]) Tryz.func96 rfl rfl fun w0 F => ?_
      repeat' (first | refine St.halt 3 ?_ |refine Ga ?_ | (refine Gb ?_; intro b) | (refine Gd ?_; intro g cap rest hcap) | (refine Gc ?_; intro ad cap)  | (refine Ge ?_ ?_ <;> (intro h; try (exfalso; omega))) | fail)
      apply Halt.go
      iterate 4 (first | refine Ga ?_ | (refine Gb ?_; intro b) | (refine Gd ?_; intro g cap rest hcap) | (refine Gc ?_; intro ad cap)  | (refine Ge ?_ ?_ <;> (intro h; try (exfalso; omega))) | fail)
      refine StL.conv ?_ (Sub.refl _) (Ent.row_bl (sz := 5) (n := 0) (l := []) (by simp) (Nat.zero_le _))
      (apply StL.ok; (apply OpOk.append0; rfl; rfl; exact Take.go); rfl; rintro _ _ ⟨rfl, rfl⟩)
      repeat' (first | refine Ga ?_ | (refine Gb ?_; intro b) | (refine Gd ?_; intro g cap rest hcap) | (refine Gc ?_; intro ad cap)  | (refine Ge ?_ ?_ <;> (intro h; try (exfalso; omega))) | fail)
      refine St.d1 Tryz.func96 ⟨_, ⟨star [], _, _, ⟨_, _, rfl, Nat.le_refl _, .inl rfl⟩, rfl, rfl⟩, ?_⟩
      exact Ent.trans (Ent.star_in []) Ent.go
    · rcases h with h | ⟨b, o, l, rest, h1, h2, h3⟩
      · exact absurd h h0
      injection h1 with h1
      subst h1
      have htk : TakeN (xs.length * 5) (xs.flatMap jbV ++ rest) (xs.flatMap jbV) := by
        rw [← flat_len (f := jbV) jbV_len xs]; exact TakeN.app _ _
      refine Tri.of_body (vs := [_]) Tryz.func96 rfl rfl fun w0 F => ?_
      repeat' (first | refine Ga ?_ | (refine Gb ?_; intro b) | (refine Gd ?_; intro g cap rest hcap) | (refine Gc ?_; intro ad cap)  | (refine Ge ?_ ?_ <;> (intro h; try (exfalso; omega))) | fail)
      refine St.d1 Tryz.func96 ⟨_, ⟨bl g 28 (xs.flatMap jbV ++ rest), some ⟨g, 0, none⟩, cap, ⟨some ⟨g, 0, none⟩, cap, rfl, hcap, .inr ⟨g, 0, _, rest, rfl, RdC.bl, .zero⟩⟩, rfl, rfl⟩, Ent.go⟩
end Go.Proofs.YtemaaenipjinaaaGreat
end
section
namespace Go.Proofs.YtemaaenipjinaaaGreat
set_option maxRecDepth 100000
/-- calls that can be read, thread by thread -/
def CallsG (q : HProp) (v : Value) (calls : List (List Jb)) : Prop :=
  ∃ pad pcap, v = .slice pad calls.length pcap ∧ calls.length ≤ 9223372036854775807 ∧ ∀ (i : Nat) (h : i < calls.length), ∃ b o l ad cap, pad = some ⟨b, o, none⟩ ∧ RdC q b l ∧ NthN (o + (i : Int).toNat * 1) l (.slice ad calls[i].length cap) ∧ RdS jbV q ad calls[i]
/-- a program's copy -/
structure PgH where
  code : List Ins
  ad : Option Addr
  cap : Nat
  R : HProp
  h : ListR Ins.v R (.slice ad code.length cap) code
def pgV (x : PgH) : List Value := [.slice x.ad x.code.length x.cap]
theorem sdnew_bad (c : Cfg) (pad0 : Option Addr) (n pcap0 : Nat) (cad0 : Option Addr) (k ccap0 : Nat) (hb : ¬ (c.right = true ∧ (k : Int) = c.threads)) :
    Tri Tryz.prog 44 #[.agg ⟨c.v⟩, .slice pad0 n pcap0, .slice cad0 k ccap0] [] fun r L => r = .tuple ⟨[.pointer none, .int .i64 1]⟩ ∧ L = [] := by
  have hof := of_r c
  unfold Cfg.ofV at hof
  cases hr : c.right with
  | false =>
    rw [hr] at hof
    refine Tri.of_body (vs := [_, _, _]) Tryz.func44 rfl rfl fun w0 F => ?_
    repeat' (first | refine Ga ?_ | (refine Gb ?_; intro b) | (refine Gd ?_; intro g cap rest hcap) | (refine Gc ?_; intro ad cap) | (refine St.draw (id := 6) [(0, 1), (1, 1), (2, 1), (3, 0), (4, 2), (5, 0)] [] mixed (by kernel_rfl) ?_) | (refine St.draw (id := 10) [(0, 0), (1, 0), (2, 0), (3, 0), (4, 1), (5, 0), (6, 1), (7, 2), (8, 3), (9, 0), (10, 0), (11, 3)] [8, 11] mixed (by kernel_rfl) ?_) | (refine St.draw (id := 17) [(0, 0), (1, 0), (2, 0), (3, 0), (4, 1), (5, 0), (6, 1), (7, 0), (8, 2), (9, 3), (10, 0), (11, 0), (12, 3)] [9, 12] mixed (by kernel_rfl) ?_)| refine Gl hof ?_ | (refine Ge ?_ ?_ <;> (intro h; try (exfalso; omega))) | fail)
    all_goals first | (exfalso; omega) | skip
    refine St.d1 Tryz.func44 ⟨_, ⟨rfl, rfl⟩, Ent.go⟩
  | true =>
    rw [hr] at hof
    have hne : ¬ (k : Int) = c.threads := fun h => hb ⟨hr, h⟩
    refine Tri.of_body (vs := [_, _, _]) Tryz.func44 rfl rfl fun w0 F => ?_
    repeat' (first | refine Ga ?_ | (refine Gb ?_; intro b) | (refine Gd ?_; intro g cap rest hcap) | (refine Gc ?_; intro ad cap) | (refine St.draw (id := 6) [(0, 1), (1, 1), (2, 1), (3, 0), (4, 2), (5, 0)] [] mixed (by kernel_rfl) ?_) | (refine St.draw (id := 10) [(0, 0), (1, 0), (2, 0), (3, 0), (4, 1), (5, 0), (6, 1), (7, 2), (8, 3), (9, 0), (10, 0), (11, 3)] [8, 11] mixed (by kernel_rfl) ?_) | (refine St.draw (id := 17) [(0, 0), (1, 0), (2, 0), (3, 0), (4, 1), (5, 0), (6, 1), (7, 0), (8, 2), (9, 3), (10, 0), (11, 0), (12, 3)] [9, 12] mixed (by kernel_rfl) ?_)| refine Gl hof ?_ | (refine Ge ?_ ?_ <;> (intro h; try (exfalso; omega))) | fail)
    all_goals first | (exfalso; omega) | skip
    refine St.d1 Tryz.func44 ⟨_, ⟨rfl, rfl⟩, Ent.go⟩
set_option maxHeartbeats 2000000 in
theorem sdnew_t (c : Cfg) (q0 : HProp) (pv : Value) (progs : Progs) (hpv : ProgsG q0 pv progs) (cv : Value) (calls : List (List Jb)) (hcv : CallsG q0 cv calls) (hp8 : progs.length ≤ 8) (hpl : ∀ p ∈ progs, p.length ≤ 40) (hcl : ∀ l ∈ calls, l.length ≤ 4) (hok : c.right = true) (hn : (calls.length : Int) = c.threads) :
    Tri Tryz.prog 44 #[.agg ⟨c.v⟩, pv, cv] [q0]
      fun r L => ∃ (Sb : Nat) (pv' : Value) (H : Hp), ProgsR (frz H) pv' progs ∧ r = .tuple ⟨[.pointer (some ⟨Sb, 0, none⟩), .int .i64 0]⟩ ∧ L = [SdE Sb c pv' (frz H) progs (Sd.new c calls), q0] := by
  have hof := of_r c
  unfold Cfg.ofV at hof
  rw [if_pos hok] at hof
  have hc := Cfg.small hok
  have ht0 := hc.t0; have ht1 := hc.t1
  have hbt := bootm_t c hc
  obtain ⟨pad0, pcap0, rfl, _, hpr⟩ := hpv
  obtain ⟨cad0, ccap0, rfl, _, hcr⟩ := hcv
  refine Tri.of_body (vs := [_, _, _]) Tryz.func44 rfl rfl fun w0 F => ?_
  repeat' (first | refine Ga ?_ | (refine Gb ?_; intro b) | (refine Gd ?_; intro g cap rest hcap) | (refine Gc ?_; intro ad cap) | (refine St.draw (id := 6) [(0, 1), (1, 1), (2, 2), (3, 0), (4, 2), (5, 0)] [] mixed (by kernel_rfl) ?_) | (refine St.draw (id := 10) [(0, 0), (1, 0), (2, 0), (3, 0), (4, 1), (5, 0), (6, 1), (7, 2), (8, 3), (9, 0), (10, 0), (11, 3)] [8, 11] mixed (by kernel_rfl) ?_) | (refine St.draw (id := 17) [(0, 0), (1, 0), (2, 0), (3, 0), (4, 1), (5, 0), (6, 1), (7, 0), (8, 2), (9, 3), (10, 0), (11, 0), (12, 3)] [9, 12] mixed (by kernel_rfl) ?_)| refine Gl hof ?_ | (refine Gt hbt ?_; rintro _ _ ⟨Mb, C, rfl, rfl⟩) | (refine Gu hbt ?_; rintro _ _ ⟨Mb, C, rfl, rfl⟩; refine ⟨Ent.go, ?_⟩) | (refine Ge ?_ ?_ <;> (intro h; try (exfalso; omega))) | fail)
  all_goals first | (exfalso; omega) | skip
  revert b; intro Sb
  refine St.conv ?_ (Sub.refl _) (Ent.row_nil 78 1)
  refine St.conv ?_ (Sub.refl _) (Ent.star_in [])
  refine St.loopY (Lr := ?Lr1) (ι := { x : Nat × Option Addr × Nat × List PgH // x.1 ≤ progs.length ∧ x.2.2.2.map (·.code) = progs.take x.1 }) (fun x => progs.length - x.1.1) (fun x => [(39, .int .i64 (x.1.1 : Int))])
    (fun x => [bl Sb 188 (c.m ++ [.pointer (some ⟨Mb, 0, none⟩), .slice x.1.2.1 x.1.1 x.1.2.2.1, .slice none 0 0, .int .i64 0, .slice none 0 0, .slice none 0 0]), Row (.slice x.1.2.1 x.1.1 x.1.2.2.1) 78 1 x.1.1 (x.1.2.2.2.flatMap pgV), star (x.1.2.2.2.map (·.R))]) ⟨(0, none, 0, []), Nat.zero_le _, rfl⟩ ?hE1 ?hL1 ?round1
  case hE1 => exact Sub.go
  case hL1 => exact Takes.go
  case round1 =>
    rintro ⟨⟨k, ad1, cap1, xs⟩, hk, hxs⟩ IH; dsimp only at hk hxs IH ⊢
    have hxl : xs.length = k := by
      have := congrArg List.length hxs
      rw [List.length_map, List.length_take] at this; omega
    have hfl : (xs.flatMap pgV).length = k * 1 := by rw [← hxl]; exact flat_len (sz := 1) (fun _ => rfl) xs
    by_cases hlt : k < progs.length
    · obtain ⟨bf, fo, lc, pc, rfl, hrd, hnth, hins⟩ := hpr k hlt
      obtain ⟨iad, icap, rfl, hrs⟩ := hins
      have hlen := hpl progs[k] (List.getElem_mem hlt)
      have hcn := clone_Ins q0 iad icap progs[k] hrs (by omega)
      have hnx : progs.take (k + 1) = progs.take k ++ [progs[k]] := List.take_succ_eq_append_getElem hlt
      generalize progs[k] = code at hcn hnx hlen hnth
      repeat' (first | refine Ga ?_ | (refine Gb ?_; intro b) | (refine Gd ?_; intro g cap rest hcap) | (refine Gc ?_; intro ad cap) | (refine St.draw (id := 6) [(0, 1), (1, 1), (2, 1), (3, 0), (4, 2), (5, 0)] [] mixed (by kernel_rfl) ?_) | (refine St.draw (id := 10) [(0, 0), (1, 0), (2, 0), (3, 0), (4, 1), (5, 0), (6, 2), (7, 2), (8, 3), (9, 0), (10, 0), (11, 3)] [8, 11] mixed (by kernel_rfl) ?_) | (refine St.draw (id := 17) [(0, 0), (1, 0), (2, 0), (3, 0), (4, 1), (5, 0), (6, 1), (7, 0), (8, 2), (9, 3), (10, 0), (11, 0), (12, 3)] [9, 12] mixed (by kernel_rfl) ?_) | (refine Gt hcn ?_; rintro _ _ ⟨R, ad2, cap2, hR, rfl, rfl⟩) | (refine Gu hcn ?_; rintro _ _ ⟨R, ad2, cap2, hR, rfl, rfl⟩; refine ⟨Ent.go, ?_⟩) | (refine Ge ?_ ?_ <;> (intro h; try (exfalso; omega))) | fail)
      all_goals first | (exfalso; omega) | skip
      refine IH ⟨(k + 1, ad, cap, xs ++ [⟨code, ad2, cap2, R, hR⟩]), hlt, by dsimp only; rw [List.map_append, hxs, hnx]; rfl⟩ (by show _ - (k + 1) < _ - k; omega) ?_ ?_
      · exact Sub.go
      · dsimp only
        rw [List.flatMap_append, List.map_append]
        refine Ent.trans ?_ (Ent.cons (Ent.cons (Ent.star_snoc (xs.map (·.R)) R)))
        exact Ent.go
    · obtain rfl : k = progs.length := by omega
      clear IH
      rw [List.take_length] at hxs
      refine St.gather (ps := [Row (.slice ad1 progs.length cap1) 78 1 progs.length (xs.flatMap pgV), star (xs.map (·.R))]) Takes.go ?_
      refine St.frz (fun H hH => ?_)
      have hH := star_sat hH
      have hprg : ProgsR (frz H) (.slice ad1 progs.length cap1) progs := by
        have hl : ListR pgV (frz H) (.slice ad1 progs.length cap1) xs := ListR.frz hxl hH List.mem_cons_self
        refine ⟨ad1, cap1, rfl, by omega, fun i hi => ?_⟩
        obtain ⟨b, o, l, l1, h1, h2, h3, h4⟩ := hl.at' (f := pgV) (sz := 1) (fun _ => rfl) i (by omega)
        have hcode : (xs[i]'(by omega)).code = progs[i] := by
          have h := congrArg (fun l => l[i]?) hxs
          simp only [List.getElem?_map, List.getElem?_eq_getElem hi, List.getElem?_eq_getElem (show i < xs.length by omega), Option.map_some, Option.some.injEq] at h
          exact h
        refine ⟨b, o, l, _, h1, h2, NthN.part (j := 0) h3 h4 .zero, ?_⟩
        have hm : (xs[i]'(by omega)).R ∈ xs.map (·.R) := List.mem_map.2 ⟨_, List.getElem_mem _, rfl⟩
        have hw := (xs[i]'(by omega)).h.weak (q' := frz H) (fun b l hr => RdC.frz hH (.there (.here (RdC.star hm hr))))
        generalize (xs[i]'(by omega)) = y at hw hcode
        rw [hcode] at hw ⊢
        obtain ⟨ad, cap, e1, _, e2⟩ := hw
        exact ⟨ad, cap, e1, e2⟩
      clear hH hfl hxs hxl
      repeat' (first | refine Ga ?_ | (refine Gb ?_; intro b) | (refine Gd ?_; intro g cap rest hcap) | (refine Gc ?_; intro ad cap) | (refine St.draw (id := 6) [(0, 1), (1, 1), (2, 1), (3, 0), (4, 2), (5, 0)] [] mixed (by kernel_rfl) ?_) | (refine St.draw (id := 10) [(0, 0), (1, 0), (2, 0), (3, 0), (4, 1), (5, 0), (6, 1), (7, 2), (8, 3), (9, 0), (10, 0), (11, 3)] [8, 11] mixed (by kernel_rfl) ?_) | (refine St.draw (id := 17) [(0, 0), (1, 0), (2, 0), (3, 0), (4, 1), (5, 0), (6, 1), (7, 0), (8, 2), (9, 3), (10, 0), (11, 0), (12, 3)] [9, 12] mixed (by kernel_rfl) ?_) | (refine Ge ?_ ?_ <;> (intro h; try (exfalso; omega))) | fail)
      refine St.conv ?_ (Sub.refl _) (Ent.row_nil 192 5)
      refine St.conv ?_ (Sub.refl _) (Ent.star_in [])
      refine St.loopY (Lr := ?Lr2) (ι := { x : Nat × Option Addr × Nat × List ThH // x.1 ≤ calls.length ∧ x.2.2.2.map (·.u) = (calls.take x.1).map (fun l => (⟨l, none, 0, 0, 0⟩ : Th)) }) (fun x => calls.length - x.1.1) (fun x => [(57, .int .i64 (x.1.1 : Int))])
        (fun x => [bl Sb 188 (c.m ++ [.pointer (some ⟨Mb, 0, none⟩), .slice ad1 progs.length cap1, .slice x.1.2.1 x.1.1 x.1.2.2.1, .int .i64 0, .slice none 0 0, .slice none 0 0]), Row (.slice x.1.2.1 x.1.1 x.1.2.2.1) 192 5 x.1.1 (x.1.2.2.2.flatMap thV), star (x.1.2.2.2.map (thP c (.slice ad1 progs.length cap1) (frz H) progs))]) ⟨(0, none, 0, []), Nat.zero_le _, rfl⟩ ?hE2 ?hL2 ?round2
      case hE2 => exact Sub.go
      case hL2 => exact Takes.go
      case round2 =>
        rintro ⟨⟨k, ad3, cap3, ys⟩, hk, hys⟩ IH; dsimp only at hk hys IH ⊢
        have hyl : ys.length = k := by
          have := congrArg List.length hys
          rw [List.length_map, List.length_map, List.length_take] at this; omega
        have hfl : (ys.flatMap thV).length = k * 5 := by rw [← hyl]; exact flat_len thV_len ys
        by_cases hlt : k < calls.length
        · obtain ⟨bf, fo, lc, iad, icap, rfl, hrd, hnth, hrs⟩ := hcr k hlt
          have hlen := hcl calls[k] (List.getElem_mem hlt)
          have hcn := clone_Jb q0 iad icap calls[k] hrs (by omega)
          have hnx : calls.take (k + 1) = calls.take k ++ [calls[k]] := List.take_succ_eq_append_getElem hlt
          generalize calls[k] = code at hcn hnx hlen hnth
          repeat' (first | refine Ga ?_ | (refine Gb ?_; intro b) | (refine Gd ?_; intro g cap rest hcap) | (refine Gc ?_; intro ad cap) | (refine St.draw (id := 6) [(0, 1), (1, 1), (2, 1), (3, 0), (4, 2), (5, 0)] [] mixed (by kernel_rfl) ?_) | (refine St.draw (id := 10) [(0, 0), (1, 0), (2, 0), (3, 0), (4, 1), (5, 0), (6, 1), (7, 2), (8, 3), (9, 0), (10, 0), (11, 3)] [8, 11] mixed (by kernel_rfl) ?_) | (refine St.draw (id := 17) [(0, 0), (1, 0), (2, 0), (3, 0), (4, 1), (5, 0), (6, 2), (7, 0), (8, 2), (9, 3), (10, 0), (11, 0), (12, 3)] [9, 12] mixed (by kernel_rfl) ?_) | (refine Gt hcn ?_; rintro _ _ ⟨R, ad2, cap2, hR, rfl, rfl⟩) | (refine Gu hcn ?_; rintro _ _ ⟨R, ad2, cap2, hR, rfl, rfl⟩; refine ⟨Ent.go, ?_⟩) | (refine Ge ?_ ?_ <;> (intro h; try (exfalso; omega))) | fail)
          all_goals first | (exfalso; omega) | skip
          refine IH ⟨(k + 1, ad, cap, ys ++ [⟨⟨code, none, 0, 0, 0⟩, .slice ad2 code.length cap2, R, hR, 0⟩]), hlt, by dsimp only; rw [List.map_append, hys, hnx, List.map_append]; rfl⟩ (by show _ - (k + 1) < _ - k; omega) ?_ ?_
          · exact Sub.go
          · dsimp only
            rw [List.flatMap_append, List.map_append]
            refine Ent.trans ?_ (Ent.cons (Ent.cons (Ent.star_snoc (ys.map (thP c (.slice ad1 progs.length cap1) (frz H) progs)) (thP c (.slice ad1 progs.length cap1) (frz H) progs ⟨⟨code, none, 0, 0, 0⟩, .slice ad2 code.length cap2, R, hR, 0⟩))))
            refine Ent.trans (Ent.trans (Ent.trans (Ent.of_take (p := R) Take.go) (Ent.cons (Ent.star_in []))) (Ent.star_in [R, star []])) ?_
            show Ent (thP c (.slice ad1 progs.length cap1) (frz H) progs ⟨⟨code, none, 0, 0, 0⟩, .slice ad2 code.length cap2, R, hR, 0⟩ :: _) _
            exact Ent.go
        · obtain rfl : k = calls.length := by omega
          clear IH
          rw [List.take_length] at hys
          refine St.conv ?_ (Sub.refl _) (Ent.of_take (p := Row (.slice ad3 calls.length cap3) 192 5 calls.length (ys.flatMap thV)) Take.go)
          refine St.rowF (by omega) (fun Tb cp rest hv hrf => ?_)
          injection hv with hv1 _ hv2
          subst hv1 hv2
          repeat' (first | refine Ga ?_ | (refine Gb ?_; intro b) | (refine Gd ?_; intro g cap rest hcap) | (refine Gc ?_; intro ad cap) | (refine St.draw (id := 6) [(0, 1), (1, 1), (2, 1), (3, 0), (4, 2), (5, 0)] [] mixed (by kernel_rfl) ?_) | (refine St.draw (id := 10) [(0, 0), (1, 0), (2, 0), (3, 0), (4, 1), (5, 0), (6, 1), (7, 2), (8, 3), (9, 0), (10, 0), (11, 3)] [8, 11] mixed (by kernel_rfl) ?_) | (refine St.draw (id := 17) [(0, 0), (1, 0), (2, 0), (3, 0), (4, 1), (5, 0), (6, 1), (7, 0), (8, 2), (9, 3), (10, 0), (11, 0), (12, 3)] [9, 12] mixed (by kernel_rfl) ?_) | (refine Ge ?_ ?_ <;> (intro h; try (exfalso; omega))) | fail)
          all_goals first | (exfalso; omega) | skip
          refine St.d1 Tryz.func44 ⟨_, ⟨Sb, _, H, hprg, rfl, rfl⟩, ?_⟩
          have sh : ∀ M, Ent (bl Sb 188 (sdV c Mb (.slice ad1 progs.length cap1) Tb ys.length cap3 0 (.slice none 0 0) (.slice none 0 0)) :: Mm Mb C ⟨c.boot, zeros8, []⟩ :: bl Tb 192 (ys.flatMap thV ++ rest) :: star (ys.map (thP c (.slice ad1 progs.length cap1) (frz H) progs)) :: Row (.slice none 0 0) 116 13 0 [] :: Row (.slice none 0 0) 120 6 0 [] :: star [] :: frz H :: M) (SdE Sb c (.slice ad1 progs.length cap1) (frz H) progs (Sd.new c calls) :: M) :=
            fun M => Ent.ex_in (Ls := sdL Sb c (.slice ad1 progs.length cap1) (frz H) progs (Sd.new c calls)) (L := M) ⟨Mb, C, Tb, cap3, rest, ys, hys, none, 0, none, 0, [], rfl⟩
          unfold sdV at sh
          rw [hyl] at sh
          refine Ent.trans ?_ (sh _)
          refine Ent.trans (Ent.trans (Ent.row_nil 116 13) (Ent.trans (Ent.row_nil 120 6) (Ent.star_in []))) ?_
          exact Ent.go
end Go.Proofs.YtemaaenipjinaaaGreat
end
