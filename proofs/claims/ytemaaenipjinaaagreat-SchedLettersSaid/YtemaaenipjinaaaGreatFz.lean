/-
  Package call: Rows, New. Package sched, in plain terms: threads, each with calls, that go on step by step, as they are picked. Package sched: how threads lie; begin. Packages call, tumblerref07, tumblerref15, tumblerlaw15: the bound. Package tumblerlaw15: does. Package tumblerlaw15: alive. An assertion taken as it is: what holds of its memory can be read of it.
-/
import Derived.Test.YtemaaenipjinaaaGreatVg
import Derived.Test.YtemaaenipjinaaaGreatSc
import Derived.Test.YtemaaenipjinaaaGreatVr
import Derived.Test.YtemaaenipjinaaaGreatJc
section
namespace Go.Proofs.YtemaaenipjinaaaGreat
set_option maxRecDepth 100000
/-- rows of a transaction, as they lie -/
structure RwH (v : Value) (rows : List BRow) where
  ad : Option Addr
  cap : Nat
  rs : List RowH
  h : rs.map (·.1) = rows
  e : v = .slice ad rows.length cap
def RwE (v : Value) (rows : List BRow) : HProp := ex (ι := RwH v rows) fun x => [Row v 83 5 rows.length (x.rs.flatMap rowV), star (x.rs.map rowP)]
theorem Ent.rw {L : List HProp} {ad : Option Addr} {cap : Nat} {rows : List BRow} (rs : List RowH) (h : rs.map (·.1) = rows) : Ent (Row (.slice ad rows.length cap) 83 5 rows.length (rs.flatMap rowV) :: star (rs.map rowP) :: L) (RwE (.slice ad rows.length cap) rows :: L) := Ent.ex_in (Ls := fun x : RwH (.slice ad rows.length cap) rows => [Row (.slice ad rows.length cap) 83 5 rows.length (x.rs.flatMap rowV), star (x.rs.map rowP)]) ⟨ad, cap, rs, h, rfl⟩
theorem Ent.rw0 {L : List HProp} : Ent L (RwE (.slice none 0 0) [] :: L) := by
  refine Ent.trans (Ent.row_nil 83 5) (Ent.trans ?_ (Ent.rw (ad := none) (cap := 0) (rows := []) [] rfl))
  exact Ent.cons (Ent.star_in [])
section
variable (Cb : Nat) (c : Cfg) (hc : Small c) (pv : Value) (p : Cp) (q : HProp) (progs : Progs) (hpv : ProgsR q pv progs)
include hc hpv in
theorem crows_t (m : Cm) (hi : Cinv c p progs m) : Tri Tryz.prog 24 #[.pointer (some ⟨Cb, 0, none⟩)] [ClE Cb c pv p q progs m]
    fun r L => ∃ ad cap, r = .slice ad m.rows.length cap ∧ L = [ClE Cb c pv p q progs m, RwE (.slice ad m.rows.length cap) m.rows] := by
  obtain ⟨s, work, b0⟩ := m
  refine Tri.ex_out ?_
  rintro ⟨wv, bv⟩
  have hdid := hi.did
  obtain ⟨pad, pcap, rfl, _⟩ := hpv
  unfold clL
  dsimp only at hdid ⊢
  unfold Cm.rows
  dsimp only
  cases hd : s.did with
  | false =>
    rw [if_neg (by decide)]
    refine Tri.of_body (vs := [_]) Tryz.func24 rfl rfl fun w0 F => ?_
    repeat' (first | refine Ga ?_ | (refine Gb ?_; intro b) | (refine Gd ?_; intro g cap rest hcap) | (refine Gc ?_; intro ad cap)  | (refine Ge ?_ ?_ <;> (intro h; try (exfalso; omega))) | fail)
    all_goals first | (exact absurd h (by rw [hd]; decide)) | skip
    refine St.d1 Tryz.func24 ⟨_, ⟨none, 0, rfl, rfl⟩, ?_⟩
    refine Ent.trans ?_ (Ent.cons Ent.rw0)
    exact Ent.cl Cb c _ p q progs ⟨s, work, b0⟩ wv bv
  | true =>
    rw [if_pos rfl]
    obtain ⟨bt, hb, hbi⟩ := hdid hd
    subst hb
    unfold BkP
    refine Tri.ent (Tri.ex_out (L := [bl Cb 147 (clV c (.slice pad progs.length pcap) p wv bv s), WkP c (.slice pad progs.length pcap) q progs (p.code progs) wv work]) ?_) (Ent.of_take (.there (.there .here)))
    rintro ⟨B, rfl⟩
    dsimp only
    have hrw := brows_t B c hc (.slice pad progs.length pcap) q progs bt hbi
    refine Tri.of_body (vs := [_]) Tryz.func24 rfl rfl fun w0 F => ?_
    repeat' (first | refine Ga ?_ | (refine Gb ?_; intro b) | (refine Gd ?_; intro g cap rest hcap) | (refine Gc ?_; intro ad cap)  | (refine Gt hrw ?_; rintro _ _ ⟨rad, rcap, rs, hrs, rfl, rfl⟩) | (refine Ge ?_ ?_ <;> (intro h; try (exfalso; omega))) | fail)
    all_goals first | (exact absurd h (by rw [hd]; decide)) | skip
    refine St.d1 Tryz.func24 ⟨_, ⟨rad, rcap, rfl, rfl⟩, ?_⟩
    refine Ent.trans (M := Row (.slice rad bt.rows.length rcap) 83 5 bt.rows.length (rs.flatMap rowV) :: star (rs.map rowP) :: Bd B c (.slice pad progs.length pcap) q progs bt :: bl Cb 147 (clV c (.slice pad progs.length pcap) p wv (.pointer (some ⟨B, 0, none⟩)) s) :: WkP c (.slice pad progs.length pcap) q progs (p.code progs) wv work :: F) Ent.go ?_
    refine Ent.trans (Ent.rw rs hrs) ?_
    refine Ent.trans (M := Bd B c (.slice pad progs.length pcap) q progs bt :: RwE (.slice rad bt.rows.length rcap) bt.rows :: bl Cb 147 (clV c (.slice pad progs.length pcap) p wv (.pointer (some ⟨B, 0, none⟩)) s) :: WkP c (.slice pad progs.length pcap) q progs (p.code progs) wv work :: F) Ent.go ?_
    refine Ent.trans (Ent.bbd bt B) ?_
    refine Ent.trans (M := bl Cb 147 (clV c (.slice pad progs.length pcap) p wv (.pointer (some ⟨B, 0, none⟩)) s) :: WkP c (.slice pad progs.length pcap) q progs (p.code progs) wv work :: BkP c (.slice pad progs.length pcap) q progs (.pointer (some ⟨B, 0, none⟩)) (some bt) :: RwE (.slice rad bt.rows.length rcap) bt.rows :: F) Ent.go ?_
    exact Ent.cl Cb c _ p q progs ⟨s, work, some bt⟩ wv (.pointer (some ⟨B, 0, none⟩))
end
set_option maxHeartbeats 1000000 in
theorem cnew_t (c : Cfg) (_hc : Small c) (pv : Value) (p : Cp) (q : HProp) (progs : Progs) (hpv : ProgsR q pv progs) : Tri Tryz.prog 17 #[.agg ⟨c.m⟩, .int .i64 p.who, .int .u64 (p.tag : Int), pv, .agg ⟨.int .i64 p.prog :: g4 p.args⟩] [q]
    fun r L => ∃ Cb, r = .pointer (some ⟨Cb, 0, none⟩) ∧ L = [ClE Cb c pv p q progs (Cm.new p progs), q] := by
  obtain ⟨cv, hins, hcode⟩ := ccode_e q pv progs hpv p
  have hri := right_rr q cv (p.code progs) hins
  have hc1 := fun Cb => hcode Cb c .nilIface (.pointer none) ⟨0, 0, 0, false, ⟨0, 0⟩, false, false, 0, 0, 0, 0, false⟩
  have hro := fun hr : rightB (p.code progs) = true => reads_r q cv (p.code progs) hins (by have := (right_at hr).2.1; omega)
  have shut : ∀ (Cb : Nat) (m : Cm), m.work = .none → m.b = none → ∀ {M : List HProp}, Ent (bl Cb 147 (clV c pv p .nilIface (.pointer none) m.s) :: M) (ClE Cb c pv p q progs m :: M) := fun Cb m h1 h2 M => by
    have := Ent.cl Cb c pv p q progs m .nilIface (.pointer none) (L := M)
    rw [h1, h2] at this
    exact Ent.trans (Ent.cons (Ent.trans (Ent.star_in []) (Ent.cons (Ent.star_in [])))) this
  unfold clV at hc1
  dsimp only at hc1
  have hm : Cfg.m c = Cfg.m c := rfl
  obtain ⟨cad, ccap, rfl, _⟩ := hins
  obtain ⟨pad, pcap, rfl, _⟩ := hpv
  have hnew : ∀ r o : Bool, rightB (p.code progs) = r → onlyB (p.code progs) = o → Cm.new p progs = ⟨⟨if r = true ∧ o = false then 0 else 2, 0, 0, false, ⟨0, 0⟩, false, false, 0, 0, 0, 0, false⟩, .none, none⟩ := fun r o h1 h2 => by subst h1; subst h2; rfl
  unfold g4
  cases hr : rightB (p.code progs) with
  | false =>
    rw [hr] at hri
    clear hro
    rw [hnew false _ hr rfl, if_neg (by simp)]
    refine Tri.of_body (vs := [_, _, _, _, _]) Tryz.func17 rfl rfl fun w0 F => ?_
    repeat' (first | refine Ga ?_ | (refine Gb ?_; intro b) | (refine Gd ?_; intro g cap rest hcap) | (refine Gc ?_; intro ad cap) | refine Gl (hc1 _) ?_ | refine Gl hri ?_ | (refine Ge ?_ ?_ <;> (intro h; try (exfalso; omega))) | fail)
    all_goals first | (exfalso; omega) | skip
    refine St.d1 Tryz.func17 ⟨_, ⟨_, rfl, rfl⟩, ?_⟩
    exact Ent.trans (Ent.trans Ent.go (shut _ ⟨⟨2, 0, 0, false, ⟨0, 0⟩, false, false, 0, 0, 0, 0, false⟩, .none, none⟩ rfl rfl)) Ent.go
  | true =>
    rw [hr] at hri
    have hro := hro hr
    cases ho : onlyB (p.code progs) with
    | true =>
      rw [ho] at hro
      rw [hnew true true hr ho, if_neg (by simp)]
      refine Tri.of_body (vs := [_, _, _, _, _]) Tryz.func17 rfl rfl fun w0 F => ?_
      repeat' (first | refine Ga ?_ | (refine Gb ?_; intro b) | (refine Gd ?_; intro g cap rest hcap) | (refine Gc ?_; intro ad cap) | refine Gl (hc1 _) ?_ | refine Gl hri ?_ | refine Gl hro ?_ | (refine Ge ?_ ?_ <;> (intro h; try (exfalso; omega))) | fail)
      all_goals first | (exfalso; omega) | skip
      refine St.d1 Tryz.func17 ⟨_, ⟨_, rfl, rfl⟩, ?_⟩
      exact Ent.trans (Ent.trans Ent.go (shut _ ⟨⟨2, 0, 0, false, ⟨0, 0⟩, false, false, 0, 0, 0, 0, false⟩, .none, none⟩ rfl rfl)) Ent.go
    | false =>
      rw [ho] at hro
      rw [hnew true false hr ho, if_pos ⟨rfl, rfl⟩]
      refine Tri.of_body (vs := [_, _, _, _, _]) Tryz.func17 rfl rfl fun w0 F => ?_
      repeat' (first | refine Ga ?_ | (refine Gb ?_; intro b) | (refine Gd ?_; intro g cap rest hcap) | (refine Gc ?_; intro ad cap) | refine Gl (hc1 _) ?_ | refine Gl hri ?_ | refine Gl hro ?_ | (refine Ge ?_ ?_ <;> (intro h; try (exfalso; omega))) | fail)
      all_goals first | (exfalso; omega) | skip
      refine St.d1 Tryz.func17 ⟨_, ⟨_, rfl, rfl⟩, ?_⟩
      exact Ent.trans (Ent.trans Ent.go (shut _ ⟨⟨0, 0, 0, false, ⟨0, 0⟩, false, false, 0, 0, 0, 0, false⟩, .none, none⟩ rfl rfl)) Ent.go
end Go.Proofs.YtemaaenipjinaaaGreat
end
section
namespace Go.Proofs.YtemaaenipjinaaaGreat
set_option maxRecDepth 100000
/-- what is called -/
structure Jb where
  prog : Int
  args : List Nat
def jbV (j : Jb) : List Value := .int .i64 j.prog :: g4 j.args
theorem jbV_len (j : Jb) : (jbV j).length = 5 := rfl
/-- a thread -/
structure Th where
  calls : List Jb
  at_ : Option (Cp × Cm)
  record : Nat
  count : Nat
  looked : Nat
/-- a call that was begun -/
structure Rec where
  who : Int
  tag : Nat
  job : Jb
  from_ : Nat
  to_ : Nat
  steps : Nat
  done : Bool
  rc : Int
  rv : Nat
def recV (r : Rec) : List Value := .int .i64 r.who :: .int .i64 (r.tag : Int) :: (jbV r.job ++ [.int .i64 (r.from_ : Int), .int .i64 (r.to_ : Int), .int .i64 (r.steps : Int), .bool r.done, .int .i64 r.rc, .int .u64 (r.rv : Int)])
theorem recV_len (r : Rec) : (recV r).length = 13 := rfl
/-- all threads, over one memory -/
structure Sd where
  mem : Pm
  ths : List Th
  picks : Nat
  recs : List Rec
  rows : List SRow
def th0 : Th := ⟨[], none, 0, 0, 0⟩
def rec0 : Rec := ⟨0, 0, ⟨0, [0, 0, 0, 0]⟩, 0, 0, 0, false, 0, 0⟩
def Th.idle (u : Th) : Bool := u.at_.isNone && u.calls.isEmpty
def Sd.idle (m : Sd) (t : Int) : Bool := decide (t < 0) || decide ((m.ths.length : Int) ≤ t) || (m.ths.getD t.toNat th0).idle
def Jb.cp (j : Jb) (t tag : Nat) : Cp := ⟨(t : Int), tag, j.prog, j.args⟩
/-- a thread begins its next call -/
def Sd.begin (progs : Progs) (m : Sd) (t : Nat) : Sd :=
  match (m.ths.getD t th0).calls with
  | [] => m
  | j :: js => { m with ths := m.ths.set t { m.ths.getD t th0 with calls := js, at_ := some (j.cp t ((m.ths.getD t th0).count + 1), Cm.new (j.cp t ((m.ths.getD t th0).count + 1)) progs), record := m.recs.length, count := (m.ths.getD t th0).count + 1 }, recs := m.recs ++ [⟨(t : Int), (m.ths.getD t th0).count + 1, j, m.picks, 0, 0, false, 0, 0⟩] }
def rowOf (picks : Nat) (r : BRow) : SRow := ⟨(picks : Int), r.who, IntKind.i64.wrap (r.tag : Int), r.rc, r.rv, r.news⟩
/-- what a step came to is noted: of a thread u that is at a call cm -/
def Sd.told (m : Sd) (t : Nat) (u : Th) (p : Cp) (cm : Cm) : Sd :=
  { m with
    ths := m.ths.set t { u with at_ := if cm.s.next = 13 then none else some (p, cm), looked := if cm.s.fresh = true then m.picks else u.looked }
    recs := m.recs.set u.record (if cm.s.next = 13 then { m.recs.getD u.record rec0 with steps := (m.recs.getD u.record rec0).steps + 1, to_ := m.picks, done := true, rc := cm.s.rc, rv := cm.s.rv } else { m.recs.getD u.record rec0 with steps := (m.recs.getD u.record rec0).steps + 1 })
    rows := m.rows ++ cm.rows.map (rowOf m.picks) ++ (if cm.s.next = 13 ∧ cm.s.alone = true then [⟨((if cm.s.fresh = true then m.picks else u.looked : Nat) : Int), (t : Int), (u.count : Int), cm.s.rc, cm.s.rv, []⟩] else []) }
/-- a step of a thread that is at a call -/
def Sd.step (c : Cfg) (progs : Progs) (m : Sd) (t : Nat) : Sd :=
  match (m.ths.getD t th0).at_ with
  | none => m
  | some (p, cm) => Sd.told { m with mem := (m.mem.do (t : Int) (cm.ask c p).1).1 } t (m.ths.getD t th0) p (cm.tell c p progs (m.mem.do (t : Int) (cm.ask c p).1).2)
def Sd.pick (c : Cfg) (progs : Progs) (m : Sd) (t : Int) : Sd × Bool :=
  if m.idle t = true ∨ 65536 ≤ m.picks then (m, false) else
  (Sd.step c progs (if (m.ths.getD t.toNat th0).at_.isNone = true then Sd.begin progs { m with picks := m.picks + 1 } t.toNat else { m with picks := m.picks + 1 }) t.toNat, true)
def Sd.new (c : Cfg) (calls : List (List Jb)) : Sd := ⟨⟨c.boot, zeros8, []⟩, calls.map fun l => ⟨l, none, 0, 0, 0⟩, 0, [], []⟩
/-! ### what holds of it -/
theorem gset {α : Type} (l : List α) (i j : Nat) (x d : α) : (l.set i x).getD j d = if i = j ∧ j < l.length then x else l.getD j d := by
  rw [List.getD_eq_getElem?_getD, List.getD_eq_getElem?_getD, List.getElem?_set]
  by_cases h : i = j
  · subst h
    by_cases h2 : i < l.length
    · simp [h2]
    · simp [h2]
  · simp [h]
structure ThI (c : Cfg) (progs : Progs) (picks recs t : Nat) (u : Th) : Prop where
  at_ : ∀ (p : Cp) (cm : Cm), u.at_ = some (p, cm) → p.who = (t : Int) ∧ p.args.length = 4 ∧ Cinv c p progs cm ∧ Crt p progs cm ∧ u.record < recs
  calls : ∀ j ∈ u.calls, j.args.length = 4
  count : u.count ≤ picks
  looked : u.looked ≤ picks
structure SdI (c : Cfg) (progs : Progs) (m : Sd) : Prop where
  n : (m.ths.length : Int) = c.threads
  st : m.mem.st.length = 8
  tr : m.mem.tr.length ≤ m.picks
  picks : m.picks ≤ 65536
  recs : m.recs.length ≤ m.picks
  rows : m.rows.length ≤ 9 * m.picks
  news : ∀ r ∈ m.rows, r.news.length ≤ 1000
  th : ∀ t, t < m.ths.length → ThI c progs m.picks m.recs.length t (m.ths.getD t th0)
  steps : ∀ k, k < m.recs.length → (m.recs.getD k rec0).steps ≤ m.picks
theorem ThI.more {c : Cfg} {progs : Progs} {a b a' b' t : Nat} {u : Th} (h : ThI c progs a b t u) (ha : a ≤ a') (hb : b ≤ b') : ThI c progs a' b' t u :=
  ⟨fun p cm e => by
    obtain ⟨h1, h2, h3, h4, h5⟩ := h.at_ p cm e
    exact ⟨h1, h2, h3, h4, by omega⟩, h.calls, by have := h.count; omega, by have := h.looked; omega⟩
section
variable {c : Cfg} {progs : Progs} {m : Sd}
theorem SdI.new (_hc : Small c) {calls : List (List Jb)} (hn : (calls.length : Int) = c.threads) (hj : ∀ l ∈ calls, ∀ j ∈ l, j.args.length = 4) : SdI c progs (Sd.new c calls) := by
  refine ⟨by show (((calls.map _).length : Nat) : Int) = _; rw [List.length_map]; exact hn, rfl, Nat.zero_le _, Nat.zero_le _, Nat.zero_le _, Nat.zero_le _, fun r hr => (by cases hr), fun t ht => ?_, fun k hk => absurd hk (Nat.not_lt_zero _)⟩
  have ht : t < (calls.map fun l => (⟨l, none, 0, 0, 0⟩ : Th)).length := ht
  have e : (Sd.new c calls).ths.getD t th0 = ⟨calls[t]'(by rw [List.length_map] at ht; exact ht), none, 0, 0, 0⟩ := by
    show (calls.map fun l => (⟨l, none, 0, 0, 0⟩ : Th)).getD t th0 = _
    rw [List.getD_eq_getElem?_getD, List.getElem?_eq_getElem ht, List.getElem_map]; rfl
  rw [e]
  exact ⟨fun p cm h => (by cases h), hj _ (List.getElem_mem _), Nat.zero_le _, Nat.zero_le _⟩
/-- the picks are counted -/
theorem SdI.count (h : SdI c progs m) (hp : m.picks < 65536) : SdI c progs { m with picks := m.picks + 1 } :=
  ⟨h.n, h.st, by have := h.tr; dsimp only; omega, by dsimp only; omega, by have := h.recs; dsimp only; omega, by have := h.rows; dsimp only; omega, h.news, fun t ht => (h.th t ht).more (Nat.le_succ _) (Nat.le_refl _), fun k hk => by have := h.steps k hk; dsimp only at this ⊢; omega⟩
/-- within a pick -/
structure SdM (c : Cfg) (progs : Progs) (m : Sd) : Prop where
  i : SdI c progs m
  tr : m.mem.tr.length + 1 ≤ m.picks
  rows : m.rows.length + 9 ≤ 9 * m.picks
  steps : ∀ k, k < m.recs.length → (m.recs.getD k rec0).steps + 1 ≤ m.picks
theorem SdI.mid (h : SdI c progs m) (hp : m.picks < 65536) : SdM c progs { m with picks := m.picks + 1 } :=
  ⟨h.count hp, by have := h.tr; dsimp only; omega, by have := h.rows; dsimp only; omega, fun k hk => by have := h.steps k hk; dsimp only at this ⊢; omega⟩
theorem SdM.begin (h : SdM c progs m) {t : Nat} (ht : t < m.ths.length) (hr : m.recs.length + 1 ≤ m.picks) (hc : (m.ths.getD t th0).count + 1 ≤ m.picks) {j : Jb} {js : List Jb} (hj : (m.ths.getD t th0).calls = j :: js) : SdM c progs (Sd.begin progs m t) ∧ ((Sd.begin progs m t).ths.getD t th0).at_ = some (j.cp t ((m.ths.getD t th0).count + 1), Cm.new (j.cp t ((m.ths.getD t th0).count + 1)) progs) := by
  have hu := h.i.th t ht
  have hst : ∀ k, k < m.recs.length + 1 → ((m.recs ++ [(⟨(t : Int), (m.ths.getD t th0).count + 1, j, m.picks, 0, 0, false, 0, 0⟩ : Rec)]).getD k rec0).steps + 1 ≤ m.picks := fun k hk => by
    rw [List.getD_eq_getElem?_getD]
    rcases Nat.lt_or_ge k m.recs.length with hlt | hge
    · rw [List.getElem?_append_left hlt, ← List.getD_eq_getElem?_getD]; exact h.steps k hlt
    · obtain rfl : k = m.recs.length := by omega
      rw [List.getElem?_append_right (Nat.le_refl _), Nat.sub_self]
      show 0 + 1 ≤ m.picks
      omega
  unfold Sd.begin
  rw [hj]
  dsimp only
  refine ⟨⟨⟨?_, h.i.st, h.i.tr, h.i.picks, ?_, h.i.rows, h.i.news, fun s hs => ?_, fun k hk => ?_⟩, h.tr, h.rows, fun k hk => ?_⟩, ?_⟩
  · dsimp only; rw [List.length_set]; exact h.i.n
  · dsimp only; rw [List.length_append, List.length_singleton]; exact hr
  · dsimp only at hs ⊢
    rw [List.length_set] at hs
    rw [gset, List.length_append, List.length_singleton]
    split
    · rename_i e
      obtain ⟨rfl, _⟩ := e
      refine ⟨fun p cm e => ?_, fun x hx => hu.calls x (by rw [hj]; exact List.mem_cons_of_mem _ hx), hc, hu.looked⟩
      dsimp only at e
      injection e with e
      injection e with e1 e2
      subst e1 e2
      exact ⟨rfl, hu.calls j (by rw [hj]; exact List.mem_cons_self), Cinv.new, Crt.new, by dsimp only; omega⟩
    · exact (h.i.th s hs).more (Nat.le_refl _) (Nat.le_succ _)
  · dsimp only at hk ⊢
    rw [List.length_append, List.length_singleton] at hk
    have := hst k hk
    omega
  · dsimp only at hk ⊢
    rw [List.length_append, List.length_singleton] at hk
    exact hst k hk
  · rw [gset, if_pos ⟨rfl, ht⟩]
theorem crows_few (hc : Small c) {p : Cp} {cm : Cm} (h : Cinv c p progs cm) : cm.rows.length ≤ 8 ∧ ∀ r ∈ cm.rows, r.news.length ≤ 1000 := by
  unfold Cm.rows
  split
  · rename_i hd
    obtain ⟨bt, hb, hi⟩ := h.did hd
    rw [hb]
    have := hi.rows; have := hi.u; have := hc.t1
    dsimp only
    exact ⟨by omega, fun r hr => (hi.gen.news r hr).1⟩
  · exact ⟨Nat.zero_le _, fun r hr => (by cases hr)⟩
theorem SdI.told (hc : Small c) (h : SdI c progs m) (hrw : m.rows.length + 9 ≤ 9 * m.picks) (hst : ∀ k, k < m.recs.length → (m.recs.getD k rec0).steps + 1 ≤ m.picks) {t : Nat} (ht : t < m.ths.length) {p : Cp} {cm : Cm} (hp : p.who = (t : Int)) (ha : p.args.length = 4) (hi : Cinv c p progs cm) (hrt : Crt p progs cm) (hrec : (m.ths.getD t th0).record < m.recs.length) : SdI c progs (m.told t (m.ths.getD t th0) p cm) := by
  have hu := h.th t ht
  obtain ⟨hf1, hf2⟩ := crows_few hc hi
  unfold Sd.told
  refine ⟨?_, h.st, h.tr, h.picks, ?_, ?_, ?_, fun s hs => ?_, fun k hk => ?_⟩
  · dsimp only; rw [List.length_set]; exact h.n
  · dsimp only; rw [List.length_set]; exact h.recs
  · have := hrw
    dsimp only
    rw [List.length_append, List.length_append, List.length_map]
    split
    · rw [List.length_singleton]; omega
    · rw [List.length_nil]; omega
  · dsimp only
    intro r hr
    rcases List.mem_append.1 hr with hr | hr
    · rcases List.mem_append.1 hr with hr | hr
      · exact h.news r hr
      · obtain ⟨x, hx, rfl⟩ := List.mem_map.1 hr
        exact hf2 x hx
    · split at hr
      · obtain rfl := List.mem_singleton.1 hr
        exact Nat.zero_le _
      · cases hr
  · dsimp only at hs ⊢
    rw [List.length_set] at hs
    rw [gset, List.length_set]
    split
    · rename_i e
      obtain ⟨rfl, _⟩ := e
      refine ⟨fun p' cm' e => ?_, hu.calls, hu.count, ?_⟩
      · dsimp only at e
        split at e
        · cases e
        · injection e with e
          injection e with e1 e2
          subst e1 e2
          exact ⟨hp, ha, hi, hrt, hrec⟩
      · dsimp only
        split
        · exact Nat.le_refl _
        · exact hu.looked
    · exact h.th s hs
  · dsimp only at hk ⊢
    rw [List.length_set] at hk
    rw [gset]
    split
    · have := hst _ hrec
      split
      · exact this
      · exact this
    · exact h.steps k hk
theorem SdM.step (hc : Small c) (hf : 0 ≤ c.fuel ∧ c.fuel ≤ 1000) (h : SdM c progs m) {t : Nat} (ht : t < m.ths.length) {p : Cp} {cm : Cm} (hat : (m.ths.getD t th0).at_ = some (p, cm)) : SdI c progs (Sd.step c progs m t) := by
  obtain ⟨h1, h2, h3, h4, h5⟩ := (h.i.th t ht).at_ p cm hat
  unfold Sd.step
  rw [hat]
  dsimp only
  obtain ⟨g1, g2, g3⟩ := Pm.do_len m.mem (t : Int) (cm.ask c p).1
  have htr := h.tr
  generalize m.mem.do (t : Int) (cm.ask c p).1 = d at *
  refine SdI.told (m := { m with mem := d.1 }) hc ⟨h.i.n, by rw [← h.i.st]; exact g2, by dsimp only; omega, h.i.picks, h.i.recs, h.i.rows, h.i.news, h.i.th, h.i.steps⟩ h.rows h.steps ht h1 h2 (h3.tell hc hf h2 d.2) (h4.tell d.2) h5
theorem Sd.not_idle {t : Int} (hn : m.idle t = false) : 0 ≤ t ∧ t < (m.ths.length : Int) ∧ ((m.ths.getD t.toNat th0).at_ = none → (m.ths.getD t.toNat th0).calls ≠ []) := by
  unfold Sd.idle Th.idle at hn
  simp only [Bool.or_eq_false_iff, decide_eq_false_iff_not, Bool.and_eq_false_iff] at hn
  refine ⟨by omega, by omega, fun e => ?_⟩
  rcases hn.2 with h | h
  · rw [e] at h; cases h
  · intro e2; rw [e2] at h; cases h
/-- what a pick keeps -/
theorem SdI.pick (hc : Small c) (hf : 0 ≤ c.fuel ∧ c.fuel ≤ 1000) (h : SdI c progs m) (t : Int) : SdI c progs (m.pick c progs t).1 := by
  unfold Sd.pick
  split
  · exact h
  rename_i hn
  have hidle : m.idle t = false := by
    cases e : m.idle t with
    | false => rfl
    | true => exact absurd (.inl e) hn
  obtain ⟨h0, h1, h2⟩ := Sd.not_idle hidle
  have ht : t.toNat < m.ths.length := by omega
  have hm := h.mid (by omega)
  have hu := h.th t.toNat ht
  cases e : (m.ths.getD t.toNat th0).at_ with
  | none =>
    dsimp only [Option.isNone]
    rw [if_pos rfl]
    cases ej : (m.ths.getD t.toNat th0).calls with
    | nil => exact absurd ej (h2 e)
    | cons j js =>
      obtain ⟨hb, hat⟩ := hm.begin (t := t.toNat) ht (by have := h.recs; dsimp only; omega) (by have := hu.count; dsimp only; omega) ej
      refine hb.step hc hf ?_ hat
      have e1 := hb.i.n
      have e2 := h.n
      omega
  | some x =>
    dsimp only [Option.isNone]
    rw [if_neg (by decide)]
    exact hm.step hc hf (t := t.toNat) ht (p := x.1) (cm := x.2) e
end
end Go.Proofs.YtemaaenipjinaaaGreat
end
section
namespace Go.Proofs.YtemaaenipjinaaaGreat
set_option maxRecDepth 100000
/-- a thread, as it lies -/
structure ThH where
  u : Th
  cv : Value
  qc : HProp
  hc : ListR jbV qc cv u.calls
  Cb : Nat
def thPt : Option (Cp × Cm) → Nat → Value
  | none, _ => .pointer none
  | some _, Cb => .pointer (some ⟨Cb, 0, none⟩)
def thV (x : ThH) : List Value := [x.cv, thPt x.u.at_ x.Cb, .int .i64 (x.u.record : Int), .int .i64 (x.u.count : Int), .int .i64 (x.u.looked : Int)]
theorem thV_len (x : ThH) : (thV x).length = 5 := rfl
def srP (r : SRowH) : HProp := Row (.slice r.2.1 r.1.news.length r.2.2) 22 1 r.1.news.length (u64s r.1.news)
/-- a Sched's own cells -/
def sdV (c : Cfg) (Mb : Nat) (pv : Value) (Tb n cap picks : Nat) (rv wv : Value) : List Value := c.m ++ [.pointer (some ⟨Mb, 0, none⟩), pv, .slice (some ⟨Tb, 0, none⟩) n cap, .int .i64 (picks : Int), rv, wv]
theorem take_sd (c : Cfg) (Mb : Nat) (pv : Value) (Tb n cap picks : Nat) (rv wv : Value) : TakeN 24 (sdV c Mb pv Tb n cap picks rv wv) c.m := TakeN.app c.m _
theorem Tri.with {P : Program} {f : FuncId} {args : Array Value} {L : List HProp} {ι : Type} {vf : ι → Value} {Lf : ι → List HProp} {Φ : ι → Prop} (h : Tri P f args L fun r L' => ∃ x, r = vf x ∧ L' = Lf x) (hp : ∀ x, Φ x) : Tri P f args L fun r L' => ∃ x, Φ x ∧ r = vf x ∧ L' = Lf x :=
  h.mono fun _ _ ⟨x, h1, h2⟩ => ⟨x, hp x, h1, h2⟩
/-- one thread's cells among all threads' -/
theorem th5 {pre post : List Value} {o : Nat} (ho : pre.length = o) (y1 y2 y3 y4 y5 : Value) :
    NthN (o + 0) (pre ++ (y1 :: y2 :: y3 :: y4 :: y5 :: post)) y1 ∧ NthN (o + 1) (pre ++ (y1 :: y2 :: y3 :: y4 :: y5 :: post)) y2 ∧ NthN (o + 2) (pre ++ (y1 :: y2 :: y3 :: y4 :: y5 :: post)) y3 ∧ NthN (o + 3) (pre ++ (y1 :: y2 :: y3 :: y4 :: y5 :: post)) y4 ∧ NthN (o + 4) (pre ++ (y1 :: y2 :: y3 :: y4 :: y5 :: post)) y5 := by
  subst ho
  exact ⟨NthN.zero.app_right _, NthN.zero.succ.app_right _, NthN.zero.succ.succ.app_right _, NthN.zero.succ.succ.succ.app_right _, NthN.zero.succ.succ.succ.succ.app_right _⟩
theorem th5s {pre post : List Value} {o : Nat} (ho : pre.length = o) (y1 y2 y3 y4 y5 v : Value) :
    SetN v (o + 0) (pre ++ (y1 :: y2 :: y3 :: y4 :: y5 :: post)) (pre ++ (v :: y2 :: y3 :: y4 :: y5 :: post)) ∧ SetN v (o + 1) (pre ++ (y1 :: y2 :: y3 :: y4 :: y5 :: post)) (pre ++ (y1 :: v :: y3 :: y4 :: y5 :: post)) ∧ SetN v (o + 2) (pre ++ (y1 :: y2 :: y3 :: y4 :: y5 :: post)) (pre ++ (y1 :: y2 :: v :: y4 :: y5 :: post)) ∧ SetN v (o + 3) (pre ++ (y1 :: y2 :: y3 :: y4 :: y5 :: post)) (pre ++ (y1 :: y2 :: y3 :: v :: y5 :: post)) ∧ SetN v (o + 4) (pre ++ (y1 :: y2 :: y3 :: y4 :: y5 :: post)) (pre ++ (y1 :: y2 :: y3 :: y4 :: v :: post)) := by
  subst ho
  exact ⟨SetN.zero.app_right _, SetN.zero.succ.app_right _, SetN.zero.succ.succ.app_right _, SetN.zero.succ.succ.succ.app_right _, SetN.zero.succ.succ.succ.succ.app_right _⟩
set_option maxHeartbeats 1000000 in
/-- a thread begins its next call -/
theorem begin_t (Sb Mb Tb n cap : Nat) (c : Cfg) (hc : Small c) (pv : Value) (q : HProp) (progs : Progs) (hpv : ProgsR q pv progs) (t : Nat) (o : Nat) (pre post : List Value) (ho : pre.length = o) (j : Jb) (js : List Jb) (cv : Value) (qc : HProp) (hcl : ListR jbV qc cv (j :: js)) (rec cnt lk picks : Nat) (hcnt : cnt ≤ 65536) (recs : List Rec) (hrecs : recs.length ≤ 65536) (rad : Option Addr) (rcap : Nat) (wv : Value) :
    Tri Tryz.prog 97 #[.pointer (some ⟨Sb, 0, none⟩), .int .i64 (t : Int), .pointer (some ⟨Tb, o, none⟩)]
      [bl Sb 188 (sdV c Mb pv Tb n cap picks (.slice rad recs.length rcap) wv), bl Tb 192 (pre ++ (cv :: .pointer none :: .int .i64 (rec : Int) :: .int .i64 (cnt : Int) :: .int .i64 (lk : Int) :: post)), qc, Row (.slice rad recs.length rcap) 116 13 recs.length (recs.flatMap recV), q]
      fun r L => ∃ (Cb : Nat) (cv' : Value) (rad' : Option Addr) (rcap' : Nat), ListR jbV qc cv' js ∧ r = .tuple ⟨[]⟩ ∧
        L = [bl Sb 188 (sdV c Mb pv Tb n cap picks (.slice rad' (recs.length + 1) rcap') wv), bl Tb 192 (pre ++ (cv' :: .pointer (some ⟨Cb, 0, none⟩) :: .int .i64 (recs.length : Int) :: .int .i64 ((cnt : Int) + 1) :: .int .i64 (lk : Int) :: post)), qc,
          Row (.slice rad' (recs.length + 1) rcap') 116 13 (recs.length + 1) (recs.flatMap recV ++ recV ⟨(t : Int), cnt + 1, j, picks, 0, 0, false, 0, 0⟩), ClE Cb c pv (j.cp t (cnt + 1)) q progs (Cm.new (j.cp t (cnt + 1)) progs), q] := by
  have hcl0 := hcl
  obtain ⟨cad, ccap, rfl, _⟩ := hcl0
  have htl := hcl.tail (sz := 5) (jbV_len j)
  obtain ⟨bf, fo, lc, l1, rfl, hrd, hdr, htk⟩ := hcl.at' (sz := 5) jbV_len 0 (Nat.succ_pos _)
  have htk : TakeN 5 l1 (jbV j) := htk
  have hnew := cnew_t c hc pv (j.cp t (cnt + 1)) q progs hpv
  unfold Jb.cp at hnew
  dsimp only at hnew
  rw [show (((cnt + 1 : Nat) : Nat) : Int) = (cnt : Int) + 1 from rfl] at hnew
  unfold jbV g4 at htk
  unfold g4 at hnew
  rw [List.length_cons] at htl ⊢
  obtain ⟨pad, pcap, rfl, _⟩ := hpv
  have hts := take_sd c Mb (.slice pad progs.length pcap) Tb n cap picks (.slice rad recs.length rcap) wv
  have hlr : (recs.flatMap recV).length = recs.length * 13 := flat_len recV_len recs
  generalize hy1 : Value.slice (some ⟨bf, fo, none⟩) (js.length + 1) ccap = y1
  generalize hy2 : Value.slice (tlA (some ⟨bf, fo, none⟩) ccap 5) (js.length + 1 - 1) (ccap - 1) = y2 at htl
  obtain ⟨a0, _, _, _, _⟩ := th5 (post := post) ho y1 (.pointer none) (.int .i64 (rec : Int)) (.int .i64 (cnt : Int)) (.int .i64 (lk : Int))
  obtain ⟨s0, _⟩ := th5s (post := post) ho y1 (.pointer none) (.int .i64 (rec : Int)) (.int .i64 (cnt : Int)) (.int .i64 (lk : Int)) y2
  obtain ⟨_, _, _, b3, _⟩ := th5 (post := post) ho y2 (.pointer none) (.int .i64 (rec : Int)) (.int .i64 (cnt : Int)) (.int .i64 (lk : Int))
  obtain ⟨_, _, _, s3, _⟩ := th5s (post := post) ho y2 (.pointer none) (.int .i64 (rec : Int)) (.int .i64 (cnt : Int)) (.int .i64 (lk : Int)) (.int .i64 ((cnt : Int) + 1))
  obtain ⟨_, _, _, c3, _⟩ := th5 (post := post) ho y2 (.pointer none) (.int .i64 (rec : Int)) (.int .i64 ((cnt : Int) + 1)) (.int .i64 (lk : Int))
  subst hy1 hy2
  have hnew := Tri.with hnew (fun Cb => And.intro (th5s (post := post) ho (.slice (tlA (some ⟨bf, fo, none⟩) ccap 5) (js.length + 1 - 1) (ccap - 1)) (.pointer none) (.int .i64 (rec : Int)) (.int .i64 ((cnt : Int) + 1)) (.int .i64 (lk : Int)) (.pointer (some ⟨Cb, 0, none⟩))).2.1 (And.intro (th5s (post := post) ho (.slice (tlA (some ⟨bf, fo, none⟩) ccap 5) (js.length + 1 - 1) (ccap - 1)) (.pointer (some ⟨Cb, 0, none⟩)) (.int .i64 (rec : Int)) (.int .i64 ((cnt : Int) + 1)) (.int .i64 (lk : Int)) (.int .i64 (recs.length : Int))).2.2.1 (th5 (post := post) ho (.slice (tlA (some ⟨bf, fo, none⟩) ccap 5) (js.length + 1 - 1) (ccap - 1)) (.pointer (some ⟨Cb, 0, none⟩)) (.int .i64 (recs.length : Int)) (.int .i64 ((cnt : Int) + 1)) (.int .i64 (lk : Int))).2.2.2.1))
  refine Tri.of_body (vs := [_, _, _]) Tryz.func97 rfl rfl fun w0 F => ?_
  repeat' (first | refine Ga ?_ | (refine Gb ?_; intro b) | (refine Gd ?_; intro g cap rest hcap) | (refine Gc ?_; intro ad cap) | (refine St.draw (id := 3) [(0, 0), (1, 0), (2, 0), (3, 0), (4, 1), (5, 0), (6, 0), (7, 0), (8, 0), (9, 1), (10, 0), (11, 0), (12, 0), (13, 0), (14, 1), (15, 1), (16, 3), (17, 0), (18, 0), (19, 3)] [16, 19] mixed (by kernel_rfl) ?_) | (refine St.draw (id := 5) [(0, 0), (1, 0), (2, 0), (3, 0), (4, 1), (5, 0), (6, 0), (7, 0), (8, 0), (9, 1), (10, 1), (11, 0), (12, 0), (13, 0), (14, 1), (15, 0), (16, 2), (17, 3), (18, 0), (19, 0), (20, 3)] [17, 20] mixed (by kernel_rfl) ?_) | (refine Gt hnew ?_; rintro _ _ ⟨Cb, ⟨t1, t2, t3⟩, rfl, rfl⟩) | (refine Ge ?_ ?_ <;> (intro h; try (exfalso; omega))) | fail)
  refine St.f1 Tryz.func97 ⟨_, ⟨Cb, _, ad, cap, htl, rfl, rfl⟩, ?_⟩
  exact Ent.go
end Go.Proofs.YtemaaenipjinaaaGreat
end
section
namespace Go.Proofs.YtemaaenipjinaaaGreat
set_option maxRecDepth 100000
def boundN (c : Cfg) : Int := if c.right = true then 5 + 5 * (10 * c.cap + c.threads * (3 * c.fuel + 7) + c.limit + 14) else 0
structure Bd15 (c : Cfg) : Prop where
  small : Small c
  f : 1 ≤ c.fuel ∧ c.fuel ≤ 1000
  p : 0 ≤ c.threads * (3 * c.fuel + 7) ∧ c.threads * (3 * c.fuel + 7) ≤ 24056
theorem bd15 {c : Cfg} (h : c.right = true) : Bd15 c := by
  have hs := Cfg.small h
  have h := of_decide_eq_true h
  have h0 := hs.t0; have h1 := hs.t1
  have f0 : 1 ≤ c.fuel := by omega
  have f1 : c.fuel ≤ 1000 := by omega
  refine ⟨hs, ⟨f0, f1⟩, Int.mul_nonneg (by omega) (by omega), ?_⟩
  have := Int.mul_le_mul (a := c.threads) (b := 3 * c.fuel + 7) (c := 8) (d := 3007) h1 (by omega) (by omega) (by omega)
  omega
theorem bound_r (c : Cfg) : RTri Tryz.prog 28 #[.agg ⟨c.v⟩] [] (.int .i64 (boundN c)) := by
  apply RTri.of_pure
  have hof := of_r c
  unfold Cfg.ofV at hof
  unfold boundN
  cases hr : c.right with
  | true =>
    rw [hr] at hof
    obtain ⟨hc, hf, hp⟩ := bd15 hr
    have hcap := hc.cap; have hlim := hc.limit
    have hcp := cap_r c hc c.fr rfl
    have hlm := limit_r c hc c.fr
    rw [if_pos rfl]
    refine Tri.of_body (vs := [_]) Tryz.func28 rfl rfl fun w0 F => ?_
    repeat' (first | refine Ga ?_ | (refine Gb ?_; intro b) | (refine Gd ?_; intro g cap rest hcap) | (refine Gc ?_; intro ad cap) | (refine St.draw (id := 4) [(0, 1), (1, 1), (2, 0), (3, 0), (4, 1), (5, 0), (6, 1), (7, 0), (8, 0), (9, 0), (10, 0), (11, 1), (12, 1), (13, 0), (14, 0), (15, 0), (16, 0), (17, 0)] [] mixed (by kernel_rfl) ?_)| refine Gl hof ?_ | refine Gl hcp ?_ | refine Gl hlm ?_ | (refine Ge ?_ ?_ <;> (intro h; try (exfalso; omega))) | fail)
    all_goals (first | refine St.dn Tryz.func28 ⟨?_, rfl⟩ Ent.go | refine St.fl Tryz.func28 ⟨?_, rfl⟩ Ent.go)
    all_goals rfl
  | false =>
    rw [hr] at hof
    rw [if_neg (by decide)]
    refine Tri.of_body (vs := [_]) Tryz.func28 rfl rfl fun w0 F => ?_
    repeat' (first | refine Ga ?_ | (refine Gb ?_; intro b) | (refine Gd ?_; intro g cap rest hcap) | (refine Gc ?_; intro ad cap) | (refine St.draw (id := 4) [(0, 1), (1, 1), (2, 0), (3, 0), (4, 1), (5, 0), (6, 1), (7, 0), (8, 0), (9, 0), (10, 0), (11, 1), (12, 1), (13, 0), (14, 0), (15, 0), (16, 0), (17, 0)] [] mixed (by kernel_rfl) ?_)| refine Gl hof ?_ | (refine Ge ?_ ?_ <;> (intro h; try (exfalso; omega))) | fail)
    all_goals (first | refine St.dn Tryz.func28 ⟨?_, rfl⟩ Ent.go | refine St.fl Tryz.func28 ⟨?_, rfl⟩ Ent.go)
    all_goals rfl
end Go.Proofs.YtemaaenipjinaaaGreat
end
section
namespace Go.Proofs.YtemaaenipjinaaaGreat
set_option maxRecDepth 100000
end Go.Proofs.YtemaaenipjinaaaGreat
namespace Go.Proofs.YtemaaenipjinaaaGreat
set_option maxRecDepth 100000
theorem RTri.ex_out {P : Program} {f : FuncId} {args : Array Value} {v : Value} {ι : Type} {Ls : ι → List HProp} {L : List HProp} (h : ∀ x, RTri P f args (Ls x ++ L) v) : RTri P f args (ex Ls :: L) v := by
  unfold RTri at *
  intro w hs
  obtain ⟨x, hs⟩ := sat_ex hs
  exact h x w hs
section
variable (Cb : Nat) (c : Cfg) (pv : Value) (p : Cp) (q : HProp) (progs : Progs) (m : Cm)
theorem cdone_e : RTri Tryz.prog 20 #[.pointer (some ⟨Cb, 0, none⟩)] [ClE Cb c pv p q progs m] (.bool (decide (m.s.next = 13))) := RTri.ex_out fun a => (cdone_r Cb c pv p a.1 a.2 m.s).ent (by unfold clL; exact Ent.go)
theorem cresult_e : RTri Tryz.prog 25 #[.pointer (some ⟨Cb, 0, none⟩)] [ClE Cb c pv p q progs m] (.agg ⟨[.int .i64 m.s.rc, .int .u64 (m.s.rv : Int)]⟩) := RTri.ex_out fun a => (cresult_r Cb c pv p a.1 a.2 m.s).ent (by unfold clL; exact Ent.go)
theorem clooked_e : RTri Tryz.prog 21 #[.pointer (some ⟨Cb, 0, none⟩)] [ClE Cb c pv p q progs m] (.bool m.s.fresh) := RTri.ex_out fun a => (clooked_r Cb c pv p a.1 a.2 m.s).ent (by unfold clL; exact Ent.go)
theorem calone_e : RTri Tryz.prog 26 #[.pointer (some ⟨Cb, 0, none⟩)] [ClE Cb c pv p q progs m] (.bool m.s.alone) := RTri.ex_out fun a => (calone_r Cb c pv p a.1 a.2 m.s).ent (by unfold clL; exact Ent.go)
end
def ca15 : List Ins := [⟨8, 1, 0, 0, 0⟩, ⟨10, 1, 2, 0, 0⟩, ⟨20, 1, 0, 0, 0⟩]
end Go.Proofs.YtemaaenipjinaaaGreat
end
section
namespace Go.Proofs.YtemaaenipjinaaaGreat
/-- just this memory -/
def frz (H : Hp) : HProp := fun h => h = H
theorem sat_frz {p : HProp} {L : List HProp} {h : Hp} (hs : Sat (p :: L) h) : ∃ H, p H ∧ Sat (frz H :: L) h := by
  rw [sat_cons] at hs
  obtain ⟨h1, h2, hd, hu, hp, hL⟩ := hs
  exact ⟨h1, hp, sat_cons.2 ⟨h1, h2, hd, hu, rfl, hL⟩⟩
theorem St.frz {P : Program} {C : Cx} {k : List Item} {E : Env} {p : HProp} {L : List HProp} (h : ∀ H, p H → St P C k E (Go.Proofs.YtemaaenipjinaaaGreat.frz H :: L)) : St P C k E (p :: L) := by
  unfold St at *
  intro a w ha hs ho
  obtain ⟨H, hp, hs⟩ := sat_frz hs
  exact h H hp a w ha hs ho
theorem Tri.frz {P : Program} {g : FuncId} {args : Array Value} {Q : Value → List HProp → Prop} {p : HProp} {L : List HProp} (h : ∀ H, p H → Tri P g args (Go.Proofs.YtemaaenipjinaaaGreat.frz H :: L) Q) : Tri P g args (p :: L) Q := by
  unfold Tri at *
  intro w F hs
  obtain ⟨H, hp, hs⟩ := sat_frz hs
  exact h H hp w F hs
theorem RdC.frz {H : Hp} {L : List HProp} {b : Nat} {l : List Value} (hs : Sat L H) (r : ReadsC L b l) : RdC (Go.Proofs.YtemaaenipjinaaaGreat.frz H) b l :=
  RdC.of_sat (p := Go.Proofs.YtemaaenipjinaaaGreat.frz H) (fun k hk => by rw [show k = H from hk]; exact hs) r
theorem star_sat {L : List HProp} {H : Hp} (h : star L H) : Sat L H := by
  obtain ⟨_, h⟩ := h
  exact h
theorem sat_mem {L : List HProp} {p : HProp} {H : Hp} (hs : Sat L H) (hp : p ∈ L) : ∃ M, Sat (p :: M) H := by
  obtain ⟨A, B, rfl⟩ := List.append_of_mem hp
  have h : Ent (A ++ p :: B) (p :: (A ++ B)) := Ent.mid'
  unfold Ent at h
  exact ⟨_, h _ hs⟩
/-- a slice within it can be read -/
theorem ListR.frz {α : Type} {f : α → List Value} {v : Value} {e sz n : Nat} {xs : List α} {L : List HProp} {H : Hp} (hn : xs.length = n) (hs : Sat L H) (hp : Row v e sz n (xs.flatMap f) ∈ L) : ListR f (Go.Proofs.YtemaaenipjinaaaGreat.frz H) v xs := by
  obtain ⟨M, hs⟩ := sat_mem hs hp
  obtain ⟨R, hR, hs⟩ := sat_rowL hn hs
  exact hR.weak fun b l hr => RdC.frz hs (.here hr)
/-! drawn regions with stores -/
theorem St.drawTo {P : Program} {C : Cx} {k : List Item} {E : Env} {L L0 : List HProp} {id : Nat} {l : List Oper} (acts : List (Nat × Nat)) (T : Then) (bs : List Nat) (hm : P.follows .mixedOrders = true)
    (hok : (Region.noSelect l.toArray && okA l.toArray bs (okT l.toArray bs T true) acts l.toArray.size (Array.replicate l.toArray.size false)) = true)
    (h : StD P C l.toArray L0 T acts k E L) : St P C (.code (.region id l.toArray true) :: k) E L := by
  unfold St
  unfold StD at h
  intro a w ha hs ho
  simp only [Bool.and_eq_true] at hok
  refine fin_of_wp (wp_region_any hm (wpAny_of_anyP (bs := bs) (S := fun w => Sat L0 (hpOf w)) _ _ _ _ ?_))
  exact anyP_of_runK (P := P) (w0 := C.w0) (S := fun w => Sat L0 (hpOf w)) qk_noOut hok.1 (fun w w' hg hs => hg.sat hs) (fun n l a h w hb hd hk ho hr => (anyP_of_runT (w0 := C.w0) qk_noOut hok.1 (fun w w' hg hs => hg.sat hs) T).1 n l a h w hb hd hk ho hr) acts _ _ a (hpOf w) { w with drawn := w.drawn + 1 } hok.2 (Dn.none _) (fun _ _ h => h) ⟨ho.os, ho.tape, ho.output⟩ (h a (hpOf w) ha hs)
theorem Zq {P : Program} {C : Cx} {k : List Item} {E : Env} {L L0 L1 : List HProp} {ops : Array Oper} {T : Then} {r : List (Nat × Nat)} {i : Nat} {op : Op} {ty : TypeId} {ps : String} {af : Array Edge} {e : Option Tmp} {v : Value} (hi : ops[i]? = some ⟨e, op, ty, ps, af, none⟩) (ho : OpOk P C.nt op ty E L (fun v' L' => v' = v ∧ L' = L1) ∧ inF C.nt e = true) (qL : Ent L1 L0) (h : StD P C ops L0 T r k (putE E e v) L1) : StD P C ops L0 T ((i, 2) :: r) k E L := StD.ok2 hi ho.1 ho.2 (by rintro _ _ ⟨rfl, rfl⟩; exact ⟨qL, h⟩)
end Go.Proofs.YtemaaenipjinaaaGreat
end
