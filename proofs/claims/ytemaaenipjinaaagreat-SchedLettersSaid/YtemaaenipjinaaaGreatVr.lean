/-
  Package build, sealed; a memory, sealed; package tumblerlaw14: few. Package tumblerlaw14: want, plan. Package tumblerlaw14: alive. Package help: a transaction that is begun is done; package scribe: a log is written: their numbers, in plain terms. Package check: Reads.
-/
import Derived.Test.YtemaaenipjinaaaGreatBj
import Derived.Test.YtemaaenipjinaaaGreatBoot
import Derived.Test.YtemaaenipjinaaaGreatJc
section
namespace Go.Proofs.YtemaaenipjinaaaGreat
set_option maxRecDepth 100000
/-- a Build -/
def Bd (B : Nat) (c : Cfg) (pv : Value) (q : HProp) (progs : Progs) (m : Bm) : HProp := BdE B c.cap.toNat c pv q progs m
theorem bnew_t (c : Cfg) (hc : Small c) (pv : Value) (q : HProp) (progs : Progs) (who : Int) (seq : Nat) (hpv : ProgsR q pv progs) : Tri Tryz.prog 134 #[.agg ⟨c.m⟩, .int .i64 who, .int .u64 (seq : Int), pv] [] fun r L => ∃ B, r = .pointer (some ⟨B, 0, none⟩) ∧ L = [Bd B c pv q progs (Bm.new who seq)] := bnew_tE c hc who seq pv q progs hpv
theorem btell_t (B : Nat) (c : Cfg) (hc : Small c) (pv : Value) (q : HProp) (progs : Progs) (m : Bm) (hf : 0 ≤ c.fuel ∧ c.fuel ≤ 1000) (hpv : ProgsR q pv progs) (hi : Binv c progs m) (o : Out) : Tri Tryz.prog 304 #[.pointer (some ⟨B, 0, none⟩), .agg ⟨o.v⟩] [Bd B c pv q progs m, q]
    fun r L => r = .tuple ⟨[]⟩ ∧ L = [Bd B c pv q progs (m.tell c c.cap.toNat progs o), q] := btell_tE B c hc hf pv q progs hpv m hi o
theorem bstatus_r (B : Nat) (c : Cfg) (pv : Value) (q : HProp) (progs : Progs) (m : Bm) : RTri Tryz.prog 188 #[.pointer (some ⟨B, 0, none⟩)] [Bd B c pv q progs m] (.int .i64 m.b.s) := bstatus_rE B c.cap.toNat c pv q progs m
theorem bask_r (B : Nat) (c : Cfg) (hc : Small c) (pv : Value) (q : HProp) (progs : Progs) (m : Bm) (hi : Binv c progs m) : RTri Tryz.prog 303 #[.pointer (some ⟨B, 0, none⟩)] [Bd B c pv q progs m] (.tuple ⟨[.agg ⟨(m.ask c).1.v⟩, .bool (m.ask c).2]⟩) := bask_rE B c hc pv q progs m hi
theorem bentries_t (B : Nat) (c : Cfg) (hc : Small c) (pv : Value) (q : HProp) (progs : Progs) (m : Bm) (hi : Binv c progs m) : Tri Tryz.prog 136 #[.pointer (some ⟨B, 0, none⟩)] [Bd B c pv q progs m]
    fun r L => ∃ ad cap, r = .slice ad (entriesOf c m.e.puts).length cap ∧ L = [Bd B c pv q progs m, Row (.slice ad (entriesOf c m.e.puts).length cap) 314 2 (entriesOf c m.e.puts).length ((entriesOf c m.e.puts).flatMap entV)] :=
  bentries_tE B c.cap.toNat c hc pv q progs m (by have := hi.len; omega)
theorem brows_t (B : Nat) (c : Cfg) (hc : Small c) (pv : Value) (q : HProp) (progs : Progs) (m : Bm) (hi : Binv c progs m) : Tri Tryz.prog 76 #[.pointer (some ⟨B, 0, none⟩)] [Bd B c pv q progs m]
    fun r L => ∃ (ad : Option Addr) (cap : Nat) (rs : List RowH), rs.map (·.1) = m.rows ∧ r = .slice ad m.rows.length cap ∧ L = [Bd B c pv q progs m, Row (.slice ad m.rows.length cap) 83 5 m.rows.length (rs.flatMap rowV), star (rs.map rowP)] :=
  brows_tE B c.cap.toNat c pv q progs m (by have := hi.rows; have := hi.u; have := hc.t1; omega) (fun r hr => (hi.gen.news r hr).1)
attribute [irreducible] Bd
/-- a memory -/
structure Pm where
  cs : List Cell
  st : List Int
  tr : List Ev
def Pm.do (M : Pm) (who : Int) (o : MOp) : Pm × Out :=
  if checkOf M.cs.length who o ≠ 0 then (M, ⟨⟨0, 0⟩, false⟩) else
  (⟨M.cs.set o.at_.toNat (becomes (M.cs.getD o.at_.toNat ⟨0, 0⟩) o), M.st.set who.toNat (IntKind.i64.wrap (M.st.getD who.toNat 0 + 1)), M.tr ++ [⟨who, o, outOf (M.cs.getD o.at_.toNat ⟨0, 0⟩) o⟩]⟩, outOf (M.cs.getD o.at_.toNat ⟨0, 0⟩) o)
theorem Pm.do_len (M : Pm) (who : Int) (o : MOp) : (M.do who o).1.cs.length = M.cs.length ∧ (M.do who o).1.st.length = M.st.length ∧ (M.do who o).1.tr.length ≤ M.tr.length + 1 := by
  unfold Pm.do; split
  · exact ⟨rfl, rfl, Nat.le_succ _⟩
  · exact ⟨List.length_set, List.length_set, by rw [List.length_append]; exact Nat.le_refl _⟩
def mmL (Mb C : Nat) (M : Pm) (tv : Value) : List HProp := [bl Mb 180 (memV C M.cs.length M.st tv), bl C 43 (M.cs.flatMap Cell.v), Row tv 184 10 M.tr.length (M.tr.flatMap Ev.v)]
def Mm (Mb C : Nat) (M : Pm) : HProp := ex (mmL Mb C M)
theorem Ent.mm (Mb C : Nat) (M : Pm) (tv : Value) {L : List HProp} : Ent (bl Mb 180 (memV C M.cs.length M.st tv) :: bl C 43 (M.cs.flatMap Cell.v) :: Row tv 184 10 M.tr.length (M.tr.flatMap Ev.v) :: L) (Mm Mb C M :: L) := Ent.ex_in (Ls := mmL Mb C M) tv
theorem mdo_t (Mb C : Nat) (M : Pm) (hst : M.st.length = 8) (htr : M.tr.length ≤ 1000000) (who : Int) (o : MOp) : Tri Tryz.prog 39 #[.pointer (some ⟨Mb, 0, none⟩), .int .i64 who, .agg ⟨o.v⟩] [Mm Mb C M]
    fun v L => ∃ e, v = .tuple ⟨[.agg ⟨(M.do who o).2.v⟩, .int .i64 e]⟩ ∧ L = [Mm Mb C (M.do who o).1] := by
  refine Tri.ex_out fun tv => ?_
  have h := do_t Mb C M.cs M.st hst tv M.tr htr who o
  unfold Tri at h ⊢
  intro w F hs
  refine (h w F hs).mono ?_
  rintro e w' ⟨v, L, he, hq, hs', ho⟩
  have fin : ∀ (M' : Pm) (tv' : Value), Sat ([bl Mb 180 (memV C M'.cs.length M'.st tv'), bl C 43 (M'.cs.flatMap Cell.v), Row tv' 184 10 M'.tr.length (M'.tr.flatMap Ev.v)] ++ F) (hpOf w') → Sat ([Mm Mb C M'] ++ F) (hpOf w') := fun M' tv' h => by
    have := Ent.mm Mb C M' tv' (L := F)
    unfold Ent at this
    exact this _ h
  rcases hq with ⟨h1, rfl, rfl⟩ | ⟨h1, hat, hw, tv', rfl, rfl⟩
  · have e1 : M.do who o = (M, ⟨⟨0, 0⟩, false⟩) := by unfold Pm.do; rw [if_pos h1]
    refine ⟨_, _, he, ⟨checkOf M.cs.length who o, by rw [e1], rfl⟩, ?_, ho⟩
    rw [e1]; exact fin M tv hs'
  · have e1 : M.do who o = (⟨M.cs.set o.at_.toNat (becomes M.cs[o.at_.toNat] o), M.st.set who.toNat (IntKind.i64.wrap (M.st[who.toNat] + 1)), M.tr ++ [⟨who, o, outOf M.cs[o.at_.toNat] o⟩]⟩, outOf M.cs[o.at_.toNat] o) := by
      unfold Pm.do
      rw [if_neg (by simpa using h1), List.getD_eq_getElem?_getD, List.getElem?_eq_getElem hat, List.getD_eq_getElem?_getD, List.getElem?_eq_getElem hw]
      rfl
    refine ⟨_, _, he, ⟨0, by rw [e1], rfl⟩, ?_, ho⟩
    rw [e1]
    refine fin _ tv' ?_
    dsimp only
    rw [List.length_set, List.length_append]
    exact hs'
theorem sat_rowv {v : Value} {n e sz : Nat} {xs : List Value} {L L1 : List HProp} {h : Hp} (hs : Sat L h) (t : Take (Row v e sz n xs) L L1) : ∃ ad cap, v = .slice ad n cap := by
  have h1 := t.sat hs
  obtain ⟨h1, h2, hd, hu, hR, _⟩ := sat_cons.1 h1
  unfold Row at hR
  obtain ⟨_, ⟨hv, h0⟩ | ⟨g, cap', cur, hv, _⟩⟩ := hR
  · exact ⟨none, 0, by rw [hv, h0]⟩
  · exact ⟨_, _, hv⟩
theorem mtotal_r (Mb C : Nat) (M : Pm) (hst : M.st.length = 8) : RTri Tryz.prog 53 #[.pointer (some ⟨Mb, 0, none⟩)] [Mm Mb C M] (.int .i64 (M.tr.length : Int)) := by
  refine RTri.of_exact fun W0 hs => ?_
  obtain ⟨tv, hs⟩ := sat_ex hs
  obtain ⟨ad, cap, rfl⟩ := sat_rowv hs (.there (.there .here))
  have hM := RdC.exact hs (ReadsC.here RdC.bl)
  have hn := NthN.trace hst C M.cs.length (.slice ad M.tr.length cap)
  refine Tri.of_body (vs := [_]) Tryz.func53 rfl rfl fun w0 F => ?_
  repeat' (first | refine Ga ?_ | (refine Gb ?_; intro b) | (refine Gd ?_; intro g cap rest hcap) | (refine Gc ?_; intro ad cap)  | (refine Ge ?_ ?_ <;> (intro h; try (exfalso; omega))) | fail)
  (first | refine St.dn Tryz.func53 ⟨?_, rfl⟩ Ent.go | refine St.fl Tryz.func53 ⟨?_, rfl⟩ Ent.go)
  rfl
/-- programs that can be read, however many -/
def ProgsG (q : HProp) (pv : Value) (progs : Progs) : Prop :=
  ∃ pad pcap, pv = .slice pad progs.length pcap ∧ progs.length ≤ 9223372036854775807 ∧ ∀ (i : Nat) (h : i < progs.length), ∃ b o l cv, pad = some ⟨b, o, none⟩ ∧ RdC q b l ∧ NthN (o + (i : Int).toNat * 1) l cv ∧ InsR q cv progs[i]
theorem InsR.of {p q : HProp} {cv : Value} {code : List Ins} (h : InsR q cv code) (hq : ∀ {b : Nat} {l : List Value}, RdC q b l → RdC p b l) : InsR p cv code := by
  obtain ⟨ad, cap, h1, h2 | ⟨b, o, l, rest, h3, h4, h5⟩⟩ := h
  · exact ⟨ad, cap, h1, .inl h2⟩
  · exact ⟨ad, cap, h1, .inr ⟨b, o, l, rest, h3, hq h4, h5⟩⟩
theorem ProgsG.of {p q : HProp} {pv : Value} {progs : Progs} (h : ProgsG q pv progs) (hq : ∀ {b : Nat} {l : List Value}, RdC q b l → RdC p b l) : ProgsG p pv progs := by
  obtain ⟨pad, pcap, h1, h2, h3⟩ := h
  refine ⟨pad, pcap, h1, h2, fun i hi => ?_⟩
  obtain ⟨b, o, l, cv, h4, h5, h6, h7⟩ := h3 i hi
  exact ⟨b, o, l, cv, h4, hq h5, h6, h7.of hq⟩
def short14 (progs : Progs) : Bool := progs.all fun p => decide (p.length ≤ 40)
attribute [irreducible] Mm
end Go.Proofs.YtemaaenipjinaaaGreat
namespace Go.Proofs.YtemaaenipjinaaaGreat
set_option maxRecDepth 100000
section idx
variable {P : Program} {n' : Fi} {E : Env} {L : List HProp} {ty : TypeId}
end idx
end Go.Proofs.YtemaaenipjinaaaGreat
namespace Go.Proofs.YtemaaenipjinaaaGreat
set_option maxRecDepth 100000
def blkV (l : Value × Unit) : Value := l.1
instance : MapTy Tryz.prog 168 Int (Value × Unit) (Value.int .u64) blkV (.agg #[.int .u64 0, .int .u64 0, .int .u64 0, .int .u64 0, .int .u64 0, .int .u64 0, .int .u64 0, .int .u64 0], ()) :=
  MapTy.int Tryz.underlying168 Tryz.underlying22 (inferInstance : Zer Tryz.prog 268 _).h
theorem mnew_t : Tri Tryz.prog 33 #[] [] fun r L => (∃ S, r = .pointer (some ⟨S, 0, none⟩)) ∧ L = [] := by
  refine Tri.of_body (vs := []) Tryz.func33 rfl rfl fun w0 F => ?_
  repeat' (first | refine Ga ?_ | (refine Gb ?_; intro b) | (refine Gd ?_; intro g cap rest hcap) | (refine Gc ?_; intro ad cap)  | (refine Ge ?_ ?_ <;> (intro h; try (exfalso; omega))) | fail)
  refine St.d1 Tryz.func33 ⟨_, ⟨⟨_, rfl⟩, rfl⟩, ?_⟩
  exact Ent.go
theorem Tri.wk {P : Program} {f : FuncId} {args : Array Value} {L : List HProp} {Q Q' : Value → List HProp → Prop} (h : Tri P f args L Q) (hq : ∀ v L', Q v L' → ∃ M, Q' v M ∧ Ent L' M) : Tri P f args L Q' := by
  unfold Tri at *
  intro w F hs
  refine (h w F hs).mono ?_
  rintro e w' ⟨v, L', he, h1, hs', ho⟩
  obtain ⟨M, h2, h3⟩ := hq v L' h1
  have := h3.app (N := F)
  unfold Ent at this
  exact ⟨v, M, he, h2, this _ hs', ho⟩
theorem bootm_t (c : Cfg) (hc : Small c) : Tri Tryz.prog 32 #[.agg ⟨c.m⟩] [] fun v L => ∃ M C, v = .pointer (some ⟨M, 0, none⟩) ∧ L = [Mm M C ⟨c.boot, zeros8, []⟩] := by
  refine (boot_t c hc).wk ?_
  rintro v L' ⟨M, C, rfl, rfl⟩
  refine ⟨_, ⟨M, C, rfl, rfl⟩, ?_⟩
  have hl : c.boot.length = c.size := c.bootN_len _
  have := Ent.mm M C ⟨c.boot, zeros8, []⟩ (.slice none 0 0) (L := [])
  dsimp only at this
  rw [hl] at this
  refine Ent.trans ?_ this
  refine Ent.trans (Ent.row_nil 184 10) ?_
  exact Ent.go
theorem St.gather {P : Program} {C : Cx} {k : List Item} {E : Env} {L ps Lr : List HProp} (t : Takes ps L Lr) (h : St P C k E (star ps :: Lr)) : St P C k E L :=
  h.conv (Sub.refl _) (t.ent.trans (Ent.star_in ps))
end Go.Proofs.YtemaaenipjinaaaGreat
end
section
namespace Go.Proofs.YtemaaenipjinaaaGreat
set_option maxRecDepth 100000
theorem beq_dec {a b : Int} : (a == b) = decide (a = b) := by rw [Bool.eq_iff_iff]; simp
/-- a Help's own numbers -/
structure Hm where
  who : Int
  owner : Int
  seq : Nat
  list : List (Int × Nat)
  n : Int
  k : Int
  held : Int
  cell : Cell
  next : Int
/-- the first entry of a cell that transactions write -/
def Hm.entryL (c : Cfg) (h : Hm) : List (Int × Nat) → Nat → Hm
  | [], _ => { h with next := 7 }
  | e :: r, k => if (c.what e.1).1 < 7 then Hm.entryL c h r (k + 1) else { h with k := (k : Int), next := if (c.what e.1).1 = 16 ∧ (c.what e.1).2.1 ≠ h.held then 3 else 5 }
def Hm.entry (c : Cfg) (h : Hm) (k : Nat) : Hm := h.entryL c (h.list.drop k) k
def Hm.read (h : Hm) : Hm := if (h.list.length : Int) = h.n then { h with next := 2 } else { h with next := 1 }
def Hm.unless (h : Hm) (is : Bool) : Hm := if is then h else { h with next := 8 }
def placeOf (seq : Nat) : Int := if 65536 ≤ seq then -1 else seq
def Hm.at_ (h : Hm) : Int × Nat := h.list.getD h.k.toNat (0, 0)
def Hm.tell (c : Cfg) (h : Hm) (o : Out) : Hm :=
  if h.next = 0 then Hm.read { h with n := if c.cap < (o.was.val : Int) then c.cap else (o.was.val : Int) } else
  if h.next = 1 then Hm.read { h with list := h.list ++ [(placeOf o.was.seq, o.was.val)] } else
  if h.next = 2 then (h.entry c 0).unless (decide (o.was = ⟨1, h.seq⟩)) else
  if h.next = 3 then { h with held := -1, next := 4 } else
  if h.next = 4 then Hm.unless { h with held := (c.what h.at_.1).2.1, next := 5 } (decide (o.was = ⟨1, h.seq⟩)) else
  if h.next = 5 then (if h.seq ≤ o.was.seq then Hm.entry c { h with cell := o.was, next := 6 } (h.k + 1).toNat else { h with cell := o.was, next := 6 }) else
  if h.next = 6 then h.entry c (h.k + 1).toNat else
  if h.next = 7 then { h with next := 8 } else h
def Hm.ask (c : Cfg) (h : Hm) : MOp × Bool :=
  if h.next = 0 then (mop 0 (c.at 5 h.owner 0) 0, true) else
  if h.next = 1 then (mop 0 (c.at 6 h.owner h.list.length) 0, true) else
  if h.next = 2 ∨ h.next = 4 then (mop 0 (c.at 4 h.owner 0) 0, true) else
  if h.next = 3 then (mop 1 (c.at 3 h.who 0) ((c.what h.at_.1).2.1 + 1).toNat, true) else
  if h.next = 5 then (mop 0 h.at_.1 0, true) else
  if h.next = 6 then (⟨2, h.at_.1, h.cell, ⟨h.at_.2, h.seq⟩⟩, true) else
  if h.next = 7 then (⟨2, c.at 4 h.owner 0, ⟨1, h.seq⟩, ⟨0, h.seq⟩⟩, true) else (mop 0 0 0, false)
def Hm.new (who owner : Int) (seq : Nat) : Hm := ⟨who, owner, seq, [], 0, 0, -1, ⟨0, 0⟩, 0⟩
def Hm.own (c : Cfg) (who : Int) (seq : Nat) (list : List (Int × Nat)) : Hm := Hm.entry c ⟨who, who, seq, list, 0, 0, -1, ⟨0, 0⟩, 0⟩ 0
/-- what holds of a Help -/
structure Hinv (c : Cfg) (h : Hm) : Prop where
  n0 : 0 ≤ h.n
  n1 : h.n ≤ 1000000
  l : h.list.length ≤ 1000000
  ln : h.next = 1 → (h.list.length : Int) < h.n
  nx : 0 ≤ h.next ∧ h.next ≤ 8
  k : 3 ≤ h.next ∧ h.next ≤ 6 → 0 ≤ h.k ∧ h.k < h.list.length
  w : h.next = 3 ∨ h.next = 4 → (c.what h.at_.1).1 = 16
theorem entryL_inv {c : Cfg} {h : Hm} (h0 : 0 ≤ h.n) (h1 : h.n ≤ 1000000) (hl : h.list.length ≤ 1000000) : ∀ (l : List (Int × Nat)) (k : Nat), h.list.drop k = l → Hinv c (h.entryL c l k)
  | [], k, _ => ⟨h0, h1, hl, fun h => (by cases h), ⟨by show (0 : Int) ≤ 7; decide, by show (7 : Int) ≤ 8; decide⟩, fun h => (by have h : (3 : Int) ≤ 7 ∧ (7 : Int) ≤ 6 := h; omega), fun h => (by have h : (7 : Int) = 3 ∨ (7 : Int) = 4 := h; omega)⟩
  | e :: r, k, hd => by
    have hk : k < h.list.length := by
      rcases Nat.lt_or_ge k h.list.length with hk | hk
      · exact hk
      · rw [List.drop_eq_nil_of_le hk] at hd; cases hd
    rw [List.drop_eq_getElem_cons hk] at hd
    injection hd with he hr
    unfold Hm.entryL
    split
    · exact entryL_inv h0 h1 hl r (k + 1) hr
    · have hx : ∀ x : Int, x = (if (c.what e.1).1 = 16 ∧ (c.what e.1).2.1 ≠ h.held then 3 else 5) → x = 3 ∧ (c.what e.1).1 = 16 ∨ x = 5 := by
        intro x e1
        split at e1
        · exact .inl ⟨e1, (by next h => exact h.1)⟩
        · exact .inr e1
      generalize (if (c.what e.1).1 = 16 ∧ (c.what e.1).2.1 ≠ h.held then (3 : Int) else 5) = x at hx
      have hx := hx x rfl
      refine ⟨h0, h1, hl, fun h => ?_, ⟨?_, ?_⟩, fun _ => ⟨?_, ?_⟩, fun hw => ?_⟩
      · have h : x = 1 := h
        omega
      · show 0 ≤ x; omega
      · show x ≤ 8; omega
      · show (0 : Int) ≤ (k : Int); omega
      · show (k : Int) < (h.list.length : Int); omega
      · have hw : x = 3 ∨ x = 4 := hw
        show (c.what (h.list.getD (k : Int).toNat (0, 0)).1).1 = 16
        rw [Int.toNat_natCast, List.getD_eq_getElem?_getD, List.getElem?_eq_getElem hk, he]
        show (c.what e.1).1 = 16
        omega
theorem entry_inv {c : Cfg} {h : Hm} (h0 : 0 ≤ h.n) (h1 : h.n ≤ 1000000) (hl : h.list.length ≤ 1000000) (k : Nat) : Hinv c (h.entry c k) := entryL_inv h0 h1 hl _ k rfl
theorem Hinv.unless {c : Cfg} {h : Hm} (hi : Hinv c h) (is : Bool) : Hinv c (h.unless is) := by
  unfold Hm.unless
  split
  · exact hi
  · exact ⟨hi.n0, hi.n1, hi.l, fun h => (by cases h), ⟨by show (0 : Int) ≤ 8; decide, by show (8 : Int) ≤ 8; decide⟩, fun h => (by have h : (3 : Int) ≤ 8 ∧ (8 : Int) ≤ 6 := h; omega), fun h => (by have h : (8 : Int) = 3 ∨ (8 : Int) = 4 := h; omega)⟩
theorem read_inv {c : Cfg} {h : Hm} (h0 : 0 ≤ h.n) (h1 : h.n ≤ 1000000) (hl : (h.list.length : Int) ≤ h.n) : Hinv c h.read := by
  unfold Hm.read
  split
  · exact ⟨h0, h1, by show h.list.length ≤ _; omega, fun h => (by cases h), ⟨by show (0 : Int) ≤ 2; decide, by show (2 : Int) ≤ 8; decide⟩, fun h => (by have h : (3 : Int) ≤ 2 ∧ (2 : Int) ≤ 6 := h; omega), fun h => (by have h : (2 : Int) = 3 ∨ (2 : Int) = 4 := h; omega)⟩
  · exact ⟨h0, h1, by show h.list.length ≤ _; omega, fun _ => (by show (h.list.length : Int) < h.n; omega), ⟨by show (0 : Int) ≤ 1; decide, by show (1 : Int) ≤ 8; decide⟩, fun h => (by have h : (3 : Int) ≤ 1 ∧ (1 : Int) ≤ 6 := h; omega), fun h => (by have h : (1 : Int) = 3 ∨ (1 : Int) = 4 := h; omega)⟩
/-- a log that is read is no longer than was told -/
theorem Hinv.tell {c : Cfg} (hc0 : 0 ≤ c.cap) (hc1 : c.cap ≤ 1000000) {h : Hm} (hi : Hinv c h) (h00 : h.next = 0 → h.list = []) (o : Out) : Hinv c (h.tell c o) := by
  unfold Hm.tell
  split
  · next e =>
    refine read_inv ?_ ?_ ?_
    · show (0 : Int) ≤ if _ then _ else _; split <;> omega
    · show (if _ then _ else _ : Int) ≤ 1000000; split <;> omega
    · show ((h.list.length : Nat) : Int) ≤ if _ then _ else _; rw [h00 e]; show (0 : Int) ≤ _; split <;> omega
  split
  · next e =>
    have := hi.ln e
    refine read_inv hi.n0 hi.n1 ?_
    show ((List.length (_ ++ [_]) : Nat) : Int) ≤ h.n
    rw [List.length_append, List.length_singleton]; omega
  split
  · exact (entry_inv hi.n0 hi.n1 hi.l 0).unless _
  split
  · next e =>
    have hk := hi.k (by omega)
    have hw := hi.w (.inl e)
    exact ⟨hi.n0, hi.n1, hi.l, fun h => (by cases h), ⟨by show (0 : Int) ≤ 4; decide, by show (4 : Int) ≤ 8; decide⟩, fun _ => hk, fun _ => hw⟩
  split
  · next e =>
    have hk := hi.k (by omega)
    refine Hinv.unless (h := { h with held := (c.what h.at_.1).2.1, next := 5 }) ⟨hi.n0, hi.n1, hi.l, fun h => (by cases h), ⟨by show (0 : Int) ≤ 5; decide, by show (5 : Int) ≤ 8; decide⟩, fun _ => hk, fun h => (by have h : (5 : Int) = 3 ∨ (5 : Int) = 4 := h; omega)⟩ _
  split
  · next e =>
    have hk := hi.k (by omega)
    split
    · exact entry_inv (h := { h with cell := o.was, next := 6 }) hi.n0 hi.n1 hi.l _
    · exact ⟨hi.n0, hi.n1, hi.l, fun h => (by cases h), ⟨by show (0 : Int) ≤ 6; decide, by show (6 : Int) ≤ 8; decide⟩, fun _ => hk, fun h => (by have h : (6 : Int) = 3 ∨ (6 : Int) = 4 := h; omega)⟩
  split
  · exact entry_inv hi.n0 hi.n1 hi.l _
  split
  · exact ⟨hi.n0, hi.n1, hi.l, fun h => (by cases h), ⟨by show (0 : Int) ≤ 8; decide, by show (8 : Int) ≤ 8; decide⟩, fun h => (by have h : (3 : Int) ≤ 8 ∧ (8 : Int) ≤ 6 := h; omega), fun h => (by have h : (8 : Int) = 3 ∨ (8 : Int) = 4 := h; omega)⟩
  · exact hi
/-- a Scribe's own numbers -/
structure Sm where
  who : Int
  seq : Nat
  list : List (Int × Nat)
  done : Nat
def Sm.over (s : Sm) : Bool := decide (s.list.length + 1 < s.done)
def Sm.ask (c : Cfg) (s : Sm) : MOp × Bool :=
  if s.list.length + 1 < s.done then (mop 0 0 0, false) else
  if s.done < s.list.length then (⟨1, c.at 6 s.who s.done, ⟨0, 0⟩, ⟨(s.list.getD s.done (0, 0)).2, (IntKind.u64.wrap (s.list.getD s.done (0, 0)).1).toNat⟩⟩, true) else
  if s.done = s.list.length then (⟨1, c.at 5 s.who 0, ⟨0, 0⟩, ⟨s.list.length, 0⟩⟩, true) else (⟨1, c.at 4 s.who 0, ⟨0, 0⟩, ⟨1, s.seq⟩⟩, true)
def Sm.tell (s : Sm) : Sm := if s.list.length + 1 < s.done then s else { s with done := s.done + 1 }
def Sm.new (c : Cfg) (who : Int) (seq : Nat) (list : List (Int × Nat)) : Sm := ⟨who, seq, list.take (min list.length c.cap.toNat), 0⟩
end Go.Proofs.YtemaaenipjinaaaGreat
end
section
namespace Go.Proofs.YtemaaenipjinaaaGreat
set_option maxRecDepth 100000
def wrB (i : Ins) : Bool := decide (i.op = 10 ∨ i.op = 13 ∨ i.op = 14 ∨ i.op = 15 ∨ i.op = 16)
def onlyB (code : List Ins) : Bool := code.all (fun i => !wrB i) && rightB code
theorem drop_cons' {α : Type} {l : List α} {k : Nat} (h : k < l.length) : l.drop k = l[k] :: l.drop (k + 1) := by simp
set_option maxHeartbeats 1000000 in
theorem reads_r (q : HProp) (cv : Value) (code : List Ins) (hcv : InsR q cv code) (hl : code.length ≤ 9223372036854775807) : RTri Tryz.prog 36 #[cv] [q] (.bool (onlyB code)) := by
  refine RTri.of_reads fun p hp => ?_
  have hins : InsR p cv code := by
    obtain ⟨ad, cap, h1, h2 | ⟨b, o, l, rest, h3, h4, h5⟩⟩ := hcv
    · exact ⟨ad, cap, h1, .inl h2⟩
    · exact ⟨ad, cap, h1, .inr ⟨b, o, l, rest, h3, RdC.of_sat hp (ReadsC.here h4), h5⟩⟩
  have hri := right_rr p cv code hins
  obtain ⟨ad, cap, rfl, hr⟩ := hins
  refine Tri.of_body (vs := [_]) Tryz.func36 rfl rfl fun w0 F => ?_
  repeat' (first | refine Ga ?_ | (refine Gb ?_; intro b) | (refine Gd ?_; intro g cap rest hcap) | (refine Gc ?_; intro ad cap)  | (refine Ge ?_ ?_ <;> (intro h; try (exfalso; omega))) | fail)
  refine St.loopY (Lr := ?Lr1) (ι := { x : Nat // x ≤ code.length ∧ onlyB code = ((code.drop x).all (fun i => !wrB i) && rightB code) }) (fun x => code.length - x.1) (fun x => [(7, .int .i64 (x.1 : Int))]) (fun _ => []) ⟨0, Nat.zero_le _, rfl⟩ ?hE1 ?hL1 ?round1
  case hE1 => exact Sub.go
  case hL1 => exact Takes.go
  case round1 =>
    rintro ⟨k, hk, ha⟩ IH; dsimp only at hk ha IH ⊢
    by_cases hlt : k < code.length
    · obtain ⟨bf, o, l, l1, rfl, hrd, hdr, htk⟩ := InsR.at hr k hlt
      rw [drop_cons' hlt, List.all_cons] at ha
      generalize code[k] = i at htk ha
      unfold Ins.v at htk
      cases hw : wrB i with
      | true =>
        rw [hw] at ha
        have hw := of_decide_eq_true hw
        rw [ha]
        clear IH
        repeat' (first | refine Ga ?_ | (refine Gb ?_; intro b) | (refine Gd ?_; intro g cap rest hcap) | (refine Gc ?_; intro ad cap)  | (refine Ge ?_ ?_ <;> (intro h; try (exfalso; omega))) | fail)
        all_goals first | (exfalso; omega) | skip
        all_goals refine St.d1 Tryz.func36 ⟨_, ⟨rfl, rfl⟩, Ent.go⟩
      | false =>
        rw [hw] at ha
        have hw := of_decide_eq_false hw
        repeat' (first | refine Ga ?_ | (refine Gb ?_; intro b) | (refine Gd ?_; intro g cap rest hcap) | (refine Gc ?_; intro ad cap)  | (refine Ge ?_ ?_ <;> (intro h; try (exfalso; omega))) | fail)
        all_goals first | (exfalso; omega) | skip
        refine IH ⟨k + 1, hlt, by rw [ha]; rfl⟩ (by show code.length - (k + 1) < code.length - k; omega) ?_ ?_
        · exact Sub.go
        · exact Ent.go
    · obtain rfl : k = code.length := by omega
      rw [List.drop_length] at ha
      rw [ha]
      clear IH
      repeat' (first | refine Ga ?_ | (refine Gb ?_; intro b) | (refine Gd ?_; intro g cap rest hcap) | (refine Gc ?_; intro ad cap) | refine Gl hri ?_ | (refine Ge ?_ ?_ <;> (intro h; try (exfalso; omega))) | fail)
      refine St.d1 Tryz.func36 ⟨_, ⟨rfl, rfl⟩, Ent.go⟩
end Go.Proofs.YtemaaenipjinaaaGreat
end
