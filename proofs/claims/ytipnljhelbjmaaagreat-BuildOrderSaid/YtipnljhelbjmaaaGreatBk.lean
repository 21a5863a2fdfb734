/-
  Package build, sealed; a memory, sealed; package tumblerlaw14: few.
-/
import Derived.Test.YtipnljhelbjmaaaGreatBj
import Derived.Test.YtipnljhelbjmaaaGreatBoot
namespace Go.Proofs.YtipnljhelbjmaaaGreat
set_option maxRecDepth 100000
/-- a Build -/
def Bd (B : Nat) (c : Cfg) (pv : Value) (q : HProp) (progs : Progs) (m : Bm) : HProp := BdE B c.cap.toNat c pv q progs m
theorem bnew_t (c : Cfg) (hc : Small c) (pv : Value) (q : HProp) (progs : Progs) (who : Int) (seq : Nat) (hpv : ProgsR q pv progs) : Tri Tryz.prog 30 #[.agg ⟨c.m⟩, .int .i64 who, .int .u64 (seq : Int), pv] [] fun r L => ∃ B, r = .pointer (some ⟨B, 0, none⟩) ∧ L = [Bd B c pv q progs (Bm.new who seq)] := bnew_tE c hc who seq pv q progs hpv
theorem btell_t (B : Nat) (c : Cfg) (hc : Small c) (pv : Value) (q : HProp) (progs : Progs) (m : Bm) (hf : 0 ≤ c.fuel ∧ c.fuel ≤ 1000) (hpv : ProgsR q pv progs) (hi : Binv c progs m) (o : Out) : Tri Tryz.prog 41 #[.pointer (some ⟨B, 0, none⟩), .agg ⟨o.v⟩] [Bd B c pv q progs m, q]
    fun r L => r = .tuple ⟨[]⟩ ∧ L = [Bd B c pv q progs (m.tell c c.cap.toNat progs o), q] := btell_tE B c hc hf pv q progs hpv m hi o
theorem bstatus_r (B : Nat) (c : Cfg) (pv : Value) (q : HProp) (progs : Progs) (m : Bm) : RTri Tryz.prog 33 #[.pointer (some ⟨B, 0, none⟩)] [Bd B c pv q progs m] (.int .i64 m.b.s) := bstatus_rE B c.cap.toNat c pv q progs m
theorem bask_r (B : Nat) (c : Cfg) (hc : Small c) (pv : Value) (q : HProp) (progs : Progs) (m : Bm) (hi : Binv c progs m) : RTri Tryz.prog 32 #[.pointer (some ⟨B, 0, none⟩)] [Bd B c pv q progs m] (.tuple ⟨[.agg ⟨(m.ask c).1.v⟩, .bool (m.ask c).2]⟩) := bask_rE B c hc pv q progs m hi
theorem bentries_t (B : Nat) (c : Cfg) (hc : Small c) (pv : Value) (q : HProp) (progs : Progs) (m : Bm) (hi : Binv c progs m) : Tri Tryz.prog 39 #[.pointer (some ⟨B, 0, none⟩)] [Bd B c pv q progs m]
    fun r L => ∃ ad cap, r = .slice ad (entriesOf c m.e.puts).length cap ∧ L = [Bd B c pv q progs m, Row (.slice ad (entriesOf c m.e.puts).length cap) 111 2 (entriesOf c m.e.puts).length ((entriesOf c m.e.puts).flatMap entV)] :=
  bentries_tE B c.cap.toNat c hc pv q progs m (by have := hi.len; omega)
theorem brows_t (B : Nat) (c : Cfg) (hc : Small c) (pv : Value) (q : HProp) (progs : Progs) (m : Bm) (hi : Binv c progs m) : Tri Tryz.prog 36 #[.pointer (some ⟨B, 0, none⟩)] [Bd B c pv q progs m]
    fun r L => ∃ (ad : Option Addr) (cap : Nat) (rs : List RowH), rs.map (·.1) = m.rows ∧ r = .slice ad m.rows.length cap ∧ L = [Bd B c pv q progs m, Row (.slice ad m.rows.length cap) 116 5 m.rows.length (rs.flatMap rowV), star (rs.map rowP)] :=
  brows_tE B c.cap.toNat c pv q progs m (by have := hi.rows; have := hi.u; have := hc.t1; omega) (fun r hr => (hi.gen.news r hr).1)
attribute [irreducible] Bd
/-- a memory -/
structure Pm where
  cs : List Cell
  st : List Int
  tr : List Ev
def Pm.do (M : Pm) (who : Int) (o : MOp) : Pm × Out :=
  if checkOf M.cs.length who o ≠ 0 then (M, ⟨⟨0, 0⟩, false⟩) else
  (⟨M.cs.set o.at_.toNat (becomes (M.cs.getD o.at_.toNat ⟨0, 0⟩) o), M.st.set who.toNat (IntKind.i64.wrap (M.st.getD who.toNat 0 + 1)), M.tr ++ [⟨who, o, outOf (M.cs.getD o.at_.toNat ⟨0, 0⟩) o⟩]⟩, outOf (M.cs.getD o.at_.toNat ⟨0, 0⟩) o)
theorem Pm.do_len (M : Pm) (who : Int) (o : MOp) : (M.do who o).1.cs.length = M.cs.length ∧ (M.do who o).1.st.length = M.st.length ∧ (M.do who o).1.tr.length ≤ M.tr.length + 1 := by
  unfold Pm.do; split
  · exact ⟨rfl, rfl, Nat.le_succ _⟩
  · exact ⟨List.length_set, List.length_set, by rw [List.length_append]; exact Nat.le_refl _⟩
def mmL (Mb C : Nat) (M : Pm) (tv : Value) : List HProp := [bl Mb 190 (memV C M.cs.length M.st tv), bl C 39 (M.cs.flatMap Cell.v), Row tv 219 10 M.tr.length (M.tr.flatMap Ev.v)]
def Mm (Mb C : Nat) (M : Pm) : HProp := ex (mmL Mb C M)
theorem Ent.mm (Mb C : Nat) (M : Pm) (tv : Value) {L : List HProp} : Ent (bl Mb 190 (memV C M.cs.length M.st tv) :: bl C 39 (M.cs.flatMap Cell.v) :: Row tv 219 10 M.tr.length (M.tr.flatMap Ev.v) :: L) (Mm Mb C M :: L) := Ent.ex_in (Ls := mmL Mb C M) tv
theorem mdo_t (Mb C : Nat) (M : Pm) (hst : M.st.length = 8) (htr : M.tr.length ≤ 1000000) (who : Int) (o : MOp) : Tri Tryz.prog 99 #[.pointer (some ⟨Mb, 0, none⟩), .int .i64 who, .agg ⟨o.v⟩] [Mm Mb C M]
    fun v L => ∃ e, v = .tuple ⟨[.agg ⟨(M.do who o).2.v⟩, .int .i64 e]⟩ ∧ L = [Mm Mb C (M.do who o).1] := by
  refine Tri.ex_out fun tv => ?_
  have h := do_t Mb C M.cs M.st hst tv M.tr htr who o
  unfold Tri at h ⊢
  intro w F hs
  refine (h w F hs).mono ?_
  rintro e w' ⟨v, L, he, hq, hs', ho⟩
  have fin : ∀ (M' : Pm) (tv' : Value), Sat ([bl Mb 190 (memV C M'.cs.length M'.st tv'), bl C 39 (M'.cs.flatMap Cell.v), Row tv' 219 10 M'.tr.length (M'.tr.flatMap Ev.v)] ++ F) (hpOf w') → Sat ([Mm Mb C M'] ++ F) (hpOf w') := fun M' tv' h => by
    have := Ent.mm Mb C M' tv' (L := F)
    unfold Ent at this
    exact this _ h
  rcases hq with ⟨h1, rfl, rfl⟩ | ⟨h1, hat, hw, tv', rfl, rfl⟩
  · have e1 : M.do who o = (M, ⟨⟨0, 0⟩, false⟩) := by unfold Pm.do; rw [if_pos h1]
    refine ⟨_, _, he, ⟨checkOf M.cs.length who o, by rw [e1], rfl⟩, ?_, ho⟩
    rw [e1]; exact fin M tv hs'
  · have e1 : M.do who o = (⟨M.cs.set o.at_.toNat (becomes M.cs[o.at_.toNat] o), M.st.set who.toNat (IntKind.i64.wrap (M.st[who.toNat] + 1)), M.tr ++ [⟨who, o, outOf M.cs[o.at_.toNat] o⟩]⟩, outOf M.cs[o.at_.toNat] o) := by
      unfold Pm.do
      rw [if_neg (by simpa using h1), List.getD_eq_getElem?_getD, List.getElem?_eq_getElem hat, List.getD_eq_getElem?_getD, List.getElem?_eq_getElem hw]
      rfl
    refine ⟨_, _, he, ⟨0, by rw [e1], rfl⟩, ?_, ho⟩
    rw [e1]
    refine fin _ tv' ?_
    dsimp only
    rw [List.length_set, List.length_append]
    exact hs'
theorem mset_t (Mb C : Nat) (M : Pm) (p : Int) (x : Cell) : Tri Tryz.prog 48 #[.pointer (some ⟨Mb, 0, none⟩), .int .i64 p, .agg ⟨x.v⟩] [Mm Mb C M]
    fun v L => ∃ e, v = .int .i64 e ∧ L = [Mm Mb C ⟨setOf M.cs p x, M.st, M.tr⟩] := by
  refine Tri.ex_out fun tv => ?_
  have h := set_t Mb C M.cs.length M.cs rfl M.st tv p x
  unfold Tri at h ⊢
  intro w F hs
  refine (h w (Row tv 219 10 M.tr.length (M.tr.flatMap Ev.v) :: F) hs).mono ?_
  rintro e w' ⟨v, L, he, ⟨rfl, rfl⟩, hs', ho⟩
  refine ⟨_, _, he, ⟨_, rfl, rfl⟩, ?_, ho⟩
  have := Ent.mm Mb C ⟨setOf M.cs p x, M.st, M.tr⟩ tv (L := F)
  unfold Ent at this
  refine this _ ?_
  dsimp only
  rw [setOf_len]
  exact hs'
theorem sat_rowv {v : Value} {n e sz : Nat} {xs : List Value} {L L1 : List HProp} {h : Hp} (hs : Sat L h) (t : Take (Row v e sz n xs) L L1) : ∃ ad cap, v = .slice ad n cap := by
  have h1 := t.sat hs
  obtain ⟨h1, h2, hd, hu, hR, _⟩ := sat_cons.1 h1
  unfold Row at hR
  obtain ⟨_, ⟨hv, h0⟩ | ⟨g, cap', cur, hv, _⟩⟩ := hR
  · exact ⟨none, 0, by rw [hv, h0]⟩
  · exact ⟨_, _, hv⟩
theorem mtotal_r (Mb C : Nat) (M : Pm) (hst : M.st.length = 8) : RTri Tryz.prog 79 #[.pointer (some ⟨Mb, 0, none⟩)] [Mm Mb C M] (.int .i64 (M.tr.length : Int)) := by
  refine RTri.of_exact fun W0 hs => ?_
  obtain ⟨tv, hs⟩ := sat_ex hs
  obtain ⟨ad, cap, rfl⟩ := sat_rowv hs (.there (.there .here))
  have hM := RdC.exact hs (ReadsC.here RdC.bl)
  have hn := NthN.trace hst C M.cs.length (.slice ad M.tr.length cap)
  refine Tri.of_body (vs := [_]) Tryz.func79 rfl rfl fun w0 F => ?_
  repeat' (first | (apply Ya; exact Oa) | (apply Yb; exact Ob) | (apply Yc; exact Oc; intro b) | (apply Ye; exact Oe; intro g cap rest hcap) | (apply Yd; exact Od; intro ad cap) | (apply Yf; exact Oj) | (apply Yg; exact Oj; exact ⟨rfl, rfl⟩) | (apply Yh; exact Oj; rfl) | (apply Yi; exact Oj; exact On; all_goals (intro h; try (exfalso; omega))) | apply StL.nil | apply St.region | apply St.seq | apply St.block | apply St.inBlock | apply St.skip | (apply St.exit; rfl) | (apply St.cond_t; rfl) | (apply St.cond_f; rfl) | (apply Ud; rfl; exact On; all_goals (intro h; try (exfalso; omega))) | (apply Za; rfl; exact Oa) | (apply Zb; rfl; exact Oa; exact Ent.go) | (apply Zc; rfl; exact Ob) | (apply Zd; rfl; exact Oc; intro b; refine ⟨Ent.go, ?_⟩) | (apply Ze; rfl; exact Oc; intro b) | (apply Zf; rfl; exact Oe; intro g cap rest hcap) | (apply Zg; rfl; exact Od; intro ad cap) | apply StD.nil | exact StD.nope | apply StD.pick | (apply StD.claim; rfl; intro b) | (apply Zi; rfl; exact Oj; exact Oa) | (apply Zj; rfl; exact Oj; exact Oa; exact Ent.go) | (apply Zk; rfl; exact Oj; exact ⟨rfl, rfl⟩) | (apply Zl; rfl; exact Oj; exact ⟨rfl, rfl⟩; exact Ent.go) | (apply Zm; rfl; exact Oj; rfl) | (apply Zn; rfl; exact Oj; exact Ent.go; rfl)   | (apply Zo; rfl; exact Oj; exact On; all_goals (intro h; try (exfalso; omega))))
  (first | refine St.dn Tryz.func79 ⟨?_, rfl⟩ Ent.go | refine St.fl Tryz.func79 ⟨?_, rfl⟩ Ent.go)
  rfl
/-- programs that can be read, however many -/
def ProgsG (q : HProp) (pv : Value) (progs : Progs) : Prop :=
  ∃ pad pcap, pv = .slice pad progs.length pcap ∧ progs.length ≤ 9223372036854775807 ∧ ∀ (i : Nat) (h : i < progs.length), ∃ b o l cv, pad = some ⟨b, o, none⟩ ∧ RdC q b l ∧ NthN (o + (i : Int).toNat * 1) l cv ∧ InsR q cv progs[i]
theorem ProgsG.r {q : HProp} {pv : Value} {progs : Progs} (h : ProgsG q pv progs) (hl : progs.length ≤ 1000) : ProgsR q pv progs := by
  obtain ⟨pad, pcap, h1, _, h3⟩ := h
  exact ⟨pad, pcap, h1, hl, h3⟩
theorem InsR.of {p q : HProp} {cv : Value} {code : List Ins} (h : InsR q cv code) (hq : ∀ {b : Nat} {l : List Value}, RdC q b l → RdC p b l) : InsR p cv code := by
  obtain ⟨ad, cap, h1, h2 | ⟨b, o, l, rest, h3, h4, h5⟩⟩ := h
  · exact ⟨ad, cap, h1, .inl h2⟩
  · exact ⟨ad, cap, h1, .inr ⟨b, o, l, rest, h3, hq h4, h5⟩⟩
theorem ProgsG.of {p q : HProp} {pv : Value} {progs : Progs} (h : ProgsG q pv progs) (hq : ∀ {b : Nat} {l : List Value}, RdC q b l → RdC p b l) : ProgsG p pv progs := by
  obtain ⟨pad, pcap, h1, h2, h3⟩ := h
  refine ⟨pad, pcap, h1, h2, fun i hi => ?_⟩
  obtain ⟨b, o, l, cv, h4, h5, h6, h7⟩ := h3 i hi
  exact ⟨b, o, l, cv, h4, hq h5, h6, h7.of hq⟩
def short14 (progs : Progs) : Bool := progs.all fun p => decide (p.length ≤ 40)
def few14B (c : Cfg) (progs : Progs) : Bool := short14 progs && (c.right && decide (c.fuel ≤ 200) && decide (progs.length ≤ 8))
theorem right14_r (c : Cfg) : RTri Tryz.prog 54 #[.agg ⟨c.v⟩] [] (.bool c.right) := by
  apply RTri.of_pure
  refine Tri.of_body (vs := [_]) Tryz.func54 rfl rfl fun w0 F => ?_
  repeat' (first | (apply Ya; exact Oa) | (apply Yb; exact Ob) | (apply Yc; exact Oc; intro b) | (apply Ye; exact Oe; intro g cap rest hcap) | (apply Yd; exact Od; intro ad cap) | (apply Yf; exact Oj) | (apply Yg; exact Oj; exact ⟨rfl, rfl⟩) | (apply Yh; exact Oj; rfl) | (apply Yi; exact Oj; exact On; all_goals (intro h; try (exfalso; omega))) | apply StL.nil | apply St.region | apply St.seq | apply St.block | apply St.inBlock | apply St.skip | (apply St.exit; rfl) | (apply St.cond_t; rfl) | (apply St.cond_f; rfl) | (apply Ud; rfl; exact On; all_goals (intro h; try (exfalso; omega))) | (apply Za; rfl; exact Oa) | (apply Zb; rfl; exact Oa; exact Ent.go) | (apply Zc; rfl; exact Ob) | (apply Zd; rfl; exact Oc; intro b; refine ⟨Ent.go, ?_⟩) | (apply Ze; rfl; exact Oc; intro b) | (apply Zf; rfl; exact Oe; intro g cap rest hcap) | (apply Zg; rfl; exact Od; intro ad cap) | apply StD.nil | exact StD.nope | apply StD.pick | (apply StD.claim; rfl; intro b) | (apply Zi; rfl; exact Oj; exact Oa) | (apply Zj; rfl; exact Oj; exact Oa; exact Ent.go) | (apply Zk; rfl; exact Oj; exact ⟨rfl, rfl⟩) | (apply Zl; rfl; exact Oj; exact ⟨rfl, rfl⟩; exact Ent.go) | (apply Zm; rfl; exact Oj; rfl) | (apply Zn; rfl; exact Oj; exact Ent.go; rfl)   | (apply Zo; rfl; exact Oj; exact On; all_goals (intro h; try (exfalso; omega))))
  all_goals (first | refine St.dn Tryz.func54 ⟨?_, rfl⟩ Ent.go | refine St.fl Tryz.func54 ⟨?_, rfl⟩ Ent.go)
  all_goals exact congrArg Value.bool (by first | (simp [Cfg.right]; omega) | (rw [Bool.eq_iff_iff]; simp [Cfg.right]; omega))
theorem few14_r (c : Cfg) (q : HProp) (v : Value) (progs : Progs) (hv : ProgsG q v progs) : RTri Tryz.prog 29 #[.agg ⟨c.v⟩, v] [q] (.bool (few14B c progs)) := by
  apply RTri.of_reads
  intro p hp
  have hr0 := right14_r c
  obtain ⟨ad, cap, rfl, hn, hr⟩ := hv.of (p := p) fun h => RdC.of_sat hp (ReadsC.here h)
  refine Tri.of_body (vs := [_, _]) Tryz.func29 rfl rfl fun w0 F => ?_
  repeat' (first | (apply Ya; exact Oa) | (apply Yb; exact Ob) | (apply Yc; exact Oc; intro b) | (apply Ye; exact Oe; intro g cap rest hcap) | (apply Yd; exact Od; intro ad cap) | (apply Yf; exact Oj) | (apply Yg; exact Oj; exact ⟨rfl, rfl⟩) | (apply Yh; exact Oj; rfl) | (apply Yi; exact Oj; exact On; all_goals (intro h; try (exfalso; omega))) | apply StL.nil | apply St.region | apply St.seq | apply St.block | apply St.inBlock | apply St.skip | (apply St.exit; rfl) | (apply St.cond_t; rfl) | (apply St.cond_f; rfl) | (apply Ud; rfl; exact On; all_goals (intro h; try (exfalso; omega))) | (apply Za; rfl; exact Oa) | (apply Zb; rfl; exact Oa; exact Ent.go) | (apply Zc; rfl; exact Ob) | (apply Zd; rfl; exact Oc; intro b; refine ⟨Ent.go, ?_⟩) | (apply Ze; rfl; exact Oc; intro b) | (apply Zf; rfl; exact Oe; intro g cap rest hcap) | (apply Zg; rfl; exact Od; intro ad cap) | apply StD.nil | exact StD.nope | apply StD.pick | (apply StD.claim; rfl; intro b) | (apply Zi; rfl; exact Oj; exact Oa) | (apply Zj; rfl; exact Oj; exact Oa; exact Ent.go) | (apply Zk; rfl; exact Oj; exact ⟨rfl, rfl⟩) | (apply Zl; rfl; exact Oj; exact ⟨rfl, rfl⟩; exact Ent.go) | (apply Zm; rfl; exact Oj; rfl) | (apply Zn; rfl; exact Oj; exact Ent.go; rfl)   | (apply Zo; rfl; exact Oj; exact On; all_goals (intro h; try (exfalso; omega))))
  refine St.loopY (Lr := ?Lr) (ι := { k : Nat // k ≤ progs.length ∧ short14 progs = short14 (progs.drop k) }) (fun k => progs.length - k.1)
    (fun k => [(9, .int .i64 (k.1 : Int))]) (fun k => []) ⟨0, Nat.zero_le _, rfl⟩ ?hE ?hL ?round
  case hE => exact Sub.go
  case hL => exact Takes.go
  case round =>
    rintro ⟨k, hk, hgo⟩ IH; dsimp only at hk hgo ⊢
    by_cases hlt : k < progs.length
    · obtain ⟨bj, o, l, cv, rfl, hrd, hnth, hins⟩ := hr k hlt
      rw [List.drop_eq_getElem_cons hlt] at hgo
      generalize progs[k] = pk at hgo hins
      obtain ⟨cad, ccap, rfl, _⟩ := hins
      by_cases he : pk.length ≤ 40
      · repeat' (first | (apply Ya; exact Oa) | (apply Yb; exact Ob) | (apply Yc; exact Oc; intro b) | (apply Ye; exact Oe; intro g cap rest hcap) | (apply Yd; exact Od; intro ad cap) | (apply Yf; exact Oj) | (apply Yg; exact Oj; exact ⟨rfl, rfl⟩) | (apply Yh; exact Oj; rfl) | (apply Yi; exact Oj; exact On; all_goals (intro h; try (exfalso; omega))) | apply StL.nil | apply St.region | apply St.seq | apply St.block | apply St.inBlock | apply St.skip | (apply St.exit; rfl) | (apply St.cond_t; rfl) | (apply St.cond_f; rfl) | (apply Ud; rfl; exact On; all_goals (intro h; try (exfalso; omega))) | (apply Za; rfl; exact Oa) | (apply Zb; rfl; exact Oa; exact Ent.go) | (apply Zc; rfl; exact Ob) | (apply Zd; rfl; exact Oc; intro b; refine ⟨Ent.go, ?_⟩) | (apply Ze; rfl; exact Oc; intro b) | (apply Zf; rfl; exact Oe; intro g cap rest hcap) | (apply Zg; rfl; exact Od; intro ad cap) | apply StD.nil | exact StD.nope | apply StD.pick | (apply StD.claim; rfl; intro b) | (apply Zi; rfl; exact Oj; exact Oa) | (apply Zj; rfl; exact Oj; exact Oa; exact Ent.go) | (apply Zk; rfl; exact Oj; exact ⟨rfl, rfl⟩) | (apply Zl; rfl; exact Oj; exact ⟨rfl, rfl⟩; exact Ent.go) | (apply Zm; rfl; exact Oj; rfl) | (apply Zn; rfl; exact Oj; exact Ent.go; rfl)   | (apply Zo; rfl; exact Oj; exact On; all_goals (intro h; try (exfalso; omega))))
        refine IH ⟨k + 1, hlt, ?_⟩ (by show _ - (k + 1) < _ - k; omega) ?_ ?_
        · rw [hgo]; unfold short14; rw [List.all_cons, decide_eq_true he, Bool.true_and]
        · exact Sub.go
        · exact Ent.go
      · have e : few14B c progs = false := by
          unfold few14B
          rw [hgo]; unfold short14; rw [List.all_cons, decide_eq_false he]; rfl
        rw [e]
        repeat' (first | (apply Ya; exact Oa) | (apply Yb; exact Ob) | (apply Yc; exact Oc; intro b) | (apply Ye; exact Oe; intro g cap rest hcap) | (apply Yd; exact Od; intro ad cap) | (apply Yf; exact Oj) | (apply Yg; exact Oj; exact ⟨rfl, rfl⟩) | (apply Yh; exact Oj; rfl) | (apply Yi; exact Oj; exact On; all_goals (intro h; try (exfalso; omega))) | apply StL.nil | apply St.region | apply St.seq | apply St.block | apply St.inBlock | apply St.skip | (apply St.exit; rfl) | (apply St.cond_t; rfl) | (apply St.cond_f; rfl) | (apply Ud; rfl; exact On; all_goals (intro h; try (exfalso; omega))) | (apply Za; rfl; exact Oa) | (apply Zb; rfl; exact Oa; exact Ent.go) | (apply Zc; rfl; exact Ob) | (apply Zd; rfl; exact Oc; intro b; refine ⟨Ent.go, ?_⟩) | (apply Ze; rfl; exact Oc; intro b) | (apply Zf; rfl; exact Oe; intro g cap rest hcap) | (apply Zg; rfl; exact Od; intro ad cap) | apply StD.nil | exact StD.nope | apply StD.pick | (apply StD.claim; rfl; intro b) | (apply Zi; rfl; exact Oj; exact Oa) | (apply Zj; rfl; exact Oj; exact Oa; exact Ent.go) | (apply Zk; rfl; exact Oj; exact ⟨rfl, rfl⟩) | (apply Zl; rfl; exact Oj; exact ⟨rfl, rfl⟩; exact Ent.go) | (apply Zm; rfl; exact Oj; rfl) | (apply Zn; rfl; exact Oj; exact Ent.go; rfl)   | (apply Zo; rfl; exact Oj; exact On; all_goals (intro h; try (exfalso; omega))))
        (first | refine St.dn Tryz.func29 ⟨?_, rfl⟩ Ent.go | refine St.fl Tryz.func29 ⟨?_, rfl⟩ Ent.go)
        rfl
    · have e : few14B c progs = (c.right && decide (c.fuel ≤ 200) && decide (progs.length ≤ 8)) := by
        unfold few14B
        rw [hgo, List.drop_eq_nil_of_le (by omega)]; rfl
      rw [e]
      clear IH
      cases hcr : c.right with
      | false =>
        rw [hcr] at hr0
        repeat' (first | (apply Ya; exact Oa) | (apply Yb; exact Ob) | (apply Yc; exact Oc; intro b) | (apply Ye; exact Oe; intro g cap rest hcap) | (apply Yd; exact Od; intro ad cap) | (apply Yf; exact Oj) | (apply Yg; exact Oj; exact ⟨rfl, rfl⟩) | (apply Yh; exact Oj; rfl) | (apply Yi; exact Oj; exact On; all_goals (intro h; try (exfalso; omega))) | apply StL.nil | apply St.region | apply St.seq | apply St.block | apply St.inBlock | apply St.skip | (apply St.exit; rfl) | (apply St.cond_t; rfl) | (apply St.cond_f; rfl) | (apply Ud; rfl; exact On; all_goals (intro h; try (exfalso; omega))) | (apply Za; rfl; exact Oa) | (apply Zb; rfl; exact Oa; exact Ent.go) | (apply Zc; rfl; exact Ob) | (apply Zd; rfl; exact Oc; intro b; refine ⟨Ent.go, ?_⟩) | (apply Ze; rfl; exact Oc; intro b) | (apply Zf; rfl; exact Oe; intro g cap rest hcap) | (apply Zg; rfl; exact Od; intro ad cap) | apply StD.nil | exact StD.nope | apply StD.pick | (apply StD.claim; rfl; intro b) | (apply Zi; rfl; exact Oj; exact Oa) | (apply Zj; rfl; exact Oj; exact Oa; exact Ent.go) | (apply Zk; rfl; exact Oj; exact ⟨rfl, rfl⟩) | (apply Zl; rfl; exact Oj; exact ⟨rfl, rfl⟩; exact Ent.go) | (apply Zm; rfl; exact Oj; rfl) | (apply Zn; rfl; exact Oj; exact Ent.go; rfl)  | (apply Ka; exact Og; exact hr0; exact Oh) | (apply Kb; rfl; exact Og; exact hr0; exact Oi) | (apply Kc; rfl; exact Oj; exact Og; exact hr0; exact Oi) | (apply Zo; rfl; exact Oj; exact On; all_goals (intro h; try (exfalso; omega))))
        (first | refine St.dn Tryz.func29 ⟨?_, rfl⟩ Ent.go | refine St.fl Tryz.func29 ⟨?_, rfl⟩ Ent.go)
        rfl
      | true =>
        rw [hcr] at hr0
        by_cases hf : c.fuel ≤ 200
        · repeat' (first | (apply Ya; exact Oa) | (apply Yb; exact Ob) | (apply Yc; exact Oc; intro b) | (apply Ye; exact Oe; intro g cap rest hcap) | (apply Yd; exact Od; intro ad cap) | (apply Yf; exact Oj) | (apply Yg; exact Oj; exact ⟨rfl, rfl⟩) | (apply Yh; exact Oj; rfl) | (apply Yi; exact Oj; exact On; all_goals (intro h; try (exfalso; omega))) | apply StL.nil | apply St.region | apply St.seq | apply St.block | apply St.inBlock | apply St.skip | (apply St.exit; rfl) | (apply St.cond_t; rfl) | (apply St.cond_f; rfl) | (apply Ud; rfl; exact On; all_goals (intro h; try (exfalso; omega))) | (apply Za; rfl; exact Oa) | (apply Zb; rfl; exact Oa; exact Ent.go) | (apply Zc; rfl; exact Ob) | (apply Zd; rfl; exact Oc; intro b; refine ⟨Ent.go, ?_⟩) | (apply Ze; rfl; exact Oc; intro b) | (apply Zf; rfl; exact Oe; intro g cap rest hcap) | (apply Zg; rfl; exact Od; intro ad cap) | apply StD.nil | exact StD.nope | apply StD.pick | (apply StD.claim; rfl; intro b) | (apply Zi; rfl; exact Oj; exact Oa) | (apply Zj; rfl; exact Oj; exact Oa; exact Ent.go) | (apply Zk; rfl; exact Oj; exact ⟨rfl, rfl⟩) | (apply Zl; rfl; exact Oj; exact ⟨rfl, rfl⟩; exact Ent.go) | (apply Zm; rfl; exact Oj; rfl) | (apply Zn; rfl; exact Oj; exact Ent.go; rfl)  | (apply Ka; exact Og; exact hr0; exact Oh) | (apply Kb; rfl; exact Og; exact hr0; exact Oi) | (apply Kc; rfl; exact Oj; exact Og; exact hr0; exact Oi) | (apply Zo; rfl; exact Oj; exact On; all_goals (intro h; try (exfalso; omega))))
          all_goals (first | refine St.dn Tryz.func29 ⟨?_, rfl⟩ Ent.go | refine St.fl Tryz.func29 ⟨?_, rfl⟩ Ent.go)
          all_goals refine congrArg Value.bool ?_
          all_goals rw [decide_eq_true hf, Bool.true_and, Bool.true_and, decide_eq_decide]
          all_goals omega
        · rw [decide_eq_false hf]
          repeat' (first | (apply Ya; exact Oa) | (apply Yb; exact Ob) | (apply Yc; exact Oc; intro b) | (apply Ye; exact Oe; intro g cap rest hcap) | (apply Yd; exact Od; intro ad cap) | (apply Yf; exact Oj) | (apply Yg; exact Oj; exact ⟨rfl, rfl⟩) | (apply Yh; exact Oj; rfl) | (apply Yi; exact Oj; exact On; all_goals (intro h; try (exfalso; omega))) | apply StL.nil | apply St.region | apply St.seq | apply St.block | apply St.inBlock | apply St.skip | (apply St.exit; rfl) | (apply St.cond_t; rfl) | (apply St.cond_f; rfl) | (apply Ud; rfl; exact On; all_goals (intro h; try (exfalso; omega))) | (apply Za; rfl; exact Oa) | (apply Zb; rfl; exact Oa; exact Ent.go) | (apply Zc; rfl; exact Ob) | (apply Zd; rfl; exact Oc; intro b; refine ⟨Ent.go, ?_⟩) | (apply Ze; rfl; exact Oc; intro b) | (apply Zf; rfl; exact Oe; intro g cap rest hcap) | (apply Zg; rfl; exact Od; intro ad cap) | apply StD.nil | exact StD.nope | apply StD.pick | (apply StD.claim; rfl; intro b) | (apply Zi; rfl; exact Oj; exact Oa) | (apply Zj; rfl; exact Oj; exact Oa; exact Ent.go) | (apply Zk; rfl; exact Oj; exact ⟨rfl, rfl⟩) | (apply Zl; rfl; exact Oj; exact ⟨rfl, rfl⟩; exact Ent.go) | (apply Zm; rfl; exact Oj; rfl) | (apply Zn; rfl; exact Oj; exact Ent.go; rfl)  | (apply Ka; exact Og; exact hr0; exact Oh) | (apply Kb; rfl; exact Og; exact hr0; exact Oi) | (apply Kc; rfl; exact Oj; exact Og; exact hr0; exact Oi) | (apply Zo; rfl; exact Oj; exact On; all_goals (intro h; try (exfalso; omega))))
          all_goals (first | refine St.dn Tryz.func29 ⟨?_, rfl⟩ Ent.go | refine St.fl Tryz.func29 ⟨?_, rfl⟩ Ent.go)
          all_goals rfl
attribute [irreducible] Mm
end Go.Proofs.YtipnljhelbjmaaaGreat
