/-
  Package build, sealed; a memory, sealed; package tumblerlaw14: few. Package tumblerlaw14: want, plan. Package tumblerlaw14: alive.
-/
import Derived.Test.YthmbgodcpgkkeaaGreatTwk
import Derived.Test.YthmbgodcpgkkeaaGreatBj
import Derived.Test.YthmbgodcpgkkeaaGreatRowg
namespace Go.Proofs.YthmbgodcpgkkeaaGreat
set_option maxRecDepth 100000
/-- a Build -/
def Bd (B : Nat) (c : Cfg) (pv : Value) (q : HProp) (progs : Progs) (m : Bm) : HProp := BdE B c.cap.toNat c pv q progs m
theorem bnew_t (c : Cfg) (hc : Small c) (pv : Value) (q : HProp) (progs : Progs) (who : Int) (seq : Nat) (hpv : ProgsR q pv progs) : Tri Tryz.prog 38 #[.agg ⟨c.m⟩, .int .i64 who, .int .u64 (seq : Int), pv] [] fun r L => ∃ B, r = .pointer (some ⟨B, 0, none⟩) ∧ L = [Bd B c pv q progs (Bm.new who seq)] := bnew_tE c hc who seq pv q progs hpv
theorem btell_t (B : Nat) (c : Cfg) (hc : Small c) (pv : Value) (q : HProp) (progs : Progs) (m : Bm) (hf : 0 ≤ c.fuel ∧ c.fuel ≤ 1000) (hpv : ProgsR q pv progs) (hi : Binv c progs m) (o : Out) : Tri Tryz.prog 49 #[.pointer (some ⟨B, 0, none⟩), .agg ⟨o.v⟩] [Bd B c pv q progs m, q]
    fun r L => r = .tuple ⟨[]⟩ ∧ L = [Bd B c pv q progs (m.tell c c.cap.toNat progs o), q] := btell_tE B c hc hf pv q progs hpv m hi o
theorem bstatus_r (B : Nat) (c : Cfg) (pv : Value) (q : HProp) (progs : Progs) (m : Bm) : RTri Tryz.prog 41 #[.pointer (some ⟨B, 0, none⟩)] [Bd B c pv q progs m] (.int .i64 m.b.s) := bstatus_rE B c.cap.toNat c pv q progs m
theorem bask_r (B : Nat) (c : Cfg) (hc : Small c) (pv : Value) (q : HProp) (progs : Progs) (m : Bm) (hi : Binv c progs m) : RTri Tryz.prog 40 #[.pointer (some ⟨B, 0, none⟩)] [Bd B c pv q progs m] (.tuple ⟨[.agg ⟨(m.ask c).1.v⟩, .bool (m.ask c).2]⟩) := bask_rE B c hc pv q progs m hi
theorem bentries_t (B : Nat) (c : Cfg) (hc : Small c) (pv : Value) (q : HProp) (progs : Progs) (m : Bm) (hi : Binv c progs m) : Tri Tryz.prog 47 #[.pointer (some ⟨B, 0, none⟩)] [Bd B c pv q progs m]
    fun r L => ∃ ad cap, r = .slice ad (entriesOf c m.e.puts).length cap ∧ L = [Bd B c pv q progs m, Row (.slice ad (entriesOf c m.e.puts).length cap) 119 2 (entriesOf c m.e.puts).length ((entriesOf c m.e.puts).flatMap entV)] :=
  bentries_tE B c.cap.toNat c hc pv q progs m (by have := hi.len; omega)
theorem brows_t (B : Nat) (c : Cfg) (hc : Small c) (pv : Value) (q : HProp) (progs : Progs) (m : Bm) (hi : Binv c progs m) : Tri Tryz.prog 44 #[.pointer (some ⟨B, 0, none⟩)] [Bd B c pv q progs m]
    fun r L => ∃ (ad : Option Addr) (cap : Nat) (rs : List RowH), rs.map (·.1) = m.rows ∧ r = .slice ad m.rows.length cap ∧ L = [Bd B c pv q progs m, Row (.slice ad m.rows.length cap) 128 5 m.rows.length (rs.flatMap rowV), star (rs.map rowP)] :=
  brows_tE B c.cap.toNat c pv q progs m (by have := hi.rows; have := hi.u; have := hc.t1; omega) (fun r hr => (hi.gen.news r hr).1)
attribute [irreducible] Bd
/-- a memory -/
structure Pm where
  cs : List Cell
  st : List Int
  tr : List Ev
def Pm.do (M : Pm) (who : Int) (o : MOp) : Pm × Out :=
  if checkOf M.cs.length who o ≠ 0 then (M, ⟨⟨0, 0⟩, false⟩) else
  (⟨M.cs.set o.at_.toNat (becomes (M.cs.getD o.at_.toNat ⟨0, 0⟩) o), M.st.set who.toNat (IntKind.i64.wrap (M.st.getD who.toNat 0 + 1)), M.tr ++ [⟨who, o, outOf (M.cs.getD o.at_.toNat ⟨0, 0⟩) o⟩]⟩, outOf (M.cs.getD o.at_.toNat ⟨0, 0⟩) o)
theorem Pm.do_len (M : Pm) (who : Int) (o : MOp) : (M.do who o).1.cs.length = M.cs.length ∧ (M.do who o).1.st.length = M.st.length ∧ (M.do who o).1.tr.length ≤ M.tr.length + 1 := by
  unfold Pm.do; split
  · exact ⟨rfl, rfl, Nat.le_succ _⟩
  · exact ⟨List.length_set, List.length_set, by rw [List.length_append]; exact Nat.le_refl _⟩
def mmL (Mb C : Nat) (M : Pm) (tv : Value) : List HProp := [bl Mb 244 (memV C M.cs.length M.st tv), bl C 39 (M.cs.flatMap Cell.v), Row tv 285 10 M.tr.length (M.tr.flatMap Ev.v)]
def Mm (Mb C : Nat) (M : Pm) : HProp := ex (mmL Mb C M)
theorem Ent.mm (Mb C : Nat) (M : Pm) (tv : Value) {L : List HProp} : Ent (bl Mb 244 (memV C M.cs.length M.st tv) :: bl C 39 (M.cs.flatMap Cell.v) :: Row tv 285 10 M.tr.length (M.tr.flatMap Ev.v) :: L) (Mm Mb C M :: L) := Ent.ex_in (Ls := mmL Mb C M) tv
theorem mdo_t (Mb C : Nat) (M : Pm) (hst : M.st.length = 8) (htr : M.tr.length ≤ 1000000) (who : Int) (o : MOp) : Tri Tryz.prog 87 #[.pointer (some ⟨Mb, 0, none⟩), .int .i64 who, .agg ⟨o.v⟩] [Mm Mb C M]
    fun v L => ∃ e, v = .tuple ⟨[.agg ⟨(M.do who o).2.v⟩, .int .i64 e]⟩ ∧ L = [Mm Mb C (M.do who o).1] := by
  refine Tri.ex_out fun tv => ?_
  have h := do_t Mb C M.cs M.st hst tv M.tr htr who o
  unfold Tri at h ⊢
  intro w F hs
  refine (h w F hs).mono ?_
  rintro e w' ⟨v, L, he, hq, hs', ho⟩
  have fin : ∀ (M' : Pm) (tv' : Value), Sat ([bl Mb 244 (memV C M'.cs.length M'.st tv'), bl C 39 (M'.cs.flatMap Cell.v), Row tv' 285 10 M'.tr.length (M'.tr.flatMap Ev.v)] ++ F) (hpOf w') → Sat ([Mm Mb C M'] ++ F) (hpOf w') := fun M' tv' h => by
    have := Ent.mm Mb C M' tv' (L := F)
    unfold Ent at this
    exact this _ h
  rcases hq with ⟨h1, rfl, rfl⟩ | ⟨h1, hat, hw, tv', rfl, rfl⟩
  · have e1 : M.do who o = (M, ⟨⟨0, 0⟩, false⟩) := by unfold Pm.do; rw [if_pos h1]
    refine ⟨_, _, he, ⟨checkOf M.cs.length who o, by rw [e1], rfl⟩, ?_, ho⟩
    rw [e1]; exact fin M tv hs'
  · have e1 : M.do who o = (⟨M.cs.set o.at_.toNat (becomes M.cs[o.at_.toNat] o), M.st.set who.toNat (IntKind.i64.wrap (M.st[who.toNat] + 1)), M.tr ++ [⟨who, o, outOf M.cs[o.at_.toNat] o⟩]⟩, outOf M.cs[o.at_.toNat] o) := by
      unfold Pm.do
      rw [if_neg (by simpa using h1), List.getD_eq_getElem?_getD, List.getElem?_eq_getElem hat, List.getD_eq_getElem?_getD, List.getElem?_eq_getElem hw]
      rfl
    refine ⟨_, _, he, ⟨0, by rw [e1], rfl⟩, ?_, ho⟩
    rw [e1]
    refine fin _ tv' ?_
    dsimp only
    rw [List.length_set, List.length_append]
    exact hs'
theorem mset_t (Mb C : Nat) (M : Pm) (p : Int) (x : Cell) : Tri Tryz.prog 53 #[.pointer (some ⟨Mb, 0, none⟩), .int .i64 p, .agg ⟨x.v⟩] [Mm Mb C M]
    fun v L => ∃ e, v = .int .i64 e ∧ L = [Mm Mb C ⟨setOf M.cs p x, M.st, M.tr⟩] := by
  refine Tri.ex_out fun tv => ?_
  have h := set_t Mb C M.cs.length M.cs rfl M.st tv p x
  unfold Tri at h ⊢
  intro w F hs
  refine (h w (Row tv 285 10 M.tr.length (M.tr.flatMap Ev.v) :: F) hs).mono ?_
  rintro e w' ⟨v, L, he, ⟨rfl, rfl⟩, hs', ho⟩
  refine ⟨_, _, he, ⟨_, rfl, rfl⟩, ?_, ho⟩
  have := Ent.mm Mb C ⟨setOf M.cs p x, M.st, M.tr⟩ tv (L := F)
  unfold Ent at this
  refine this _ ?_
  dsimp only
  rw [setOf_len]
  exact hs'
theorem sat_rowv {v : Value} {n e sz : Nat} {xs : List Value} {L L1 : List HProp} {h : Hp} (hs : Sat L h) (t : Take (Row v e sz n xs) L L1) : ∃ ad cap, v = .slice ad n cap := by
  have h1 := t.sat hs
  obtain ⟨h1, h2, hd, hu, hR, _⟩ := sat_cons.1 h1
  unfold Row at hR
  obtain ⟨_, ⟨hv, h0⟩ | ⟨g, cap', cur, hv, _⟩⟩ := hR
  · exact ⟨none, 0, by rw [hv, h0]⟩
  · exact ⟨_, _, hv⟩
theorem mtotal_r (Mb C : Nat) (M : Pm) (hst : M.st.length = 8) : RTri Tryz.prog 124 #[.pointer (some ⟨Mb, 0, none⟩)] [Mm Mb C M] (.int .i64 (M.tr.length : Int)) := by
  refine RTri.of_exact fun W0 hs => ?_
  obtain ⟨tv, hs⟩ := sat_ex hs
  obtain ⟨ad, cap, rfl⟩ := sat_rowv hs (.there (.there .here))
  have hM := RdC.exact hs (ReadsC.here RdC.bl)
  have hn := NthN.trace hst C M.cs.length (.slice ad M.tr.length cap)
  refine Tri.of_body (vs := [_]) Tryz.func124 rfl rfl fun w0 F => ?_
  repeat' (first | refine Ga ?_ | (refine Gb ?_; intro b) | (refine Gd ?_; intro g cap rest hcap) | (refine Gc ?_; intro ad cap)  | (refine Ge ?_ ?_ <;> (intro h; try (exfalso; omega))) | fail)
  (first | refine St.dn Tryz.func124 ⟨?_, rfl⟩ Ent.go | refine St.fl Tryz.func124 ⟨?_, rfl⟩ Ent.go)
  rfl
/-- programs that can be read, however many -/
def ProgsG (q : HProp) (pv : Value) (progs : Progs) : Prop :=
  ∃ pad pcap, pv = .slice pad progs.length pcap ∧ progs.length ≤ 9223372036854775807 ∧ ∀ (i : Nat) (h : i < progs.length), ∃ b o l cv, pad = some ⟨b, o, none⟩ ∧ RdC q b l ∧ NthN (o + (i : Int).toNat * 1) l cv ∧ InsR q cv progs[i]
theorem ProgsG.r {q : HProp} {pv : Value} {progs : Progs} (h : ProgsG q pv progs) (hl : progs.length ≤ 1000) : ProgsR q pv progs := by
  obtain ⟨pad, pcap, h1, _, h3⟩ := h
  exact ⟨pad, pcap, h1, hl, h3⟩
theorem InsR.of {p q : HProp} {cv : Value} {code : List Ins} (h : InsR q cv code) (hq : ∀ {b : Nat} {l : List Value}, RdC q b l → RdC p b l) : InsR p cv code := by
  obtain ⟨ad, cap, h1, h2 | ⟨b, o, l, rest, h3, h4, h5⟩⟩ := h
  · exact ⟨ad, cap, h1, .inl h2⟩
  · exact ⟨ad, cap, h1, .inr ⟨b, o, l, rest, h3, hq h4, h5⟩⟩
theorem ProgsG.of {p q : HProp} {pv : Value} {progs : Progs} (h : ProgsG q pv progs) (hq : ∀ {b : Nat} {l : List Value}, RdC q b l → RdC p b l) : ProgsG p pv progs := by
  obtain ⟨pad, pcap, h1, h2, h3⟩ := h
  refine ⟨pad, pcap, h1, h2, fun i hi => ?_⟩
  obtain ⟨b, o, l, cv, h4, h5, h6, h7⟩ := h3 i hi
  exact ⟨b, o, l, cv, h4, hq h5, h6, h7.of hq⟩
def short14 (progs : Progs) : Bool := progs.all fun p => decide (p.length ≤ 40)
def few14B (c : Cfg) (progs : Progs) : Bool := short14 progs && (c.right && decide (c.fuel ≤ 200) && decide (progs.length ≤ 8))
theorem right14_r (c : Cfg) : RTri Tryz.prog 103 #[.agg ⟨c.v⟩] [] (.bool c.right) := by
  apply RTri.of_pure
  refine Tri.of_body (vs := [_]) Tryz.func103 rfl rfl fun w0 F => ?_
  repeat' (first | refine Ga ?_ | (refine Gb ?_; intro b) | (refine Gd ?_; intro g cap rest hcap) | (refine Gc ?_; intro ad cap)  | (refine Ge ?_ ?_ <;> (intro h; try (exfalso; omega))) | fail)
  all_goals (first | refine St.dn Tryz.func103 ⟨?_, rfl⟩ Ent.go | refine St.fl Tryz.func103 ⟨?_, rfl⟩ Ent.go)
  all_goals exact congrArg Value.bool (by first | (simp [Cfg.right]; omega) | (rw [Bool.eq_iff_iff]; simp [Cfg.right]; omega))
theorem few14_r (c : Cfg) (q : HProp) (v : Value) (progs : Progs) (hv : ProgsG q v progs) : RTri Tryz.prog 37 #[.agg ⟨c.v⟩, v] [q] (.bool (few14B c progs)) := by
  apply RTri.of_reads
  intro p hp
  have hr0 := right14_r c
  obtain ⟨ad, cap, rfl, hn, hr⟩ := hv.of (p := p) fun h => RdC.of_sat hp (ReadsC.here h)
  refine Tri.of_body (vs := [_, _]) Tryz.func37 rfl rfl fun w0 F => ?_
  repeat' (first | refine Ga ?_ | (refine Gb ?_; intro b) | (refine Gd ?_; intro g cap rest hcap) | (refine Gc ?_; intro ad cap)  | (refine Ge ?_ ?_ <;> (intro h; try (exfalso; omega))) | fail)
  refine St.loopY (Lr := ?Lr) (ι := { k : Nat // k ≤ progs.length ∧ short14 progs = short14 (progs.drop k) }) (fun k => progs.length - k.1)
    (fun k => [(9, .int .i64 (k.1 : Int))]) (fun k => []) ⟨0, Nat.zero_le _, rfl⟩ ?hE ?hL ?round
  case hE => exact Sub.go
  case hL => exact Takes.go
  case round =>
    rintro ⟨k, hk, hgo⟩ IH; dsimp only at hk hgo ⊢
    by_cases hlt : k < progs.length
    · obtain ⟨bj, o, l, cv, rfl, hrd, hnth, hins⟩ := hr k hlt
      rw [List.drop_eq_getElem_cons hlt] at hgo
      generalize progs[k] = pk at hgo hins
      obtain ⟨cad, ccap, rfl, _⟩ := hins
      by_cases he : pk.length ≤ 40
      · repeat' (first | refine Ga ?_ | (refine Gb ?_; intro b) | (refine Gd ?_; intro g cap rest hcap) | (refine Gc ?_; intro ad cap)  | (refine Ge ?_ ?_ <;> (intro h; try (exfalso; omega))) | fail)
        refine IH ⟨k + 1, hlt, ?_⟩ (by show _ - (k + 1) < _ - k; omega) ?_ ?_
        · rw [hgo]; unfold short14; rw [List.all_cons, decide_eq_true he, Bool.true_and]
        · exact Sub.go
        · exact Ent.go
      · have e : few14B c progs = false := by
          unfold few14B
          rw [hgo]; unfold short14; rw [List.all_cons, decide_eq_false he]; rfl
        rw [e]
        repeat' (first | refine Ga ?_ | (refine Gb ?_; intro b) | (refine Gd ?_; intro g cap rest hcap) | (refine Gc ?_; intro ad cap)  | (refine Ge ?_ ?_ <;> (intro h; try (exfalso; omega))) | fail)
        (first | refine St.dn Tryz.func37 ⟨?_, rfl⟩ Ent.go | refine St.fl Tryz.func37 ⟨?_, rfl⟩ Ent.go)
        rfl
    · have e : few14B c progs = (c.right && decide (c.fuel ≤ 200) && decide (progs.length ≤ 8)) := by
        unfold few14B
        rw [hgo, List.drop_eq_nil_of_le (by omega)]; rfl
      rw [e]
      clear IH
      cases hcr : c.right with
      | false =>
        rw [hcr] at hr0
        repeat' (first | refine Ga ?_ | (refine Gb ?_; intro b) | (refine Gd ?_; intro g cap rest hcap) | (refine Gc ?_; intro ad cap) | refine Gl hr0 ?_ | (refine Ge ?_ ?_ <;> (intro h; try (exfalso; omega))) | fail)
        (first | refine St.dn Tryz.func37 ⟨?_, rfl⟩ Ent.go | refine St.fl Tryz.func37 ⟨?_, rfl⟩ Ent.go)
        rfl
      | true =>
        rw [hcr] at hr0
        by_cases hf : c.fuel ≤ 200
        · repeat' (first | refine Ga ?_ | (refine Gb ?_; intro b) | (refine Gd ?_; intro g cap rest hcap) | (refine Gc ?_; intro ad cap) | refine Gl hr0 ?_ | (refine Ge ?_ ?_ <;> (intro h; try (exfalso; omega))) | fail)
          all_goals (first | refine St.dn Tryz.func37 ⟨?_, rfl⟩ Ent.go | refine St.fl Tryz.func37 ⟨?_, rfl⟩ Ent.go)
          all_goals refine congrArg Value.bool ?_
          all_goals rw [decide_eq_true hf, Bool.true_and, Bool.true_and, decide_eq_decide]
          all_goals omega
        · rw [decide_eq_false hf]
          repeat' (first | refine Ga ?_ | (refine Gb ?_; intro b) | (refine Gd ?_; intro g cap rest hcap) | (refine Gc ?_; intro ad cap) | refine Gl hr0 ?_ | (refine Ge ?_ ?_ <;> (intro h; try (exfalso; omega))) | fail)
          all_goals (first | refine St.dn Tryz.func37 ⟨?_, rfl⟩ Ent.go | refine St.fl Tryz.func37 ⟨?_, rfl⟩ Ent.go)
          all_goals rfl
attribute [irreducible] Mm
end Go.Proofs.YthmbgodcpgkkeaaGreat
namespace Go.Proofs.YthmbgodcpgkkeaaGreat
set_option maxRecDepth 100000
section idx
variable {P : Program} {n' : Fi} {E : Env} {L : List HProp} {ty : TypeId}
/-- an element of an array's value -/
theorem OpV.idxAgg {t : TypeId} {x y : Operand} {k : IntKind} {i : Int} {n e : Nat} {l : List Value} {v : Value} [hu : Und P t (.array n e)] [ha1 : IsAg P e false] [hz : Siz P e 1] (hx : ev E x = some (.agg ⟨l⟩)) (hy : ev E y = some (.int k i)) (h0 : 0 ≤ i) (h1 : i < n) (hn : NthN i.toNat l v) :
    OpV P n' (.index t x y) ty E L v := by
  unfold OpV
  exact (fun _ _ _ _ a w ha _ => by
    have h2 := hn.eq
    simp [execOp, ha.ev hx, ha.ev hy, Instr.index, run_underlying hu.h, asIntOf, part, hz.h, ha1.h, h0, h1, h2])
end idx
/-- an Ask's cells -/
def wantN (c : Cfg) (cs : List Cell) (who : Int) (args : List Nat) : Nat → List Cell
  | 0 => cs
  | k + 1 => setOf (wantN c cs who args k) (c.at 2 who k) ⟨args.getD k 0, 0⟩
def Pm.want (c : Cfg) (M : Pm) (who : Int) (prog : Nat) (args : List Nat) (tag : Nat) : Pm := ⟨setOf (wantN c M.cs who args 4) (c.at 1 who 0) ⟨prog, tag⟩, M.st, M.tr⟩
set_option maxHeartbeats 600000 in
theorem want_t (Mb C : Nat) (c : Cfg) (hc : Small c) (M : Pm) (who : Int) (prog : Nat) (hp : prog ≤ 1000000) (a0 a1 a2 a3 : Nat) (tag : Nat) :
    Tri Tryz.prog 51 #[.agg ⟨c.m⟩, .pointer (some ⟨Mb, 0, none⟩), .agg ⟨[.int .i64 who, .int .i64 (prog : Int), .int .u64 (a0 : Int), .int .u64 (a1 : Int), .int .u64 (a2 : Int), .int .u64 (a3 : Int)]⟩, .int .u64 (tag : Int)] [Mm Mb C M]
      fun r L => r = .tuple ⟨[]⟩ ∧ L = [Mm Mb C (M.want c who prog [a0, a1, a2, a3] tag)] := by
  have hset := fun (k : Nat) => mset_t Mb C ⟨wantN c M.cs who [a0, a1, a2, a3] k, M.st, M.tr⟩ (c.at 2 who k) ⟨[a0, a1, a2, a3].getD k 0, 0⟩
  have hset2 := mset_t Mb C ⟨wantN c M.cs who [a0, a1, a2, a3] 4, M.st, M.tr⟩ (c.at 1 who 0) ⟨prog, tag⟩
  unfold Cell.v at hset hset2
  refine Tri.of_body (vs := [_, _, _, _]) Tryz.func51 rfl rfl fun w0 F => ?_
  repeat' (first | refine Ga ?_ | (refine Gb ?_; intro b) | (refine Gd ?_; intro g cap rest hcap) | (refine Gc ?_; intro ad cap) | (refine St.draw (id := 6) [(0, 0), (1, 1), (2, 0), (3, 1), (4, 1), (5, 0), (6, 1), (7, 0), (8, 0), (9, 0), (10, 3)] [10] mixed (by kernel_rfl) ?_) | (refine Ge ?_ ?_ <;> (intro h; try (exfalso; omega))) | fail)
  refine St.loopY (Lr := ?Lr1) (ι := { k : Nat // k ≤ 4 }) (fun x => 4 - x.1) (fun x => [(12, .int .i64 (x.1 : Int))]) (fun x => [Mm Mb C ⟨wantN c M.cs who [a0, a1, a2, a3] x.1, M.st, M.tr⟩]) ⟨0, Nat.zero_le _⟩ ?hE ?hL ?round
  case hE => exact Sub.go
  case hL => exact Takes.go
  case round =>
    rintro ⟨k, hk⟩ IH; dsimp only
    by_cases hlt : k < 4
    · have hn : NthN (k : Int).toNat [Value.int .u64 (a0 : Int), .int .u64 (a1 : Int), .int .u64 (a2 : Int), .int .u64 (a3 : Int)] (.int .u64 (([a0, a1, a2, a3].getD k 0 : Nat) : Int)) := NthN.u64s (l := [a0, a1, a2, a3]) hlt
      have hs := hset k
      repeat' (first | refine Ga ?_ | (refine Gb ?_; intro b) | (refine Gd ?_; intro g cap rest hcap) | (refine Gc ?_; intro ad cap) | (refine St.draw (id := 6) [(0, 0), (1, 1), (2, 0), (3, 1), (4, 1), (5, 0), (6, 1), (7, 0), (8, 0), (9, 0), (10, 3)] [10] mixed (by kernel_rfl) ?_) | (refine Ge ?_ ?_ <;> (intro h; try (exfalso; omega))) | fail)
      (apply StL.v; (apply OpV.idxAgg; rfl; rfl; omega; omega; exact hn); rfl)
      repeat' (first | refine Ga ?_ | (refine Gb ?_; intro b) | (refine Gd ?_; intro g cap rest hcap) | (refine Gc ?_; intro ad cap) | (refine St.draw (id := 6) [(0, 0), (1, 1), (2, 0), (3, 1), (4, 1), (5, 0), (6, 1), (7, 0), (8, 0), (9, 0), (10, 3)] [10] mixed (by kernel_rfl) ?_)| refine Gl (at_r c hc _ _ _) ?_ | (refine Gt hs ?_; rintro _ _ ⟨e, rfl, rfl⟩) | (refine Ge ?_ ?_ <;> (intro h; try (exfalso; omega))) | fail)
      refine IH ⟨k + 1, by omega⟩ (by show 4 - (k + 1) < 4 - k; omega) ?_ ?_
      · exact Sub.go
      · exact Ent.go
    · have hk4 : k = 4 := by omega
      subst hk4
      repeat' (first | refine Ga ?_ | (refine Gb ?_; intro b) | (refine Gd ?_; intro g cap rest hcap) | (refine Gc ?_; intro ad cap) | (refine St.draw (id := 6) [(0, 0), (1, 1), (2, 0), (3, 1), (4, 1), (5, 0), (6, 1), (7, 0), (8, 0), (9, 0), (10, 3)] [10] mixed (by kernel_rfl) ?_)| refine Gl (at_r c hc _ _ _) ?_ | (refine Gt hset2 ?_; rintro _ _ ⟨e, rfl, rfl⟩) | (refine Ge ?_ ?_ <;> (intro h; try (exfalso; omega))) | fail)
      refine St.f1 Tryz.func51 ⟨_, ⟨rfl, rfl⟩, Ent.go⟩
def opL (o : MOp) : List Value := [.int .i64 o.kind, .int .i64 o.at_, .int .u64 o.old.val, .int .u64 o.old.seq, .int .u64 o.new.val, .int .u64 o.new.seq]
/-- a transaction and a memory, step by step -/
def pstep (c : Cfg) (progs : Progs) (who : Int) (s : Pm × Bm) : Pm × Bm :=
  ((s.1.do who (s.2.ask c).1).1, s.2.tell c c.cap.toNat progs (s.1.do who (s.2.ask c).1).2)
def pit (c : Cfg) (progs : Progs) (who : Int) (s : Pm × Bm) : Nat → Pm × Bm
  | 0 => s
  | k + 1 => pstep c progs who (pit c progs who s k)
theorem pit_inv {c : Cfg} (hc : Small c) (hf : 0 ≤ c.fuel ∧ c.fuel ≤ 1000) {progs : Progs} {who : Int} {s : Pm × Bm} (h : Binv c progs s.2) (hst : s.1.st.length = 8) : ∀ k, Binv c progs (pit c progs who s k).2 ∧ (pit c progs who s k).1.st.length = 8 ∧ (pit c progs who s k).1.cs.length = s.1.cs.length ∧ (pit c progs who s k).1.tr.length ≤ s.1.tr.length + k
  | 0 => ⟨h, hst, rfl, Nat.le_refl _⟩
  | k + 1 => by
    obtain ⟨h1, h2, h3, h4⟩ := pit_inv hc hf h hst k (who := who)
    obtain ⟨g1, g2, g3⟩ := Pm.do_len (pit c progs who s k).1 who ((pit c progs who s k).2.ask c).1
    refine ⟨?_, ?_, ?_, ?_⟩
    · exact h1.tell hc hf _
    · rw [← h2]; exact g2
    · rw [← h3]; exact g1
    · have : (pit c progs who s (k + 1)).1.tr.length ≤ (pit c progs who s k).1.tr.length + 1 := g3
      omega
set_option maxHeartbeats 600000 in
theorem plan_t (Mb C : Nat) (c : Cfg) (hc : Small c) (hf : 0 ≤ c.fuel ∧ c.fuel ≤ 1000) (M : Pm) (hst : M.st.length = 8) (who : Int) (seq : Nat) (pv : Value) (q : HProp) (progs : Progs) (hpv : ProgsR q pv progs) (N : Nat) (htr : M.tr.length + N ≤ 1000000)
    (hN : ∀ k ≤ N, ((pit c progs who (M, Bm.new who seq) k).2.ask c).2 = decide (k < N)) :
    Tri Tryz.prog 52 #[.agg ⟨c.m⟩, .pointer (some ⟨Mb, 0, none⟩), .int .i64 who, .int .u64 (seq : Int), pv] [Mm Mb C M, q]
      fun r L => ∃ B, r = .pointer (some ⟨B, 0, none⟩) ∧ L = [Bd B c pv q progs (pit c progs who (M, Bm.new who seq) N).2, Mm Mb C (pit c progs who (M, Bm.new who seq) N).1, q] := by
  have hinv := pit_inv (who := who) hc hf (s := (M, Bm.new who seq)) (Binv.new hc who seq (progs := progs)) hst
  have hnew := bnew_t c hc pv q progs who seq hpv
  generalize hit : pit c progs who (M, Bm.new who seq) = it at hN hinv ⊢
  have e0 : (M, Bm.new who seq) = it 0 := by rw [← hit]; rfl
  have e1 : ∀ k, it (k + 1) = pstep c progs who (it k) := fun k => by rw [← hit]; rfl
  have em : M = (it 0).1 := by rw [← e0]
  have eb : Bm.new who seq = (it 0).2 := by rw [← e0]
  rw [eb] at hnew
  rw [em]
  have hask : ∀ B k, k ≤ N → RTri Tryz.prog 40 #[.pointer (some ⟨B, 0, none⟩)] [Bd B c pv q progs (it k).2] (.tuple ⟨[.agg ⟨((it k).2.ask c).1.v⟩, .bool (decide (k < N))]⟩) := fun B k hk => by
    rw [← hN k hk]; exact bask_r B c hc pv q progs _ (hinv k).1
  have hdo : ∀ k, k < N → Tri Tryz.prog 87 #[.pointer (some ⟨Mb, 0, none⟩), .int .i64 who, .agg ⟨((it k).2.ask c).1.v⟩] [Mm Mb C (it k).1]
      fun v L => ∃ e, v = .tuple ⟨[.agg ⟨((it k).1.do who ((it k).2.ask c).1).2.v⟩, .int .i64 e]⟩ ∧ L = [Mm Mb C (it (k + 1)).1] := fun k hk => by
    rw [e1]
    have hi := hinv k
    exact mdo_t Mb C (it k).1 hi.2.1 (by have := hi.2.2.2; dsimp only at this; omega) who ((it k).2.ask c).1
  have htell : ∀ B k, Tri Tryz.prog 49 #[.pointer (some ⟨B, 0, none⟩), .agg ⟨((it k).1.do who ((it k).2.ask c).1).2.v⟩] [Bd B c pv q progs (it k).2, q]
      fun r L => r = .tuple ⟨[]⟩ ∧ L = [Bd B c pv q progs (it (k + 1)).2, q] := fun B k => by
    rw [e1]
    exact btell_t B c hc pv q progs (it k).2 hf hpv (hinv k).1 _
  clear e1 e0 hinv hN hit em eb
  unfold MOp.v at hask hdo
  have ha0 := fun B => hask B 0 (Nat.zero_le _)
  obtain ⟨pad, pcap, rfl, hpl, hpr⟩ := hpv
  refine Tri.of_body (vs := [_, _, _, _, _]) Tryz.func52 rfl rfl fun w0 F => ?_
  repeat' (first | refine Ga ?_ | (refine Gb ?_; intro b) | (refine Gd ?_; intro g cap rest hcap) | (refine Gc ?_; intro ad cap) | refine Gl (ha0 _) ?_ | (refine Gt hnew ?_; rintro _ _ ⟨B, rfl, rfl⟩) | (refine Ge ?_ ?_ <;> (intro h; try (exfalso; omega))) | fail)
  revert b; intro A
  refine St.loopY (Lr := ?Lr1) (ι := { x : Nat × Nat // x.1 ≤ N }) (fun x => N - x.1.1) (fun x => [(12, .pointer (some ⟨x.1.2, 0, none⟩)), (13, .bool (decide (x.1.1 < N)))]) (fun x => [bl x.1.2 41 (opL ((it x.1.1).2.ask c).1), Bd B c (.slice pad progs.length pcap) q progs (it x.1.1).2, Mm Mb C (it x.1.1).1]) ⟨(0, A), Nat.zero_le _⟩ ?hE ?hL ?round
  case hE => exact Sub.go
  case hL => unfold opL; exact Takes.go
  case round =>
    rintro ⟨⟨k, Ak⟩, hk⟩ IH; dsimp only at hk IH ⊢
    unfold opL at IH ⊢
    by_cases hlt : k < N
    · rw [decide_eq_true hlt]
      have h1 := hdo k hlt
      have h2 := htell B k
      have h3 := hask B (k + 1) hlt
      repeat' (first | refine Ga ?_ | (refine Gb ?_; intro b) | (refine Gd ?_; intro g cap rest hcap) | (refine Gc ?_; intro ad cap) | refine Gl h3 ?_ | (refine Gt h1 ?_; rintro _ _ ⟨e, rfl, rfl⟩) | (refine Gt h2 ?_; rintro _ _ ⟨rfl, rfl⟩) | (refine Ge ?_ ?_ <;> (intro h; try (exfalso; omega))) | fail)
      refine IH ⟨(k + 1, b), by dsimp only; omega⟩ (by show N - (k + 1) < N - k; omega) ?_ ?_
      · exact Sub.go
      · exact Ent.go
    · have hkN : k = N := by omega
      subst hkN
      rw [decide_eq_false hlt]
      repeat' (first | refine Ga ?_ | (refine Gb ?_; intro b) | (refine Gd ?_; intro g cap rest hcap) | (refine Gc ?_; intro ad cap)  | (refine Ge ?_ ?_ <;> (intro h; try (exfalso; omega))) | fail)
      refine St.d1 Tryz.func52 ⟨_, ⟨B, rfl, rfl⟩, Ent.go⟩
end Go.Proofs.YthmbgodcpgkkeaaGreat
namespace Go.Proofs.YthmbgodcpgkkeaaGreat
set_option maxRecDepth 100000
def cfg14 : Cfg := ⟨2, 3, 20, 50, 0, 99⟩
def code14 : List Ins := [⟨8, 1, 0, 0, 0⟩, ⟨10, 1, 2, 0, 0⟩, ⟨20, 1, 0, 0, 0⟩]
def progs14 : Progs := [code14]
def boot14 : Pm := ⟨cfg14.boot, zeros8, []⟩
def mem14 : Pm := boot14.want cfg14 0 0 [7, 0, 0, 0] 1
def it14 : Pm × Bm := pit cfg14 progs14 1 (mem14, Bm.new 1 0) 11
theorem small14 : Small cfg14 := Cfg.small (by decide +kernel)
theorem asks14 : ∀ k ≤ 11, ((pit cfg14 progs14 1 (mem14, Bm.new 1 0) k).2.ask cfg14).2 = decide (k < 11) := by decide +kernel
theorem s14 : it14.2.b.s = 1 := by kernel_rfl
theorem rows14 : it14.2.rows = [⟨0, 1, 0, 7, []⟩] := by kernel_rfl
theorem ents14 : entriesOf cfg14 it14.2.e.puts = [(371, 7), (366, 0), (367, 7), (365, 1)] := by kernel_rfl
theorem tr14 : it14.1.tr.length = 11 := by kernel_rfl
theorem at371 : cfg14.at 10 0 0 = 371 := by kernel_rfl
theorem at365 : cfg14.at 7 0 0 = 365 := by kernel_rfl
def blkV (l : Value × Unit) : Value := l.1
instance : MapTy Tryz.prog 248 Int (Value × Unit) (Value.int .u64) blkV (.agg #[.int .u64 0, .int .u64 0, .int .u64 0, .int .u64 0, .int .u64 0, .int .u64 0, .int .u64 0, .int .u64 0], ()) :=
  MapTy.int Tryz.underlying248 Tryz.underlying22 (inferInstance : Zer Tryz.prog 257 _).h
theorem mnewb_t : Tri Tryz.prog 55 #[] [] fun r L => (∃ S, r = .pointer (some ⟨S, 0, none⟩)) ∧ L = [] := by
  refine Tri.of_body (vs := []) Tryz.func55 rfl rfl fun w0 F => ?_
  repeat' (first | refine Ga ?_ | (refine Gb ?_; intro b) | (refine Gd ?_; intro g cap rest hcap) | (refine Gc ?_; intro ad cap)  | (refine Ge ?_ ?_ <;> (intro h; try (exfalso; omega))) | fail)
  refine St.d1 Tryz.func55 ⟨_, ⟨⟨_, rfl⟩, rfl⟩, ?_⟩
  exact Ent.go
theorem sample14_r : RTri Tryz.prog 123 #[] [] (.agg ⟨cfg14.v⟩) := by
  apply RTri.of_pure
  refine Tri.of_body (vs := []) Tryz.func123 rfl rfl fun w0 F => ?_
  repeat' (first | refine Ga ?_ | (refine Gb ?_; intro b) | (refine Gd ?_; intro g cap rest hcap) | (refine Gc ?_; intro ad cap)  | (refine Ge ?_ ?_ <;> (intro h; try (exfalso; omega))) | fail)
  (first | refine St.dn Tryz.func123 ⟨?_, rfl⟩ Ent.go | refine St.fl Tryz.func123 ⟨?_, rfl⟩ Ent.go)
  rfl
theorem bootm_t (c : Cfg) (hc : Small c) : Tri Tryz.prog 50 #[.agg ⟨c.m⟩] [] fun v L => ∃ M C, v = .pointer (some ⟨M, 0, none⟩) ∧ L = [Mm M C ⟨c.boot, zeros8, []⟩] := by
  refine (boot_t c hc).wk ?_
  rintro v L' ⟨M, C, rfl, rfl⟩
  refine ⟨_, ⟨M, C, rfl, rfl⟩, ?_⟩
  have hl : c.boot.length = c.size := c.bootN_len _
  have := Ent.mm M C ⟨c.boot, zeros8, []⟩ (.slice none 0 0) (L := [])
  dsimp only at this
  rw [hl] at this
  refine Ent.trans ?_ this
  refine Ent.trans (Ent.row_nil 285 10) ?_
  exact Ent.go
theorem Tri.row_out {P : Program} {f : FuncId} {args : Array Value} {L : List HProp} {A : HProp} {ι : Type} {S : ι → List HProp} {e sz n : Nat} {xs : ι → List Value} (hn : 0 < n)
    (h : Tri P f args L fun r L' => ∃ ad cap y, r = .slice ad n cap ∧ L' = A :: Row (.slice ad n cap) e sz n (xs y) :: S y) :
    Tri P f args L fun r L' => ∃ g cap rest y, r = .slice (some ⟨g, 0, none⟩) n cap ∧ L' = A :: Go.Proofs.YthmbgodcpgkkeaaGreat.bl g e (xs y ++ rest) :: S y := by
  unfold Tri at *
  intro w F hs
  refine (h w F hs).mono ?_
  rintro e' w' ⟨v, L', he, ⟨ad, cap, y, rfl, rfl⟩, hs', ho⟩
  rw [List.cons_append, List.cons_append] at hs'
  obtain ⟨h1, h2, hd, hor, hA, hs'⟩ := sat_cons.1 hs'
  obtain ⟨h3, h4, hd', hor', hR, hF⟩ := sat_cons.1 hs'
  unfold Row at hR
  obtain ⟨_, ⟨_, h0⟩ | ⟨g, cap', cur, hv, hc, _, _, htk, hp⟩⟩ := hR
  · omega
  · injection hv with hv1 _ hv3
    subst hv1 hv3
    refine ⟨_, _, he, ⟨g, _, cur.toList.drop (n * sz), y, rfl, rfl⟩, ?_, ho⟩
    rw [List.cons_append, List.cons_append]
    refine sat_cons.2 ⟨h1, h2, hd, hor, hA, sat_cons.2 ⟨h3, h4, hd', hor', ?_, hF⟩⟩
    rw [← htk, List.take_append_drop]
    exact hp
theorem RdC.starR {L : List HProp} {b : Nat} {l : List Value} (r : ReadsC L b l) : RdC (Go.Proofs.YthmbgodcpgkkeaaGreat.star L) b l := by
  refine RdC.of_sat (fun k hk => ?_) r
  have := Ent.star_out (L := L) (M := [])
  unfold Ent at this
  have := this k (sat_cons.2 ⟨k, fun _ => none, fun _ => .inr rfl, fun _ => (or_none' _).symm, hk, by with_unfolding_all exact True.intro⟩)
  rwa [List.append_nil] at this
theorem St.gather {P : Program} {C : Cx} {k : List Item} {E : Env} {L ps Lr : List HProp} (t : Takes ps L Lr) (h : St P C k E (star ps :: Lr)) : St P C k E L :=
  h.conv (Sub.refl _) (t.ent.trans (Ent.star_in ps))
def q14 (bi bo : Nat) : HProp := star [bl bi 200 (code14.flatMap Ins.v), bl bo 67 [.slice (some ⟨bi, 0, none⟩) 3 3]]
theorem progs14_r (bi bo : Nat) : ProgsR (q14 bi bo) (.slice (some ⟨bo, 0, none⟩) 1 1) progs14 := by
  refine ⟨_, _, rfl, by decide, fun i hi => ?_⟩
  have h0 : i = 0 := by simp only [progs14, List.length_cons, List.length_nil] at hi; omega
  subst h0
  refine ⟨bo, 0, _, _, rfl, RdC.starR (.there (.here .bl)), .zero, _, _, rfl, .inr ⟨bi, 0, _, [], rfl, RdC.starR (.here .bl), ?_⟩⟩
  rw [List.append_nil]
  exact .zero
set_option maxHeartbeats 1000000 in
theorem alive_t : Tri Tryz.prog 36 #[] [] fun v L => v = .bool true ∧ L = [] := by
  have hr : cfg14.right = true := by decide +kernel
  have hof := of_r cfg14
  unfold Cfg.ofV at hof
  rw [hr] at hof
  have hb := bootm_t cfg14 small14
  have h1 := at_r cfg14 small14 10 0 0
  have h2 := at_r cfg14 small14 7 0 0
  rw [at371] at h1
  rw [at365] at h2
  have hnew := fun bi bo => bnew_t cfg14 small14 _ (q14 bi bo) progs14 1 0 (progs14_r bi bo)
  have hw := fun Mb C => want_t Mb C cfg14 small14 boot14 0 0 (by decide) 7 0 0 0 1
  have hp := fun Mb C bi bo => plan_t Mb C cfg14 small14 (by decide) mem14 rfl 1 0 _ (q14 bi bo) progs14 (progs14_r bi bo) 11 (by decide) asks14
  rw [show pit cfg14 progs14 1 (mem14, Bm.new 1 0) 11 = it14 from rfl] at hp
  have hi : Binv cfg14 progs14 it14.2 := (pit_inv (who := 1) small14 (by decide) (s := (mem14, Bm.new 1 0)) (Binv.new small14 1 0 (progs := progs14)) rfl 11).1
  have hl : it14.1.st.length = 8 := (pit_inv (who := 1) small14 (by decide) (s := (mem14, Bm.new 1 0)) (Binv.new small14 1 0 (progs := progs14)) rfl 11).2.1
  have hs := fun B pv q => bstatus_r B cfg14 pv q progs14 it14.2
  rw [s14] at hs
  have ht := fun Mb C => mtotal_r Mb C it14.1 hl
  rw [tr14] at ht
  have he := fun B pv q => bentries_t B cfg14 small14 pv q progs14 it14.2 hi
  rw [ents14] at he
  have hrw := fun B pv q => brows_t B cfg14 small14 pv q progs14 it14.2 hi
  rw [rows14] at hrw
  have he2 : ∀ B pv q, Tri Tryz.prog 47 #[.pointer (some ⟨B, 0, none⟩)] [Bd B cfg14 pv q progs14 it14.2] fun r L => ∃ g cap rest, r = .slice (some ⟨g, 0, none⟩) 4 cap ∧ L = [Bd B cfg14 pv q progs14 it14.2, bl g 119 ([.int .i64 371, .int .u64 7, .int .i64 366, .int .u64 0, .int .i64 367, .int .u64 7, .int .i64 365, .int .u64 1] ++ rest)] := fun B pv q => by
    have := Tri.row_out (ι := Unit) (S := fun _ => []) (A := Bd B cfg14 pv q progs14 it14.2) (e := 119) (sz := 2) (n := 4) (xs := fun _ => [.int .i64 371, .int .u64 7, .int .i64 366, .int .u64 0, .int .i64 367, .int .u64 7, .int .i64 365, .int .u64 1]) (by decide)
      ((he B pv q).wk fun v L' ⟨ad, cap, h3, h4⟩ => ⟨_, ⟨ad, cap, (), h3, h4⟩, Ent.refl _⟩)
    exact this.wk fun v L' ⟨g, cap, rest, _, h3, h4⟩ => ⟨_, ⟨g, cap, rest, h3, h4⟩, Ent.refl _⟩
  have hrw2 : ∀ B pv q, Tri Tryz.prog 44 #[.pointer (some ⟨B, 0, none⟩)] [Bd B cfg14 pv q progs14 it14.2] fun r L => ∃ g cap rest na nc, r = .slice (some ⟨g, 0, none⟩) 1 cap ∧ L = [Bd B cfg14 pv q progs14 it14.2, bl g 128 ([.int .i64 0, .int .u64 1, .int .i64 0, .int .u64 7, .slice na 0 nc] ++ rest)] := fun B pv q => by
    have := Tri.row_out (ι := Option Addr × Nat) (S := fun y => [star [rowP (⟨0, 1, 0, 7, []⟩, y)]]) (A := Bd B cfg14 pv q progs14 it14.2) (e := 128) (sz := 5) (n := 1) (xs := fun y => [.int .i64 0, .int .u64 1, .int .i64 0, .int .u64 7, .slice y.1 0 y.2]) (by decide)
      ((hrw B pv q).wk fun v L' ⟨ad, cap, rs, h0, h3, h4⟩ => by
        match rs, h0 with
        | [(r, y)], h0 =>
          injection h0 with h0 _
          dsimp only at h0
          subst h0
          exact ⟨_, ⟨ad, cap, y, h3, h4⟩, Ent.refl _⟩)
    exact this.wk fun v L' ⟨g, cap, rest, y, h3, h4⟩ => ⟨_, ⟨g, cap, rest, y.1, y.2, h3, rfl⟩, by rw [h4]; exact Ent.go⟩
  refine Tri.of_body (vs := []) Tryz.func36 rfl rfl fun w0 F => ?_
  repeat' (first | refine St.halt 6 ?_ |refine Ga ?_ | (refine Gb ?_; intro b) | (refine Gd ?_; intro g cap rest hcap) | (refine Gc ?_; intro ad cap) | (refine St.draw (id := 11) [(0, 0), (1, 1), (2, 0), (3, 0), (4, 0), (5, 0), (6, 0), (7, 0), (8, 0), (9, 0), (10, 0), (11, 0), (12, 1), (13, 0), (14, 0), (15, 0), (16, 0), (17, 0), (18, 0), (19, 1), (20, 0), (21, 0), (22, 0), (23, 0), (24, 0), (25, 0), (26, 1), (27, 0), (28, 0), (29, 0), (30, 0), (31, 0), (32, 0), (33, 0), (34, 0), (35, 0), (36, 0), (37, 0), (38, 1), (39, 1), (40, 1), (41, 0), (42, 0), (43, 0), (44, 0), (45, 0), (46, 0), (47, 1), (48, 1), (49, 1), (50, 0), (51, 0), (52, 0), (53, 0), (54, 0), (55, 1), (56, 0), (57, 0), (58, 0)] [] mixed (by kernel_rfl) ?_)| refine Gl sample14_r ?_ | refine Gl hof ?_ | (refine Gt mnewb_t ?_; rintro _ _ ⟨⟨S, rfl⟩, rfl⟩) | (refine Gt hb ?_; rintro _ _ ⟨Mb, C, rfl, rfl⟩) | (refine Ge ?_ ?_ <;> (intro h; try (exfalso; omega))) | fail)
  revert b; intro bo
  revert b; intro bi
  refine Halt.go (St.gather (Lr := ?Lr0) (ps := [bl bi 200 (code14.flatMap Ins.v), bl bo 67 [.slice (some ⟨bi, 0, none⟩) 3 3]]) ?tk ?go)
  case tk => exact Takes.go
  show St _ _ _ _ (q14 bi bo :: _)
  have hnew := hnew bi bo
  have hp := hp Mb C bi bo
  have hs := fun B => hs B (.slice (some ⟨bo, 0, none⟩) 1 1) (q14 bi bo)
  have he2 := fun B => he2 B (.slice (some ⟨bo, 0, none⟩) 1 1) (q14 bi bo)
  have hrw2 := fun B => hrw2 B (.slice (some ⟨bo, 0, none⟩) 1 1) (q14 bi bo)
  have ht := ht Mb C
  repeat' (first | refine Ga ?_ | (refine Gb ?_; intro b) | (refine Gd ?_; intro g cap rest hcap) | (refine Gc ?_; intro ad cap) | (refine St.draw (id := 11) [(0, 0), (1, 1), (2, 0), (3, 0), (4, 0), (5, 0), (6, 0), (7, 0), (8, 0), (9, 0), (10, 0), (11, 0), (12, 1), (13, 0), (14, 0), (15, 0), (16, 0), (17, 0), (18, 0), (19, 1), (20, 0), (21, 0), (22, 0), (23, 0), (24, 0), (25, 0), (26, 1), (27, 0), (28, 0), (29, 0), (30, 0), (31, 0), (32, 0), (33, 0), (34, 0), (35, 0), (36, 0), (37, 0), (38, 1), (39, 1), (40, 1), (41, 0), (42, 0), (43, 0), (44, 0), (45, 0), (46, 0), (47, 1), (48, 1), (49, 1), (50, 0), (51, 0), (52, 0), (53, 0), (54, 0), (55, 1), (56, 0), (57, 0), (58, 0)] [] mixed (by kernel_rfl) ?_)| refine Gl h1 ?_ | refine Gl h2 ?_ | refine Gl (hs _) ?_ | refine Gl ht ?_ | (refine Gt hnew ?_; rintro _ _ ⟨B0, rfl, rfl⟩) | (refine Gt (hw Mb C) ?_; rintro _ _ ⟨rfl, rfl⟩) | (refine Gt hp ?_; rintro _ _ ⟨B, rfl, rfl⟩) | (refine Gt (hrw2 _) ?_; rintro _ _ ⟨gr, capr, restr, na, nc, rfl, rfl⟩) | (refine Gt (he2 _) ?_; rintro _ _ ⟨ge, cape, reste, rfl, rfl⟩) | (refine Ge ?_ ?_ <;> (intro h; try (exfalso; omega))) | fail)
  (apply StL.v; (apply OpV.buildA; (focus (repeat (first | rfl | constructor))); (exact Fill.cons ⟨rfl, rfl⟩ rfl (by repeat constructor) Fill.nil)); rfl)
  repeat' (first | refine Ga ?_ | (refine Gb ?_; intro b) | (refine Gd ?_; intro g cap rest hcap) | (refine Gc ?_; intro ad cap) | (refine St.draw (id := 11) [(0, 0), (1, 1), (2, 0), (3, 0), (4, 0), (5, 0), (6, 0), (7, 0), (8, 0), (9, 0), (10, 0), (11, 0), (12, 1), (13, 0), (14, 0), (15, 0), (16, 0), (17, 0), (18, 0), (19, 1), (20, 0), (21, 0), (22, 0), (23, 0), (24, 0), (25, 0), (26, 1), (27, 0), (28, 0), (29, 0), (30, 0), (31, 0), (32, 0), (33, 0), (34, 0), (35, 0), (36, 0), (37, 0), (38, 1), (39, 1), (40, 1), (41, 0), (42, 0), (43, 0), (44, 0), (45, 0), (46, 0), (47, 1), (48, 1), (49, 1), (50, 0), (51, 0), (52, 0), (53, 0), (54, 0), (55, 1), (56, 0), (57, 0), (58, 0)] [] mixed (by kernel_rfl) ?_)| refine Gl h1 ?_ | refine Gl h2 ?_ | refine Gl (hs _) ?_ | refine Gl ht ?_ | (refine Gt hnew ?_; rintro _ _ ⟨B0, rfl, rfl⟩) | (refine Gt (hw Mb C) ?_; rintro _ _ ⟨rfl, rfl⟩) | (refine Gt hp ?_; rintro _ _ ⟨B, rfl, rfl⟩) | (refine Gt (hrw2 _) ?_; rintro _ _ ⟨gr, capr, restr, na, nc, rfl, rfl⟩) | (refine Gt (he2 _) ?_; rintro _ _ ⟨ge, cape, reste, rfl, rfl⟩) | (refine Ge ?_ ?_ <;> (intro h; try (exfalso; omega))) | fail)
  refine St.d1 Tryz.func36 ?_; apply Exists.intro; apply And.intro; exact ⟨rfl, rfl⟩; exact Ent.go
end Go.Proofs.YthmbgodcpgkkeaaGreat
