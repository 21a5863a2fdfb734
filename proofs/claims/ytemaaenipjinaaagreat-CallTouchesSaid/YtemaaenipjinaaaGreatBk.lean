/-
  Package build, sealed; a memory, sealed; package tumblerlaw14: few. Package tumblerlaw14: want, plan. Package tumblerlaw14: alive.
-/
import Derived.Test.YtemaaenipjinaaaGreatBj
import Derived.Test.YtemaaenipjinaaaGreatBoot
namespace Go.Proofs.YtemaaenipjinaaaGreat
set_option maxRecDepth 100000
/-- a Build -/
def Bd (B : Nat) (c : Cfg) (pv : Value) (q : HProp) (progs : Progs) (m : Bm) : HProp := BdE B c.cap.toNat c pv q progs m
theorem bnew_t (c : Cfg) (hc : Small c) (pv : Value) (q : HProp) (progs : Progs) (who : Int) (seq : Nat) (hpv : ProgsR q pv progs) : Tri Tryz.prog 134 #[.agg ⟨c.m⟩, .int .i64 who, .int .u64 (seq : Int), pv] [] fun r L => ∃ B, r = .pointer (some ⟨B, 0, none⟩) ∧ L = [Bd B c pv q progs (Bm.new who seq)] := bnew_tE c hc who seq pv q progs hpv
theorem btell_t (B : Nat) (c : Cfg) (hc : Small c) (pv : Value) (q : HProp) (progs : Progs) (m : Bm) (hf : 0 ≤ c.fuel ∧ c.fuel ≤ 1000) (hpv : ProgsR q pv progs) (hi : Binv c progs m) (o : Out) : Tri Tryz.prog 304 #[.pointer (some ⟨B, 0, none⟩), .agg ⟨o.v⟩] [Bd B c pv q progs m, q]
    fun r L => r = .tuple ⟨[]⟩ ∧ L = [Bd B c pv q progs (m.tell c c.cap.toNat progs o), q] := btell_tE B c hc hf pv q progs hpv m hi o
theorem bstatus_r (B : Nat) (c : Cfg) (pv : Value) (q : HProp) (progs : Progs) (m : Bm) : RTri Tryz.prog 188 #[.pointer (some ⟨B, 0, none⟩)] [Bd B c pv q progs m] (.int .i64 m.b.s) := bstatus_rE B c.cap.toNat c pv q progs m
theorem bask_r (B : Nat) (c : Cfg) (hc : Small c) (pv : Value) (q : HProp) (progs : Progs) (m : Bm) (hi : Binv c progs m) : RTri Tryz.prog 303 #[.pointer (some ⟨B, 0, none⟩)] [Bd B c pv q progs m] (.tuple ⟨[.agg ⟨(m.ask c).1.v⟩, .bool (m.ask c).2]⟩) := bask_rE B c hc pv q progs m hi
theorem bentries_t (B : Nat) (c : Cfg) (hc : Small c) (pv : Value) (q : HProp) (progs : Progs) (m : Bm) (hi : Binv c progs m) : Tri Tryz.prog 136 #[.pointer (some ⟨B, 0, none⟩)] [Bd B c pv q progs m]
    fun r L => ∃ ad cap, r = .slice ad (entriesOf c m.e.puts).length cap ∧ L = [Bd B c pv q progs m, Row (.slice ad (entriesOf c m.e.puts).length cap) 314 2 (entriesOf c m.e.puts).length ((entriesOf c m.e.puts).flatMap entV)] :=
  bentries_tE B c.cap.toNat c hc pv q progs m (by have := hi.len; omega)
theorem brows_t (B : Nat) (c : Cfg) (hc : Small c) (pv : Value) (q : HProp) (progs : Progs) (m : Bm) (hi : Binv c progs m) : Tri Tryz.prog 76 #[.pointer (some ⟨B, 0, none⟩)] [Bd B c pv q progs m]
    fun r L => ∃ (ad : Option Addr) (cap : Nat) (rs : List RowH), rs.map (·.1) = m.rows ∧ r = .slice ad m.rows.length cap ∧ L = [Bd B c pv q progs m, Row (.slice ad m.rows.length cap) 83 5 m.rows.length (rs.flatMap rowV), star (rs.map rowP)] :=
  brows_tE B c.cap.toNat c pv q progs m (by have := hi.rows; have := hi.u; have := hc.t1; omega) (fun r hr => (hi.gen.news r hr).1)
attribute [irreducible] Bd
/-- a memory -/
structure Pm where
  cs : List Cell
  st : List Int
  tr : List Ev
def Pm.do (M : Pm) (who : Int) (o : MOp) : Pm × Out :=
  if checkOf M.cs.length who o ≠ 0 then (M, ⟨⟨0, 0⟩, false⟩) else
  (⟨M.cs.set o.at_.toNat (becomes (M.cs.getD o.at_.toNat ⟨0, 0⟩) o), M.st.set who.toNat (IntKind.i64.wrap (M.st.getD who.toNat 0 + 1)), M.tr ++ [⟨who, o, outOf (M.cs.getD o.at_.toNat ⟨0, 0⟩) o⟩]⟩, outOf (M.cs.getD o.at_.toNat ⟨0, 0⟩) o)
theorem Pm.do_len (M : Pm) (who : Int) (o : MOp) : (M.do who o).1.cs.length = M.cs.length ∧ (M.do who o).1.st.length = M.st.length ∧ (M.do who o).1.tr.length ≤ M.tr.length + 1 := by
  unfold Pm.do; split
  · exact ⟨rfl, rfl, Nat.le_succ _⟩
  · exact ⟨List.length_set, List.length_set, by rw [List.length_append]; exact Nat.le_refl _⟩
def mmL (Mb C : Nat) (M : Pm) (tv : Value) : List HProp := [bl Mb 180 (memV C M.cs.length M.st tv), bl C 43 (M.cs.flatMap Cell.v), Row tv 184 10 M.tr.length (M.tr.flatMap Ev.v)]
def Mm (Mb C : Nat) (M : Pm) : HProp := ex (mmL Mb C M)
theorem Ent.mm (Mb C : Nat) (M : Pm) (tv : Value) {L : List HProp} : Ent (bl Mb 180 (memV C M.cs.length M.st tv) :: bl C 43 (M.cs.flatMap Cell.v) :: Row tv 184 10 M.tr.length (M.tr.flatMap Ev.v) :: L) (Mm Mb C M :: L) := Ent.ex_in (Ls := mmL Mb C M) tv
theorem mdo_t (Mb C : Nat) (M : Pm) (hst : M.st.length = 8) (htr : M.tr.length ≤ 1000000) (who : Int) (o : MOp) : Tri Tryz.prog 39 #[.pointer (some ⟨Mb, 0, none⟩), .int .i64 who, .agg ⟨o.v⟩] [Mm Mb C M]
    fun v L => ∃ e, v = .tuple ⟨[.agg ⟨(M.do who o).2.v⟩, .int .i64 e]⟩ ∧ L = [Mm Mb C (M.do who o).1] := by
  refine Tri.ex_out fun tv => ?_
  have h := do_t Mb C M.cs M.st hst tv M.tr htr who o
  unfold Tri at h ⊢
  intro w F hs
  refine (h w F hs).mono ?_
  rintro e w' ⟨v, L, he, hq, hs', ho⟩
  have fin : ∀ (M' : Pm) (tv' : Value), Sat ([bl Mb 180 (memV C M'.cs.length M'.st tv'), bl C 43 (M'.cs.flatMap Cell.v), Row tv' 184 10 M'.tr.length (M'.tr.flatMap Ev.v)] ++ F) (hpOf w') → Sat ([Mm Mb C M'] ++ F) (hpOf w') := fun M' tv' h => by
    have := Ent.mm Mb C M' tv' (L := F)
    unfold Ent at this
    exact this _ h
  rcases hq with ⟨h1, rfl, rfl⟩ | ⟨h1, hat, hw, tv', rfl, rfl⟩
  · have e1 : M.do who o = (M, ⟨⟨0, 0⟩, false⟩) := by unfold Pm.do; rw [if_pos h1]
    refine ⟨_, _, he, ⟨checkOf M.cs.length who o, by rw [e1], rfl⟩, ?_, ho⟩
    rw [e1]; exact fin M tv hs'
  · have e1 : M.do who o = (⟨M.cs.set o.at_.toNat (becomes M.cs[o.at_.toNat] o), M.st.set who.toNat (IntKind.i64.wrap (M.st[who.toNat] + 1)), M.tr ++ [⟨who, o, outOf M.cs[o.at_.toNat] o⟩]⟩, outOf M.cs[o.at_.toNat] o) := by
      unfold Pm.do
      rw [if_neg (by simpa using h1), List.getD_eq_getElem?_getD, List.getElem?_eq_getElem hat, List.getD_eq_getElem?_getD, List.getElem?_eq_getElem hw]
      rfl
    refine ⟨_, _, he, ⟨0, by rw [e1], rfl⟩, ?_, ho⟩
    rw [e1]
    refine fin _ tv' ?_
    dsimp only
    rw [List.length_set, List.length_append]
    exact hs'
theorem mset_t (Mb C : Nat) (M : Pm) (p : Int) (x : Cell) : Tri Tryz.prog 89 #[.pointer (some ⟨Mb, 0, none⟩), .int .i64 p, .agg ⟨x.v⟩] [Mm Mb C M]
    fun v L => ∃ e, v = .int .i64 e ∧ L = [Mm Mb C ⟨setOf M.cs p x, M.st, M.tr⟩] := by
  refine Tri.ex_out fun tv => ?_
  have h := set_t Mb C M.cs.length M.cs rfl M.st tv p x
  unfold Tri at h ⊢
  intro w F hs
  refine (h w (Row tv 184 10 M.tr.length (M.tr.flatMap Ev.v) :: F) hs).mono ?_
  rintro e w' ⟨v, L, he, ⟨rfl, rfl⟩, hs', ho⟩
  refine ⟨_, _, he, ⟨_, rfl, rfl⟩, ?_, ho⟩
  have := Ent.mm Mb C ⟨setOf M.cs p x, M.st, M.tr⟩ tv (L := F)
  unfold Ent at this
  refine this _ ?_
  dsimp only
  rw [setOf_len]
  exact hs'
theorem sat_rowv {v : Value} {n e sz : Nat} {xs : List Value} {L L1 : List HProp} {h : Hp} (hs : Sat L h) (t : Take (Row v e sz n xs) L L1) : ∃ ad cap, v = .slice ad n cap := by
  have h1 := t.sat hs
  obtain ⟨h1, h2, hd, hu, hR, _⟩ := sat_cons.1 h1
  unfold Row at hR
  obtain ⟨_, ⟨hv, h0⟩ | ⟨g, cap', cur, hv, _⟩⟩ := hR
  · exact ⟨none, 0, by rw [hv, h0]⟩
  · exact ⟨_, _, hv⟩
theorem mtotal_r (Mb C : Nat) (M : Pm) (hst : M.st.length = 8) : RTri Tryz.prog 53 #[.pointer (some ⟨Mb, 0, none⟩)] [Mm Mb C M] (.int .i64 (M.tr.length : Int)) := by
  refine RTri.of_exact fun W0 hs => ?_
  obtain ⟨tv, hs⟩ := sat_ex hs
  obtain ⟨ad, cap, rfl⟩ := sat_rowv hs (.there (.there .here))
  have hM := RdC.exact hs (ReadsC.here RdC.bl)
  have hn := NthN.trace hst C M.cs.length (.slice ad M.tr.length cap)
  refine Tri.of_body (vs := [_]) Tryz.func53 rfl rfl fun w0 F => ?_
  repeat' (first | refine Ga ?_ | (refine Gb ?_; intro b) | (refine Gd ?_; intro g cap rest hcap) | (refine Gc ?_; intro ad cap)  | (refine Ge ?_ ?_ <;> (intro h; try (exfalso; omega))) | fail)
  (first | refine St.dn Tryz.func53 ⟨?_, rfl⟩ Ent.go | refine St.fl Tryz.func53 ⟨?_, rfl⟩ Ent.go)
  rfl
/-- programs that can be read, however many -/
def ProgsG (q : HProp) (pv : Value) (progs : Progs) : Prop :=
  ∃ pad pcap, pv = .slice pad progs.length pcap ∧ progs.length ≤ 9223372036854775807 ∧ ∀ (i : Nat) (h : i < progs.length), ∃ b o l cv, pad = some ⟨b, o, none⟩ ∧ RdC q b l ∧ NthN (o + (i : Int).toNat * 1) l cv ∧ InsR q cv progs[i]
theorem ProgsG.r {q : HProp} {pv : Value} {progs : Progs} (h : ProgsG q pv progs) (hl : progs.length ≤ 1000) : ProgsR q pv progs := by
  obtain ⟨pad, pcap, h1, _, h3⟩ := h
  exact ⟨pad, pcap, h1, hl, h3⟩
theorem InsR.of {p q : HProp} {cv : Value} {code : List Ins} (h : InsR q cv code) (hq : ∀ {b : Nat} {l : List Value}, RdC q b l → RdC p b l) : InsR p cv code := by
  obtain ⟨ad, cap, h1, h2 | ⟨b, o, l, rest, h3, h4, h5⟩⟩ := h
  · exact ⟨ad, cap, h1, .inl h2⟩
  · exact ⟨ad, cap, h1, .inr ⟨b, o, l, rest, h3, hq h4, h5⟩⟩
theorem ProgsG.of {p q : HProp} {pv : Value} {progs : Progs} (h : ProgsG q pv progs) (hq : ∀ {b : Nat} {l : List Value}, RdC q b l → RdC p b l) : ProgsG p pv progs := by
  obtain ⟨pad, pcap, h1, h2, h3⟩ := h
  refine ⟨pad, pcap, h1, h2, fun i hi => ?_⟩
  obtain ⟨b, o, l, cv, h4, h5, h6, h7⟩ := h3 i hi
  exact ⟨b, o, l, cv, h4, hq h5, h6, h7.of hq⟩
def short14 (progs : Progs) : Bool := progs.all fun p => decide (p.length ≤ 40)
def few14B (c : Cfg) (progs : Progs) : Bool := short14 progs && (c.right && decide (c.fuel ≤ 200) && decide (progs.length ≤ 8))
theorem right14_r (c : Cfg) : RTri Tryz.prog 30 #[.agg ⟨c.v⟩] [] (.bool c.right) := by
  apply RTri.of_pure
  refine Tri.of_body (vs := [_]) Tryz.func30 rfl rfl fun w0 F => ?_
  repeat' (first | refine Ga ?_ | (refine Gb ?_; intro b) | (refine Gd ?_; intro g cap rest hcap) | (refine Gc ?_; intro ad cap)  | (refine Ge ?_ ?_ <;> (intro h; try (exfalso; omega))) | fail)
  all_goals (first | refine St.dn Tryz.func30 ⟨?_, rfl⟩ Ent.go | refine St.fl Tryz.func30 ⟨?_, rfl⟩ Ent.go)
  all_goals exact congrArg Value.bool (by first | (simp [Cfg.right]; omega) | (rw [Bool.eq_iff_iff]; simp [Cfg.right]; omega))
attribute [irreducible] Mm
end Go.Proofs.YtemaaenipjinaaaGreat
namespace Go.Proofs.YtemaaenipjinaaaGreat
set_option maxRecDepth 100000
section idx
variable {P : Program} {n' : Fi} {E : Env} {L : List HProp} {ty : TypeId}
/-- an element of an array's value -/
theorem OpV.idxAgg {t : TypeId} {x y : Operand} {k : IntKind} {i : Int} {n e : Nat} {l : List Value} {v : Value} [hu : Und P t (.array n e)] [ha1 : IsAg P e false] [hz : Siz P e 1] (hx : ev E x = some (.agg ⟨l⟩)) (hy : ev E y = some (.int k i)) (h0 : 0 ≤ i) (h1 : i < n) (hn : NthN i.toNat l v) :
    OpV P n' (.index t x y) ty E L v := by
  unfold OpV
  exact (fun _ _ _ _ a w ha _ => by
    have h2 := hn.eq
    simp [execOp, ha.ev hx, ha.ev hy, Instr.index, run_underlying hu.h, asIntOf, part, hz.h, ha1.h, h0, h1, h2])
end idx
/-- an Ask's cells -/
def wantN (c : Cfg) (cs : List Cell) (who : Int) (args : List Nat) : Nat → List Cell
  | 0 => cs
  | k + 1 => setOf (wantN c cs who args k) (c.at 2 who k) ⟨args.getD k 0, 0⟩
def Pm.want (c : Cfg) (M : Pm) (who : Int) (prog : Nat) (args : List Nat) (tag : Nat) : Pm := ⟨setOf (wantN c M.cs who args 4) (c.at 1 who 0) ⟨prog, tag⟩, M.st, M.tr⟩
def opL (o : MOp) : List Value := [.int .i64 o.kind, .int .i64 o.at_, .int .u64 o.old.val, .int .u64 o.old.seq, .int .u64 o.new.val, .int .u64 o.new.seq]
/-- a transaction and a memory, step by step -/
def pstep (c : Cfg) (progs : Progs) (who : Int) (s : Pm × Bm) : Pm × Bm :=
  ((s.1.do who (s.2.ask c).1).1, s.2.tell c c.cap.toNat progs (s.1.do who (s.2.ask c).1).2)
def pit (c : Cfg) (progs : Progs) (who : Int) (s : Pm × Bm) : Nat → Pm × Bm
  | 0 => s
  | k + 1 => pstep c progs who (pit c progs who s k)
theorem pit_inv {c : Cfg} (hc : Small c) (hf : 0 ≤ c.fuel ∧ c.fuel ≤ 1000) {progs : Progs} {who : Int} {s : Pm × Bm} (h : Binv c progs s.2) (hst : s.1.st.length = 8) : ∀ k, Binv c progs (pit c progs who s k).2 ∧ (pit c progs who s k).1.st.length = 8 ∧ (pit c progs who s k).1.cs.length = s.1.cs.length ∧ (pit c progs who s k).1.tr.length ≤ s.1.tr.length + k
  | 0 => ⟨h, hst, rfl, Nat.le_refl _⟩
  | k + 1 => by
    obtain ⟨h1, h2, h3, h4⟩ := pit_inv hc hf h hst k (who := who)
    obtain ⟨g1, g2, g3⟩ := Pm.do_len (pit c progs who s k).1 who ((pit c progs who s k).2.ask c).1
    refine ⟨?_, ?_, ?_, ?_⟩
    · exact h1.tell hc hf _
    · rw [← h2]; exact g2
    · rw [← h3]; exact g1
    · have : (pit c progs who s (k + 1)).1.tr.length ≤ (pit c progs who s k).1.tr.length + 1 := g3
      omega
end Go.Proofs.YtemaaenipjinaaaGreat
namespace Go.Proofs.YtemaaenipjinaaaGreat
set_option maxRecDepth 100000
def cfg14 : Cfg := ⟨2, 3, 20, 50, 0, 99⟩
def code14 : List Ins := [⟨8, 1, 0, 0, 0⟩, ⟨10, 1, 2, 0, 0⟩, ⟨20, 1, 0, 0, 0⟩]
def progs14 : Progs := [code14]
def boot14 : Pm := ⟨cfg14.boot, zeros8, []⟩
def mem14 : Pm := boot14.want cfg14 0 0 [7, 0, 0, 0] 1
def it14 : Pm × Bm := pit cfg14 progs14 1 (mem14, Bm.new 1 0) 11
theorem small14 : Small cfg14 := Cfg.small (by decide +kernel)
theorem asks14 : ∀ k ≤ 11, ((pit cfg14 progs14 1 (mem14, Bm.new 1 0) k).2.ask cfg14).2 = decide (k < 11) := by decide +kernel
theorem s14 : it14.2.b.s = 1 := by kernel_rfl
theorem rows14 : it14.2.rows = [⟨0, 1, 0, 7, []⟩] := by kernel_rfl
theorem ents14 : entriesOf cfg14 it14.2.e.puts = [(371, 7), (366, 0), (367, 7), (365, 1)] := by kernel_rfl
theorem tr14 : it14.1.tr.length = 11 := by kernel_rfl
theorem at371 : cfg14.at 10 0 0 = 371 := by kernel_rfl
theorem at365 : cfg14.at 7 0 0 = 365 := by kernel_rfl
def blkV (l : Value × Unit) : Value := l.1
instance : MapTy Tryz.prog 168 Int (Value × Unit) (Value.int .u64) blkV (.agg #[.int .u64 0, .int .u64 0, .int .u64 0, .int .u64 0, .int .u64 0, .int .u64 0, .int .u64 0, .int .u64 0], ()) :=
  MapTy.int Tryz.underlying168 Tryz.underlying22 (inferInstance : Zer Tryz.prog 268 _).h
theorem mnew_t : Tri Tryz.prog 33 #[] [] fun r L => (∃ S, r = .pointer (some ⟨S, 0, none⟩)) ∧ L = [] := by
  refine Tri.of_body (vs := []) Tryz.func33 rfl rfl fun w0 F => ?_
  repeat' (first | refine Ga ?_ | (refine Gb ?_; intro b) | (refine Gd ?_; intro g cap rest hcap) | (refine Gc ?_; intro ad cap)  | (refine Ge ?_ ?_ <;> (intro h; try (exfalso; omega))) | fail)
  refine St.d1 Tryz.func33 ⟨_, ⟨⟨_, rfl⟩, rfl⟩, ?_⟩
  exact Ent.go
theorem Tri.wk {P : Program} {f : FuncId} {args : Array Value} {L : List HProp} {Q Q' : Value → List HProp → Prop} (h : Tri P f args L Q) (hq : ∀ v L', Q v L' → ∃ M, Q' v M ∧ Ent L' M) : Tri P f args L Q' := by
  unfold Tri at *
  intro w F hs
  refine (h w F hs).mono ?_
  rintro e w' ⟨v, L', he, h1, hs', ho⟩
  obtain ⟨M, h2, h3⟩ := hq v L' h1
  have := h3.app (N := F)
  unfold Ent at this
  exact ⟨v, M, he, h2, this _ hs', ho⟩
theorem bootm_t (c : Cfg) (hc : Small c) : Tri Tryz.prog 32 #[.agg ⟨c.m⟩] [] fun v L => ∃ M C, v = .pointer (some ⟨M, 0, none⟩) ∧ L = [Mm M C ⟨c.boot, zeros8, []⟩] := by
  refine (boot_t c hc).wk ?_
  rintro v L' ⟨M, C, rfl, rfl⟩
  refine ⟨_, ⟨M, C, rfl, rfl⟩, ?_⟩
  have hl : c.boot.length = c.size := c.bootN_len _
  have := Ent.mm M C ⟨c.boot, zeros8, []⟩ (.slice none 0 0) (L := [])
  dsimp only at this
  rw [hl] at this
  refine Ent.trans ?_ this
  refine Ent.trans (Ent.row_nil 184 10) ?_
  exact Ent.go
theorem Tri.row_out {P : Program} {f : FuncId} {args : Array Value} {L : List HProp} {A : HProp} {ι : Type} {S : ι → List HProp} {e sz n : Nat} {xs : ι → List Value} (hn : 0 < n)
    (h : Tri P f args L fun r L' => ∃ ad cap y, r = .slice ad n cap ∧ L' = A :: Row (.slice ad n cap) e sz n (xs y) :: S y) :
    Tri P f args L fun r L' => ∃ g cap rest y, r = .slice (some ⟨g, 0, none⟩) n cap ∧ L' = A :: Go.Proofs.YtemaaenipjinaaaGreat.bl g e (xs y ++ rest) :: S y := by
  unfold Tri at *
  intro w F hs
  refine (h w F hs).mono ?_
  rintro e' w' ⟨v, L', he, ⟨ad, cap, y, rfl, rfl⟩, hs', ho⟩
  rw [List.cons_append, List.cons_append] at hs'
  obtain ⟨h1, h2, hd, hor, hA, hs'⟩ := sat_cons.1 hs'
  obtain ⟨h3, h4, hd', hor', hR, hF⟩ := sat_cons.1 hs'
  unfold Row at hR
  obtain ⟨_, ⟨_, h0⟩ | ⟨g, cap', cur, hv, hc, _, _, htk, hp⟩⟩ := hR
  · omega
  · injection hv with hv1 _ hv3
    subst hv1 hv3
    refine ⟨_, _, he, ⟨g, _, cur.toList.drop (n * sz), y, rfl, rfl⟩, ?_, ho⟩
    rw [List.cons_append, List.cons_append]
    refine sat_cons.2 ⟨h1, h2, hd, hor, hA, sat_cons.2 ⟨h3, h4, hd', hor', ?_, hF⟩⟩
    rw [← htk, List.take_append_drop]
    exact hp
theorem RdC.starR {L : List HProp} {b : Nat} {l : List Value} (r : ReadsC L b l) : RdC (Go.Proofs.YtemaaenipjinaaaGreat.star L) b l := by
  refine RdC.of_sat (fun k hk => ?_) r
  have := Ent.star_out (L := L) (M := [])
  unfold Ent at this
  have := this k (sat_cons.2 ⟨k, fun _ => none, fun _ => .inr rfl, fun _ => (or_none' _).symm, hk, by with_unfolding_all exact True.intro⟩)
  rwa [List.append_nil] at this
theorem St.gather {P : Program} {C : Cx} {k : List Item} {E : Env} {L ps Lr : List HProp} (t : Takes ps L Lr) (h : St P C k E (star ps :: Lr)) : St P C k E L :=
  h.conv (Sub.refl _) (t.ent.trans (Ent.star_in ps))
def q14 (bi bo : Nat) : HProp := star [bl bi 140 (code14.flatMap Ins.v), bl bo 78 [.slice (some ⟨bi, 0, none⟩) 3 3]]
theorem progs14_r (bi bo : Nat) : ProgsR (q14 bi bo) (.slice (some ⟨bo, 0, none⟩) 1 1) progs14 := by
  refine ⟨_, _, rfl, by decide, fun i hi => ?_⟩
  have h0 : i = 0 := by simp only [progs14, List.length_cons, List.length_nil] at hi; omega
  subst h0
  refine ⟨bo, 0, _, _, rfl, RdC.starR (.there (.here .bl)), .zero, _, _, rfl, .inr ⟨bi, 0, _, [], rfl, RdC.starR (.here .bl), ?_⟩⟩
  rw [List.append_nil]
  exact .zero
end Go.Proofs.YtemaaenipjinaaaGreat
