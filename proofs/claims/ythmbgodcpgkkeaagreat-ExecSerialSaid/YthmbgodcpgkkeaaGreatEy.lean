/-
  One program, in a transaction of its own, over a memory: in plain terms. One program, right or wrong: what holds while it runs; State.Run comes to the same.
-/
import Derived.Test.YthmbgodcpgkkeaaGreatEv
section
namespace Go.Proofs.YthmbgodcpgkkeaaGreat
set_option maxRecDepth 100000
/-- a pool that has read a memory -/
def pool1 (c : Cfg) (cs : List Cell) (n : Nat) (F : Nat) (ls : List Nat) : Po := poK c n (slotS c cs) F ls (c.threads.toNat + 2 + ls.length)
/-- what settling puts -/
def set1 (c : Cfg) (room : Nat) (p : Po) (puts : List (Int × Nat)) : SetS := setGo c room p.names 0 p.limbo ⟨0, p.nt, puts⟩
section
variable {c : Cfg} {cs cs' : List Cell} {n : Nat} {fs ls : List Nat} {ms : Ms}
theorem pool1_eq (hc : Small c) : pool1 c cs n fs.length ls = ⟨n, ((c.threads.toNat + 2 + ls.length : Nat) : Int), (List.range c.threads.toNat).map (slotS c cs), fs.length, ls.length, fs.length, ls.length, ls, 1⟩ :=
  poK_fin hc (by have := hc.t0; omega)
structure Job0 (c : Cfg) (V : Int → Nat) (ms : Ms) (P0 : List (Int × Nat)) (nt kept : Int) (fs ls : List Nat) : Prop where
  rep : RepV c (ovl P0 V) fs ls ms.roots ms.blocks
  pk : Pk c V P0
  nt : nt = fs.length
  nl : kept = ls.length
  L : (ls.length : Int) ≤ c.threads
theorem job_set (hc : Small c) (h : MemH c cs n fs ls ms.roots ms.blocks) : ∃ fs' ls', Job0 c (fun a => (cellI cs a).val) ms (set1 c c.cap.toNat (pool1 c cs n fs.length ls) []).puts (set1 c c.cap.toNat (pool1 c cs n fs.length ls) []).nt (set1 c c.cap.toNat (pool1 c cs n fs.length ls) []).kept fs' ls' ∧ (set1 c c.cap.toNat (pool1 c cs n fs.length ls) []).puts.length ≤ 2 * ls.length := by
  have hlz := h.rep.lsz
  have hfz := h.rep.fsz
  have hcnt := h.rep.cnt
  have hcap : c.cap = c.threads * (c.writes + 3) + 3 * c.limit + 2 := rfl
  have htw := hc.tw3
  have ht0 := hc.t0
  have hr : ([] : List (Int × Nat)).length + 2 * ls.length ≤ c.cap.toNat := by
    show 0 + 2 * ls.length ≤ _
    omega
  have h0 : RepV c (ovl [] fun a => (cellI cs a).val) fs ls ms.roots ms.blocks := h.rep
  obtain ⟨g1, g2, g3, g4⟩ := h0.settled hc (puts := []) (room := c.cap.toNat) ((List.range c.threads.toNat).map (slotS c cs)) hr _ rfl
  have gp := setGo_pk (V := fun a => (cellI cs a).val) (room := c.cap.toNat) hc (names := (List.range c.threads.toNat).map (slotS c cs)) ls 0 fs.length ⟨0, (fs.length : Int), []⟩ rfl (fun b hb => (h.rep.limbo b hb).1) (by omega) hr (Nat.le_refl _) (by omega) (Pk.nil _ _)
  have hst := stay_le (names := (List.range c.threads.toNat).map (slotS c cs)) h.rep.lnod
  rw [List.length_map, List.length_range] at hst
  rw [pool1_eq hc]
  refine ⟨_, _, ⟨g4, gp, g2, by rw [← g1]; rfl, by omega⟩, ?_⟩
  have : (setGo c c.cap.toNat ((List.range c.threads.toNat).map (slotS c cs)) 0 ls ⟨0, (fs.length : Int), []⟩).puts.length ≤ 0 + 2 * ls.length := g3
  show (setGo c c.cap.toNat ((List.range c.threads.toNat).map (slotS c cs)) 0 ls ⟨0, (fs.length : Int), []⟩).puts.length ≤ 2 * ls.length
  omega
theorem job_end (hc : Small c) {V : Int → Nat} {P0 : List (Int × Nat)} {fs' ls' : List Nat} {g : Bg} {code : List Ins} {args : List Nat} {nt0 nl0 : Int} {m : Xm} {ok : Bool} {r : Rm} {T L : Nat}
    (hj : Job0 c V ms P0 nt0 nl0 fs' ls') (he : XEnd c V g code ms args P0 nt0 nl0 m ok r) (hm : MemV c cs' V n) (hT : V (c.at 12 0 0) = T) (hL : V (c.at 14 0 0) = L) (hwt : g.wt = T) (hwl : g.wl = L) (hF : fs'.length = g.F0) (hL0 : ls'.length = g.L0) (hp : m.puts.length + 2 ≤ c.cap.toNat) {sq : Nat} (hq : n ≤ sq) :
    ∃ fs2 ls2, MemH c (wrote c (allP (endP c c.cap.toNat m.p m.puts)) sq (allP (endP c c.cap.toNat m.p m.puts)) cs') sq fs2 ls2 (if ok then (⟨r.roots, r.blocks⟩ : Ms) else ms).roots (if ok then (⟨r.roots, r.blocks⟩ : Ms) else ms).blocks ∧ (if ok then (⟨r.roots, r.blocks⟩ : Ms) else ms).blocks.length ≤ ms.blocks.length + 7 := by
  have hcnt := hj.rep.cnt
  have hw64 := hc.w1
  obtain ⟨hw1, hw2⟩ := he.pw
  by_cases hrc : m.x.rc = 0
  · obtain ⟨hok, fs2, ls2, hk⟩ := he.good hrc
    subst hok
    obtain ⟨e1, e2, _, e4⟩ := endP_v (room := c.cap.toNat) hc (p := m.p) hk.pk hp hT hL (hw1.trans hwt) (hw2.trans hwl) hk.nt hk.nl
    have h1 := hk.rep.cnt; have h2 := hk.cnt; have h3 := hk.lg; have h4 := hk.nw; have h5 := hk.w1
    refine ⟨fs2, ls2, MemH.wrote hc hm (hk.rep.ended hc e4) e1 e2 hq, ?_⟩
    show r.blocks.length ≤ _
    omega
  · obtain ⟨hok, hpu, hnt, hnl⟩ := he.bad hrc
    subst hok
    rw [hpu] at hp ⊢
    obtain ⟨e1, e2, _, e4⟩ := endP_v (room := c.cap.toNat) hc (p := m.p) hj.pk hp hT hL (hw1.trans hwt) (hw2.trans hwl) (hnt.trans hj.nt) (hnl.trans hj.nl)
    exact ⟨fs', ls', MemH.wrote hc hm (hj.rep.ended hc e4) e1 e2 hq, by show ms.blocks.length ≤ _; omega⟩
theorem job_mem (_hc : Small c) {V : Int → Nat} {P0 : List (Int × Nat)} {fs' ls' : List Nat} {g : Bg} {code : List Ins} {args : List Nat} {nt0 nl0 : Int} {m : Xm} {ok : Bool} {r : Rm}
    (hj : Job0 c V ms P0 nt0 nl0 fs' ls') (he : XEnd c V g code ms args P0 nt0 nl0 m ok r) (hF : fs'.length = g.F0) (h : m.x.rc = 43) : c.blocks ≤ ms.blocks.length + m.news.length + c.limit := by
  have h1 := hj.rep.cnt
  have h2 := he.mem h
  have h3 := hj.rep.lsz
  omega
/-- with what a job begins: all that is wanted of it -/
structure JobA (c : Cfg) (V : Int → Nat) (ms : Ms) (n : Nat) (room : Nat) (p : Po) (P0 : List (Int × Nat)) (g : Bg) (fs ls : List Nat) : Prop where
  fits : Fits c room g
  S : Start c P0 p.nt p.nl
  wt : p.wt = g.wt
  wl : p.wl = g.wl
  p0 : g.p0 = P0.length
  j : Job0 c V ms P0 p.nt p.nl fs ls
  F : fs.length = g.F0
  L : ls.length = g.L0
  who : g.who = 0
  sq : g.sq = n
  len : P0.length ≤ 2 * c.limit.toNat
theorem job_begin (hc : Small c) (hfu : c.fuel ≤ 1000) (h : MemH c cs n fs ls ms.roots ms.blocks) : ∃ g fs' ls', JobA c (fun a => (cellI cs a).val) ms n c.cap.toNat ((pool1 c cs n fs.length ls).settled c c.cap.toNat []) (set1 c c.cap.toNat (pool1 c cs n fs.length ls) []).puts g fs' ls' ∧ g.wt = fs.length ∧ g.wl = ls.length := by
  obtain ⟨fs', ls', hj, hl⟩ := job_set hc h
  have hlz := h.rep.lsz
  have hfz := h.rep.fsz
  have hcap : c.cap = c.threads * (c.writes + 3) + 3 * c.limit + 2 := rfl
  have hlm : c.limit = c.threads * (c.writes + 1) := rfl
  have ht0 := hc.t0; have ht1 := hc.t1; have hw0 := hc.w0; have hw1 := hc.w1; have hb1 := hc.b1
  have hlim := hc.limit
  have hmul : 1 * c.writes ≤ c.threads * c.writes := Int.mul_le_mul_of_nonneg_right ht0 hw0
  rw [Int.mul_add] at hcap hlm
  have hL := hj.L
  have hcnt := hj.rep.cnt
  have hp := pool1_eq (cs := cs) (n := n) (fs := fs) (ls := ls) hc
  refine ⟨⟨0, fs.length, ls.length, n, (set1 c c.cap.toNat (pool1 c cs n fs.length ls) []).puts.length, fs'.length, ls'.length⟩, fs', ls', ⟨⟨hc, ?_, ?_⟩, ⟨hc, hfu, ?_, ?_, ?_⟩, ?_, ?_, rfl, hj, rfl, rfl, rfl, rfl, ?_⟩, rfl, rfl⟩
  · show (((set1 c c.cap.toNat (pool1 c cs n fs.length ls) []).puts.length : Nat) : Int) + c.writes ≤ _
    omega
  · show 2 * ((ls'.length : Nat) : Int) + c.writes ≤ _
    omega
  · omega
  · have : ((pool1 c cs n fs.length ls).settled c c.cap.toNat []).nt = (fs'.length : Int) := hj.nt
    rw [this]; omega
  · have : ((pool1 c cs n fs.length ls).settled c c.cap.toNat []).nl = (ls'.length : Int) := hj.nl
    rw [this]; omega
  · show (pool1 c cs n fs.length ls).wt = _
    rw [hp]
  · show (pool1 c cs n fs.length ls).wl = _
    rw [hp]
  · omega
end
end Go.Proofs.YthmbgodcpgkkeaaGreat
end
section
namespace Go.Proofs.YthmbgodcpgkkeaaGreat
set_option maxRecDepth 100000
/-- what holds of a program between its steps -/
inductive JI (c : Cfg) (V : Int → Nat) (g : Bg) (room : Nat) (code : List Ins) (ms : Ms) (args : List Nat) (P0 : List (Int × Nat)) (p : Po) (k : Nat) (m : Xm) : Prop
  | right : rightB code = true → XI c V g room code ms args P0 p.nt p.nl k m → m.stops → JI c V g room code ms args P0 p k m
  | wrong : rightB code = false → m = (Xm.init (Vw.new g.who g.sq) p P0 args).fail 30 0 → k = 0 → JI c V g room code ms args P0 p k m
section
variable {c : Cfg} {V : Int → Nat} {g : Bg} {room : Nat} {code : List Ins} {ms : Ms} {args : List Nat} {P0 : List (Int × Nat)} {p : Po} {k : Nat} {m : Xm}
theorem XI.start (hb : Fits c room g) (hr : rightB code = true) (hS : Start c P0 p.nt p.nl) (hf : 0 ≤ c.fuel) (ha : args.length = 4) (hwt : p.wt = g.wt) (hwl : p.wl = g.wl) (hp0 : P0.length ≤ g.p0) {fs ls : List Nat} (hj : Job0 c V ms P0 p.nt p.nl fs ls) (hF : fs.length = g.F0) (hL : ls.length = g.L0) :
    XI c V g room code ms args P0 p.nt p.nl 0 (Xm.init (Vw.new g.who g.sq) p P0 args) := XI.init hb hr hS hf _ p rfl rfl ha ⟨Int.le_refl _, by show (0 : Int) ≤ 1000; decide⟩ (by show (1 : Int) ≠ 2; decide) rfl hwt hwl (.inl rfl) rfl hp0 hj.rep hj.pk hj.nt hj.nl hF hL
theorem JI.init (hb : Fits c room g) (hS : Start c P0 p.nt p.nl) (h0 : rightB code = true → XI c V g room code ms args P0 p.nt p.nl 0 (Xm.init (Vw.new g.who g.sq) p P0 args)) :
    JI c V g room code ms args P0 p 0 (Xm.start c room code (Vw.new g.who g.sq) p P0 args) := by
  unfold Xm.start
  cases hr : rightB code with
  | true =>
    rw [if_pos rfl]
    obtain ⟨h1, h2⟩ := run_inv (XI.runInv hb hS hr) _ _ (h0 hr) (Nat.le_refl _)
    exact .right hr h1 h2
  | false =>
    rw [if_neg (by decide)]
    exact .wrong hr rfl rfl
theorem JI.block (h : JI c V g room code ms args P0 p k m) : 0 ≤ m.v.block ∧ m.v.block ≤ 1000000 := by
  cases h with
  | right h1 h2 h3 => have := h2.inv.vb; exact ⟨this.1, by omega⟩
  | wrong h1 h2 h3 => subst h2; exact ⟨Int.le_refl _, by show (0 : Int) ≤ 1000000; decide⟩
theorem JI.news (hf : c.fuel ≤ 1000) (h : JI c V g room code ms args P0 p k m) : m.news.length ≤ 1000 := by
  cases h with
  | right h1 h2 h3 =>
    have := h2.inv.news; have := h2.inv.s1; have := h2.inv.s0
    omega
  | wrong h1 h2 h3 => subst h2; exact Nat.zero_le _
theorem JI.steps (hf : 0 ≤ c.fuel) (h : JI c V g room code ms args P0 p k m) : k + (if (m.ask c).2 = true then 1 else 0) ≤ 3 * c.fuel.toNat := by
  cases h with
  | right h1 h2 h3 =>
    have ha := h2.inv.asks; have := h2.inv.s1; have := h2.inv.s0
    have hrem : (m.ask c).2 = true → 1 ≤ remOf m := fun e => by
      unfold Xm.ask at e
      split at e
      · cases e
      · next hs =>
        have hs : m.x.s = 0 := by omega
        rcases h3 with e2 | ⟨e2, e3⟩
        · exact absurd hs e2
        · unfold remOf
          rw [if_pos ⟨e2, e3⟩]
          repeat' split
          all_goals omega
    split
    · next e => have := hrem e; omega
    · omega
  | wrong h1 h2 h3 =>
    subst h2 h3
    have : ((Xm.fail (Xm.init (Vw.new g.who g.sq) p P0 args) 30 0).ask c).2 = false := by
      unfold Xm.ask
      rw [if_pos (by show (1 : Int) ≠ 0; decide)]
    rw [this]
    simp
/-- its step is done in memory, and it goes on -/
theorem JI.step (hb : Fits c room g) (hS : Start c P0 p.nt p.nl) (h : JI c V g room code ms args P0 p k m) (ho : (m.ask c).2 = true) {cs : List Cell} {n : Nat} (hm : MemV c cs V n) (hn : n ≤ g.sq) (hw : 0 ≤ g.who ∧ g.who < c.threads) :
    rightB code = true ∧ MemV c (doMem cs g.who (m.ask c).1) V n ∧ XI c V g room code ms args P0 p.nt p.nl (k + 1) { m with v := m.v.tell (doOut cs g.who (m.ask c).1) } ∧ JI c V g room code ms args P0 p (k + 1) (m.tell c room code (doOut cs g.who (m.ask c).1)) := by
  cases h with
  | right h1 h2 h3 =>
    have hs : m.x.s = 0 := Decidable.by_contra fun e => by
      unfold Xm.ask at ho
      rw [if_pos e] at ho
      cases ho
    have ea : m.ask c = m.v.ask c := by unfold Xm.ask; rw [if_neg (by omega)]
    rw [ea] at ho ⊢
    obtain ⟨g1, g2⟩ := h2.step hb.hc h3 hs ho hm hn hw
    obtain ⟨g3, g4⟩ := run_inv (XI.runInv hb hS h1) _ _ g2 (Nat.le_refl _)
    refine ⟨h1, g1, g2, ?_⟩
    unfold Xm.tell
    rw [if_pos hs]
    exact .right h1 g3 g4
  | wrong h1 h2 h3 =>
    subst h2
    unfold Xm.ask at ho
    rw [if_pos (by show (1 : Int) ≠ 0; decide)] at ho
    cases ho
/-- what a program has come to -/
inductive JEnd (c : Cfg) (V : Int → Nat) (g : Bg) (code : List Ins) (ms : Ms) (args : List Nat) (P0 : List (Int × Nat)) (p : Po) (m : Xm) (ms' : Ms) : Prop
  | right (ok : Bool) (r : Rm) : rightB code = true → XEnd c V g code ms args P0 p.nt p.nl m ok r → ms' = (if ok then ⟨r.roots, r.blocks⟩ else ms) → JEnd c V g code ms args P0 p m ms'
  | wrong : rightB code = false → m = (Xm.init (Vw.new g.who g.sq) p P0 args).fail 30 0 → ms' = ms → JEnd c V g code ms args P0 p m ms'
theorem JI.fin (h : JI c V g room code ms args P0 p k m) (ho : (m.ask c).2 = false) : m.x.s = 1 ∧ ∃ ms', JEnd c V g code ms args P0 p m ms' := by
  cases h with
  | right h1 h2 h3 =>
    have hs := h2.ends h3 fun e => by
      unfold Xm.ask at ho
      rw [if_neg (by omega)] at ho
      exact ho
    obtain ⟨ok, r, he⟩ := h2.fin hs
    exact ⟨hs, _, .right ok r h1 he rfl⟩
  | wrong h1 h2 h3 =>
    refine ⟨by subst h2; rfl, _, .wrong h1 h2 rfl⟩
theorem jrun_t (S : Nat) {ms' : Ms} (hms : MsOk ms) (hj : JEnd c V g code ms args P0 p m ms') (hf : 0 ≤ c.fuel ∧ c.fuel ≤ 900000) (hw : 0 ≤ c.writes ∧ c.writes ≤ 1000000) (ha : args.length = 4) (qc q : HProp) (cv : Value) (hins : InsR qc cv code) (hcl : code.length ≤ 256) (pad : Option Addr) (pcap : Nat) (hpk : ListR u64V q (.slice pad m.news.length pcap) m.news) :
    Tri Tryz.prog 56 #[.pointer (some ⟨S, 0, none⟩), cv, .agg ⟨g4 args⟩, .int .i64 c.fuel, .int .i64 c.writes, .slice pad m.news.length pcap] [MsE S ms, qc, q]
      fun v L => ∃ st dw nad ncap, v = .agg ⟨[.int .i64 m.x.rc, .int .u64 (m.x.rv : Int), .int .i64 st, .int .i64 dw, .slice nad m.news.length ncap]⟩ ∧ L = [MsE S ms', Row (.slice nad m.news.length ncap) 22 1 m.news.length (u64s m.news), qc, q] := by
  cases hj with
  | right ok r h1 h2 h3 =>
    obtain ⟨N, hgo⟩ := h2.go
    subst h3
    refine (mrun_i S ms hms qc q cv code hins (codeB_of h1) h1 hcl args ha c.fuel c.writes hf hw pad pcap m.news hpk N r ok hgo).wk ?_
    rintro v L' ⟨nad, ncap, rfl, rfl⟩
    unfold doneV
    rw [h2.code, h2.val, h2.news]
    exact ⟨_, ⟨r.steps, r.dw, nad, ncap, rfl, rfl⟩, Ent.go⟩
  | wrong h1 h2 h3 =>
    subst h2 h3
    refine (mrun_bad S _ qc q cv code hins h1 (g4 args) rfl c.fuel c.writes (.slice pad 0 pcap)).wk ?_
    rintro v L' ⟨rfl, rfl⟩
    exact ⟨_, ⟨0, 0, none, 0, rfl, rfl⟩, Ent.go⟩
theorem JEnd.nums (hc : Small c) {n : Nat} {fs ls : List Nat} {ms' : Ms} (hj : JobA c V ms n c.cap.toNat p P0 g fs ls) (h : JEnd c V g code ms args P0 p m ms') : (0 ≤ m.p.nt ∧ m.p.nt ≤ 1000) ∧ (0 ≤ m.p.nl ∧ m.p.nl ≤ 1000) ∧ m.puts.length + 2 ≤ c.cap.toNat := by
  have hcap : c.cap = c.threads * (c.writes + 3) + 3 * c.limit + 2 := rfl
  have hlm : c.limit = c.threads * (c.writes + 1) := rfl
  have ht0 := hc.t0; have hw0 := hc.w0; have hb1 := hc.b1
  have hlim := hc.limit
  have hmul : 1 * c.writes ≤ c.threads * c.writes := Int.mul_le_mul_of_nonneg_right ht0 hw0
  rw [Int.mul_add] at hcap hlm
  have hp0 := hj.p0
  have hlen := hj.len
  have hS1 := hj.S.nt; have hS2 := hj.S.nl
  cases h with
  | right ok r h1 h2 h3 =>
    by_cases hrc : m.x.rc = 0
    · obtain ⟨_, fs2, ls2, hk⟩ := h2.good hrc
      have e1 := hk.nt; have e2 := hk.nl; have e3 := hk.plen; have e4 := hk.w1; have e5 := hk.rep.fsz; have e6 := hk.rep.lsz
      refine ⟨⟨by omega, by omega⟩, ⟨by omega, by omega⟩, by omega⟩
    · obtain ⟨_, e1, e2, e3⟩ := h2.bad hrc
      rw [e1, e2, e3]
      exact ⟨hS1, hS2, by omega⟩
  | wrong h1 h2 h3 =>
    subst h2
    refine ⟨hS1, hS2, ?_⟩
    show (P0.take P0.length).length + 2 ≤ _
    rw [List.take_length]; omega
theorem JEnd.mem (hc : Small c) {n : Nat} {fs ls : List Nat} {ms' : Ms} {cs' : List Cell} (hj : JobA c V ms n c.cap.toNat p P0 g fs ls) (h : JEnd c V g code ms args P0 p m ms') (hm : MemV c cs' V n) {T L : Nat} (hT : V (c.at 12 0 0) = T) (hL : V (c.at 14 0 0) = L) (hwt : g.wt = T) (hwl : g.wl = L) :
    ∃ fs2 ls2, MemH c (wrote c (allP (endP c c.cap.toNat m.p m.puts)) (n + 1) (allP (endP c c.cap.toNat m.p m.puts)) cs') (n + 1) fs2 ls2 ms'.roots ms'.blocks ∧ ms'.blocks.length ≤ ms.blocks.length + 7 := by
  have hn := h.nums hc hj
  cases h with
  | right ok r h1 h2 h3 =>
    obtain ⟨fs2, ls2, g1, g2⟩ := job_end hc hj.j h2 hm hT hL hwt hwl hj.F hj.L hn.2.2 (sq := n + 1) (Nat.le_succ n)
    rw [← h3] at g1 g2
    exact ⟨fs2, ls2, g1, g2⟩
  | wrong h1 h2 h3 =>
    subst h3
    have e1 : m.puts = P0 := by
      rw [h2]
      show P0.take P0.length = P0
      exact List.take_length
    have e2 : m.p.nt = p.nt ∧ m.p.nl = p.nl ∧ m.p.wt = p.wt ∧ m.p.wl = p.wl := by rw [h2]; exact ⟨rfl, rfl, rfl, rfl⟩
    have hp := hn.2.2
    rw [e1] at hp ⊢
    obtain ⟨g1, g2, _, g4⟩ := endP_v (room := c.cap.toNat) hc (p := m.p) hj.j.pk hp hT hL (e2.2.2.1.trans (hj.wt.trans hwt)) (e2.2.2.2.trans (hj.wl.trans hwl)) (e2.1.trans hj.j.nt) (e2.2.1.trans hj.j.nl)
    exact ⟨fs, ls, MemH.wrote hc hm (hj.j.rep.ended hc g4) g1 g2 (Nat.le_succ n), by omega⟩
theorem pend_x (Pb W room : Nat) (c : Cfg) (hc : Small c) (p : Po) (puts : List (Int × Nat)) (hnt : 0 ≤ p.nt ∧ p.nt ≤ 1000000) (hnl : 0 ≤ p.nl ∧ p.nl ≤ 1000000) (hlen : puts.length + 2 ≤ 1000000000) :
    Tri Tryz.prog 76 #[.pointer (some ⟨Pb, 0, none⟩), .pointer (some ⟨W, 0, none⟩)] [Pl Pb c p, Ws W room puts]
      fun r L => r = .tuple ⟨[]⟩ ∧ L = [Pl Pb c p, Ws W room (endP c room p puts)] := by
  unfold Pl; exact pend_tE Pb W room c hc p puts hnt hnl hlen
end
end Go.Proofs.YthmbgodcpgkkeaaGreat
end
