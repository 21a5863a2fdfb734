/-
  A program over a view that is told what is so: words, blocks that are let go, and new ones. A program over a view that is told what is so: what is read, at once or later.
-/
import Derived.Test.YthmbgodcpgkkeaaGreatEi
section
namespace Go.Proofs.YthmbgodcpgkkeaaGreat
set_option maxRecDepth 100000
def Rm.fresh2 (i : Ins) (m : Rm) : Rm × Int := match m.pick with
  | [] => (m, 43)
  | h :: rest => if (mget m.blocks (h : Int)).isSome then (m, 43) else if h = 0 ∨ 64 < h then (m, 43) else
    ({ m with pick := rest, blocks := mput m.blocks (h : Int) zero8, news := m.news ++ [h], regs := m.regs.set i.a.toNat h }, 0)
theorem Rm.fresh_eq (i : Ins) (m : Rm) : m.fresh i = if (m.pay i.op).2 ≠ 0 then m.pay i.op else (m.pay i.op).1.fresh2 i := rfl
section
variable {c : Cfg} {V : Int → Nat} {g : Bg} {room : Nat} {m : Xm} {fs ls R : List Nat} {B : List (Int × List Nat)} {b : Nat} {l : List Nat}
theorem block_eq (hb : (b : Int) < c.blocks) (hh : m.x.hOf = b + 1) (hw : m.x.wOf < 8) : m.x.block c = ((b : Int), (m.x.wOf : Int), true) := by
  unfold Xs.block
  rw [hh, if_neg (by omega)]
  have : ((b + 1 : Nat) : Int) - 1 = (b : Int) := by omega
  rw [this]
theorem acc_read (h : Rn c V g m fs ls R B) (hop : m.x.i.op = 11 ∨ m.x.i.op = 12) (e : mget B ((m.x.reg m.x.i.b : Nat) : Int) = some l) (hw : m.x.wOf < 8) : AccR c V g m.news (fun P => (rmOf c m R B P).word m.x.i) (m.goOn c room (l.getD m.x.wOf 0)) := by
  unfold Xm.goOn
  rw [if_pos (by omega)]
  refine .run [] fs ls R B (h.reg _ _) (by simp) fun P => ?_
  have ew : m.x.wOf = if m.x.i.op = 12 ∨ m.x.i.op = 14 then m.x.reg m.x.i.c else m.x.i.imm := by
    unfold Xs.wOf
    by_cases h12 : m.x.i.op = 12 ∨ m.x.i.op = 14
    · rw [if_pos h12, if_pos h12]
    · rw [if_neg h12, if_neg h12, if_neg (by omega)]
  show (rmOf c m R B ([] ++ P)).word2 m.x.i (m.x.reg m.x.i.b) (if m.x.i.op = 12 ∨ m.x.i.op = 14 then m.x.reg m.x.i.c else m.x.i.imm) = _
  rw [← ew]
  unfold Rm.word2
  rw [show mget (rmOf c m R B ([] ++ P)).blocks ((m.x.reg m.x.i.b : Nat) : Int) = some l from e]
  dsimp only
  rw [if_neg (by omega), if_pos hop]
  rfl
theorem acc_write (hb : Fits c room g) (h : Rn c V g m fs ls R B) (hop : m.x.i.op = 13 ∨ m.x.i.op = 14) (hbk : (b : Int) < c.blocks) (hh : m.x.reg m.x.i.b = b + 1) (e : mget B ((b : Int) + 1) = some l) (hw : m.x.wOf < 8) (val : Nat) : AccR c V g m.news (fun P => (rmOf c m R B P).word m.x.i) (m.goOn c room val) := by
  have hpl := h.plen; have hr := hb.room; have hwr := h.w0
  have hhb : m.x.hOf = b + 1 := by unfold Xs.hOf; rw [if_neg (by omega)]; exact hh
  unfold Xm.goOn
  rw [if_neg (by omega), if_neg (by omega), if_pos hop, block_eq hbk hhb hw]
  dsimp only
  have ew : m.x.wOf = if m.x.i.op = 12 ∨ m.x.i.op = 14 then m.x.reg m.x.i.c else m.x.i.imm := by
    unfold Xs.wOf
    by_cases h12 : m.x.i.op = 12 ∨ m.x.i.op = 14
    · rw [if_pos h12, if_pos h12]
    · rw [if_neg h12, if_neg h12, if_neg (by omega)]
  have hword : ∀ P, (rmOf c m R B P).word m.x.i = if ((rmOf c m R B P).pay m.x.i.op).2 ≠ 0 then (rmOf c m R B P).pay m.x.i.op else ({ ((rmOf c m R B P).pay m.x.i.op).1 with blocks := mput ((rmOf c m R B P).pay m.x.i.op).1.blocks ((b : Int) + 1) (l.set m.x.wOf (m.x.reg m.x.i.a)) }, 0) := fun P => by
    show (rmOf c m R B P).word2 m.x.i (m.x.reg m.x.i.b) (if m.x.i.op = 12 ∨ m.x.i.op = 14 then m.x.reg m.x.i.c else m.x.i.imm) = _
    rw [← ew, hh]
    unfold Rm.word2
    rw [show ((b + 1 : Nat) : Int) = (b : Int) + 1 from by omega, show mget (rmOf c m R B P).blocks ((b : Int) + 1) = some l from e]
    dsimp only
    rw [if_neg (by omega), if_neg (by omega)]
    rfl
  cases hp : (m.pay c).2 with
  | false =>
    rw [if_neg (by decide), Xm.pay_f hp]
    refine .fails (by decide) rfl (fun e => by cases e) ⟨rmOf c m R B [], ?_, rfl, rfl⟩
    rw [hword, rm_pay_f [] hp]; rfl
  | true =>
    rw [if_pos rfl]
    have hco : costs m.x.i.op = 1 := by unfold costs; rw [if_pos (by omega)]
    obtain ⟨_, hw2, hw3⟩ := h.pay hp
    have hlife : ovl m.puts V (c.at 11 b 0) = 1 := (h.rep.life b hbk).2 (by rw [e]; rfl)
    refine .run [] fs ls R (mput B ((b : Int) + 1) (l.set m.x.wOf (m.x.reg m.x.i.a))) (put_acc hb h hp hco (h.rep.setWord hb.hc hbk hw e _) (h.pk.word hb.hc (by omega) hbk hw hlife _)) (by dsimp only; rw [Xm.pay_news]; simp) fun P => ?_
    rw [hword, List.nil_append, rm_pay_t P hp, if_neg (fun e => e rfl)]
    rfl
theorem acc_free (hb : Fits c room g) (h : Rn c V g m fs ls R B) (hop : m.x.i.op = 16) (hbk : (b : Int) < c.blocks) (hh : m.x.reg m.x.i.a = b + 1) (e : mget B ((b : Int) + 1) = some l) (val : Nat) : AccR c V g m.news (fun P => (rmOf c m R B P).free m.x.i) (m.goOn c room val) := by
  have hpl := h.plen; have hr := hb.room; have hwr := h.w0; have hls := h.lsz; have hlm := hb.lim
  have hhb : m.x.hOf = b + 1 := by unfold Xs.hOf; rw [if_pos hop]; exact hh
  have hw : m.x.wOf = 0 := by unfold Xs.wOf; rw [if_neg (by omega), if_pos hop]
  have hbN : m.x.bN c = b := by
    unfold Xs.bN
    rw [block_eq hbk hhb (by omega)]
    dsimp only; omega
  unfold Xm.goOn
  rw [if_neg (by omega), if_neg (by omega), if_neg (by omega), if_pos hop, hbN]
  have hfree : ∀ P, (rmOf c m R B P).free m.x.i = if ((rmOf c m R B P).pay m.x.i.op).2 ≠ 0 then (rmOf c m R B P).pay m.x.i.op else ({ ((rmOf c m R B P).pay m.x.i.op).1 with blocks := mdel ((rmOf c m R B P).pay m.x.i.op).1.blocks ((b : Int) + 1) }, 0) := fun P => by
    unfold Rm.free
    rw [show (rmOf c m R B P).reg m.x.i.a = b + 1 from hh, show ((b + 1 : Nat) : Int) = (b : Int) + 1 from by omega, show mget (rmOf c m R B P).blocks ((b : Int) + 1) = some l from e]
  cases hp : (m.pay c).2 with
  | false =>
    rw [if_neg (by decide), Xm.pay_f hp]
    refine .fails (by decide) rfl (fun e => by cases e) ⟨rmOf c m R B [], ?_, rfl, rfl⟩
    rw [hfree, rm_pay_f [] hp]; rfl
  | true =>
    rw [if_pos rfl]
    have hco : costs m.x.i.op = 2 := by rw [hop]; rfl
    obtain ⟨h1, hw2, hw3⟩ := h.pay hp
    have hu : (m.pay c).1.puts = m.puts := by rw [Xm.pay_t hp]
    have hn : (m.pay c).1.p.nl = (ls.length : Int) := h1.nl
    rw [hu, hn]
    obtain ⟨g1, g2, g3⟩ := h.rep.giveP hb.hc (room := room) hbk e (nl := (ls.length : Int)) rfl (by omega) (by omega)
    have g4 := h.pk.give hb.hc (room := room) (by omega) hbk (n := ls.length) (by omega)
    have hsl : (ls ++ [b]).length = ls.length + 1 := by rw [List.length_append]; rfl
    refine .run [] fs (ls ++ [b]) R (mdel B ((b : Int) + 1)) ⟨⟨g3, g4, h1.nt, g1, h1.cnt, ?_, ?_, h1.w0, h1.w1, h1.held, h1.sq, h1.regs, h1.nw, by have := h1.lg; omega⟩, h1.s, h1.rc, h1.waits⟩ (by dsimp only; rw [Xm.pay_news]; simp) fun P => ?_
    · dsimp only
      rw [hw2, hsl]; omega
    · dsimp only
      rw [hw2]; omega
    · dsimp only
      rw [hfree, List.nil_append, rm_pay_t P hp, if_neg (fun e => e rfl)]
      rfl
/-- a new block, that is paid for -/
theorem acc_new (hb : Fits c room g) (h : Rn c V g m (fs ++ [b]) ls R B) (hop : m.x.i.op = 15) (hpl : (m.puts.length : Int) + 9 ≤ g.p0 + m.x.writes) (hnw : 9 * (m.news.length : Int) + 9 ≤ m.x.writes) : AccR c V g m.news (fun P => (rmOf c m R B P).fresh2 m.x.i) (m.goOn c room b) := by
  have hr := hb.room; have hw1 := h.w1
  obtain ⟨hbk, hv0⟩ := h.rep.free b (List.mem_append_right _ (List.mem_singleton_self b))
  have hb64 := hb.hc.b1
  have hsl : (fs ++ [b]).length = fs.length + 1 := by rw [List.length_append]; rfl
  have hnt := h.nt
  have hcnt := h.cnt
  rw [hsl] at hnt hcnt
  unfold Xm.goOn
  rw [if_neg (by omega), if_pos hop]
  unfold Xm.taken
  rw [if_neg (by omega)]
  obtain ⟨g1, g2, g3⟩ := h.rep.takeP hb.hc (room := room) (nt := m.p.nt) (by omega) (by omega)
  have g4 := h.pk.take hb.hc (room := room) (by omega) hbk (nt := m.p.nt) (by omega)
  have hnone : mget B ((b : Int) + 1) = none := by
    cases e : mget B ((b : Int) + 1) with
    | none => rfl
    | some l =>
      have := (h.rep.life b hbk).2 (by rw [e]; rfl)
      rw [hv0] at this; cases this
  refine .run [b + 1] fs ls R (mput B ((b : Int) + 1) zero8) ⟨⟨g3, g4, g1, h.nl, ?_, h.lsz, ?_, h.w0, h.w1, h.held, h.sq, ?_, ?_, h.lg⟩, h.s, h.rc, h.waits⟩ rfl fun P => ?_
  · dsimp only
    rw [List.length_append, List.length_singleton]; omega
  · dsimp only; omega
  · dsimp only
    rw [List.length_set]; exact h.regs
  · dsimp only
    rw [List.length_append, List.length_singleton]; omega
  · show (rmOf c m R B ((b + 1) :: P)).fresh2 m.x.i = _
    have hns : ¬ (mget (rmOf c m R B ((b + 1) :: P)).blocks ((b + 1 : Nat) : Int)).isSome = true := by
      show ¬ (mget B ((b + 1 : Nat) : Int)).isSome = true
      rw [show ((b + 1 : Nat) : Int) = (b : Int) + 1 from by omega, hnone]; decide
    show (if (mget (rmOf c m R B ((b + 1) :: P)).blocks ((b + 1 : Nat) : Int)).isSome = true then _ else if b + 1 = 0 ∨ 64 < b + 1 then _ else _) = _
    rw [if_neg hns, if_neg (by omega)]
    show (({ rmOf c m R B ((b + 1) :: P) with pick := P, blocks := mput B ((b + 1 : Nat) : Int) zero8, news := m.news ++ [b + 1], regs := m.x.regs.set m.x.i.a.toNat (b + 1) } : Rm), (0 : Int)) = _
    rw [show ((b + 1 : Nat) : Int) = (b : Int) + 1 from by omega]
    rfl
end
end Go.Proofs.YthmbgodcpgkkeaaGreat
end
section
namespace Go.Proofs.YthmbgodcpgkkeaaGreat
set_option maxRecDepth 100000
/-- m' waits for what it reads; what comes of it then -/
structure Wt (c : Cfg) (V : Int → Nat) (g : Bg) (room : Nat) (nw : List Nat) (f : List Nat → Rm × Int) (m' : Xm) : Prop where
  w : m'.x.waits = true
  s : m'.x.s = 0
  rc : m'.x.rc = 0
  sq : m'.v.seq = g.sq
  news : m'.news = nw
  is : ∃ r, VwF c V m'.v r ∧ ∀ v' : Vw, Hl c V v' → v'.seq = g.sq → (∀ val, r = some val → AccR c V g nw f (Xm.goOn c room { m' with v := v', x := { m'.x with waits := false } } val)) ∧ (r = none → AccR c V g nw f (Xm.fail { m' with v := v' } 44 0))
section
variable {c : Cfg} {V : Int → Nat} {g : Bg} {room : Nat} {m : Xm} {fs ls R : List Nat} {B : List (Int × List Nat)} {b : Nat} {l : List Nat}
theorem Rn.view (h : Rn c V g m fs ls R B) {v' : Vw} (h1 : Hl c V v') (h2 : v'.seq = g.sq) : Rn c V g { m with v := v' } fs ls R B :=
  ⟨⟨h.rep, h.pk, h.nt, h.nl, h.cnt, h.lsz, h.plen, h.w0, h.w1, h1, h2, h.regs, h.nw, h.lg⟩, h.s, h.rc, h.waits⟩
theorem unwait (h : m.x.waits = false) (v' v2 : Vw) : ({ ({ m with v := v2, x := { m.x with waits := true } } : Xm) with v := v', x := { ({ m with v := v2, x := { m.x with waits := true } } : Xm).x with waits := false } } : Xm) = { m with v := v' } := by
  obtain ⟨⟨x1, x2, x3, x4, x5, x6, x7, x8, x9, x10, x11, x12, x13⟩, v, p, puts, news⟩ := m
  dsimp only at h
  subst h
  rfl
theorem fetch_acc (hb : Fits c room g) (h : Rn c V g m fs ls R B) {kind i j : Int} (hk : 7 ≤ kind ∧ kind ≤ 15) (hi : 0 ≤ i ∧ i < (c.cnt kind).1 ∧ 0 ≤ j ∧ j < (c.cnt kind).2) {f : List Nat → Rm × Int} (hgo : ∀ v' : Vw, Hl c V v' → v'.seq = g.sq → AccR c V g m.news f (Xm.goOn c room { m with v := v' } (ovl m.puts V (c.at kind i j)))) : AccR c V g m.news f (m.fetch c room (c.at kind i j)) ∨ Wt c V g room m.news f (m.fetch c room (c.at kind i j)) := by
  have hw := at_rest hb.hc (kind := kind) (by omega) ⟨hi.1, hi.2.1⟩ ⟨hi.2.2.1, hi.2.2.2⟩
  have hn := at_in hb.hc (kind := kind) (by omega) hi
  unfold Xm.fetch
  cases e : mget (allP m.puts) (c.at kind i j) with
  | some val =>
    have := hgo m.v h.held h.sq
    rw [ovl_some e] at this
    exact .inl this
  | none =>
    rw [ovl_none e] at hgo
    refine .inr ⟨rfl, h.s, h.rc, (Vw.cell_seq c m.v _).trans h.sq, rfl, some (V (c.at kind i j)), VwF.cell h.held (by rw [hw]; dsimp only; omega) hn, fun v' h1 h2 => ⟨fun val ev => ?_, fun ev => by cases ev⟩⟩
    injection ev with ev
    subst ev
    exact Eq.mpr (congrArg (fun z => AccR c V g m.news f (Xm.goOn c room z (V (c.at kind i j)))) (unwait h.waits v' (m.v.cell c (c.at kind i j)))) (hgo v' h1 h2)
theorem root_acc (hb : Fits c room g) (h : Rn c V g m fs ls R B) (hop : m.x.i.op = 9 ∨ m.x.i.op = 10) : AccR c V g m.news (fun P => (rmOf c m R B P).root m.x.i) (m.root c room) ∨ Wt c V g room m.news (fun P => (rmOf c m R B P).root m.x.i) (m.root c room) := by
  unfold Xm.root
  by_cases hk : 16 ≤ m.x.reg m.x.i.b
  · rw [if_pos hk]
    refine .inl (.fails (by decide) rfl (fun e => by cases e) ⟨rmOf c m R B [], ?_, rfl, rfl⟩)
    unfold Rm.root
    rw [if_pos (show 16 ≤ (rmOf c m R B []).reg m.x.i.b from hk)]
  · rw [if_neg hk]
    by_cases h10 : m.x.i.op = 10
    · rw [if_pos h10]
      exact .inl (acc10 hb h h10 (by omega))
    · rw [if_neg h10]
      refine fetch_acc hb h (by decide) (in10 c (by omega)) fun v' h1 h2 => ?_
      rw [h.rep.root _ (by omega)]
      exact acc9 (h.view h1 h2) (by show m.x.i.op = 9; omega) (by show m.x.reg m.x.i.b < 16; omega)
theorem fresh_acc (hb : Fits c room g) (h : Rn c V g m fs ls R B) (hop : m.x.i.op = 15) : AccR c V g m.news (fun P => (rmOf c m R B P).fresh m.x.i) (m.fresh c room) ∨ Wt c V g room m.news (fun P => (rmOf c m R B P).fresh m.x.i) (m.fresh c room) := by
  unfold Xm.fresh
  cases hp : (m.pay c).2 with
  | false =>
    rw [if_neg (by decide), Xm.pay_f hp]
    refine .inl (.fails (by decide) rfl (fun e => by cases e) ⟨rmOf c m R B [], ?_, rfl, rfl⟩)
    rw [Rm.fresh_eq, rm_pay_f [] hp]; rfl
  | true =>
    rw [if_pos rfl]
    obtain ⟨h1, hw2, hw3⟩ := h.pay hp
    have hco : costs m.x.i.op = 9 := by rw [hop]; rfl
    have hf : (fun P => (rmOf c m R B P).fresh m.x.i) = fun P => (rmOf c (m.pay c).1 R B P).fresh2 m.x.i := by
      funext P
      rw [Rm.fresh_eq, rm_pay_t P hp, if_neg (fun e => e rfl)]
    have hnw : m.news = (m.pay c).1.news := (Xm.pay_news c m).symm
    have hi : (m.pay c).1.x.i = m.x.i := by rw [Xm.pay_t hp]
    have hu : (m.pay c).1.puts = m.puts := by rw [Xm.pay_t hp]
    have hpl := h.plen
    have hnwr := h.nw
    rw [hnw] at hnwr
    rw [hf, hnw]
    generalize (m.pay c).1 = m1 at h1 hw2 hi hu hnwr
    rw [← hi]
    rw [← hi] at hop
    unfold Po.top
    have hnt := h1.nt
    have hcnt := h1.cnt
    have hfz := h1.rep.fsz
    rcases List.eq_nil_or_concat fs with e | ⟨fs', b, e⟩
    · subst e
      have hnt : m1.p.nt = 0 := hnt
      rw [if_pos hnt, if_neg (by decide)]
      exact .inl (.fails (by decide) rfl (fun _ => by rw [← hcnt]; simp) ⟨rmOf c m1 R B [], rfl, rfl, rfl⟩)
    · rw [List.concat_eq_append] at e
      subst e
      have hsl : (fs' ++ [b]).length = fs'.length + 1 := by rw [List.length_append]; rfl
      rw [hsl] at hnt hfz
      have hn0 : m1.p.nt ≠ 0 := by omega
      rw [if_neg hn0, if_pos rfl]
      dsimp only
      have hst := h1.rep.stack fs'.length (by omega)
      rw [List.getElem_append_right (Nat.le_refl _)] at hst
      have hst : ovl m1.puts V (c.at 13 (m1.p.nt - 1) 0) = b := by
        rw [show m1.p.nt - 1 = ((fs'.length : Nat) : Int) by omega, hst]; simp
      rw [show m1.p.nt - 1 = ((fs'.length : Nat) : Int) by omega] at hst ⊢
      refine fetch_acc hb h1 (by decide) (in13 (by omega)) fun v' g1 g2 => ?_
      rw [hst]
      exact acc_new hb (h1.view g1 g2) hop (by show (m1.puts.length : Int) + 9 ≤ g.p0 + m1.x.writes; rw [hu]; omega) (by show 9 * (m1.news.length : Int) + 9 ≤ m1.x.writes; omega)
end
end Go.Proofs.YthmbgodcpgkkeaaGreat
end
