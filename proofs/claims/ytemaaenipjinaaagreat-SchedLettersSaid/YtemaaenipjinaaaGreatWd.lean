/-
  What a call touches, in plain terms.
-/
import Derived.Test.YtemaaenipjinaaaGreatWc
namespace Go.Proofs.YtemaaenipjinaaaGreat
set_option maxRecDepth 100000
structure Ct (c : Cfg) (p : Cp) (n : Int) (m : Cm) : Prop where
  ex : m.s.next = 8 → ∃ e, m.work = .ex e ∧ Xt c p.who n e
  hp : m.s.next = 4 ∨ m.s.next = 12 → ∃ h, m.work = .hp h ∧ Ht c p.who n h
  bd : m.s.next = 9 → ∃ b, m.work = .bd b ∧ Bt c p.who n b
  sc : m.s.next = 10 → ∃ s, m.work = .sc s ∧ Lt c p.who s
section
variable {c : Cfg} {p : Cp} {progs : Progs} {n : Int} {m : Cm}
theorem Ct.rest (h : m.s.next ≠ 8 ∧ m.s.next ≠ 4 ∧ m.s.next ≠ 12 ∧ m.s.next ≠ 9 ∧ m.s.next ≠ 10) : Ct c p n m :=
  ⟨fun e => absurd e h.1, fun e => by omega, fun e => by omega, fun e => by omega⟩
theorem Ct.new : Ct c p n (Cm.new p progs) := by
  refine Ct.rest ?_
  unfold Cm.new
  dsimp only
  split <;> decide
theorem Ct.read (h8 : m.s.next = 8) {e : Xm} (h : Xt c p.who n e) : Ct c p n ⟨m.s.read e.x, .ex e, m.b⟩ ∧ (m.s.read e.x).now = m.s.now := by
  unfold Cs.read
  split
  · exact ⟨Ct.rest (m := ⟨m.s.end e.x.rc e.x.rv true, .ex e, m.b⟩) (by show (13 : Int) ≠ 8 ∧ (13 : Int) ≠ 4 ∧ (13 : Int) ≠ 12 ∧ (13 : Int) ≠ 9 ∧ (13 : Int) ≠ 10; decide), rfl⟩
  split
  · unfold Cs.stale
    split
    · exact ⟨Ct.rest (by dsimp only; decide), rfl⟩
    · exact ⟨Ct.rest (by dsimp only; decide), rfl⟩
  · refine ⟨⟨fun _ => ⟨e, rfl, h⟩, fun e2 => ?_, fun e2 => ?_, fun e2 => ?_⟩, rfl⟩ <;> (dsimp only at e2; omega)
theorem Ct.run (hc : Small c) : Ct c p n (m.run c p progs) ∧ (m.run c p progs).s.now = m.s.now :=
  Ct.read (m := ⟨{ m.s with next := 8 }, m.work, m.b⟩) rfl (Xt.start (who := p.who) (n := n) 0 hc (p.code progs) VtI.new (by show (1 : Int) ≠ 2; decide) (Po.new m.s.now.seq) [] p.args)
theorem Ct.try_ (hc : Small c) : Ct c p n (m.try_ c p progs) ∧ (m.try_ c p progs).s.now = m.s.now := by
  unfold Cm.try_
  split
  · exact ⟨Ct.rest (by dsimp only; decide), rfl⟩
  · exact Ct.run hc
theorem Ct.built (hc : Small c) (b : Bm) : ∀ (l : List BRow) {m : Cm}, (m.s.next = 2 ∨ (m.s.next = 10 ∧ ∃ s, m.work = .sc s ∧ Lt c p.who s)) →
    ((l.foldl (Cm.row c p b) m).s.next = 2 ∨ ((l.foldl (Cm.row c p b) m).s.next = 10 ∧ ∃ s, (l.foldl (Cm.row c p b) m).work = .sc s ∧ Lt c p.who s)) ∧ (l.foldl (Cm.row c p b) m).s.now = m.s.now
  | [], m, h => ⟨h, rfl⟩
  | r :: l, m, h => by
    rw [List.foldl_cons]
    have h2 : ((Cm.row c p b m r).s.next = 2 ∨ ((Cm.row c p b m r).s.next = 10 ∧ ∃ s, (Cm.row c p b m r).work = .sc s ∧ Lt c p.who s)) ∧ (Cm.row c p b m r).s.now = m.s.now := by
      unfold Cm.row
      split
      · exact ⟨.inr ⟨rfl, _, rfl, Lt.new hc _ _⟩, rfl⟩
      · exact ⟨h, rfl⟩
    obtain ⟨g1, g2⟩ := Ct.built hc b l h2.1
    exact ⟨g1, g2.trans h2.2⟩
/-- what a call's step may be -/
def Cgood (c : Cfg) (p : Cp) (n : Int) (m : Cm) (o : MOp) : Prop :=
  (m.s.next ≠ 2 ∧ Tgood c p.who n o) ∨ (m.s.next = 2 ∧ o = mop 0 (c.at 0 0 0) 0) ∨ (m.s.next = 11 ∧ o = ⟨2, c.at 0 0 0, m.s.now, ⟨p.who.toNat, m.s.now.seq + 1⟩⟩)
theorem named_now {k : Int} {x y : Cell} (hc : Small c) : namedOf c n ⟨k, c.at 0 0 0, x, y⟩ = n := by
  unfold namedOf
  rw [if_neg]
  rintro ⟨_, e⟩
  have e : (c.what (c.at 0 0 0)).1 = 3 := e
  rw [what0 hc] at e; cases e
theorem Ct.step (hc : Small c) (hw : 0 ≤ p.who ∧ p.who < c.threads) (hi : Cinv c p progs m) (h : Ct c p n m) (h13 : m.s.next ≠ 13) (o : Out) :
    (m.ask c p).2 = true ∧ Cgood c p n m (m.ask c p).1 ∧ Ct c p (namedOf c n (m.ask c p).1) (m.tell c p progs o) ∧ (m.tell c p progs o).s.now = if m.s.next = 2 then o.was else m.s.now := by
  have hnx := hi.nx
  have ht0 := hc.t0
  unfold Cm.ask Cm.tell
  rw [if_neg h13]
  unfold Cm.go
  have ent : m.s.touch.next = m.s.next := rfl
  have eno : m.s.touch.now = m.s.now := rfl
  have egi : m.s.touch.given = m.s.given := rfl
  dsimp only
  rw [ent]
  by_cases h0 : m.s.next = 0
  · have n2 : ¬ m.s.next = 2 := by omega
    rw [if_pos h0, if_pos h0, if_neg n2]
    have hg := hi.given h0
    obtain ⟨g1, g2⟩ := Tgood.storeK (c := c) (who := p.who) (n := n) (old := ⟨0, 0⟩) (new := ⟨p.args.getD m.s.given.toNat 0, 0⟩) (at_own hc (kind := 2) (i := p.who) (k := m.s.given) ⟨by decide, by decide⟩ hw ⟨hg.1, (by show m.s.given < 4; omega)⟩) ⟨by decide, by decide⟩ (by decide)
    refine ⟨rfl, .inl ⟨by omega, g1⟩, ?_⟩
    split
    · exact ⟨Ct.rest (by dsimp only; decide), rfl⟩
    · exact ⟨Ct.rest (by show m.s.next ≠ 8 ∧ m.s.next ≠ 4 ∧ m.s.next ≠ 12 ∧ m.s.next ≠ 9 ∧ m.s.next ≠ 10; omega), rfl⟩
  rw [if_neg h0, if_neg h0]
  by_cases h1 : m.s.next = 1
  · have n2 : ¬ m.s.next = 2 := by omega
    rw [if_pos h1, if_pos h1, if_neg n2]
    obtain ⟨g1, g2⟩ := Tgood.storeK (c := c) (who := p.who) (n := n) (old := ⟨0, 0⟩) (new := ⟨(IntKind.u64.wrap p.prog).toNat, p.tag⟩) (at_own hc (kind := 1) (i := p.who) (k := 0) ⟨by decide, by decide⟩ hw ⟨by decide, (by decide : (0 : Int) < 1)⟩) ⟨by decide, by decide⟩ (by decide)
    exact ⟨rfl, .inl ⟨by omega, g1⟩, Ct.rest (by dsimp only; decide), rfl⟩
  rw [if_neg h1, if_neg h1]
  by_cases h2 : m.s.next = 2
  · rw [if_pos h2, if_pos h2, if_pos h2]
    refine ⟨rfl, .inr (.inl ⟨h2, rfl⟩), ?_⟩
    unfold Cs.looks
    split
    · exact ⟨Ct.rest (by dsimp only; decide), rfl⟩
    · exact ⟨Ct.rest (by dsimp only [Cs.end]; decide), rfl⟩
  rw [if_neg h2, if_neg h2, if_neg h2]
  by_cases h3 : m.s.next = 3
  · rw [if_pos h3, if_pos h3]
    have how : 0 ≤ m.s.owner c ∧ m.s.owner c < c.threads := by
      unfold Cs.owner
      exact ⟨Int.emod_nonneg _ (by omega), Int.emod_lt_of_pos _ (by omega)⟩
    obtain ⟨g1, g2⟩ := Tgood.loadK (c := c) (who := p.who) (n := n) 0 (at_own hc (kind := 4) (i := m.s.owner c) (k := 0) ⟨by decide, by decide⟩ how ⟨by decide, (by decide : (0 : Int) < 1)⟩) (by decide) (by decide)
    refine ⟨rfl, .inl ⟨by omega, g1⟩, ?_⟩
    dsimp only
    rw [g2]
    unfold Cm.opened
    split
    · refine ⟨⟨fun e => (by cases e), fun _ => ⟨_, rfl, Ht.new hc how _⟩, fun e => (by cases e), fun e => (by cases e)⟩, rfl⟩
    · exact Ct.try_ hc
  rw [if_neg h3, if_neg h3]
  by_cases h5 : m.s.next = 5 ∨ m.s.next = 6 ∨ m.s.next = 7
  · rw [if_pos h5, if_pos h5]
    obtain ⟨g1, g2⟩ := Tgood.loadK (c := c) (who := p.who) (n := n) 0 (at_rest hc (kind := 7 + (m.s.next - 5)) (i := p.who) (k := 0) (by omega) (by
      have e : c.cnt (7 + (m.s.next - 5)) = (c.threads, 1) := by unfold Cfg.cnt; rw [if_neg (by omega), if_pos (by omega)]
      rw [e]; exact hw) (by
      have e : c.cnt (7 + (m.s.next - 5)) = (c.threads, 1) := by unfold Cfg.cnt; rw [if_neg (by omega), if_pos (by omega)]
      rw [e]; exact ⟨by decide, (by decide : (0 : Int) < 1)⟩)) (by omega) (by omega)
    refine ⟨rfl, .inl ⟨by omega, g1⟩, ?_⟩
    dsimp only
    rw [g2]
    unfold Cm.answer
    dsimp only
    rw [ent]
    split
    · exact ⟨Ct.rest (by dsimp only; decide), rfl⟩
    split
    · exact ⟨Ct.rest (by dsimp only [Cs.end]; decide), rfl⟩
    split
    · exact ⟨Ct.rest (by dsimp only; decide), rfl⟩
    split
    · split
      · exact Ct.run (m := ⟨m.s.touch, m.work, m.b⟩) hc
      · exact ⟨Ct.rest (by dsimp only [Cs.end]; decide), rfl⟩
    · exact ⟨⟨fun e => (by cases e), fun e => (by have e : (9 : Int) = 4 ∨ (9 : Int) = 12 := e; omega), fun _ => ⟨_, rfl, Bt.new _⟩, fun e => (by cases e)⟩, rfl⟩
  rw [if_neg h5, if_neg h5]
  by_cases h11 : m.s.next = 11
  · have hnw : ¬ (m.s.next = 4 ∨ m.s.next = 12 ∨ m.s.next = 8 ∨ m.s.next = 9 ∨ m.s.next = 10) := by omega
    rw [if_neg hnw, if_pos h11, if_pos h11]
    refine ⟨rfl, .inr (.inr ⟨h11, rfl⟩), ?_⟩
    rw [named_now hc]
    unfold Cm.swapped
    dsimp only
    split
    · split
      · exact ⟨⟨fun e => (by cases e), fun _ => ⟨_, rfl, Ht.ownH hc hw _ _⟩, fun e => (by cases e), fun e => (by cases e)⟩, rfl⟩
      · exact ⟨Ct.rest (by dsimp only; decide), rfl⟩
    · exact ⟨Ct.rest (by dsimp only; decide), rfl⟩
  have hwk : m.s.next = 4 ∨ m.s.next = 12 ∨ m.s.next = 8 ∨ m.s.next = 9 ∨ m.s.next = 10 := by omega
  rw [if_pos hwk, if_neg h11]
  unfold Cm.worked Cm.after
  dsimp only
  by_cases h8 : m.s.next = 8
  · obtain ⟨e, hwk, hx⟩ := h.ex h8
    obtain ⟨e', hwk', hx0, k, hS, hX⟩ := hi.ex h8
    rw [hwk] at hwk'
    injection hwk' with hwk'
    subst hwk'
    rw [hwk]
    unfold Wk.ask Wk.tell
    dsimp only
    have hst : e.stops := by
      rcases hX.go with ⟨_, _, hs⟩ | ⟨hs, _⟩
      · exact hs
      · omega
    obtain ⟨g1, g2, g3⟩ := Xt.step (room := 0) hc hw (p.code progs) hx hx0 hst o
    exact ⟨g2, .inl ⟨by omega, g1⟩, Ct.read (m := ⟨m.s.touch, m.work, m.b⟩) h8 g3⟩
  by_cases h4 : m.s.next = 4 ∨ m.s.next = 12
  · obtain ⟨e, hwk, hx⟩ := h.hp h4
    obtain ⟨e', hwk', hok, hn8⟩ := hi.hp h4
    rw [hwk] at hwk'
    injection hwk' with hwk'
    subst hwk'
    rw [hwk]
    unfold Wk.ask Wk.tell
    dsimp only
    obtain ⟨g1, g2, g3⟩ := Ht.step hc hw hok.1 hx hn8 o
    refine ⟨g2, .inl ⟨by omega, g1⟩, ?_⟩
    unfold Cm.helped
    dsimp only
    split
    · exact ⟨⟨fun e2 => absurd e2 h8, fun _ => ⟨_, rfl, g3⟩, fun e2 => (by have e2 : m.s.next = 9 := e2; omega), fun e2 => (by have e2 : m.s.next = 10 := e2; omega)⟩, rfl⟩
    split
    · exact ⟨Ct.rest (by dsimp only [Cs.end]; decide), rfl⟩
    · exact Ct.try_ (m := ⟨m.s.touch, .hp (e.tell c o), m.b⟩) hc
  by_cases h9 : m.s.next = 9
  · obtain ⟨e, hwk, hx⟩ := h.bd h9
    obtain ⟨_, e', hwk', hok, hb0⟩ := hi.bd h9
    rw [hwk] at hwk'
    injection hwk' with hwk'
    subst hwk'
    rw [hwk]
    unfold Wk.ask Wk.tell
    dsimp only
    obtain ⟨g1, g2, g3⟩ := Bt.step c.cap.toNat hc hw hok hx hb0 o
    refine ⟨g2, .inl ⟨by omega, g1⟩, ?_⟩
    unfold Cm.built
    split
    · exact ⟨⟨fun e2 => absurd e2 h8, fun e2 => absurd e2 h4, fun _ => ⟨_, rfl, g3⟩, fun e2 => (by have e2 : m.s.next = 10 := e2; omega)⟩, rfl⟩
    split
    · exact ⟨Ct.rest (by dsimp only; decide), rfl⟩
    · obtain ⟨f1, f2⟩ := Ct.built (p := p) hc (e.tell c c.cap.toNat progs o) (e.tell c c.cap.toNat progs o).rows (m := ⟨{ m.s.touch with next := 2 }, .bd (e.tell c c.cap.toNat progs o), m.b⟩) (.inl rfl)
      refine ⟨?_, f2⟩
      rcases f1 with f1 | ⟨f1, s, f3, f4⟩
      · exact Ct.rest (by rw [f1]; decide)
      · exact ⟨fun e2 => absurd (e2.symm.trans f1) (by decide), fun e2 => e2.elim (fun e2 => absurd (e2.symm.trans f1) (by decide)) (fun e2 => absurd (e2.symm.trans f1) (by decide)), fun e2 => absurd (e2.symm.trans f1) (by decide), fun _ => ⟨s, f3, f4⟩⟩
  · have h10 : m.s.next = 10 := by omega
    obtain ⟨e, hwk, hx⟩ := h.sc h10
    obtain ⟨_, ⟨e', hwk', hok, hov⟩, _⟩ := hi.sc h10
    rw [hwk] at hwk'
    injection hwk' with hwk'
    subst hwk'
    rw [hwk]
    unfold Wk.ask Wk.tell
    dsimp only
    obtain ⟨g1, g2, g3⟩ := Lt.step (n := n) hc hw hx hov
    refine ⟨g2, .inl ⟨by omega, g1⟩, ?_⟩
    split
    · exact ⟨Ct.rest (by dsimp only; decide), rfl⟩
    · exact ⟨⟨fun e2 => absurd e2 h8, fun e2 => absurd e2 h4, fun e2 => absurd e2 h9, fun _ => ⟨_, rfl, hx.tell⟩⟩, rfl⟩
/-- a call's step is at a cell that there is -/
theorem Cgood.at_ (hc : Small c) {o : MOp} (h : Cgood c p n m o) : 0 ≤ o.at_ ∧ o.at_ < c.f17 ∧ 0 ≤ o.kind ∧ o.kind ≤ 3 := by
  have hk : 0 ≤ (c.what o.at_).1 ∧ 0 ≤ o.kind ∧ o.kind ≤ 3 := by
    rcases h with ⟨_, h⟩ | ⟨_, rfl⟩ | ⟨_, rfl⟩
    · rcases h.kind with e | e | e
      · have := h.load e; omega
      · have := h.store e; omega
      · have := h.swap e; omega
    · refine ⟨?_, (by show (0 : Int) ≤ 0; decide), (by show (0 : Int) ≤ 3; decide)⟩
      show 0 ≤ (c.what (c.at 0 0 0)).1
      rw [what0 hc]; decide
    · refine ⟨?_, (by show (0 : Int) ≤ 2; decide), (by show (2 : Int) ≤ 3; decide)⟩
      show 0 ≤ (c.what (c.at 0 0 0)).1
      rw [what0 hc]; decide
  have h1 : ¬ (o.at_ < 0 ∨ c.f17 ≤ o.at_) := fun hx => by
    have e : c.what o.at_ = (-1, 0, 0) := by unfold Cfg.what; rw [if_pos hx]
    rw [e] at hk
    have := hk.1
    omega
  omega
end
end Go.Proofs.YtemaaenipjinaaaGreat
