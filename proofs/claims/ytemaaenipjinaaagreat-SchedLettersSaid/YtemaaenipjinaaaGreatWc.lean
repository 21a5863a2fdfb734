/-
  What a call touches, in plain terms: a pool, a transaction that is made, helping, a log.
-/
import Derived.Test.YtemaaenipjinaaaGreatWb
namespace Go.Proofs.YtemaaenipjinaaaGreat
set_option maxRecDepth 100000
section
variable {c : Cfg} {who n : Int}
theorem pool_ask (hc : Small c) {p : Po} (h : PoI c p) (h0 : p.s = 0) : Tgood c who n (p.ask c).1 ∧ namedOf c n (p.ask c).1 = n ∧ (p.ask c).2 = true := by
  have hn := h.next.1
  have ht0 := hc.t0
  unfold Po.ask
  rw [if_neg (by omega)]
  split
  · rename_i h1
    obtain ⟨g1, g2⟩ := Tgood.loadK (c := c) (who := who) (n := n) 0 (at_own hc (kind := 3) (i := p.next) (k := 0) ⟨by decide, by decide⟩ ⟨hn, h1⟩ ⟨by decide, (by decide : (0 : Int) < 1)⟩) (by decide) (by decide)
    exact ⟨g1, g2, rfl⟩
  split
  · obtain ⟨g1, g2⟩ := Tgood.loadK (c := c) (who := who) (n := n) 0 (at_rest hc (kind := 12) (i := 0) (k := 0) ⟨by decide, by decide⟩ ⟨by decide, (by decide : (0 : Int) < 1)⟩ ⟨by decide, (by decide : (0 : Int) < 1)⟩) (by decide) (by decide)
    exact ⟨g1, g2, rfl⟩
  split
  · obtain ⟨g1, g2⟩ := Tgood.loadK (c := c) (who := who) (n := n) 0 (at_rest hc (kind := 14) (i := 0) (k := 0) ⟨by decide, by decide⟩ ⟨by decide, (by decide : (0 : Int) < 1)⟩ ⟨by decide, (by decide : (0 : Int) < 1)⟩) (by decide) (by decide)
    exact ⟨g1, g2, rfl⟩
  · rename_i h1 h2 h3
    obtain ⟨h4, h5⟩ := h.late h0 (by omega)
    have h6 := h.wl.2
    obtain ⟨g1, g2⟩ := Tgood.loadK (c := c) (who := who) (n := n) 0 (at_rest hc (kind := 15) (i := p.next - c.threads - 2) (k := 0) ⟨by decide, by decide⟩ ⟨by omega, (by show p.next - c.threads - 2 < c.limit; omega)⟩ ⟨by decide, (by decide : (0 : Int) < 1)⟩) (by decide) (by decide)
    exact ⟨g1, g2, rfl⟩
/-! ### a transaction that is made -/
structure Bt (c : Cfg) (who n : Int) (m : Bm) : Prop where
  vi : VtI c who n m.e.v
  ns : m.b.s = 0 → m.b.next ≠ 4 → m.e.v.s ≠ 2
  tag : m.b.s = 0 → m.b.next = 2 → m.e.v.s = 0 ∧ m.e.v.step = 3
  run : m.b.s = 0 → m.b.next = 4 → Jst m.e
  pl : m.b.s = 0 → m.b.next = 0 → m.e.p.s = 0
theorem Bt.new (seq : Nat) : Bt c who n (Bm.new who seq) := ⟨VtI.new, fun _ _ => (by show (1 : Int) ≠ 2; decide), fun _ e => (by cases e), fun _ e => (by cases e), fun _ _ => rfl⟩
theorem Po.fin_s {p : Po} (h : p.s = 0) : (p.fin c).s = 0 ∨ (p.fin c).s = 1 := by
  unfold Po.fin
  split
  · exact .inr rfl
  · exact .inl h
theorem Po.tell_s {p : Po} (h : p.s = 0) (o : Out) : (p.tell c o).s = 0 ∨ (p.tell c o).s = 1 ∨ (p.tell c o).s = 2 := by
  have key : ∀ q : Po, q.s = 0 → (q.fin c).s = 0 ∨ (q.fin c).s = 1 ∨ (q.fin c).s = 2 := fun q hq => by
    rcases Po.fin_s (c := c) hq with e | e
    · exact .inl e
    · exact .inr (.inl e)
  unfold Po.tell
  rw [if_neg (by omega)]
  split
  · exact key _ h
  split
  · exact .inr (.inr rfl)
  split
  · exact key _ h
  split
  · exact key _ h
  · exact key _ h
variable {m : Bm} (room : Nat)
theorem Bt.pass (h : VtI c who n m.e.v) (hs : m.e.v.s ≠ 2) : Bt c who n (m.pass c room) := by
  unfold Bm.pass
  split
  · exact ⟨h, fun _ _ => hs, fun e => (by cases e), fun e => (by cases e), fun e => (by cases e)⟩
  · exact ⟨h, fun _ _ => hs, fun _ e => (by cases e), fun _ e => (by cases e), fun _ e => (by cases e)⟩
theorem Bt.ran (h4 : m.b.next = 4) (h : Xt c who n m.e) : Bt c who n (m.ran c room) := by
  unfold Bm.ran
  split
  · exact ⟨h.v, fun e => (by cases e), fun e => (by cases e), fun e => (by cases e), fun e => (by cases e)⟩
  split
  · rename_i h1
    exact Bt.pass (m := m.told c room) room h.v (h.over h1)
  · exact ⟨h.v, fun _ e => absurd h4 e, fun _ e => by omega, fun _ _ => h.j, fun _ e => by omega⟩
theorem Bt.step (hc : Small c) (hw : 0 ≤ who ∧ who < c.threads) {progs : Progs} (hi : Binv c progs m) (h : Bt c who n m) (h0 : m.b.s = 0) (o : Out) : Tgood c who n (m.ask c).1 ∧ (m.ask c).2 = true ∧ Bt c who (namedOf c n (m.ask c).1) (m.tell c room progs o) := by
  have hnx := hi.nx
  have hu := hi.gen.u
  have h0' : ¬ m.b.s ≠ 0 := fun e => e h0
  unfold Bm.ask Bm.tell
  rw [if_neg h0', if_neg h0']
  by_cases h1 : m.b.next = 0
  · rw [if_pos h1, if_pos h1]
    have hp := (hi.pool h0 h1).1
    have hns := h.ns h0 (by omega)
    have hp0 := h.pl h0 h1
    obtain ⟨g1, g2, g3⟩ := pool_ask (who := who) (n := n) hc hp hp0
    have hts := Po.tell_s (c := c) hp0 o
    refine ⟨g1, g3, ?_⟩
    rw [g2]
    unfold Bm.pooled
    split
    · exact ⟨h.vi, fun e => (by cases e), fun e => (by cases e), fun e => (by cases e), fun e => (by cases e)⟩
    split
    · exact ⟨h.vi, fun _ _ => hns, fun _ e => (by cases e), fun _ e => (by cases e), fun _ e => (by cases e)⟩
    · rename_i e2 e1
      have e1 : ¬ (m.e.p.tell c o).s = 1 := e1
      have e2 : ¬ (m.e.p.tell c o).s = 2 := e2
      exact ⟨h.vi, fun _ _ => hns, fun _ e => (by have e : m.b.next = 2 := e; omega), fun _ e => (by have e : m.b.next = 4 := e; omega), fun _ _ => (by show (m.e.p.tell c o).s = 0; omega)⟩
  rw [if_neg h1, if_neg h1]
  by_cases h2 : m.b.next = 1
  · rw [if_pos h2, if_pos h2]
    have hut := (hi.mid h0 (by omega) (by omega)).1
    have hns := h.ns h0 (by omega)
    obtain ⟨g1, g2⟩ := Tgood.loadK (c := c) (who := who) (n := n) 0 (at_own hc (kind := 1) (i := m.b.u) (k := 0) ⟨by decide, by decide⟩ ⟨hu, hut⟩ ⟨by decide, (by decide : (0 : Int) < 1)⟩) (by decide) (by decide)
    refine ⟨g1, rfl, ?_⟩
    rw [g2]
    unfold Bm.announce
    split
    · exact Bt.pass (m := { m with b := { m.b with ann := o.was } }) room h.vi hns
    · have e7 := at_rest hc (kind := 7) (i := m.b.u) (k := 0) ⟨by decide, by decide⟩ ⟨hu, hut⟩ ⟨by decide, (by decide : (0 : Int) < 1)⟩
      have ec : m.e.v.cell c (c.at 7 m.b.u 0) = { m.e.v with val := 0, step := 3, s := 0, at_ := c.at 7 m.b.u 0 } := by
        unfold Vw.cell Vw.begB Vw.beg
        rw [e7, if_neg hns, if_neg hns]
        rfl
      refine ⟨h.vi.cell _, fun _ _ => ?_, fun _ _ => ?_, fun _ e => (by cases e), fun _ e => (by cases e)⟩
      · show (m.e.v.cell c (c.at 7 m.b.u 0)).s ≠ 2
        rw [ec]; show (0 : Int) ≠ 2; decide
      · show (m.e.v.cell c (c.at 7 m.b.u 0)).s = 0 ∧ (m.e.v.cell c (c.at 7 m.b.u 0)).step = 3
        rw [ec]; exact ⟨rfl, rfl⟩
  rw [if_neg h2, if_neg h2]
  by_cases h3 : m.b.next = 2
  · rw [if_pos h3, if_pos h3]
    obtain ⟨t1, t2⟩ := h.tag h0 h3
    obtain ⟨g1, g2, g3⟩ := h.vi.step hc hw t1 o
    have hs := Vw.tell_s o t1 t2
    refine ⟨g1, g2, ?_⟩
    unfold Bm.tag
    split
    · exact ⟨g3, fun e => (by cases e), fun e => (by cases e), fun e => (by cases e), fun e => (by cases e)⟩
    · rename_i h5
      have h5 : (m.e.v.tell o).s ≠ 2 := h5
      split
      · exact Bt.pass (m := { m with e := { m.e with v := m.e.v.tell o } }) room g3 h5
      · exact ⟨g3, fun _ _ => h5, fun _ e => (by cases e), fun _ e => (by cases e), fun _ e => (by cases e)⟩
  rw [if_neg h3, if_neg h3]
  by_cases h4 : m.b.next = 3
  · rw [if_pos h4, if_pos h4]
    have hut := (hi.mid h0 (by omega) (by omega)).1
    have hns := h.ns h0 (by omega)
    have hg := hi.given h4
    obtain ⟨g1, g2⟩ := Tgood.loadK (c := c) (who := who) (n := n) 0 (at_own hc (kind := 2) (i := m.b.u) (k := m.b.given) ⟨by decide, by decide⟩ ⟨hu, hut⟩ ⟨hg.1, (by show m.b.given < 4; omega)⟩) (by decide) (by decide)
    refine ⟨g1, rfl, ?_⟩
    rw [g2]
    split
    · unfold Bm.begin
      exact Bt.ran room rfl (Xt.start room hc _ h.vi hns _ _ _)
    · exact ⟨h.vi, fun _ _ => hns, fun _ e => (by have e : m.b.next = 2 := e; omega), fun _ e => (by have e : m.b.next = 4 := e; omega), fun _ e => absurd e h1⟩
  · rw [if_neg h4, if_neg h4]
    have h5 : m.b.next = 4 := by omega
    obtain ⟨_, hx0, P0, k, nt0, nl0, _, _, hxr⟩ := hi.run h0 h5
    have hst : m.e.stops := by
      rcases hxr.go with ⟨_, _, hs⟩ | ⟨hs, _⟩
      · exact hs
      · omega
    obtain ⟨g1, g2, g3⟩ := Xt.step (room := room) hc hw (progOf progs m.b.ann.val) ⟨h.vi, h.run h0 h5⟩ hx0 hst o
    refine ⟨g1, g2, Bt.ran room h5 g3⟩
end
/-! ### helping -/
theorem what16 {c : Cfg} (_hc : Small c) {p : Int} (h : (c.what p).1 = 16) : 0 ≤ (c.what p).2.1 ∧ (c.what p).2.1 < c.blocks := by
  have h17 : c.f17 = c.f16 + c.blocks * 8 := rfl
  unfold Cfg.what at h ⊢
  repeat' split at h
  all_goals first | (exfalso; simp only at h; omega) | skip
  rename_i h1 h2 h3 h4 h5
  rw [if_neg h1, if_neg h2, if_neg h3, if_neg h4, if_pos h5]
  dsimp only
  omega
structure Ht (c : Cfg) (who n : Int) (h : Hm) : Prop where
  who : h.who = who
  own : 0 ≤ h.owner ∧ h.owner < c.threads
  held : h.held = -1 ∨ h.held = n
  cap : h.n ≤ c.cap
  s4 : h.next = 4 → (c.what h.at_.1).2.1 = n
  s5 : h.next = 5 ∨ h.next = 6 → OkAt c n h.at_.1
section
variable {c : Cfg} {who n : Int} {h : Hm}
theorem Ht.entryL (hc : Small c) (h1 : h.who = who) (h2 : 0 ≤ h.owner ∧ h.owner < c.threads) (h3 : h.held = -1 ∨ h.held = n) (h4 : h.n ≤ c.cap) : ∀ (l : List (Int × Nat)) (k : Nat), h.list.drop k = l → Ht c who n (h.entryL c l k)
  | [], k, _ => ⟨h1, h2, h3, h4, fun e => (by cases e), fun e => (by have e : (7 : Int) = 5 ∨ (7 : Int) = 6 := e; omega)⟩
  | e :: r, k, hd => by
    have hk : h.list.getD k (0, 0) = e := by
      have := congrArg (fun l => l[0]?) hd
      simp only [List.getElem?_drop, Nat.add_zero, List.getElem?_cons_zero] at this
      rw [List.getD_eq_getElem?_getD, this]; rfl
    unfold Hm.entryL
    split
    · refine Ht.entryL hc h1 h2 h3 h4 r (k + 1) ?_
      rw [← List.tail_drop, hd]; rfl
    · rename_i h7
      have hat : h.list.getD (k : Int).toNat (0, 0) = e := hk
      refine ⟨h1, h2, h3, h4, fun e4 => ?_, fun e5 => ?_⟩
      · dsimp only at e4
        split at e4 <;> cases e4
      · dsimp only at e5
        unfold Hm.at_
        dsimp only
        rw [hat]
        refine ⟨by omega, fun e16 => ?_⟩
        have hb := what16 hc e16
        split at e5
        · omega
        · rename_i hn
          have : (c.what e.1).2.1 = h.held := Decidable.by_contra fun hx => hn ⟨e16, hx⟩
          rcases h3 with h3 | h3 <;> omega
theorem Ht.entry (hc : Small c) (h1 : h.who = who) (h2 : 0 ≤ h.owner ∧ h.owner < c.threads) (h3 : h.held = -1 ∨ h.held = n) (h4 : h.n ≤ c.cap) (k : Nat) : Ht c who n (h.entry c k) := Ht.entryL hc h1 h2 h3 h4 _ k rfl
theorem Ht.new (hc : Small c) {owner : Int} (ho : 0 ≤ owner ∧ owner < c.threads) (seq : Nat) : Ht c who n (Hm.new who owner seq) := by
  have := hc.cap
  exact ⟨rfl, ho, .inl rfl, (by show (0 : Int) ≤ c.cap; omega), fun e => (by cases e), fun e => (by have e : (0 : Int) = 5 ∨ (0 : Int) = 6 := e; omega)⟩
theorem Ht.ownH (hc : Small c) (hw : 0 ≤ who ∧ who < c.threads) (seq : Nat) (list : List (Int × Nat)) : Ht c who n (Hm.own c who seq list) := by
  have := hc.cap
  exact Ht.entry (h := ⟨who, who, seq, list, 0, 0, -1, ⟨0, 0⟩, 0⟩) hc rfl hw (.inl rfl) (by show (0 : Int) ≤ c.cap; omega) 0
theorem Ht.read (h1 : h.who = who) (h2 : 0 ≤ h.owner ∧ h.owner < c.threads) (h3 : h.held = -1 ∨ h.held = n) (h4 : h.n ≤ c.cap) : Ht c who n h.read := by
  unfold Hm.read
  split
  · exact ⟨h1, h2, h3, h4, fun e => (by cases e), fun e => (by have e : (2 : Int) = 5 ∨ (2 : Int) = 6 := e; omega)⟩
  · exact ⟨h1, h2, h3, h4, fun e => (by cases e), fun e => (by have e : (1 : Int) = 5 ∨ (1 : Int) = 6 := e; omega)⟩
theorem Ht.unless (t : Ht c who n h) (is : Bool) : Ht c who n (h.unless is) := by
  unfold Hm.unless
  split
  · exact t
  · exact ⟨t.who, t.own, t.held, t.cap, fun e => (by cases e), fun e => (by have e : (8 : Int) = 5 ∨ (8 : Int) = 6 := e; omega)⟩
theorem Ht.step (hc : Small c) (hw : 0 ≤ who ∧ who < c.threads) (hi : Hinv c h) (t : Ht c who n h) (h8 : h.next ≠ 8) (o : Out) : Tgood c who n (h.ask c).1 ∧ (h.ask c).2 = true ∧ Ht c who (namedOf c n (h.ask c).1) (h.tell c o) := by
  have hnx := hi.nx
  have e4 := at_own hc (kind := 4) (i := h.owner) (k := 0) ⟨by decide, by decide⟩ t.own ⟨by decide, (by decide : (0 : Int) < 1)⟩
  have g4 := Tgood.loadK (c := c) (who := who) (n := n) 0 e4 (by decide) (by decide)
  unfold Hm.ask Hm.tell
  by_cases h0 : h.next = 0
  · rw [if_pos h0, if_pos h0]
    obtain ⟨g1, g2⟩ := Tgood.loadK (c := c) (who := who) (n := n) 0 (at_own hc (kind := 5) (i := h.owner) (k := 0) ⟨by decide, by decide⟩ t.own ⟨by decide, (by decide : (0 : Int) < 1)⟩) (by decide) (by decide)
    refine ⟨g1, rfl, ?_⟩
    rw [g2]
    exact Ht.read (h := { h with n := _ }) t.who t.own t.held (by dsimp only; split <;> omega)
  rw [if_neg h0, if_neg h0]
  by_cases h1 : h.next = 1
  · rw [if_pos h1, if_pos h1]
    have hln := hi.ln h1
    have hcp := t.cap
    obtain ⟨g1, g2⟩ := Tgood.loadK (c := c) (who := who) (n := n) 0 (at_own hc (kind := 6) (i := h.owner) (k := h.list.length) ⟨by decide, by decide⟩ t.own ⟨by omega, (by show (h.list.length : Int) < c.cap; omega)⟩) (by decide) (by decide)
    refine ⟨g1, rfl, ?_⟩
    rw [g2]
    exact Ht.read (h := { h with list := _ }) t.who t.own t.held t.cap
  rw [if_neg h1, if_neg h1]
  by_cases h2 : h.next = 2
  · rw [if_pos (.inl h2), if_pos h2]
    refine ⟨g4.1, rfl, ?_⟩
    rw [g4.2]
    exact (Ht.entry hc t.who t.own t.held t.cap 0).unless _
  rw [if_neg h2]
  by_cases h3 : h.next = 3
  · rw [if_neg (by omega), if_pos h3, if_pos h3, t.who]
    have hb := what16 hc (hi.w (.inl h3))
    obtain ⟨g1, g2⟩ := Tgood.slotK (n := n) hc hw hb
    refine ⟨g1, rfl, ?_⟩
    dsimp only
    rw [g2]
    exact ⟨rfl, t.own, .inl rfl, t.cap, fun _ => rfl, fun e => (by have e : (4 : Int) = 5 ∨ (4 : Int) = 6 := e; omega)⟩
  rw [if_neg h3]
  by_cases h4 : h.next = 4
  · rw [if_pos (.inr h4), if_neg h3, if_pos h4]
    have hn := t.s4 h4
    have hk := hi.w (.inr h4)
    refine ⟨g4.1, rfl, ?_⟩
    rw [g4.2]
    refine Ht.unless (h := { h with held := (c.what h.at_.1).2.1, next := 5 }) ⟨t.who, t.own, .inr hn, t.cap, fun e => (by cases e), fun _ => ⟨?_, fun _ => hn⟩⟩ _
    show 7 ≤ (c.what h.at_.1).1
    omega
  rw [if_neg (by omega), if_neg h3, if_neg h4]
  by_cases h5 : h.next = 5
  · rw [if_pos h5, if_pos h5]
    have hok := t.s5 (.inl h5)
    obtain ⟨g1, g2⟩ := Tgood.load' (c := c) (who := who) (n := n) (p := h.at_.1) 0 (by have := hok.1; omega) hok.2
    refine ⟨g1, rfl, ?_⟩
    rw [g2]
    split
    · exact Ht.entry (h := { h with cell := o.was, next := 6 }) hc t.who t.own t.held t.cap _
    · exact ⟨t.who, t.own, t.held, t.cap, fun e => (by cases e), fun _ => hok⟩
  rw [if_neg h5, if_neg h5]
  by_cases h6 : h.next = 6
  · rw [if_pos h6, if_pos h6]
    have hok := t.s5 (.inr h6)
    refine ⟨⟨.inr (.inr rfl), fun e => (by cases e), fun _ => .inr hok.1, fun e => (by cases e), hok.2, fun e => (by cases e)⟩, rfl, ?_⟩
    have g2 : namedOf c n ⟨2, h.at_.1, h.cell, ⟨h.at_.2, h.seq⟩⟩ = n := by unfold namedOf; rw [if_neg (fun e => (by cases e.1))]
    rw [g2]
    exact Ht.entry hc t.who t.own t.held t.cap _
  rw [if_neg h6, if_neg h6]
  have h7 : h.next = 7 := by omega
  rw [if_pos h7, if_pos h7]
  have g2 : namedOf c n ⟨2, c.at 4 h.owner 0, ⟨1, h.seq⟩, ⟨0, h.seq⟩⟩ = n := by unfold namedOf; rw [if_neg (fun e => (by cases e.1))]
  refine ⟨⟨.inr (.inr rfl), fun e => (by cases e), fun _ => .inl ?_, fun e => (by cases e), fun e => ?_, fun e => (by cases e)⟩, rfl, ?_⟩
  · show (c.what (c.at 4 h.owner 0)).1 = 4
    rw [e4]
  · have e : (c.what (c.at 4 h.owner 0)).1 = 16 := e
    rw [e4] at e; cases e
  · rw [g2]
    exact ⟨t.who, t.own, t.held, t.cap, fun e => (by cases e), fun e => (by have e : (8 : Int) = 5 ∨ (8 : Int) = 6 := e; omega)⟩
end
/-! ### a log -/
structure Lt (c : Cfg) (who : Int) (s : Sm) : Prop where
  who : s.who = who
  len : (s.list.length : Int) ≤ c.cap
section
variable {c : Cfg} {who n : Int} {s : Sm}
theorem Lt.new (hc : Small c) (seq : Nat) (list : List (Int × Nat)) : Lt c who (Sm.new c who seq list) := by
  have := hc.cap
  refine ⟨rfl, ?_⟩
  show ((list.take (min list.length c.cap.toNat)).length : Int) ≤ c.cap
  rw [List.length_take]; omega
theorem Lt.tell (h : Lt c who s) : Lt c who s.tell := by
  unfold Sm.tell
  split
  · exact h
  · exact ⟨h.who, h.len⟩
theorem Lt.step (hc : Small c) (hw : 0 ≤ who ∧ who < c.threads) (h : Lt c who s) (h0 : s.over = false) : Tgood c who n (s.ask c).1 ∧ (s.ask c).2 = true ∧ namedOf c n (s.ask c).1 = n := by
  have hl := h.len
  have h0 := of_decide_eq_false h0
  unfold Sm.ask
  rw [if_neg h0, h.who]
  split
  · rename_i h1
    obtain ⟨g1, g2⟩ := Tgood.storeK (c := c) (who := who) (n := n) (old := ⟨0, 0⟩) (new := ⟨(s.list.getD s.done (0, 0)).2, (IntKind.u64.wrap (s.list.getD s.done (0, 0)).1).toNat⟩) (at_own hc (kind := 6) (i := who) (k := s.done) ⟨by decide, by decide⟩ hw ⟨by omega, (by show (s.done : Int) < c.cap; omega)⟩) ⟨by decide, by decide⟩ (by decide)
    exact ⟨g1, rfl, g2⟩
  split
  · obtain ⟨g1, g2⟩ := Tgood.storeK (c := c) (who := who) (n := n) (old := ⟨0, 0⟩) (new := ⟨s.list.length, 0⟩) (at_own hc (kind := 5) (i := who) (k := 0) ⟨by decide, by decide⟩ hw ⟨by decide, (by decide : (0 : Int) < 1)⟩) ⟨by decide, by decide⟩ (by decide)
    exact ⟨g1, rfl, g2⟩
  · obtain ⟨g1, g2⟩ := Tgood.storeK (c := c) (who := who) (n := n) (old := ⟨0, 0⟩) (new := ⟨1, s.seq⟩) (at_own hc (kind := 4) (i := who) (k := 0) ⟨by decide, by decide⟩ hw ⟨by decide, (by decide : (0 : Int) < 1)⟩) ⟨by decide, by decide⟩ (by decide)
    exact ⟨g1, rfl, g2⟩
end
end Go.Proofs.YtemaaenipjinaaaGreat
