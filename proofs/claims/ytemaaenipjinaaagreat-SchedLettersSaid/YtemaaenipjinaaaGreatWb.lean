/-
  What a call touches, in plain terms: reading, and a program that runs.
-/
import Derived.Test.YtemaaenipjinaaaGreatWa
namespace Go.Proofs.YtemaaenipjinaaaGreat
set_option maxRecDepth 100000
/-- a cell that transactions write: a word only of the block that the slot names -/
def OkAt (c : Cfg) (n : Int) (p : Int) : Prop := 7 ≤ (c.what p).1 ∧ ((c.what p).1 = 16 → (c.what p).2.1 = n)
/-- which block the slot names behind a step -/
def namedOf (c : Cfg) (n : Int) (o : MOp) : Int := if o.kind = 1 ∧ (c.what o.at_).1 = 3 then (o.new.val : Int) - 1 else n
/-- what a step of a machine at work may be -/
structure Tgood (c : Cfg) (who : Int) (n : Int) (o : MOp) : Prop where
  kind : o.kind = 0 ∨ o.kind = 1 ∨ o.kind = 2
  store : o.kind = 1 → 1 ≤ (c.what o.at_).1 ∧ (c.what o.at_).1 ≤ 6 ∧ (c.what o.at_).2.1 = who
  swap : o.kind = 2 → (c.what o.at_).1 = 4 ∨ 7 ≤ (c.what o.at_).1
  load : o.kind = 0 → 1 ≤ (c.what o.at_).1
  word : (c.what o.at_).1 = 16 → (c.what o.at_).2.1 = n
  slot : o.kind = 1 → (c.what o.at_).1 = 3 → 1 ≤ o.new.val ∧ o.new.val ≤ 1000
section
variable {c : Cfg} {who : Int} {n : Int}
/-- a load -/
theorem Tgood.load' {p : Int} (x : Nat) (h : 1 ≤ (c.what p).1) (hw : (c.what p).1 = 16 → (c.what p).2.1 = n) : Tgood c who n (mop 0 p x) ∧ namedOf c n (mop 0 p x) = n := by
  refine ⟨⟨.inl rfl, fun e => (by cases e), fun e => (by cases e), fun _ => h, hw, fun e => (by cases e)⟩, ?_⟩
  unfold namedOf
  rw [if_neg (fun e => (by cases e.1))]
theorem Tgood.loadK {kind i k p : Int} (x : Nat) (e : c.what p = (kind, i, k)) (h : 1 ≤ kind) (h16 : kind ≠ 16) : Tgood c who n (mop 0 p x) ∧ namedOf c n (mop 0 p x) = n :=
  Tgood.load' x (by rw [e]; exact h) (fun e2 => by rw [e] at e2; exact absurd e2 h16)
/-- a store of one's own, but of what the slot names -/
theorem Tgood.storeK {kind k p : Int} {old new : Cell} (e : c.what p = (kind, who, k)) (h : 1 ≤ kind ∧ kind ≤ 6) (h3 : kind ≠ 3) : Tgood c who n ⟨1, p, old, new⟩ ∧ namedOf c n ⟨1, p, old, new⟩ = n := by
  refine ⟨⟨.inr (.inl rfl), fun _ => ?_, fun e => (by cases e), fun e => (by cases e), fun e2 => ?_, fun _ e2 => ?_⟩, ?_⟩
  · show 1 ≤ (c.what p).1 ∧ (c.what p).1 ≤ 6 ∧ (c.what p).2.1 = who
    rw [e]; exact ⟨h.1, h.2, rfl⟩
  · have e2 : (c.what p).1 = 16 := e2
    rw [e] at e2
    have e2 : kind = 16 := e2
    omega
  · have e2 : (c.what p).1 = 3 := e2
    rw [e] at e2
    exact absurd e2 h3
  · unfold namedOf
    rw [if_neg (fun e2 => h3 (by have e3 : (c.what p).1 = 3 := e2.2; rw [e] at e3; exact e3))]
/-- the slot -/
theorem Tgood.slotK (hc : Small c) (hw : 0 ≤ who ∧ who < c.threads) {b : Int} (hb : 0 ≤ b ∧ b < c.blocks) : Tgood c who n (mop 1 (c.at 3 who 0) (b + 1).toNat) ∧ namedOf c n (mop 1 (c.at 3 who 0) (b + 1).toNat) = b := by
  have hb1 := hc.b1
  have e3 := at_own hc (kind := 3) (i := who) (k := 0) ⟨by decide, by decide⟩ hw ⟨by decide, (by decide : (0 : Int) < 1)⟩
  refine ⟨⟨.inr (.inl rfl), fun _ => ?_, fun e => (by cases e), fun e => (by cases e), fun e => ?_, fun _ _ => ?_⟩, ?_⟩
  · show 1 ≤ (c.what (c.at 3 who 0)).1 ∧ (c.what (c.at 3 who 0)).1 ≤ 6 ∧ (c.what (c.at 3 who 0)).2.1 = who
    rw [e3]; exact ⟨(by decide : (1 : Int) ≤ 3), (by decide : (3 : Int) ≤ 6), rfl⟩
  · have e : (c.what (c.at 3 who 0)).1 = 16 := e
    rw [e3] at e; cases e
  · show 1 ≤ (b + 1).toNat ∧ (b + 1).toNat ≤ 1000
    omega
  · unfold namedOf
    rw [if_pos ⟨rfl, by show (c.what (c.at 3 who 0)).1 = 3; rw [e3]⟩]
    show ((b + 1).toNat : Int) - 1 = b
    omega
end
structure VtI (c : Cfg) (who n : Int) (v : Vw) : Prop where
  who : v.who = who
  held : v.held = -1 ∨ v.held = n
  go : v.s = 0 → ((v.step = 1 ∨ (v.step = 2 ∧ n = v.block)) ∧ (0 ≤ v.block ∧ v.block < c.blocks) ∧ (v.at_ = -1 ∨ ((c.what v.at_).1 = 16 ∧ (c.what v.at_).2.1 = v.block))) ∨ (v.step = 3 ∧ OkAt c n v.at_)
section
variable {c : Cfg} {who n : Int} {v : Vw}
theorem VtI.new {who n : Int} {seq : Nat} : VtI c who n (Vw.new who seq) := ⟨rfl, .inl rfl, fun e => (by cases e)⟩
theorem VtI.none (h : VtI c who n v) {s : Int} (hs : s ≠ 0) (st : Int) (x : Nat) : VtI c who n { v with val := x, step := st, s := s } := ⟨h.who, h.held, fun e => absurd e hs⟩
theorem VtI.lives (hw : v.who = who) (hb : v.block = n) (ha : v.at_ = -1 ∨ ((c.what v.at_).1 = 16 ∧ (c.what v.at_).2.1 = v.block)) : VtI c who n v.lives := by
  unfold Vw.lives
  split
  · exact ⟨hw, .inr hb, fun e => (by cases e)⟩
  · rename_i h1
    obtain ⟨h2, h3⟩ := ha.resolve_left h1
    refine ⟨hw, .inr hb, fun _ => .inr ⟨rfl, ?_, fun _ => ?_⟩⟩
    · show 7 ≤ (c.what v.at_).1
      omega
    · show (c.what v.at_).2.1 = n
      omega
theorem VtI.touch (hwh : v.who = who) (hhe : v.held = -1 ∨ v.held = n) (b a : Int) (hb : 0 ≤ b ∧ b < c.blocks) (ha : a = -1 ∨ ((c.what a).1 = 16 ∧ (c.what a).2.1 = b)) : VtI c who n (v.touch b a) := by
  unfold Vw.touch
  split
  · rename_i e
    refine VtI.lives hwh ?_ ha
    show b = n
    rcases hhe with h1 | h1 <;> omega
  · exact ⟨hwh, hhe, fun _ => .inl ⟨.inl rfl, hb, ha⟩⟩
theorem VtI.beg (h : VtI c who n v) (ok : Bool) (hok : v.begB ok = false) : VtI c who n (v.beg ok) := by
  unfold Vw.begB at hok
  unfold Vw.beg
  split
  · exact h
  · rename_i h2
    rw [if_neg h2] at hok
    subst hok
    exact h.none (by decide) 0 0
theorem Vw.beg_t {ok : Bool} (hok : v.begB ok = true) : v.beg ok = { v with val := 0, step := 0, s := 0 } ∧ ok = true := by
  unfold Vw.begB at hok
  unfold Vw.beg
  split at hok
  · cases hok
  · rename_i h2
    subst hok
    rw [if_neg h2]
    exact ⟨rfl, rfl⟩
theorem VtI.cell (h : VtI c who n v) (a : Int) : VtI c who n (v.cell c a) := by
  unfold Vw.cell
  split
  · rename_i hb
    obtain ⟨e1, e2⟩ := Vw.beg_t hb
    simp only [Bool.and_eq_true, decide_eq_true_eq] at e2
    rw [e1]
    exact ⟨h.who, h.held, fun _ => .inr ⟨rfl, e2.1, fun e => (by have e : (c.what a).1 = 16 := e; omega)⟩⟩
  · rename_i hb
    exact h.beg _ (by simpa using hb)
theorem VtI.word (hc : Small c) (h : VtI c who n v) (b w : Int) : VtI c who n (v.word c b w) := by
  unfold Vw.word
  split
  · rename_i hb
    obtain ⟨e1, e2⟩ := Vw.beg_t hb
    have hne : c.at 16 b w ≠ -1 := by simpa using e2
    have hr : 0 ≤ b ∧ b < (c.cnt 16).1 ∧ 0 ≤ w ∧ w < (c.cnt 16).2 := Decidable.by_contra fun hn => hne (at_bad hn)
    have hw := at_rest hc (kind := 16) ⟨by decide, by decide⟩ ⟨hr.1, hr.2.1⟩ hr.2.2
    rw [e1]
    exact VtI.touch (v := { v with val := 0, step := 0, s := 0 }) h.who h.held b _ ⟨hr.1, hr.2.1⟩ (.inr (by rw [hw]; exact ⟨rfl, rfl⟩))
  · rename_i hb
    exact h.beg _ (by simpa using hb)
theorem VtI.live (h : VtI c who n v) (b : Int) : VtI c who n (v.live c b) := by
  unfold Vw.live
  split
  · rename_i hb
    obtain ⟨e1, e2⟩ := Vw.beg_t hb
    have hne : c.at 11 b 0 ≠ -1 := by simpa using e2
    have hr : 0 ≤ b ∧ b < (c.cnt 11).1 ∧ (0 : Int) ≤ 0 ∧ 0 < (c.cnt 11).2 := Decidable.by_contra fun hn => hne (at_bad hn)
    rw [e1]
    exact VtI.touch (v := { v with val := 0, step := 0, s := 0 }) h.who h.held b _ ⟨hr.1, hr.2.1⟩ (.inl rfl)
  · rename_i hb
    exact h.beg _ (by simpa using hb)
/-- a step of a view that reads -/
theorem VtI.step (hc : Small c) (hw : 0 ≤ who ∧ who < c.threads) (h : VtI c who n v) (h0 : v.s = 0) (o : Out) : Tgood c who n (v.ask c).1 ∧ (v.ask c).2 = true ∧ VtI c who (namedOf c n (v.ask c).1) (v.tell o) := by
  have hb1 := hc.b1
  unfold Vw.ask Vw.tell
  rcases h.go h0 with ⟨hs, hb, ha⟩ | ⟨hs, ha⟩
  · rcases hs with hs | ⟨hs, hn⟩
    · rw [if_pos hs, if_pos hs, h.who]
      obtain ⟨g1, g2⟩ := Tgood.slotK (n := n) hc hw hb
      refine ⟨g1, rfl, ?_⟩
      dsimp only
      rw [g2]
      exact ⟨rfl, .inl rfl, fun _ => .inl ⟨.inr ⟨rfl, rfl⟩, hb, ha⟩⟩
    · rw [if_neg (by omega), if_pos hs, if_neg (by omega), if_pos (.inl hs)]
      have e11 := at_rest hc (kind := 11) (i := v.block) (k := 0) ⟨by decide, by decide⟩ hb ⟨by decide, (by decide : (0 : Int) < 1)⟩
      obtain ⟨g1, g2⟩ := Tgood.loadK (c := c) (who := who) (n := n) 0 e11 (by decide) (by decide)
      refine ⟨g1, rfl, ?_⟩
      rw [g2]
      unfold Vw.loaded
      split
      · exact h.none (s := 2) (by decide) 0 v.val
      split
      · omega
      split
      · exact h.none (s := 3) (by decide) 0 v.val
      · exact VtI.lives (v := { v with step := 0 }) h.who hn.symm ha
  · rw [if_neg (by omega), if_neg (by omega), if_pos hs, if_neg (by omega), if_pos (.inr hs)]
    obtain ⟨g1, g2⟩ := Tgood.load' (c := c) (who := who) (n := n) (p := v.at_) 0 (by have := ha.1; omega) ha.2
    refine ⟨g1, rfl, ?_⟩
    rw [g2]
    unfold Vw.loaded
    split
    · exact h.none (s := 2) (by decide) 0 v.val
    · exact h.none (s := 1) (by decide) 0 o.was.val
/-- what is stale comes of a step alone -/
theorem Vw.tell_s (o : Out) (_hs : v.s = 0) (hst : v.step = 3) : (v.tell o).s = 1 ∨ (v.tell o).s = 2 := by
  unfold Vw.tell Vw.loaded
  rw [if_neg (by omega), if_pos (.inr hst)]
  split
  · exact .inr rfl
  · exact .inl rfl
end
/-! ### a program that runs -/
/-- its view is stale only where it is about to see that -/
def Jst (m : Xm) : Prop := m.v.s = 2 → m.x.s = 2 ∨ (m.x.s = 0 ∧ m.x.waits = true)
structure Xt (c : Cfg) (who n : Int) (m : Xm) : Prop where
  v : VtI c who n m.v
  j : Jst m
theorem Vw.beg_ns {v : Vw} (h : v.s ≠ 2) (ok : Bool) : (v.beg ok).s ≠ 2 := by
  unfold Vw.beg
  rw [if_neg h]
  dsimp only
  split <;> decide
theorem Vw.lives_ns {v : Vw} (h : v.s ≠ 2) : v.lives.s ≠ 2 := by
  unfold Vw.lives
  split
  · show (1 : Int) ≠ 2; decide
  · exact h
theorem Vw.touch_ns {v : Vw} (h : v.s ≠ 2) (b a : Int) : (v.touch b a).s ≠ 2 := by
  unfold Vw.touch
  split
  · exact Vw.lives_ns (v := { v with block := b, at_ := a, step := 1 }) h
  · exact h
section
variable {c : Cfg} {who n : Int} {m : Xm} (room : Nat)
theorem Vw.cell_ns {v : Vw} (h : v.s ≠ 2) (a : Int) : (v.cell c a).s ≠ 2 := by
  unfold Vw.cell
  split
  · exact Vw.beg_ns h _
  · exact Vw.beg_ns h _
theorem Vw.word_ns {v : Vw} (h : v.s ≠ 2) (b w : Int) : (v.word c b w).s ≠ 2 := by
  unfold Vw.word
  split
  · exact Vw.touch_ns (Vw.beg_ns h _) _ _
  · exact Vw.beg_ns h _
theorem Vw.live_ns {v : Vw} (h : v.s ≠ 2) (b : Int) : (v.live c b).s ≠ 2 := by
  unfold Vw.live
  split
  · exact Vw.touch_ns (Vw.beg_ns h _) _ _
  · exact Vw.beg_ns h _
/-- what an instruction does to the view -/
def VQ (c : Cfg) (v v' : Vw) : Prop := v' = v ∨ (∃ a, v' = v.cell c a) ∨ (∃ b w, v' = v.word c b w) ∨ ∃ b, v' = v.live c b
theorem VQ.keeps (hc : Small c) {v v' : Vw} (h : VQ c v v') (hi : VtI c who n v) : VtI c who n v' := by
  rcases h with rfl | ⟨a, rfl⟩ | ⟨b, w, rfl⟩ | ⟨b, rfl⟩
  · exact hi
  · exact hi.cell a
  · exact hi.word hc b w
  · exact hi.live b
theorem VQ.ns {v v' : Vw} (h : VQ c v v') (hi : v.s ≠ 2) : v'.s ≠ 2 := by
  rcases h with rfl | ⟨a, rfl⟩ | ⟨b, w, rfl⟩ | ⟨b, rfl⟩
  · exact hi
  · exact Vw.cell_ns hi a
  · exact Vw.word_ns hi b w
  · exact Vw.live_ns hi b
theorem fail_v (e : Int) (x : Nat) : (m.fail e x).v = m.v := rfl
theorem pay_v : (m.pay c).1.v = m.v := by unfold Xm.pay; split <;> rfl
theorem taken_v (b : Nat) : (m.taken c room b).v = m.v := by unfold Xm.taken; split <;> rfl
theorem goOn_v (x : Nat) : (m.goOn c room x).v = m.v := by
  unfold Xm.goOn
  split
  · rfl
  split
  · exact taken_v room x
  split
  · split
    · exact pay_v
    · exact pay_v
  split
  · split
    · exact pay_v
    · exact pay_v
  · rfl
theorem fetch_v (a : Int) : VQ c m.v (m.fetch c room a).v := by
  unfold Xm.fetch
  split
  · exact .inl (goOn_v room _)
  · exact .inr (.inl ⟨a, rfl⟩)
theorem does_v : VQ c m.v (m.does c room).v := by
  unfold Xm.does
  split
  · exact .inl rfl
  split
  · split <;> exact .inl rfl
  split
  · exact .inl rfl
  split
  · exact .inl rfl
  split
  · unfold Xm.root
    split
    · exact .inl rfl
    split
    · split
      · exact .inl pay_v
      · exact .inl pay_v
    · exact fetch_v room _
  split
  · unfold Xm.touch
    split
    · exact .inl rfl
    split
    · split
      · exact .inl (goOn_v room _)
      · exact .inr (.inr (.inl ⟨_, _, rfl⟩))
    split
    · exact .inl (goOn_v room _)
    · exact .inr (.inr (.inr ⟨_, rfl⟩))
  split
  · unfold Xm.fresh
    split
    · split
      · have h := fetch_v (c := c) (m := (m.pay c).1) room ((m.pay c).1.p.top c).1
        rw [pay_v] at h
        exact h
      · exact .inl pay_v
    · exact .inl pay_v
  · exact .inl rfl
theorem step_v (code : List Ins) : VQ c m.v (m.step c room code).v := by
  unfold Xm.step
  split
  · exact .inl rfl
  · exact does_v (m := m.begun (code.getD m.x.pc.toNat ins0)) room
theorem Xt.once (hc : Small c) (h : Xt c who n m) (code : List Ins) (hs : ¬ m.stops) : Xt c who n (m.once c room code) := by
  have hx0 : m.x.s = 0 := Decidable.by_contra fun e => hs (.inl e)
  unfold Xm.once
  split
  · rename_i hw
    have h2 : m.v.s ≠ 2 := fun e => by
      rcases h.j e with h1 | ⟨_, h1⟩
      · omega
      · rw [hw] at h1; cases h1
    have hq := step_v (c := c) (m := m) room code
    exact ⟨hq.keeps hc h.v, fun e => absurd e (hq.ns h2)⟩
  · split
    · exact ⟨h.v, fun _ => .inl rfl⟩
    split
    · rename_i h2 _
      exact ⟨h.v, fun e => absurd e h2⟩
    · rename_i h2 _
      have e := goOn_v (c := c) (m := { m with x := { m.x with waits := false } }) room m.v.val
      refine ⟨by rw [e]; exact h.v, fun e2 => ?_⟩
      rw [e] at e2
      exact absurd e2 h2
theorem Xt.runN (hc : Small c) (code : List Ins) : ∀ (k : Nat) {m : Xm}, Xt c who n m → Xt c who n (Xm.runN c room code k m)
  | 0, _, h => h
  | k + 1, m, h => by
    rw [Xm.runN]
    split
    · exact h
    · rename_i hs
      exact Xt.runN hc code k (h.once room hc code hs)
theorem Xt.run (hc : Small c) (code : List Ins) (h : Xt c who n m) : Xt c who n (m.run c room code) := Xt.runN room hc code _ h
theorem Xt.start (hc : Small c) (code : List Ins) {v : Vw} (h : VtI c who n v) (hs : v.s ≠ 2) (p : Po) (puts : List (Int × Nat)) (args : List Nat) : Xt c who n (Xm.start c room code v p puts args) := by
  unfold Xm.start
  split
  · exact Xt.run room hc code (m := Xm.init v p puts args) ⟨h, fun e => absurd e hs⟩
  · exact ⟨h, fun e => absurd e hs⟩
/-- a step of a program that runs -/
theorem Xt.step (hc : Small c) (hw : 0 ≤ who ∧ who < c.threads) (code : List Ins) (h : Xt c who n m) (h0 : m.x.s = 0) (hst : m.stops) (o : Out) : Tgood c who n (m.ask c).1 ∧ (m.ask c).2 = true ∧ Xt c who (namedOf c n (m.ask c).1) (m.tell c room code o) := by
  have hv : m.x.waits = true ∧ m.v.s = 0 := hst.resolve_left (fun e => e h0)
  obtain ⟨g1, g2, g3⟩ := h.v.step hc hw hv.2 o
  unfold Xm.ask Xm.tell
  rw [if_neg (by omega), if_pos h0]
  exact ⟨g1, g2, Xt.run room hc code ⟨g3, fun _ => .inr ⟨h0, hv.1⟩⟩⟩
/-- behind a program no view is stale, unless it was told so -/
theorem Xt.over (h : Xt c who n m) (h1 : m.x.s = 1) : m.v.s ≠ 2 := fun e => by
  rcases h.j e with h2 | ⟨h2, _⟩ <;> omega
end
end Go.Proofs.YtemaaenipjinaaaGreat
