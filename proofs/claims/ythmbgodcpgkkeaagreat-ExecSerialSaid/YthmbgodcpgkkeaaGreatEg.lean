/-
  A view that is told what is so: what comes of a reading. A pool that takes, and that gives, over a memory that holds roots and blocks.
-/
import Derived.Test.YthmbgodcpgkkeaaGreatEd
section
namespace Go.Proofs.YthmbgodcpgkkeaaGreat
set_option maxRecDepth 100000
/-- where transactions write -/
def Tx (c : Cfg) (a : Int) : Prop := c.f7 ≤ a ∧ a < c.f17
theorem what_in {c : Cfg} (hc : Small c) {a : Int} (h : 7 ≤ (c.what a).1) : Tx c a := by
  have hcap := hc.cap
  have hts := hc.ts
  have h7 : c.f7 = 1 + c.threads * c.stride := rfl
  have h17 : c.f17 = c.f16 + c.blocks * 8 := rfl
  unfold Tx
  unfold Cfg.what at h
  repeat' split at h
  all_goals first | omega | (dsimp only at h; omega)
theorem at_in {c : Cfg} (hc : Small c) {kind i j : Int} (hk : 7 ≤ kind ∧ kind ≤ 16) (h : 0 ≤ i ∧ i < (c.cnt kind).1 ∧ 0 ≤ j ∧ j < (c.cnt kind).2) : Tx c (c.at kind i j) :=
  what_in hc (by rw [at_rest hc hk ⟨h.1, h.2.1⟩ ⟨h.2.2.1, h.2.2.2⟩]; exact hk.1)
theorem Tx.ne {c : Cfg} (hc : Small c) {a : Int} (h : Tx c a) : a ≠ -1 := by
  have := hc.nums.f7
  unfold Tx at h
  omega
/-- the block that a slot names lives -/
def Hl (c : Cfg) (V : Int → Nat) (v : Vw) : Prop := v.held = -1 ∨ (0 ≤ v.held ∧ v.held < c.blocks ∧ V (c.at 11 v.held 0) = 1)
/-- what is read of a block: none if it doesn't live -/
def rdB (c : Cfg) (V : Int → Nat) (b a : Int) : Option Nat := if V (c.at 11 b 0) = 1 then some (if a = -1 then 0 else V a) else none
/-- a view that comes to r, or is stale -/
structure VwF (c : Cfg) (V : Int → Nat) (v : Vw) (r : Option Nat) : Prop where
  held : Hl c V v
  is : v.s = 2 ∨ (v.s = 1 ∧ r = some v.val) ∨ (v.s = 3 ∧ r = none) ∨ (v.s = 0 ∧ v.step = 3 ∧ Tx c v.at_ ∧ r = some (V v.at_)) ∨ (v.s = 0 ∧ (v.step = 1 ∨ v.step = 2) ∧ v.val = 0 ∧ 0 ≤ v.block ∧ v.block < c.blocks ∧ (v.at_ = -1 ∨ Tx c v.at_) ∧ r = rdB c V v.block v.at_)
/-- a reply that is so: what is loaded is what stood behind the number, unless it is later -/
def GoodR (V : Int → Nat) (seq : Nat) (a : Int) (o : Out) : Prop := o.was.seq ≤ seq → o.was.val = V a
section
variable {c : Cfg} {V : Int → Nat} {v : Vw} {r : Option Nat}
theorem VwF.lives (h0 : v.s = 0) (h1 : v.val = 0) (hb : 0 ≤ v.block ∧ v.block < c.blocks) (hl : V (c.at 11 v.block 0) = 1) (hx : v.at_ = -1 ∨ Tx c v.at_) (hr : r = rdB c V v.block v.at_) : VwF c V v.lives r := by
  unfold rdB at hr
  rw [if_pos hl] at hr
  unfold Vw.lives
  split
  · next e =>
    rw [if_pos e] at hr
    exact ⟨.inr ⟨hb.1, hb.2, hl⟩, .inr (.inl ⟨rfl, by rw [hr]; dsimp only; rw [h1]⟩)⟩
  · next e =>
    rw [if_neg e] at hr
    exact ⟨.inr ⟨hb.1, hb.2, hl⟩, .inr (.inr (.inr (.inl ⟨h0, rfl, hx.resolve_left e, hr⟩)))⟩
theorem VwF.loaded (h : VwF c V v r) (hs : v.s = 0) (h2 : v.step = 2 ∨ v.step = 3) {cl : Cell} (hg : cl.seq ≤ v.seq → cl.val = V (if v.step = 2 then c.at 11 v.block 0 else v.at_)) : VwF c V (v.loaded cl) r := by
  unfold Vw.loaded
  by_cases h1 : v.seq < cl.seq
  · rw [if_pos h1]; exact ⟨h.held, .inl rfl⟩
  rw [if_neg h1]
  have hg := hg (by omega)
  by_cases h3 : v.step = 3
  · rw [if_pos h3]
    rw [if_neg (by omega)] at hg
    refine ⟨h.held, .inr (.inl ⟨rfl, ?_⟩)⟩
    rcases h.is with e | ⟨e, _⟩ | ⟨e, _⟩ | ⟨_, _, _, e⟩ | ⟨_, e, _⟩
    · omega
    · omega
    · omega
    · rw [e, hg]
    · omega
  · rw [if_neg h3]
    rw [if_pos (by omega)] at hg
    have h4 : v.val = 0 ∧ 0 ≤ v.block ∧ v.block < c.blocks ∧ (v.at_ = -1 ∨ Tx c v.at_) ∧ r = rdB c V v.block v.at_ := by
      rcases h.is with e | ⟨e, _⟩ | ⟨e, _⟩ | ⟨_, e, _⟩ | ⟨_, e, h⟩
      · omega
      · omega
      · omega
      · omega
      · exact h
    by_cases h5 : cl.val = 1
    · rw [if_neg (by simpa using h5)]
      exact VwF.lives (v := { v with step := 0 }) hs h4.1 ⟨h4.2.1, h4.2.2.1⟩ (by show V (c.at 11 v.block 0) = 1; rw [← hg]; exact h5) h4.2.2.2.1 h4.2.2.2.2
    · rw [if_pos h5]
      refine ⟨h.held, .inr (.inr (.inl ⟨rfl, ?_⟩))⟩
      rw [h4.2.2.2.2]
      unfold rdB
      rw [if_neg (by rw [← hg]; exact h5)]
theorem VwF.tell (h : VwF c V v r) (hs : v.s = 0) {o : Out} (hg : v.step ≠ 1 → GoodR V v.seq (Vw.ask c v).1.at_ o) : VwF c V (v.tell o) r := by
  unfold Vw.tell
  unfold GoodR Vw.ask at hg
  by_cases h1 : v.step = 1
  · rw [if_pos h1]
    refine ⟨.inl rfl, ?_⟩
    rcases h.is with e | ⟨e, _⟩ | ⟨e, _⟩ | ⟨_, e, _⟩ | ⟨_, _, h⟩
    · omega
    · omega
    · omega
    · omega
    · exact .inr (.inr (.inr (.inr ⟨hs, .inr rfl, h⟩)))
  · rw [if_neg h1]
    rw [if_neg h1] at hg
    by_cases h2 : v.step = 2 ∨ v.step = 3
    · rw [if_pos h2]
      refine h.loaded hs h2 ?_
      rcases h2 with e | e
      · rw [if_pos e]
        rw [if_pos e] at hg
        exact hg h1
      · rw [if_neg (by omega)]
        rw [if_neg (by omega), if_pos e] at hg
        exact hg h1
    · rw [if_neg h2]; exact h
theorem Vw.tell_seq (v : Vw) (o : Out) : (v.tell o).seq = v.seq := by
  unfold Vw.tell Vw.loaded Vw.lives
  repeat' split
  all_goals rfl
theorem VwF.stale (hh : Hl c V v) (hs : v.s = 2) : VwF c V v r := ⟨hh, .inl hs⟩
theorem beg_stale (hs : v.s = 2) (ok : Bool) : v.beg ok = v ∧ v.begB ok = false := by
  unfold Vw.beg Vw.begB
  rw [if_pos hs, if_pos hs]; exact ⟨rfl, rfl⟩
theorem beg_ok (hs : v.s ≠ 2) : v.beg true = { v with val := 0, step := 0, s := 0 } ∧ v.begB true = true := by
  unfold Vw.beg Vw.begB
  rw [if_neg hs, if_neg hs]; exact ⟨rfl, rfl⟩
theorem VwF.cell (hh : Hl c V v) {a : Int} (hk : 7 ≤ (c.what a).1 ∧ (c.what a).1 < 16) (ha : Tx c a) : VwF c V (v.cell c a) (some (V a)) := by
  unfold Vw.cell
  have e : (decide (7 ≤ (c.what a).1) && decide ((c.what a).1 < 16)) = true := by simp [hk.1, hk.2]
  rw [e]
  by_cases hs : v.s = 2
  · obtain ⟨h1, h2⟩ := beg_stale hs true
    rw [h1, h2]; exact .stale hh hs
  · obtain ⟨h1, h2⟩ := beg_ok hs
    rw [h1, h2]
    exact ⟨hh, .inr (.inr (.inr (.inl ⟨rfl, rfl, ha, rfl⟩)))⟩
theorem VwF.touch (hh : Hl c V v) (hs : v.s = 0) (hv : v.val = 0) {b : Int} (hb : 0 ≤ b ∧ b < c.blocks) {a : Int} (hx : a = -1 ∨ Tx c a) : VwF c V (v.touch b a) (rdB c V b a) := by
  unfold Vw.touch
  split
  · next e =>
    rcases hh with h | h
    · omega
    · exact VwF.lives (v := { v with block := b, at_ := a, step := 1 }) hs hv hb (by rw [← e]; exact h.2.2) hx rfl
  · exact ⟨hh, .inr (.inr (.inr (.inr ⟨hs, .inl rfl, hv, hb.1, hb.2, hx, rfl⟩)))⟩
theorem VwF.word (hh : Hl c V v) {b w : Int} (hb : 0 ≤ b ∧ b < c.blocks) (ha : c.at 16 b w ≠ -1) (hx : Tx c (c.at 16 b w)) : VwF c V (v.word c b w) (rdB c V b (c.at 16 b w)) := by
  unfold Vw.word
  have e : (c.at 16 b w != -1) = true := by simpa using ha
  rw [e]
  by_cases hs : v.s = 2
  · obtain ⟨h1, h2⟩ := beg_stale hs true
    rw [h1, h2]; exact .stale hh hs
  · obtain ⟨h1, h2⟩ := beg_ok hs
    rw [h1, h2]
    exact VwF.touch (v := { v with val := 0, step := 0, s := 0 }) hh rfl rfl hb (.inr hx)
theorem VwF.live (hh : Hl c V v) {b : Int} (hb : 0 ≤ b ∧ b < c.blocks) (ha : c.at 11 b 0 ≠ -1) : VwF c V (v.live c b) (rdB c V b (-1)) := by
  unfold Vw.live
  have e : (c.at 11 b 0 != -1) = true := by simpa using ha
  rw [e]
  by_cases hs : v.s = 2
  · obtain ⟨h1, h2⟩ := beg_stale hs true
    rw [h1, h2]; exact .stale hh hs
  · obtain ⟨h1, h2⟩ := beg_ok hs
    rw [h1, h2]
    exact VwF.touch (v := { v with val := 0, step := 0, s := 0 }) hh rfl rfl hb (.inl rfl)
theorem Vw.beg_seq (v : Vw) (ok : Bool) : (v.beg ok).seq = v.seq := by unfold Vw.beg; split <;> rfl
theorem Vw.touch_seq (v : Vw) (b a : Int) : (v.touch b a).seq = v.seq := by
  unfold Vw.touch Vw.lives
  repeat' split
  all_goals rfl
theorem Vw.cell_seq (c : Cfg) (v : Vw) (a : Int) : (v.cell c a).seq = v.seq := by
  unfold Vw.cell
  split
  · exact v.beg_seq _
  · exact v.beg_seq _
theorem Vw.word_seq (c : Cfg) (v : Vw) (b w : Int) : (v.word c b w).seq = v.seq := by
  unfold Vw.word
  split
  · rw [Vw.touch_seq]; exact v.beg_seq _
  · exact v.beg_seq _
theorem Vw.live_seq (c : Cfg) (v : Vw) (b : Int) : (v.live c b).seq = v.seq := by
  unfold Vw.live
  split
  · rw [Vw.touch_seq]; exact v.beg_seq _
  · exact v.beg_seq _
end
end Go.Proofs.YthmbgodcpgkkeaaGreat
end
section
namespace Go.Proofs.YthmbgodcpgkkeaaGreat
set_option maxRecDepth 100000
section
variable {c : Cfg} {V : Int → Nat} {fs ls R : List Nat} {B : List (Int × List Nat)} {b : Nat} {puts : List (Int × Nat)} {room : Nat}
theorem at_not {kind i j : Int} (hc : Small c) (hk : 7 ≤ kind ∧ kind ≤ 16) (h : 0 ≤ i ∧ i < (c.cnt kind).1 ∧ 0 ≤ j ∧ j < (c.cnt kind).2) : c.at kind i j ≠ -1 := (at_in hc hk h).ne hc
theorem takeN_v (V : Int → Nat) (hc : Small c) (hb : (b : Int) < c.blocks) (hr : puts.length + 9 ≤ room) : ∀ k : Nat, k ≤ 8 → ovl (takeN c room puts b k) V (c.at 11 b 0) = 1 ∧ (∀ w : Nat, w < k → ovl (takeN c room puts b k) V (c.at 16 b w) = 0) ∧ (∀ a, a ≠ c.at 11 b 0 → (∀ w : Nat, w < k → a ≠ c.at 16 b w) → ovl (takeN c room puts b k) V a = ovl puts V a)
  | 0, _ => by
    have e : ovl (takeN c room puts b 0) V = updV (ovl puts V) (c.at 11 b 0) 1 := by
      show ovl (putP room puts (c.at 11 b 0) 1) V = _
      rw [putP_ovl V (by omega)]
    rw [e]
    exact ⟨updV_same _ _ _, fun w hw => absurd hw (Nat.not_lt_zero _), fun a h1 _ => updV_ne _ h1⟩
  | k + 1, hk => by
    have hl := takeN_len c room puts b k
    obtain ⟨i1, i2, i3⟩ := takeN_v V hc hb hr k (by omega)
    have e : ovl (takeN c room puts b (k + 1)) V = updV (ovl (takeN c room puts b k) V) (c.at 16 b k) 0 := by
      show ovl (putP room (takeN c room puts b k) (c.at 16 b k) 0) V = _
      rw [putP_ovl V (by omega)]
    rw [e]
    refine ⟨?_, fun w hw => ?_, fun a h1 h2 => ?_⟩
    · rw [updV_ne _ (ne_kind hc (by decide) (by decide) (in11 hb) (in16 hb (by omega)) (by omega))]; exact i1
    · by_cases ew : w = k
      · subst ew; exact updV_same _ _ _
      · rw [updV_ne _ (ne_kind hc (by decide) (by decide) (in16 hb (by omega)) (in16 hb (by omega)) (by omega))]; exact i2 w (by omega)
    · rw [updV_ne _ (h2 k (by omega))]; exact i3 a h1 fun w hw => h2 w (by omega)
theorem RepV.takeP (hc : Small c) (h : RepV c (ovl puts V) (fs ++ [b]) ls R B) {nt : Int} (hn : nt = (fs.length : Int) + 1) (hr : puts.length + 9 ≤ room) : (takeP c room nt puts b).1 = (fs.length : Int) ∧ (takeP c room nt puts b).2.length ≤ puts.length + 9 ∧ RepV c (ovl (takeP c room nt puts b).2 V) fs ls R (mput B ((b : Int) + 1) zero8) := by
  have hb := (h.free b (List.mem_append_right _ (List.mem_singleton_self b))).1
  have hl := takeN_len c room puts b 8
  have h11 := at_not hc (by decide) (in11 hb)
  have e : Go.Proofs.YthmbgodcpgkkeaaGreat.takeP c room nt puts b = (nt - 1, takeN c room puts b 8) := by
    unfold Go.Proofs.YthmbgodcpgkkeaaGreat.takeP
    rw [if_neg]
    rintro (e | e)
    · omega
    · exact h11 e
  obtain ⟨h1, h2, h3⟩ := takeN_v V hc hb hr 8 (Nat.le_refl _)
  generalize takeN c room puts b 8 = T at hl e h1 h2 h3
  rw [e]
  refine ⟨by dsimp only; omega, by dsimp only; omega, ?_⟩
  dsimp only
  exact h.take hc h1 h2 h3
theorem RepV.giveP (hc : Small c) (h : RepV c (ovl puts V) fs ls R B) (hb : (b : Int) < c.blocks) {l : List Nat} (e : mget B ((b : Int) + 1) = some l) {nl : Int} (hn : nl = (ls.length : Int)) (hlt : (ls.length : Int) < c.limit) (hr : puts.length + 2 ≤ room) : (giveP c room nl puts b).1 = ((ls ++ [b]).length : Int) ∧ (giveP c room nl puts b).2.length ≤ puts.length + 2 ∧ RepV c (ovl (giveP c room nl puts b).2 V) fs (ls ++ [b]) R (mdel B ((b : Int) + 1)) := by
  have h11 := at_not hc (by decide) (in11 hb)
  have hl1 := putP_len room puts (c.at 11 b 0) 2
  have hl2 := putP_len room (putP room puts (c.at 11 b 0) 2) (c.at 15 ls.length 0) b
  subst hn
  have e2 : Go.Proofs.YthmbgodcpgkkeaaGreat.giveP c room (ls.length : Int) puts b = ((ls.length : Int) + 1, putP room (putP room puts (c.at 11 b 0) 2) (c.at 15 ls.length 0) b) := by
    unfold Go.Proofs.YthmbgodcpgkkeaaGreat.giveP
    rw [if_neg]
    rintro (e | e)
    · omega
    · exact h11 e
  rw [e2]
  have hn := ne_kind hc (by decide) (by decide) (in11 hb) (in15 hlt) (by omega)
  have eo : ovl (putP room (putP room puts (c.at 11 b 0) 2) (c.at 15 ls.length 0) b) V = updV (updV (ovl puts V) (c.at 11 b 0) 2) (c.at 15 ls.length 0) b := by
    rw [putP_ovl V (by omega), putP_ovl V (by omega)]
  refine ⟨by rw [List.length_append, List.length_singleton]; dsimp only; omega, by dsimp only; omega, ?_⟩
  dsimp only
  rw [eo]
  refine h.give hc hb e hlt ?_ (updV_same _ _ _) fun a h1 h2 => ?_
  · rw [updV_ne _ hn, updV_same]
  · rw [updV_ne _ h2, updV_ne _ h1]
end
end Go.Proofs.YthmbgodcpgkkeaaGreat
end
