/-
  A program over a view that is told what is so: blocks that are touched. A program over a view that is told what is so: it comes to what a run comes to, over roots and blocks.
-/
import Derived.Test.YthmbgodcpgkkeaaGreatEk
section
namespace Go.Proofs.YthmbgodcpgkkeaaGreat
set_option maxRecDepth 100000
section
variable {c : Cfg} {V : Int → Nat} {g : Bg} {room : Nat} {m : Xm} {fs ls R : List Nat} {B : List (Int × List Nat)} {b : Nat} {l : List Nat}
theorem RepV.alive {V : Int → Nat} (h : RepV c V fs ls R B) (hb : (b : Int) < c.blocks) (hl : V (c.at 11 b 0) = 1) : ∃ l, mget B ((b : Int) + 1) = some l := by
  have := (h.life b hb).1 hl
  cases e : mget B ((b : Int) + 1) with
  | none => rw [e] at this; cases this
  | some l => exact ⟨l, rfl⟩
theorem RepV.dead {V : Int → Nat} (h : RepV c V fs ls R B) (hb : (b : Int) < c.blocks) (hl : V (c.at 11 b 0) ≠ 1) : mget B ((b : Int) + 1) = none := by
  cases e : mget B ((b : Int) + 1) with
  | none => rfl
  | some l => exact absurd ((h.life b hb).2 (by rw [e]; rfl)) hl
theorem RepV.off {V : Int → Nat} (h : RepV c V fs ls R B) {k : Int} (hk : k < 1 ∨ c.blocks < k) : mget B k = none := by
  cases e : mget B k with
  | none => rfl
  | some l =>
    have := h.keys (k, l) (mget_mem e)
    dsimp only at this
    omega
/-- what is touched, in general: f fails where there is no such block -/
theorem touch_acc (hb : Fits c room g) (h : Rn c V g m fs ls R B) {f : List Nat → Rm × Int}
    (hbad : (m.x.hOf < 1 ∨ c.blocks < (m.x.hOf : Int) ∨ 8 ≤ m.x.wOf) → f [] = (rmOf c m R B [], 44))
    (hdead : ∀ b : Nat, (b : Int) < c.blocks → m.x.hOf = b + 1 → mget B ((b : Int) + 1) = none → f [] = (rmOf c m R B [], 44))
    (hrd : readsB m.x.i.op = true → ∀ (b : Nat) (l : List Nat), (b : Int) < c.blocks → m.x.hOf = b + 1 → m.x.wOf < 8 → mget B ((b : Int) + 1) = some l → ∀ v' : Vw, Hl c V v' → v'.seq = g.sq → AccR c V g m.news f (Xm.goOn c room { m with v := v' } (l.getD m.x.wOf 0)))
    (hwr : readsB m.x.i.op = false → ∀ (b : Nat) (l : List Nat), (b : Int) < c.blocks → m.x.hOf = b + 1 → m.x.wOf < 8 → mget B ((b : Int) + 1) = some l → ∀ v' : Vw, Hl c V v' → v'.seq = g.sq → AccR c V g m.news f (Xm.goOn c room { m with v := v' } 0)) :
    AccR c V g m.news f (m.touch c room) ∨ Wt c V g room m.news f (m.touch c room) := by
  unfold Xm.touch
  by_cases hbd : m.x.hOf < 1 ∨ c.blocks < (m.x.hOf : Int) ∨ 8 ≤ m.x.wOf
  · have e : m.x.block c = (0, 0, false) := by unfold Xs.block; rw [if_pos hbd]
    rw [if_pos (.inl (by rw [e]))]
    exact .inl (.fails (by decide) rfl (fun e => by cases e) ⟨_, hbad hbd, rfl, rfl⟩)
  · obtain ⟨b, hh⟩ : ∃ b : Nat, m.x.hOf = b + 1 := ⟨m.x.hOf - 1, by omega⟩
    have hbk : (b : Int) < c.blocks := by omega
    have hw : m.x.wOf < 8 := by omega
    rw [block_eq hbk hh hw]
    dsimp only
    have fails : mget B ((b : Int) + 1) = none → ∀ m1 : Xm, m1.news = m.news → AccR c V g m.news f (m1.fail 44 0) := fun e m1 e1 => .fails (by decide) e1 (fun e => by cases e) ⟨_, hdead b hbk hh e, rfl, rfl⟩
    by_cases hkn : (mget (allP m.puts) (c.at 11 b 0)).isSome = true ∧ (mget (allP m.puts) (c.at 11 b 0)).getD 0 ≠ 1
    · rw [if_pos (.inr hkn)]
      refine .inl (fails (h.rep.dead hbk ?_) m rfl)
      unfold ovl
      cases e : mget (allP m.puts) (c.at 11 b 0) with
      | none => rw [e] at hkn; cases hkn.1
      | some x => rw [e] at hkn; exact hkn.2
    · rw [if_neg (by rintro (e | e)
                     · cases e
                     · exact hkn e)]
      have hlv : mget (allP m.puts) (c.at 11 b 0) = some 1 ∨ mget (allP m.puts) (c.at 11 b 0) = none := by
        cases e : mget (allP m.puts) (c.at 11 b 0) with
        | none => exact .inr rfl
        | some x =>
          rw [e] at hkn
          refine .inl (congrArg some (Decidable.by_contra fun hx => hkn ⟨rfl, hx⟩))
      have n11 := at_not hb.hc (by decide) (in11 hbk)
      have n16 := at_not hb.hc (by decide) (in16 hbk hw)
      cases hrdb : readsB m.x.i.op with
      | true =>
        rw [if_pos rfl]
        cases ew : mget (allP m.puts) (c.at 16 b m.x.wOf) with
        | some val =>
          have hal : ovl m.puts V (c.at 11 b 0) = 1 := by
            rcases hlv with e | e
            · exact ovl_some e
            · rw [ovl_none e]
              rcases h.pk.w b m.x.wOf hbk hw (by rw [ew]; rfl) with e2 | e2
              · rw [e] at e2; cases e2
              · exact e2
          obtain ⟨l, hl⟩ := h.rep.alive hbk hal
          have := hrd hrdb b l hbk hh hw hl m.v h.held h.sq
          rw [← h.rep.word b hbk l hl _ hw, ovl_some ew] at this
          exact .inl this
        | none =>
          refine .inr ⟨rfl, h.s, h.rc, (Vw.word_seq c m.v _ _).trans h.sq, rfl, _, VwF.word h.held ⟨by omega, hbk⟩ n16 (at_in hb.hc (by decide) (in16 hbk hw)), fun v' h1 h2 => ?_⟩
          unfold rdB
          have hun : mget (allP m.puts) (c.at 11 b 0) = none := by
            rcases hlv with e | e
            · have := h.pk.l b hbk e m.x.wOf hw
              rw [ew] at this; cases this
            · exact e
          by_cases hv : V (c.at 11 b 0) = 1
          · rw [if_pos hv, if_neg n16]
            refine ⟨fun val ev => ?_, fun ev => by cases ev⟩
            injection ev with ev
            subst ev
            obtain ⟨l, hl⟩ := h.rep.alive hbk (by rw [ovl_none hun]; exact hv)
            have := hrd hrdb b l hbk hh hw hl v' h1 h2
            rw [← h.rep.word b hbk l hl _ hw, ovl_none ew] at this
            exact Eq.mpr (congrArg (fun z => AccR c V g m.news f (Xm.goOn c room z (V (c.at 16 b m.x.wOf)))) (unwait h.waits v' (m.v.word c b m.x.wOf))) this
          · rw [if_neg hv]
            exact ⟨fun val ev => (by cases ev), fun _ => fails (h.rep.dead hbk (by rw [ovl_none hun]; exact hv)) _ rfl⟩
      | false =>
        rw [if_neg (by decide)]
        rcases hlv with e | e
        · rw [if_pos (by rw [e]; rfl)]
          obtain ⟨l, hl⟩ := h.rep.alive hbk (ovl_some e)
          exact .inl (hwr hrdb b l hbk hh hw hl m.v h.held h.sq)
        · rw [if_neg (by rw [e]; decide)]
          refine .inr ⟨rfl, h.s, h.rc, (Vw.live_seq c m.v _).trans h.sq, rfl, _, VwF.live h.held ⟨by omega, hbk⟩ n11, fun v' h1 h2 => ?_⟩
          unfold rdB
          by_cases hv : V (c.at 11 b 0) = 1
          · rw [if_pos hv, if_pos rfl]
            refine ⟨fun val ev => ?_, fun ev => by cases ev⟩
            injection ev with ev
            subst ev
            obtain ⟨l, hl⟩ := h.rep.alive hbk (by rw [ovl_none e]; exact hv)
            exact Eq.mpr (congrArg (fun z => AccR c V g m.news f (Xm.goOn c room z 0)) (unwait h.waits v' (m.v.live c b))) (hwr hrdb b l hbk hh hw hl v' h1 h2)
          · rw [if_neg hv]
            exact ⟨fun val ev => (by cases ev), fun _ => fails (h.rep.dead hbk (by rw [ovl_none e]; exact hv)) _ rfl⟩
theorem word_acc (hb : Fits c room g) (h : Rn c V g m fs ls R B) (hop : 11 ≤ m.x.i.op ∧ m.x.i.op ≤ 14) : AccR c V g m.news (fun P => (rmOf c m R B P).word m.x.i) (m.touch c room) ∨ Wt c V g room m.news (fun P => (rmOf c m R B P).word m.x.i) (m.touch c room) := by
  have eh : m.x.hOf = m.x.reg m.x.i.b := by unfold Xs.hOf; rw [if_neg (by omega)]
  have ew : m.x.wOf = if m.x.i.op = 12 ∨ m.x.i.op = 14 then m.x.reg m.x.i.c else m.x.i.imm := by
    unfold Xs.wOf
    by_cases h12 : m.x.i.op = 12 ∨ m.x.i.op = 14
    · rw [if_pos h12, if_pos h12]
    · rw [if_neg h12, if_neg h12, if_neg (by omega)]
  have hword : ∀ P, (rmOf c m R B P).word m.x.i = (rmOf c m R B P).word2 m.x.i m.x.hOf m.x.wOf := fun P => by
    rw [eh, ew]; rfl
  have hnone : ∀ P, mget B (m.x.hOf : Int) = none → (rmOf c m R B P).word2 m.x.i m.x.hOf m.x.wOf = (rmOf c m R B P, 44) := fun P e => by
    unfold Rm.word2
    rw [show mget (rmOf c m R B P).blocks (m.x.hOf : Int) = none from e]
  refine touch_acc hb h (fun hbad => ?_) (fun b hbk hh e => ?_) (fun hr b l hbk hh hw e v' h1 h2 => ?_) (fun hr b l hbk hh hw e v' h1 h2 => ?_)
  · rw [hword]
    cases e : mget B (m.x.hOf : Int) with
    | none => exact hnone [] e
    | some l =>
      have : ¬ (((m.x.hOf : Nat) : Int) < 1 ∨ c.blocks < ((m.x.hOf : Nat) : Int)) := fun hk => by
        rw [h.rep.off hk] at e; cases e
      unfold Rm.word2
      rw [show mget (rmOf c m R B []).blocks (m.x.hOf : Int) = some l from e]
      dsimp only
      rw [if_pos (by omega)]
  · rw [hword]
    exact hnone [] (by rw [hh, show ((b + 1 : Nat) : Int) = (b : Int) + 1 from by omega]; exact e)
  · have hop2 : m.x.i.op = 11 ∨ m.x.i.op = 12 := by
      unfold readsB at hr
      simpa using hr
    exact acc_read (h.view h1 h2) hop2 (by show mget B ((m.x.reg m.x.i.b : Nat) : Int) = some l; rw [← eh, hh, show ((b + 1 : Nat) : Int) = (b : Int) + 1 from by omega]; exact e) hw
  · have hop2 : m.x.i.op = 13 ∨ m.x.i.op = 14 := by
      have : ¬ (m.x.i.op = 11 ∨ m.x.i.op = 12) := fun e => by
        unfold readsB at hr
        simp at hr
        omega
      omega
    exact acc_write hb (h.view h1 h2) hop2 hbk (by show m.x.reg m.x.i.b = b + 1; rw [← eh]; exact hh) e hw 0
theorem free_acc (hb : Fits c room g) (h : Rn c V g m fs ls R B) (hop : m.x.i.op = 16) : AccR c V g m.news (fun P => (rmOf c m R B P).free m.x.i) (m.touch c room) ∨ Wt c V g room m.news (fun P => (rmOf c m R B P).free m.x.i) (m.touch c room) := by
  have eh : m.x.hOf = m.x.reg m.x.i.a := by unfold Xs.hOf; rw [if_pos hop]
  have ew : m.x.wOf = 0 := by unfold Xs.wOf; rw [if_neg (by omega), if_pos hop]
  have hnone : ∀ P, mget B (m.x.hOf : Int) = none → (rmOf c m R B P).free m.x.i = (rmOf c m R B P, 44) := fun P e => by
    unfold Rm.free
    rw [show mget (rmOf c m R B P).blocks (((rmOf c m R B P).reg m.x.i.a : Nat) : Int) = none from by show mget B ((m.x.reg m.x.i.a : Nat) : Int) = none; rw [← eh]; exact e]
  have hrb : readsB m.x.i.op = false := by rw [hop]; rfl
  refine touch_acc hb h (fun hbad => ?_) (fun b hbk hh e => ?_) (fun hr b l hbk hh hw e v' h1 h2 => ?_) (fun hr b l hbk hh hw e v' h1 h2 => ?_)
  · exact hnone [] (h.rep.off (by omega))
  · exact hnone [] (by rw [hh, show ((b + 1 : Nat) : Int) = (b : Int) + 1 from by omega]; exact e)
  · rw [hrb] at hr; cases hr
  · exact acc_free hb (h.view h1 h2) hop hbk (by show m.x.reg m.x.i.a = b + 1; rw [← eh]; exact hh) e 0
end
end Go.Proofs.YthmbgodcpgkkeaaGreat
end
section
namespace Go.Proofs.YthmbgodcpgkkeaaGreat
set_option maxRecDepth 100000
section
variable {c : Cfg} {V : Int → Nat} {g : Bg} {room : Nat} {m : Xm} {fs ls R : List Nat} {B : List (Int × List Nat)} {code : List Ins} {ms : Ms} {args : List Nat}
theorem Rn.begun (h : Rn c V g m fs ls R B) (i : Ins) : Rn c V g (m.begun i) fs ls R B :=
  ⟨⟨h.rep, h.pk, h.nt, h.nl, h.cnt, h.lsz, h.plen, h.w0, h.w1, h.held, h.sq, h.regs, h.nw, h.lg⟩, h.s, h.rc, h.waits⟩
theorem Rn.jump (h : Rn c V g m fs ls R B) (n : Nat) : Rn c V g (m.jump n) fs ls R B :=
  ⟨⟨h.rep, h.pk, h.nt, h.nl, h.cnt, h.lsz, h.plen, h.w0, h.w1, h.held, h.sq, h.regs, h.nw, h.lg⟩, h.s, h.rc, h.waits⟩
theorem does_acc (hb : Fits c room g) (h : Rn c V g m fs ls R B) (i : Ins) : AccR c V g m.news (fun P => (rmOf c m R B P).go i) ((m.begun i).does c room) ∨ Wt c V g room m.news (fun P => (rmOf c m R B P).go i) ((m.begun i).does c room) := by
  have hB := h.begun i
  have hgo : ∀ P, (rmOf c m R B P).go i = if i.op = 17 then ({ rmOf c (m.begun i) R B P with pc := i.imm }, 0) else if i.op = 18 then (if m.x.reg i.a = 0 then ({ rmOf c (m.begun i) R B P with pc := i.imm }, 0) else (rmOf c (m.begun i) R B P, 0)) else if i.op = 19 then (if m.x.reg i.a = 0 then (rmOf c (m.begun i) R B P, 0) else ({ rmOf c (m.begun i) R B P with pc := i.imm }, 0)) else
      if i.op = 20 then ({ rmOf c (m.begun i) R B P with val := m.x.reg i.a, ended := true }, 0) else if i.op = 21 then ({ rmOf c (m.begun i) R B P with val := i.imm }, 40) else if i.op = 9 ∨ i.op = 10 then (rmOf c (m.begun i) R B P).root i else if 11 ≤ i.op ∧ i.op ≤ 14 then (rmOf c (m.begun i) R B P).word i else
      if i.op = 15 then (rmOf c (m.begun i) R B P).fresh i else if i.op = 16 then (rmOf c (m.begun i) R B P).free i else ((rmOf c (m.begun i) R B P).setR i.a (reckon i m.x.regs m.x.args), 0) := fun P => rfl
  have hjmp : ∀ n : Nat, AccR c V g m.news (fun P => ({ rmOf c (m.begun i) R B P with pc := (n : Int) }, 0)) ((m.begun i).jump n) := fun n =>
    .run [] fs ls R B (hB.jump n) (by show m.news = m.news ++ []; simp) fun P => rfl
  have hstay : AccR c V g m.news (fun P => (rmOf c (m.begun i) R B P, 0)) (m.begun i) := .run [] fs ls R B hB (by show m.news = m.news ++ []; simp) fun P => rfl
  simp only [hgo]
  unfold Xm.does
  rw [show (m.begun i).x.i = i from rfl]
  by_cases h17 : i.op = 17
  · rw [if_pos h17]; simp only [if_pos h17]; exact .inl (hjmp _)
  rw [if_neg h17]; simp only [if_neg h17]
  by_cases h18 : i.op = 18
  · rw [if_pos (.inl h18)]; simp only [if_pos h18]
    rw [show (m.begun i).x.reg i.a = m.x.reg i.a from rfl]
    by_cases h0 : m.x.reg i.a = 0
    · simp only [if_pos h0]
      rw [if_pos (by rw [h0, h18]; rfl)]
      exact .inl (hjmp _)
    · simp only [if_neg h0]
      rw [if_neg (by
        rw [h18, show (((m.x.reg i.a : Nat) : Int) == 0) = false from by simpa using h0]; decide)]
      exact .inl hstay
  simp only [if_neg h18]
  by_cases h19 : i.op = 19
  · rw [if_pos (.inr h19)]; simp only [if_pos h19]
    rw [show (m.begun i).x.reg i.a = m.x.reg i.a from rfl]
    by_cases h0 : m.x.reg i.a = 0
    · simp only [if_pos h0]
      rw [if_neg (by rw [h0, h19]; decide)]
      exact .inl hstay
    · simp only [if_neg h0]
      rw [if_pos (by
        rw [h19, show (((m.x.reg i.a : Nat) : Int) == 0) = false from by simpa using h0]; decide)]
      exact .inl (hjmp _)
  rw [if_neg (show ¬ (i.op = 18 ∨ i.op = 19) by omega)]; simp only [if_neg h19]
  by_cases h20 : i.op = 20
  · rw [if_pos h20]; simp only [if_pos h20]
    exact .inl (.ret fs ls R B rfl rfl ⟨hB.rep, hB.pk, hB.nt, hB.nl, hB.cnt, hB.lsz, hB.plen, hB.w0, hB.w1, hB.held, hB.sq, hB.regs, hB.nw, hB.lg⟩ rfl rfl)
  rw [if_neg h20]; simp only [if_neg h20]
  by_cases h21 : i.op = 21
  · rw [if_pos h21]; simp only [if_pos h21]
    exact .inl (.fails (by decide) rfl (fun e => by cases e) ⟨_, rfl, rfl, rfl⟩)
  rw [if_neg h21]; simp only [if_neg h21]
  by_cases h9 : i.op = 9 ∨ i.op = 10
  · rw [if_pos h9]; simp only [if_pos h9]
    exact root_acc (m := m.begun i) hb hB h9
  rw [if_neg h9]; simp only [if_neg h9]
  by_cases h11 : 11 ≤ i.op ∧ i.op ≤ 14
  · rw [if_pos (by omega)]; simp only [if_pos h11]
    exact word_acc (m := m.begun i) hb hB h11
  simp only [if_neg h11]
  by_cases h15 : i.op = 15
  · rw [if_neg (by omega), if_pos h15]; simp only [if_pos h15]
    exact fresh_acc (m := m.begun i) hb hB h15
  simp only [if_neg h15]
  by_cases h16 : i.op = 16
  · rw [if_pos (by omega)]; simp only [if_pos h16]
    exact free_acc (m := m.begun i) hb hB h16
  rw [if_neg (by omega)]; simp only [if_neg h16]
  exact .inl (.run [] fs ls R B (hB.reg _ _) (by show m.news = m.news ++ []; simp) fun P => rfl)
/-- a run comes to a program that stands -/
def Reach (c : Cfg) (code : List Ins) (ms : Ms) (args : List Nat) (m : Xm) (R : List Nat) (B : List (Int × List Nat)) : Prop := ∃ n, ∀ P K, runGo code c.fuel (n + K) (rm0 ms args c.writes (m.news ++ P)) = runGo code c.fuel K (rmOf c m R B P)
/-- a run comes to an instruction -/
def Rch (c : Cfg) (code : List Ins) (ms : Ms) (args nw : List Nat) (f : List Nat → Rm × Int) : Prop := ∃ n, ∀ P K, runGo code c.fuel (n + (K + 1)) (rm0 ms args c.writes (nw ++ P)) = if (f P).2 = 0 then runGo code c.fuel K (f P).1 else some ({ (f P).1 with code := (f P).2 }, false)
inductive SimR (c : Cfg) (V : Int → Nat) (g : Bg) (room : Nat) (code : List Ins) (ms : Ms) (args : List Nat) (m : Xm) : Prop
  | run (fs ls R : List Nat) (B : List (Int × List Nat)) : Rn c V g m fs ls R B → Reach c code ms args m R B → SimR c V g room code ms args m
  | wait (nw : List Nat) (f : List Nat → Rm × Int) : Wt c V g room nw f m → Rch c code ms args nw f → SimR c V g room code ms args m
  | fail (n : Nat) (r : Rm) : m.x.s = 1 → m.x.rc ≠ 0 → runGo code c.fuel n (rm0 ms args c.writes m.news) = some (r, false) → r.code = m.x.rc → r.val = m.x.rv → r.news = m.news → (m.x.rc = 43 → m.news.length = g.F0) → SimR c V g room code ms args m
  | ret (fs ls R : List Nat) (B : List (Int × List Nat)) (n : Nat) (r : Rm) : m.x.s = 1 → m.x.rc = 0 → Rk c V g m fs ls R B → runGo code c.fuel n (rm0 ms args c.writes m.news) = some (r, true) → r.code = 0 → r.val = m.x.rv → r.news = m.news → r.roots = R → r.blocks = B → SimR c V g room code ms args m
  | stale : m.x.s = 2 → m.v.s = 2 → SimR c V g room code ms args m
theorem AccR.sim {nw : List Nat} {f : List Nat → Rm × Int} (h : AccR c V g nw f m) (hr : Rch c code ms args nw f) : SimR c V g room code ms args m := by
  obtain ⟨n, hr⟩ := hr
  cases h with
  | run add fs ls R B h1 h2 h3 =>
    refine .run fs ls R B h1 ⟨n + 1, fun P K => ?_⟩
    have := hr (add ++ P) K
    rw [h3 P, if_pos rfl, ← List.append_assoc, ← h2] at this
    rw [← this, show n + 1 + K = n + (K + 1) by omega]
  | fail h1 h2 h3 h4 h5 h6 h7 =>
    have := hr [] 0
    rw [if_neg (by rw [h5]; exact h2), List.append_nil, ← h3] at this
    exact .fail _ _ h1 h2 this h5 h6 (h7.trans h3.symm) (by rw [h3]; exact h4)
  | ret fs ls R B h1 h2 h3 h4 h5 =>
    have := hr [] 1
    rw [h5, if_pos rfl, List.append_nil, ← h4] at this
    exact .ret fs ls R B _ _ h1 h2 h3 (this.trans rfl) rfl rfl rfl rfl rfl
theorem sim_once (hb : Fits c room g) (h : SimR c V g room code ms args m) (hpc : m.x.s = 0 → ∃ k : Nat, m.x.pc = (k : Int) ∧ k < code.length) (hst : ¬ m.stops) : SimR c V g room code ms args (m.once c room code) := by
  have hs : m.x.s = 0 := Decidable.by_contra fun e => hst (.inl e)
  obtain ⟨k, hk, hkl⟩ := hpc hs
  cases h with
  | run fs ls R B h1 h2 =>
    obtain ⟨n, h2⟩ := h2
    unfold Xm.once
    rw [if_pos h1.waits]
    unfold Xm.step
    by_cases hf : c.fuel ≤ m.x.steps
    · rw [if_pos hf]
      have := h2 [] 1
      rw [List.append_nil] at this
      have e : runGo code c.fuel 1 (rmOf c m R B []) = some ({ rmOf c m R B [] with code := 41, val := 0 }, false) := by
        show (if c.fuel ≤ m.x.steps then some _ else _) = _
        rw [if_pos hf]
      exact .fail _ _ rfl (show (41 : Int) ≠ 0 by decide) (this.trans e) rfl rfl rfl (fun e => by cases e)
    · rw [if_neg hf, hk]
      have hrch : Rch c code ms args m.news (fun P => (rmOf c m R B P).go (code.getD (k : Int).toNat ins0)) := by
        refine ⟨n, fun P K => (h2 P (K + 1)).trans ?_⟩
        have hgi : getIns code m.x.pc = some (code.getD (k : Int).toNat ins0) := by
          unfold getIns
          rw [hk, if_neg (by omega)]
          simp [hkl]
        show (if c.fuel ≤ m.x.steps then some _ else match getIns code m.x.pc with | none => none | some i => if ((rmOf c m R B P).go i).2 = 0 then runGo code c.fuel K ((rmOf c m R B P).go i).1 else some ({ ((rmOf c m R B P).go i).1 with code := ((rmOf c m R B P).go i).2 }, false)) = _
        rw [if_neg hf, hgi]
      rcases does_acc hb h1 (code.getD (k : Int).toNat ins0) with h3 | h3
      · exact h3.sim hrch
      · exact .wait _ _ h3 hrch
  | wait nw f h1 h2 =>
    unfold Xm.once
    rw [if_neg (by rw [h1.w]; decide)]
    have hv0 : m.v.s ≠ 0 := fun e => hst (.inr ⟨h1.w, e⟩)
    obtain ⟨r, h3, h4⟩ := h1.is
    have h4 := h4 m.v h3.held h1.sq
    by_cases hv2 : m.v.s = 2
    · rw [if_pos hv2]; exact .stale rfl hv2
    rw [if_neg hv2]
    by_cases hv3 : m.v.s = 3
    · rw [if_pos hv3]
      have hr : r = none := by
        rcases h3.is with e | ⟨e, _⟩ | ⟨_, e⟩ | ⟨e, _⟩ | ⟨e, _⟩
        · exact absurd e hv2
        · omega
        · exact e
        · omega
        · omega
      exact (h4.2 hr).sim h2
    · rw [if_neg hv3]
      have hr : r = some m.v.val := by
        rcases h3.is with e | ⟨_, e⟩ | ⟨e, _⟩ | ⟨e, _⟩ | ⟨e, _⟩
        · exact absurd e hv2
        · exact e
        · omega
        · omega
        · omega
      exact (h4.1 _ hr).sim h2
  | fail n r h1 => omega
  | ret fs ls R B n r h1 => omega
  | stale h1 => omega
theorem sim_tell (h : SimR c V g room code ms args m) (hs : m.x.s = 0) (hst : m.stops) {o : Out} (hg : m.v.step ≠ 1 → GoodR V g.sq (Vw.ask c m.v).1.at_ o) : SimR c V g room code ms args { m with v := m.v.tell o } := by
  cases h with
  | run fs ls R B h1 h2 =>
    rcases hst with e | ⟨e, _⟩
    · exact absurd hs e
    · rw [h1.waits] at e; cases e
  | wait nw f h1 h2 =>
    have hv0 : m.v.s = 0 := by
      rcases hst with e | ⟨_, e⟩
      · exact absurd hs e
      · exact e
    obtain ⟨r, h3, h4⟩ := h1.is
    exact .wait nw f ⟨h1.w, h1.s, h1.rc, (Vw.tell_seq m.v o).trans h1.sq, h1.news, r, h3.tell hv0 (by rw [h1.sq]; exact hg), h4⟩ h2
  | fail n r h1 => omega
  | ret fs ls R B n r h1 => omega
  | stale h1 => omega
end
end Go.Proofs.YthmbgodcpgkkeaaGreat
end
