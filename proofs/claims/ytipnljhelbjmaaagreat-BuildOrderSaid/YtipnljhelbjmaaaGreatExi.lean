/-
  A program that runs, in plain terms: what its rounds keep, and how few they are.
-/
import Derived.Test.YtipnljhelbjmaaaGreatExh
namespace Go.Proofs.YtipnljhelbjmaaaGreat
theorem putP_pre (room : Nat) (puts : List (Int × Nat)) (a : Int) (v : Nat) : puts <+: putP room puts a v := by
  unfold putP; split
  · exact List.prefix_refl _
  · exact List.prefix_append _ _
theorem takeN_pre (c : Cfg) (room : Nat) (puts : List (Int × Nat)) (b : Nat) : ∀ k, puts <+: takeN c room puts b k
  | 0 => putP_pre ..
  | k + 1 => (takeN_pre c room puts b k).trans (putP_pre ..)
/-- m' is m, but for registers, words counted, and at most d entries and one handle more -/
structure Keep (c : Cfg) (d : Nat) (m m' : Xm) : Prop where
  mark : m'.x.mark = m.x.mark
  st : m'.x.st = m.x.st
  sl : m'.x.sl = m.x.sl
  args : m'.x.args = m.x.args
  steps : m'.x.steps = m.x.steps
  pc : m'.x.pc = m.x.pc
  i : m'.x.i = m.x.i
  s : m'.x.s = m.x.s
  rc : m'.x.rc = m.x.rc
  waits : m'.x.waits = m.x.waits
  regs : m'.x.regs.length = m.x.regs.length
  pre : m.puts <+: m'.puts
  len : m'.puts.length ≤ m.puts.length + d
  news : m'.news.length ≤ m.news.length + 1
  nt0 : 0 ≤ m.p.nt → 0 ≤ m'.p.nt
  nt1 : m'.p.nt ≤ m.p.nt
  nl0 : 0 ≤ m.p.nl → 0 ≤ m'.p.nl
  nl1 : m.p.nl ≤ 1000 → m'.p.nl ≤ 1000
  w0 : 0 ≤ m.x.writes → 0 ≤ m'.x.writes
  w1 : m.x.writes ≤ c.writes → m'.x.writes ≤ c.writes
  vs : m'.v.block = m.v.block ∨ (0 ≤ m'.v.block ∧ m'.v.block < c.blocks)
/-- m' is such a one, or one that failed -/
def Comes' (c : Cfg) (d : Nat) (m m' : Xm) : Prop := Keep c d m m' ∨ ∃ m1 e v, Keep c d m m1 ∧ e ≠ 0 ∧ m' = m1.fail e v
theorem Keep.refl (c : Cfg) (d : Nat) (m : Xm) : Keep c d m m := ⟨rfl, rfl, rfl, rfl, rfl, rfl, rfl, rfl, rfl, rfl, rfl, List.prefix_refl _, Nat.le_add_right _ _, Nat.le_add_right _ _, id, Int.le_refl _, id, id, id, id, .inl rfl⟩
theorem Comes'.fail {c : Cfg} {d : Nat} {m : Xm} {e : Int} {v : Nat} (he : e ≠ 0) : Comes' c d m (m.fail e v) := .inr ⟨m, e, v, Keep.refl c d m, he, rfl⟩
theorem keep_pay {c : Cfg} {m : Xm} (h : (m.pay c).2 = true) : Keep c 0 m (m.pay c).1 := by
  have hw : ¬ c.writes - m.x.writes < costs m.x.i.op := by
    unfold Xm.pay at h; split at h
    · cases h
    · assumption
  have := costs_le m.x.i.op
  rw [Xm.pay_t h]
  exact ⟨rfl, rfl, rfl, rfl, rfl, rfl, rfl, rfl, rfl, rfl, rfl, List.prefix_refl _, Nat.le_refl _, Nat.le_add_right _ _, id, Int.le_refl _, id, id, fun h => by dsimp only; omega, fun h => by dsimp only; omega, .inl rfl⟩
theorem pay_fails {c : Cfg} {m : Xm} {d : Nat} (h : (m.pay c).2 = false) : Comes' c d m (m.pay c).1 := by
  rw [Xm.pay_f h]; exact Comes'.fail (by decide)
theorem comes_taken {c : Cfg} {room : Nat} {m : Xm} {b : Nat} : Comes' c 9 m (m.taken c room b) := by
  unfold Xm.taken
  split
  · exact Comes'.fail (by decide)
  · left
    have hp : m.puts <+: (takeP c room m.p.nt m.puts b).2 ∧ (takeP c room m.p.nt m.puts b).2.length ≤ m.puts.length + 9 ∧ (0 ≤ m.p.nt → 0 ≤ (takeP c room m.p.nt m.puts b).1) ∧ (takeP c room m.p.nt m.puts b).1 ≤ m.p.nt := by
      unfold takeP
      have h8 := takeN_pre c room m.puts b 8
      have hl8 := takeN_len c room m.puts b 8
      generalize takeN c room m.puts b 8 = T at h8 hl8 ⊢
      split
      · exact ⟨List.prefix_refl _, by dsimp only; omega, id, Int.le_refl _⟩
      · rename_i hno
        exact ⟨h8, by dsimp only; omega, fun h => by dsimp only; omega, by dsimp only; omega⟩
    exact ⟨rfl, rfl, rfl, rfl, rfl, rfl, rfl, rfl, rfl, rfl, List.length_set, hp.1, hp.2.1, by simp, hp.2.2.1, hp.2.2.2, id, id, id, id, .inl rfl⟩
theorem Keep.trans {c : Cfg} {d d' : Nat} {a b e : Xm} (h : Keep c d a b) (k : Keep c d' b e) (hn : b.news.length = a.news.length) : Keep c (d + d') a e :=
  ⟨k.mark.trans h.mark, k.st.trans h.st, k.sl.trans h.sl, k.args.trans h.args, k.steps.trans h.steps, k.pc.trans h.pc, k.i.trans h.i, k.s.trans h.s, k.rc.trans h.rc, k.waits.trans h.waits, k.regs.trans h.regs, h.pre.trans k.pre,
    by have := h.len; have := k.len; omega, by have := k.news; omega, fun x => k.nt0 (h.nt0 x), Int.le_trans k.nt1 h.nt1, fun x => k.nl0 (h.nl0 x), fun x => k.nl1 (h.nl1 x), fun x => k.w0 (h.w0 x), fun x => k.w1 (h.w1 x),
    k.vs.elim (fun x => h.vs.elim (fun y => .inl (x.trans y)) (fun y => .inr (by rw [x]; exact y))) .inr⟩
theorem Keep.put {c : Cfg} {d : Nat} {m m1 : Xm} (h : Keep c d m m1) {puts : List (Int × Nat)} (hp : m1.puts <+: puts) {d' : Nat} (hl : puts.length ≤ m1.puts.length + d') : Keep c (d + d') m { m1 with puts := puts } :=
  ⟨h.mark, h.st, h.sl, h.args, h.steps, h.pc, h.i, h.s, h.rc, h.waits, h.regs, h.pre.trans hp, by have := h.len; dsimp only; omega, h.news, h.nt0, h.nt1, h.nl0, h.nl1, h.w0, h.w1, h.vs⟩
theorem Keep.le {c : Cfg} {d d' : Nat} {m m1 : Xm} (h : Keep c d m m1) (hd : d ≤ d') : Keep c d' m m1 := { h with len := by have := h.len; omega }
theorem comes_goOn {c : Cfg} (hc : Small c) {room : Nat} {m : Xm} {val : Nat} : Comes' c 9 m (m.goOn c room val) := by
  unfold Xm.goOn
  split
  · left
    exact ⟨rfl, rfl, rfl, rfl, rfl, rfl, rfl, rfl, rfl, rfl, List.length_set, List.prefix_refl _, Nat.le_add_right _ _, Nat.le_add_right _ _, id, Int.le_refl _, id, id, id, id, .inl rfl⟩
  · split
    · exact comes_taken
    · split
      · split
        · rename_i hp
          left
          have hl := putP_len room (m.pay c).1.puts (c.at 16 (m.x.block c).1 (m.x.block c).2.1) (m.x.reg m.x.i.a)
          exact ((keep_pay hp).put (putP_pre ..) hl.2).le (by omega)
        · rename_i hp
          exact pay_fails (by simpa using hp)
      · split
        · split
          · rename_i hp
            left
            have hk := keep_pay hp
            have hg : (m.pay c).1.puts <+: (giveP c room (m.pay c).1.p.nl (m.pay c).1.puts (m.x.bN c)).2 ∧ (giveP c room (m.pay c).1.p.nl (m.pay c).1.puts (m.x.bN c)).2.length ≤ (m.pay c).1.puts.length + 2 ∧
                (0 ≤ (m.pay c).1.p.nl → 0 ≤ (giveP c room (m.pay c).1.p.nl (m.pay c).1.puts (m.x.bN c)).1) ∧ ((m.pay c).1.p.nl ≤ 1000 → (giveP c room (m.pay c).1.p.nl (m.pay c).1.puts (m.x.bN c)).1 ≤ 1000) := by
              have hlim := hc.limit
              unfold giveP
              split
              · exact ⟨List.prefix_refl _, by dsimp only; omega, id, id⟩
              · rename_i hno
                have h1 := putP_len room (m.pay c).1.puts (c.at 11 (m.x.bN c) 0) 2
                have h2 := putP_len room (putP room (m.pay c).1.puts (c.at 11 (m.x.bN c) 0) 2) (c.at 15 (m.pay c).1.p.nl 0) (m.x.bN c)
                exact ⟨(putP_pre ..).trans (putP_pre ..), by dsimp only; omega, fun h => by dsimp only; omega, fun h => by dsimp only; omega⟩
            have hk2 := (hk.put hg.1 hg.2.1).le (d' := 9) (by omega)
            exact { hk2 with nl0 := fun h => hg.2.2.1 (hk.nl0 h), nl1 := fun h => hg.2.2.2 (hk.nl1 h) }
          · rename_i hp
            exact pay_fails (by simpa using hp)
        · exact .inl (Keep.refl ..)
theorem Comes'.after {c : Cfg} {d : Nat} {a b e : Xm} (h : Keep c 0 a b) (hn : b.news.length = a.news.length) (k : Comes' c d b e) : Comes' c d a e := by
  rcases k with k | ⟨m1, x, v, k, hx, rfl⟩
  · exact .inl ((h.trans k hn).le (by omega))
  · exact .inr ⟨m1, x, v, (h.trans k hn).le (by omega), hx, rfl⟩
/-- it waits for the view, having turned nothing else -/
structure Waits (c : Cfg) (m m' : Xm) : Prop where
  keep : Keep c 0 m { m' with x := { m'.x with waits := m.x.waits } }
  waits : m'.x.waits = true
  news : m'.news = m.news
theorem Vw.beg_block (v : Vw) (ok : Bool) : (v.beg ok).block = v.block := by unfold Vw.beg; split <;> rfl
theorem Vw.lives_block (v : Vw) : v.lives.block = v.block := by unfold Vw.lives; split <;> rfl
theorem Vw.touch_block (v : Vw) (b a : Int) : (v.touch b a).block = b := by
  unfold Vw.touch; split
  · rw [Vw.lives_block]
  · rfl
theorem Vw.cell_block (c : Cfg) (v : Vw) (a : Int) : (v.cell c a).block = v.block := by
  unfold Vw.cell; split
  · dsimp only; rw [Vw.beg_block]
  · rw [Vw.beg_block]
theorem Cfg.at16_in {c : Cfg} {b w : Int} (h : c.at 16 b w ≠ -1) : 0 ≤ b ∧ b < c.blocks := by
  unfold Cfg.at at h
  split at h
  · rename_i hh; exact ⟨hh.1, hh.2.1⟩
  · exact absurd rfl h
theorem Cfg.at11_in {c : Cfg} {b : Int} (h : c.at 11 b 0 ≠ -1) : 0 ≤ b ∧ b < c.blocks := by
  unfold Cfg.at at h
  split at h
  · rename_i hh; exact ⟨hh.1, hh.2.1⟩
  · exact absurd rfl h
theorem begB_true {v : Vw} {ok : Bool} (h : v.begB ok = true) : ok = true := by unfold Vw.begB at h; split at h <;> simp_all
theorem Vw.word_block (c : Cfg) (v : Vw) (b w : Int) : (v.word c b w).block = v.block ∨ (0 ≤ (v.word c b w).block ∧ (v.word c b w).block < c.blocks) := by
  unfold Vw.word; split
  · rename_i h
    right; rw [Vw.touch_block]
    exact Cfg.at16_in (by simpa using begB_true h)
  · left; rw [Vw.beg_block]
theorem Vw.live_block (c : Cfg) (v : Vw) (b : Int) : (v.live c b).block = v.block ∨ (0 ≤ (v.live c b).block ∧ (v.live c b).block < c.blocks) := by
  unfold Vw.live; split
  · rename_i h
    right; rw [Vw.touch_block]
    exact Cfg.at11_in (by simpa using begB_true h)
  · left; rw [Vw.beg_block]
theorem waits_mk {c : Cfg} {m : Xm} {v : Vw} (hv : v.block = m.v.block ∨ (0 ≤ v.block ∧ v.block < c.blocks)) : Waits c m { m with v := v, x := { m.x with waits := true } } :=
  ⟨⟨rfl, rfl, rfl, rfl, rfl, rfl, rfl, rfl, rfl, rfl, rfl, List.prefix_refl _, Nat.le_refl _, Nat.le_add_right _ _, id, Int.le_refl _, id, id, id, id, hv⟩, rfl, rfl⟩
theorem comes_fetch {c : Cfg} (hc : Small c) {room : Nat} {m : Xm} {a : Int} : Comes' c 9 m (m.fetch c room a) ∨ Waits c m (m.fetch c room a) := by
  unfold Xm.fetch
  split
  · exact .inl (comes_goOn hc)
  · exact .inr (waits_mk (.inl (Vw.cell_block ..)))
theorem Waits.after {c : Cfg} {a b e : Xm} (h : Keep c 0 a b) (hn : b.news = a.news) (hw : b.x.waits = a.x.waits) (k : Waits c b e) : Waits c a e := by
  refine ⟨?_, k.waits, k.news.trans hn⟩
  have := h.trans k.keep (by rw [hn])
  rw [hw] at this
  exact this.le (by omega)
theorem Xm.pay_w {c : Cfg} {m : Xm} (h : (m.pay c).2 = true) : (m.pay c).1.x.waits = m.x.waits := by rw [Xm.pay_t h]
theorem comes_fresh {c : Cfg} (hc : Small c) {room : Nat} {m : Xm} : Comes' c 9 m (m.fresh c room) ∨ Waits c m (m.fresh c room) := by
  unfold Xm.fresh
  split
  · rename_i hp
    have hk := keep_pay hp
    split
    · rcases comes_fetch hc (room := room) (m := (m.pay c).1) (a := ((m.pay c).1.p.top c).1) with h | h
      · exact .inl (Comes'.after hk (by rw [Xm.pay_news]) h)
      · exact .inr (h.after hk (Xm.pay_news ..) (Xm.pay_w hp))
    · exact .inl (Comes'.after hk (by rw [Xm.pay_news]) (Comes'.fail (by decide)))
  · rename_i hp
    exact .inl (pay_fails (by simpa using hp))
theorem comes_root {c : Cfg} (hc : Small c) {room : Nat} {m : Xm} : Comes' c 9 m (m.root c room) ∨ Waits c m (m.root c room) := by
  unfold Xm.root
  split
  · exact .inl (Comes'.fail (by decide))
  · split
    · split
      · rename_i hp
        have hl := putP_len room (m.pay c).1.puts (c.at 10 (m.x.reg m.x.i.b) 0) (m.x.reg m.x.i.a)
        exact .inl (.inl (((keep_pay hp).put (putP_pre ..) hl.2).le (by omega)))
      · rename_i hp
        exact .inl (pay_fails (by simpa using hp))
    · exact comes_fetch hc
theorem comes_touch {c : Cfg} (hc : Small c) {room : Nat} {m : Xm} : Comes' c 9 m (m.touch c room) ∨ Waits c m (m.touch c room) := by
  unfold Xm.touch
  split
  · exact .inl (Comes'.fail (by decide))
  · split
    · split
      · exact .inl (comes_goOn hc)
      · exact .inr (waits_mk (Vw.word_block ..))
    · split
      · exact .inl (comes_goOn hc)
      · exact .inr (waits_mk (Vw.live_block ..))
end Go.Proofs.YtipnljhelbjmaaaGreat
