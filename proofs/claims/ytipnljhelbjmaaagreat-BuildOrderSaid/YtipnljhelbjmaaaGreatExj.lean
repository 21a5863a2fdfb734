/-
  A program that runs, in plain terms: what holds between its rounds.
-/
import Derived.Test.YtipnljhelbjmaaaGreatExi
namespace Go.Proofs.YtipnljhelbjmaaaGreat
/-- how many steps are asked for yet, for the instruction that waits -/
def remOf (m : Xm) : Nat := if m.x.waits = true ∧ m.v.s = 0 then (if m.v.step = 1 then 3 else if m.v.step = 2 then 2 else 1) else 0
theorem remOf_le (m : Xm) : remOf m ≤ 3 := by unfold remOf; repeat' split
                                              all_goals omega
structure Xinv (c : Cfg) (code : List Ins) (P0 : List (Int × Nat)) (nt0 nl0 : Int) (n : Nat) (m : Xm) : Prop where
  mark : m.x.mark = P0.length
  pre : P0 <+: m.puts
  st : m.x.st = nt0
  sl : m.x.sl = nl0
  len : m.puts.length + (if m.x.waits = true then 9 else 0) ≤ P0.length + 9 * m.x.steps.toNat
  news : m.news.length + (if m.x.waits = true then 1 else 0) ≤ m.x.steps.toNat
  nt : 0 ≤ m.p.nt ∧ m.p.nt ≤ 1000
  nl : 0 ≤ m.p.nl ∧ m.p.nl ≤ 1000
  w : 0 ≤ m.x.writes ∧ m.x.writes ≤ c.writes
  regs : m.x.regs.length = 16
  args : m.x.args.length = 4
  i : InsOk m.x.i
  s0 : 0 ≤ m.x.steps
  s1 : m.x.steps ≤ c.fuel
  pc : m.x.s = 0 → ∃ k : Nat, m.x.pc = (k : Int) ∧ k < code.length
  rc : m.x.rc ≠ 0 → m.x.s = 1 ∧ m.puts = P0 ∧ m.p.nt = nt0 ∧ m.p.nl = nl0
  rc0 : m.x.s = 0 → m.x.rc = 0
  vb : 0 ≤ m.v.block ∧ m.v.block ≤ 1000
  asks : n + remOf m ≤ 3 * m.x.steps.toNat
/-- the numbers with which a program begins -/
structure Start (c : Cfg) (P0 : List (Int × Nat)) (nt0 nl0 : Int) : Prop where
  small : Small c
  f1 : c.fuel ≤ 1000
  len : P0.length ≤ 1000000
  nt : 0 ≤ nt0 ∧ nt0 ≤ 1000
  nl : 0 ≤ nl0 ∧ nl0 ≤ 1000
/-- an instruction was begun, and has put nothing yet -/
structure Xmid (c : Cfg) (code : List Ins) (P0 : List (Int × Nat)) (nt0 nl0 : Int) (n : Nat) (m : Xm) : Prop where
  inv : Xinv c code P0 nt0 nl0 n m
  len : m.puts.length + 9 ≤ P0.length + 9 * m.x.steps.toNat
  news : m.news.length + 1 ≤ m.x.steps.toNat
  waits : m.x.waits = false
  s : m.x.s = 0
section
variable {c : Cfg} {code : List Ins} {P0 : List (Int × Nat)} {nt0 nl0 : Int} {n : Nat} {m : Xm}
theorem Xinv.fail (hS : Start c P0 nt0 nl0) (h : Xinv c code P0 nt0 nl0 n m) {e : Int} (he : e ≠ 0) {v : Nat} (hw : n ≤ 3 * m.x.steps.toNat) (hlen : P0.length + (if m.x.waits = true then 9 else 0) ≤ P0.length + 9 * m.x.steps.toNat) : Xinv c code P0 nt0 nl0 n (m.fail e v) := by
  have hp : m.puts.take m.x.mark = P0 := by rw [h.mark]; exact (List.prefix_iff_eq_take.1 h.pre).symm
  have hrem : n + remOf (m.fail e v) ≤ 3 * m.x.steps.toNat := by
    have := h.asks
    exact this
  refine ⟨h.mark, ?_, h.st, h.sl, ?_, h.news, ?_, ?_, h.w, h.regs, h.args, h.i, h.s0, h.s1, ?_, ?_, ?_, h.vb, hrem⟩
  · show P0 <+: m.puts.take m.x.mark
    rw [hp]; exact List.prefix_refl _
  · show (m.puts.take m.x.mark).length + _ ≤ _
    rw [hp]; exact hlen
  · show 0 ≤ m.x.st ∧ m.x.st ≤ 1000
    rw [h.st]; exact hS.nt
  · show 0 ≤ m.x.sl ∧ m.x.sl ≤ 1000
    rw [h.sl]; exact hS.nl
  · intro hs; exact absurd hs (by show (1 : Int) ≠ 0; decide)
  · intro _; exact ⟨rfl, hp, h.st, h.sl⟩
  · intro hs; exact absurd hs (by show (1 : Int) ≠ 0; decide)
theorem Xmid.keep (hS : Start c P0 nt0 nl0) (h : Xmid c code P0 nt0 nl0 n m) {m' : Xm} (k : Keep c 9 m m') : Xinv c code P0 nt0 nl0 n m' := by
  have hi := h.inv
  have hb := hS.small.b1
  have hwf : m'.x.waits = false := k.waits.trans h.waits
  have hrem : remOf m' = 0 := by unfold remOf; rw [if_neg]; rw [hwf]; simp
  refine ⟨k.mark.trans hi.mark, hi.pre.trans k.pre, k.st.trans hi.st, k.sl.trans hi.sl, ?_, ?_, ⟨k.nt0 hi.nt.1, Int.le_trans k.nt1 hi.nt.2⟩, ⟨k.nl0 hi.nl.1, k.nl1 hi.nl.2⟩, ⟨k.w0 hi.w.1, k.w1 hi.w.2⟩, k.regs.trans hi.regs, by rw [k.args]; exact hi.args, by rw [k.i]; exact hi.i,
    by rw [k.steps]; exact hi.s0, by rw [k.steps]; exact hi.s1, ?_, ?_, ?_, ?_, ?_⟩
  · have := k.len; have := h.len; rw [k.steps, if_neg (by rw [hwf]; decide)]; omega
  · have := k.news; have := h.news; rw [k.steps, if_neg (by rw [hwf]; decide)]; omega
  · intro _; rw [k.pc]; exact hi.pc h.s
  · intro hr; rw [k.rc, hi.rc0 h.s] at hr; exact absurd rfl hr
  · intro _; rw [k.rc]; exact hi.rc0 h.s
  · rcases k.vs with hv | hv
    · rw [hv]; exact hi.vb
    · omega
  · rw [hrem, k.steps]; have := hi.asks; omega
theorem Xmid.comes (hS : Start c P0 nt0 nl0) (h : Xmid c code P0 nt0 nl0 n m) {m' : Xm} (k : Comes' c 9 m m') : Xinv c code P0 nt0 nl0 n m' := by
  rcases k with k | ⟨m1, e, v, k, he, rfl⟩
  · exact h.keep hS k
  · have h1 := h.keep hS k
    refine h1.fail hS he ?_ ?_
    · have := h1.asks; omega
    · rw [if_neg (by rw [k.waits, h.waits]; decide)]; omega
theorem Xmid.waits' (hS : Start c P0 nt0 nl0) (h : Xmid c code P0 nt0 nl0 n m) (hn : n + 3 ≤ 3 * m.x.steps.toNat) {m' : Xm} (k : Waits c m m') : Xinv c code P0 nt0 nl0 n m' := by
  have hi := h.inv
  have hb := hS.small.b1
  have kk := k.keep
  have e1 : m'.x.steps = m.x.steps := kk.steps
  have hl : m'.puts.length ≤ m.puts.length + 0 := kk.len
  refine ⟨kk.mark.trans hi.mark, hi.pre.trans kk.pre, kk.st.trans hi.st, kk.sl.trans hi.sl, ?_, ?_, ⟨kk.nt0 hi.nt.1, Int.le_trans kk.nt1 hi.nt.2⟩, ⟨kk.nl0 hi.nl.1, kk.nl1 hi.nl.2⟩, ⟨kk.w0 hi.w.1, kk.w1 hi.w.2⟩, kk.regs.trans hi.regs, ?_, ?_, ?_, ?_, ?_, ?_, ?_, ?_, ?_⟩
  · have := h.len; rw [e1, if_pos k.waits]; omega
  · have := h.news; rw [e1, if_pos k.waits, k.news]; omega
  · have := kk.args; dsimp only at this; rw [this]; exact hi.args
  · have := kk.i; dsimp only at this; rw [this]; exact hi.i
  · rw [e1]; exact hi.s0
  · rw [e1]; exact hi.s1
  · intro _; have := kk.pc; dsimp only at this; rw [this]; exact hi.pc h.s
  · intro hr; have := kk.rc; dsimp only at this; rw [this, hi.rc0 h.s] at hr; exact absurd rfl hr
  · intro _; have := kk.rc; dsimp only at this; rw [this]; exact hi.rc0 h.s
  · rcases kk.vs with hv | hv
    · dsimp only at hv; rw [hv]; exact hi.vb
    · dsimp only at hv; omega
  · have := remOf_le m'; rw [e1]; omega
end
end Go.Proofs.YtipnljhelbjmaaaGreat
