/-
  Two queues in one state: what is done to one leaves the other as it is.
-/
import Derived.Test.YtphheopbngdhhaaGreatDoorQx
namespace Go.Proofs.YtphheopbngdhhaaGreatDoor
theorem Chn.mem {B : Bks} : ∀ {ns : Nds}, Chn B ns → ∀ h : Nat, h ∈ ns.map (·.1) → mget B (h : Int) ≠ none
  | [], _, h, hm => by cases hm
  | x :: xs, hc, h, hm => by
    rw [List.map_cons] at hm
    rcases List.mem_cons.1 hm with rfl | hm
    · rw [hc.1]; exact fun e => (by cases e)
    · exact Chn.mem hc.2 h hm
theorem Rep.mem {R : List Nat} {B : Bks} {root : Nat} {own : List Nat} {q : Option Qu} (h : Rep R B root own q) : ∀ x ∈ own, mget B (x : Int) ≠ none := by
  intro x hx
  cases q with
  | none => obtain ⟨_, rfl⟩ := h; cases hx
  | some q =>
    obtain ⟨a, ns, rfl, _, hr⟩ := h
    rcases List.mem_cons.1 hx with rfl | hx
    · rw [hr.hb]; exact fun e => (by cases e)
    · exact hr.ch.mem _ hx
theorem Rep.frame {R R' : List Nat} {B B' : Bks} {root : Nat} {own : List Nat} {q : Option Qu} (h : Rep R B root own q) (hR : R'.getD root 0 = R.getD root 0) (hB : ∀ x ∈ own, mget B' (x : Int) = mget B (x : Int)) : Rep R' B' root own q := by
  cases q with
  | none => exact ⟨hR.trans h.1, h.2⟩
  | some q =>
    obtain ⟨a, ns, rfl, e, hr⟩ := h
    exact ⟨a, ns, rfl, e, ⟨hR.trans hr.r, (hB a (List.mem_cons_self ..)).trans hr.hb, hr.ch.frame (fun y hy => hB y.1 (List.mem_cons_of_mem _ (List.mem_map_of_mem hy))), hr.nd, hr.nz, hr.lc, hr.c64⟩⟩
theorem Rep.len_eq {R R' : List Nat} {B B' : Bks} {root root' : Nat} {own own' : List Nat} {q : Option Qu} (h : Rep R B root own q) (h' : Rep R' B' root' own' q) : own.length = own'.length := by
  cases q with
  | none => obtain ⟨_, rfl⟩ := h; obtain ⟨_, rfl⟩ := h'; rfl
  | some q =>
    obtain ⟨a, ns, rfl, e, _⟩ := h
    obtain ⟨a', ns', rfl, e', _⟩ := h'
    have := congrArg List.length e
    have := congrArg List.length e'
    simp at *
    omega
/-- a state with two queues -/
structure QInv2 (m : Ms) (a b : Nat) (qa qb : Option Qu) (oa ob : List Nat) (na nb : Nat) : Prop where
  wf : WfB m.blocks
  rl : m.roots.length = 16
  ra : Rep m.roots m.blocks a oa qa
  rb : Rep m.roots m.blocks b ob qb
  dj : ∀ h ∈ oa, h ∉ ob
  len : m.blocks.length = oa.length + ob.length
  na : qSize qa ≤ na
  nb : qSize qb ≤ nb
theorem QInv2.swap {m : Ms} {a b : Nat} {qa qb : Option Qu} {oa ob : List Nat} {na nb : Nat} (h : QInv2 m a b qa qb oa ob na nb) : QInv2 m b a qb qa ob oa nb na :=
  ⟨h.wf, h.rl, h.rb, h.ra, fun x hb ha => h.dj x ha hb, by rw [h.len]; omega, h.nb, h.na⟩
theorem QInv2.ok {m : Ms} {a b : Nat} {qa qb : Option Qu} {oa ob : List Nat} {na nb : Nat} (h : QInv2 m a b qa qb oa ob na nb) : MsOk m := ⟨h.rl, h.wf.b⟩
theorem QInv2.step {m : Ms} {a b : Nat} {qa qb : Option Qu} {oa ob : List Nat} {na nb : Nat} (h : QInv2 m a b qa qb oa ob na nb) (hab : a ≠ b) (hn : na + nb < 60) (k arg : Nat) (hk : k < 6) (hr : a < 16) (ha : arg < 18446744073709551616) :
    ∃ r, runQ m k a arg = some r ∧ Ran m.roots m.blocks a oa k arg qa r (runMs m r) ∧ ∃ oa', QInv2 (runMs m r) a b (doesM k qa arg).1 qb oa' ob (na + 1) nb := by
  have h1 := h.ra.own
  have h2 := h.rb.own
  have h3 := h.na
  have h4 := h.nb
  obtain ⟨r, e, hran⟩ := rep_run m.roots m.blocks h.wf h.rl (by rw [h.len]; omega) k a arg hk hr ha qa oa h.ra
  obtain ⟨oa', hrep, hlen, hfr, hnew⟩ := hran.rep
  have h5 := h.len
  have h6 := doesM_size k qa arg
  have hnot : ∀ x ∈ ob, x ∉ oa ∧ x ∉ oa' := fun x hx => by
    have h7 : x ∉ oa := fun hxa => h.dj x hxa hx
    refine ⟨h7, fun hxa' => ?_⟩
    exact h.rb.mem x hx (hnew x hxa' h7)
  refine ⟨r, e, hran, oa', hran.wf, by rw [hran.rl]; exact h.rl, hrep, ?_, ?_, ?_, by omega, h4⟩
  · exact h.rb.frame (hran.ro b (fun e => hab e.symm)) (fun x hx => hfr x (hnot x hx).1 (hnot x hx).2)
  · exact fun x hx hxb => (hnot x hxb).2 hx
  · have hlen' : (runMs m r).blocks.length + oa.length = m.blocks.length + oa'.length := hlen
    omega
theorem qinv20 (a b : Nat) : QInv2 ms0 a b none none [] [] 0 0 :=
  ⟨⟨fun p h => (by cases h), List.nodup_nil⟩, rfl, ⟨zeros_getD 16 a, rfl⟩, ⟨zeros_getD 16 b, rfl⟩, fun x hx => (by cases hx), rfl, Nat.le_refl _, Nat.le_refl _⟩
theorem QInv.up {m : Ms} {root : Nat} {q : Option Qu} {own : List Nat} {n : Nat} (h : QInv m root q own n) : QInv m root q own (n + 1) := ⟨h.wf, h.rl, h.rep, h.len, Nat.le_succ_of_le h.n⟩
theorem QInv2.up {m : Ms} {a b : Nat} {qa qb : Option Qu} {oa ob : List Nat} {na nb : Nat} (h : QInv2 m a b qa qb oa ob na nb) : QInv2 m a b qa qb oa ob (na + 1) nb := ⟨h.wf, h.rl, h.ra, h.rb, h.dj, h.len, Nat.le_succ_of_le h.na, h.nb⟩
end Go.Proofs.YtphheopbngdhhaaGreatDoor
