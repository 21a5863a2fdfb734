/-
  What holds of a state after some of the things done to its queue.
-/
import Derived.Test.YtphheopbngdhhaaGreatDoorQw
namespace Go.Proofs.YtphheopbngdhhaaGreatDoor
set_option maxRecDepth 100000
def qSize (q : Option Qu) : Nat := match q with
  | none => 0
  | some x => x.list.length
theorem doesM_size (k : Nat) (q : Option Qu) (arg : Nat) : qSize (doesM k q arg).1 ≤ qSize q + 1 := by
  unfold doesM
  repeat' split
  all_goals (unfold qSize; simp_all)
  all_goals omega
structure QInv (m : Ms) (root : Nat) (q : Option Qu) (own : List Nat) (n : Nat) : Prop where
  wf : WfB m.blocks
  rl : m.roots.length = 16
  rep : Rep m.roots m.blocks root own q
  len : m.blocks.length = own.length
  n : qSize q ≤ n
theorem Rep.own {R : List Nat} {B : Bks} {root : Nat} {own : List Nat} {q : Option Qu} (h : Rep R B root own q) : own.length ≤ qSize q + 1 := by
  cases q with
  | none => obtain ⟨_, rfl⟩ := h; exact Nat.zero_le _
  | some q =>
    obtain ⟨h, ns, rfl, e2, _⟩ := h
    show _ ≤ q.list.length + 1
    rw [e2, List.length_cons, List.length_map, List.length_map]
    exact Nat.le_refl _
theorem QInv.ok {m : Ms} {root : Nat} {q : Option Qu} {own : List Nat} {n : Nat} (h : QInv m root q own n) : MsOk m := ⟨h.rl, h.wf.b⟩
theorem QInv.step {m : Ms} {root : Nat} {q : Option Qu} {own : List Nat} {n : Nat} (h : QInv m root q own n) (hn : n < 63) (k arg : Nat) (hk : k < 6) (hr : root < 16) (ha : arg < 18446744073709551616) :
    ∃ r, runQ m k root arg = some r ∧ Ran m.roots m.blocks root own k arg q r (runMs m r) ∧ ∃ own', QInv (runMs m r) root (doesM k q arg).1 own' (n + 1) := by
  have h1 := h.rep.own
  have h2 := h.n
  obtain ⟨r, e, hran⟩ := rep_run m.roots m.blocks h.wf h.rl (by rw [h.len]; omega) k root arg hk hr ha q own h.rep
  obtain ⟨own', a, b, _, _⟩ := hran.rep
  have h3 := h.len
  have h4 := doesM_size k q arg
  exact ⟨r, e, hran, own', hran.wf, by rw [hran.rl]; exact h.rl, a, by have b' : (runMs m r).blocks.length + _ = _ := b; omega, by omega⟩
theorem zeros_getD (n j : Nat) : (List.replicate n 0).getD j 0 = 0 := by
  rw [List.getD_eq_getElem?_getD, List.getElem?_replicate]
  split <;> rfl
theorem qinv0 (root : Nat) : QInv ms0 root none [] 0 :=
  ⟨⟨fun p h => (by cases h), List.nodup_nil⟩, rfl, ⟨zeros_getD 16 root, rfl⟩, rfl, Nat.le_refl _⟩
theorem qcd_short (k : Nat) (h : k < 6) : (qcd k).length < 60 := by
  rcases (by omega : k = 0 ∨ k = 1 ∨ k = 2 ∨ k = 3 ∨ k = 4 ∨ k = 5) with rfl | rfl | rfl | rfl | rfl | rfl <;> (apply Nat.le_of_ble_eq_true; kernel_rfl)
end Go.Proofs.YtphheopbngdhhaaGreatDoor
