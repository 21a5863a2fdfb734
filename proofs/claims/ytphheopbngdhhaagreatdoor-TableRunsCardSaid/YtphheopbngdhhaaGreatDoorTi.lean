/-
  What holds of a state after some of the things done to its map.
-/
import Derived.Test.YtphheopbngdhhaaGreatDoorTq
namespace Go.Proofs.YtphheopbngdhhaaGreatDoor
set_option maxRecDepth 100000
def tSize (x : Option Tb) : Nat := match x with
  | none => 0
  | some x => x.pairs.length
theorem withoutP_len (key : Nat) (l : Prs) : (withoutP key l).length ≤ l.length := List.length_filter_le _ _
theorem withP_len (key val : Nat) (l : Prs) : (withP key val l).length ≤ l.length + 1 := by
  have h := (withP_perm key val l).length_eq
  have h2 := withoutP_len key l
  rw [List.length_cons] at h
  omega
theorem doesM_none (k key val : Nat) : doesM k none key val = if k = 0 then (some ⟨key, []⟩, 0, 0) else if 6 ≤ k then (none, 4, 0) else (none, 40, 3) := rfl
theorem doesM_some (k : Nat) (t : Tb) (key val : Nat) : doesM k (some t) key val = if k = 0 then (some t, (40 : Int), 4) else if 6 ≤ k then (some t, 4, 0) else if k = 4 then (some t, 0, t.pairs.length) else
    if k = 5 then (if t.pairs.length = 0 then (none, 0, 0) else (some t, 40, 5)) else
    match mget t.pairs key with
    | some v => if k = 1 then (some ⟨t.cap, withP key val t.pairs⟩, 0, 1) else if k = 2 then (some t, 0, v) else (some ⟨t.cap, withoutP key t.pairs⟩, 0, 1)
    | none => if k = 1 then (if t.cap ≤ t.pairs.length then (some t, 40, 2) else (some ⟨t.cap, withP key val t.pairs⟩, 0, 0)) else if k = 2 then (some t, 40, 1) else (some t, 0, 0) := by unfold doesM; rfl
theorem doesM_size (k : Nat) (x : Option Tb) (key val : Nat) : tSize (doesM k x key val).1 ≤ tSize x + 1 := by
  cases x with
  | none =>
    rw [doesM_none]
    repeat' split
    all_goals exact Nat.zero_le _
  | some t =>
    have h1 := withP_len key val t.pairs
    have h2 := withoutP_len key t.pairs
    rw [doesM_some]
    repeat' split
    all_goals (dsimp only [tSize]; omega)
structure QInv (m : Ms) (root : Nat) (x : Option Tb) (own : Nat) (s : Nat × Nat × Nat) (n : Nat) : Prop where
  wf : WfB m.blocks
  rl : m.roots.length = 16
  rep : Rep m.roots m.blocks root own s x
  len : m.blocks.length = own
  n : tSize x ≤ n
theorem Rep.own {R : List Nat} {B : Bks} {root own : Nat} {s : Nat × Nat × Nat} {x : Option Tb} (h : Rep R B root own s x) : own ≤ tSize x + 3 ∧ (x ≠ none → tSize x + 2 ≤ own) := by
  cases x with
  | none => obtain ⟨_, rfl, _⟩ := h; exact ⟨Nat.zero_le _, fun h => absurd rfl h⟩
  | some t =>
    obtain ⟨S, hp, rfl, _, h3, _⟩ := h
    have hl : tSize (some t) = (nodes S.rw).length := by show t.pairs.length = _; rw [h3.length_eq, List.length_map]
    have := hp.own
    rw [hl]
    exact ⟨this.2, fun _ => this.1⟩
theorem QInv.ok {m : Ms} {root : Nat} {x : Option Tb} {own : Nat} {s : Nat × Nat × Nat} {n : Nat} (h : QInv m root x own s n) : MsOk m := ⟨h.rl, h.wf.b⟩
theorem QInv.step {m : Ms} {root : Nat} {x : Option Tb} {own : Nat} {s : Nat × Nat × Nat} {n : Nat} (h : QInv m root x own s n) (hn : n < 59) (k key val : Nat) (hk : k < 6) (hr : root < 16) (ha : key < 18446744073709551616) :
    ∃ r, runQ m k root key val = some r ∧ Ran m.roots m.blocks root own s k key val x r (runMs m r) ∧ ∃ own', QInv (runMs m r) root (doesM k x key val).1 own' (stgM s k x key val) (n + 1) := by
  have h1 := h.rep.own
  have h2 := h.n
  have h3 := h.len
  obtain ⟨r, e, hran⟩ := rep_run m.roots m.blocks h.wf h.rl (by omega) root key val own s hr ha x h.rep (by omega) k hk
  obtain ⟨own', a, b⟩ := hran.rep
  have h4 := doesM_size k x key val
  exact ⟨r, e, hran, own', hran.wf, by rw [hran.rl]; exact h.rl, a, by have b' : (runMs m r).blocks.length + _ = _ := b; omega, by omega⟩
theorem QInv.more {m : Ms} {root : Nat} {x : Option Tb} {own : Nat} {s : Nat × Nat × Nat} {n : Nat} (h : QInv m root x own s n) : QInv m root x own s (n + 1) :=
  ⟨h.wf, h.rl, h.rep, h.len, Nat.le_succ_of_le h.n⟩
theorem zeros_getD (n j : Nat) : (List.replicate n 0).getD j 0 = 0 := by
  rw [List.getD_eq_getElem?_getD, List.getElem?_replicate]
  split <;> rfl
theorem qinv0 (root : Nat) : QInv ms0 root none 0 (2, 0, 0) 0 :=
  ⟨⟨fun p h => (by cases h), List.nodup_nil⟩, rfl, ⟨zeros_getD 16 root, rfl, rfl⟩, rfl, Nat.le_refl _⟩
theorem qcd_short (k : Nat) (h : k < 6) : (qcd k).length < 120 := by
  rcases (by omega : k = 0 ∨ k = 1 ∨ k = 2 ∨ k = 3 ∨ k = 4 ∨ k = 5) with rfl | rfl | rfl | rfl | rfl | rfl <;> (apply Nat.le_of_ble_eq_true; kernel_rfl)
end Go.Proofs.YtphheopbngdhhaaGreatDoor
