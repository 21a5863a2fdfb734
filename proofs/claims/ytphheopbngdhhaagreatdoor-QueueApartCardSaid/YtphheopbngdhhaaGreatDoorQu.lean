/-
  A queue, as it lies in roots and blocks.
-/
import Derived.Test.YtphheopbngdhhaaGreatDoorQs
import Derived.Test.YtphheopbngdhhaaGreatDoorQd
namespace Go.Proofs.YtphheopbngdhhaaGreatDoor
set_option maxRecDepth 100000
section assoc
variable {κ β : Type} [DecidableEq κ]
theorem mget_some_key {k : κ} {x : β} : ∀ {m : List (κ × β)}, mget m k = some x → k ∈ m.map (·.1)
  | [], h => by cases h
  | (a, y) :: m, h => by
    unfold mget at h
    split at h
    · next e => subst e; simp
    · rw [List.map_cons]; exact List.mem_cons_of_mem _ (mget_some_key h)
theorem mput_len_old {k : κ} {x y : β} : ∀ {m : List (κ × β)}, mget m k = some y → (mput m k x).length = m.length ∧ (mput m k x).map (·.1) = m.map (·.1)
  | [], h => by cases h
  | (a, z) :: m, h => by
    unfold mget at h
    unfold mput
    split at h
    · next e => rw [if_pos e]; exact ⟨rfl, rfl⟩
    · next e =>
      rw [if_neg e]
      obtain ⟨h1, h2⟩ := mput_len_old (x := x) h
      exact ⟨by rw [List.length_cons, List.length_cons, h1], by rw [List.map_cons, List.map_cons, h2]⟩
theorem mput_len_new {k : κ} {x : β} : ∀ {m : List (κ × β)}, mget m k = none → mput m k x = m ++ [(k, x)]
  | [], _ => rfl
  | (a, z) :: m, h => by
    unfold mget at h
    unfold mput
    split at h
    · cases h
    · next e => rw [if_neg e, mput_len_new h]; rfl
theorem mget_none_key {k : κ} : ∀ {m : List (κ × β)}, mget m k = none → k ∉ m.map (·.1)
  | [], _ => by simp
  | (a, y) :: m, h => by
    unfold mget at h
    split at h
    · cases h
    · next e =>
      rw [List.map_cons, List.mem_cons]
      exact fun o => o.elim (fun e' => e e'.symm) (mget_none_key h)
theorem mdel_len {k : κ} {y : β} : ∀ {m : List (κ × β)}, mget m k = some y → (mdel m k).length + 1 = m.length
  | [], h => by cases h
  | (a, z) :: m, h => by
    unfold mget at h
    unfold mdel
    split at h
    · next e => rw [if_pos e]; rfl
    · next e => rw [if_neg e, List.length_cons, List.length_cons, mdel_len h]
theorem mdel_subl (k : κ) : ∀ (m : List (κ × β)), ((mdel m k).map (·.1)).Sublist (m.map (·.1))
  | [] => List.Sublist.refl _
  | (a, z) :: m => by
    unfold mdel
    split
    · rw [List.map_cons]; exact List.sublist_cons_self _ _
    · rw [List.map_cons, List.map_cons]; exact (mdel_subl k m).cons_cons _
end assoc
/-- a state that is sound -/
structure Wf (m : Ms) : Prop where
  ok : MsOk m
  nd : (m.blocks.map (·.1)).Nodup
abbrev Bks := List (Int × List Nat)
structure WfB (B : Bks) : Prop where
  b : ∀ p ∈ B, p.2.length = 8
  nd : (B.map (·.1)).Nodup
theorem WfB.put_old {B : Bks} (h : WfB B) {k : Int} {x y : List Nat} (hg : mget B k = some y) (hx : x.length = 8) : WfB (mput B k x) ∧ (mput B k x).length = B.length := by
  obtain ⟨h1, h2⟩ := mput_len_old (x := x) hg
  exact ⟨⟨mput_all (q := fun l : List Nat => l.length = 8) k x hx B h.b, by rw [h2]; exact h.nd⟩, h1⟩
theorem WfB.put_new {B : Bks} (h : WfB B) {k : Int} {x : List Nat} (hg : mget B k = none) (hx : x.length = 8) : WfB (mput B k x) ∧ (mput B k x).length = B.length + 1 := by
  refine ⟨⟨mput_all (q := fun l : List Nat => l.length = 8) k x hx B h.b, ?_⟩, by rw [mput_len_new hg, List.length_append]; rfl⟩
  rw [mput_len_new hg, List.map_append, List.nodup_append]
  refine ⟨h.nd, by simp, fun a ha b hb => ?_⟩
  have : b = k := by simpa using hb
  subst this
  exact fun e => mget_none_key hg (e ▸ ha)
theorem WfB.del {B : Bks} (h : WfB B) {k : Int} {y : List Nat} (hg : mget B k = some y) : WfB (mdel B k) ∧ (mdel B k).length + 1 = B.length :=
  ⟨⟨mdel_all (q := fun l : List Nat => l.length = 8) k B h.b, h.nd.sublist (mdel_subl k B)⟩, mdel_len hg⟩
/-- there is a handle to spare -/
theorem spGo_head (B : Bks) : ∀ (k h : Nat) (out : List Nat), out ≠ [] → ∃ rest, spGo B k h out = out.headD 0 :: rest
  | 0, _, out, ho => by
    cases out with
    | nil => exact absurd rfl ho
    | cons x xs => exact ⟨xs, rfl⟩
  | k + 1, h, out, ho => by
    unfold spGo
    split
    · cases out with
      | nil => exact absurd rfl ho
      | cons x xs =>
        cases mget B (h : Int) with
        | none => exact spGo_head B k (h + 1) (x :: xs ++ [h]) (by simp)
        | some _ => exact spGo_head B k (h + 1) (x :: xs) (by simp)
    · cases out with
      | nil => exact absurd rfl ho
      | cons x xs => exact ⟨xs, rfl⟩
theorem spGo_first (B : Bks) : ∀ (k h sp : Nat), h ≤ sp → sp ≤ 64 → sp < h + k → (∀ j, h ≤ j → j < sp → ∃ y, mget B (j : Int) = some y) → mget B (sp : Int) = none → ∃ rest, spGo B k h [] = sp :: rest
  | 0, h, sp, h1, _, h3, _, _ => by omega
  | k + 1, h, sp, h1, h2, h3, h4, h5 => by
    unfold spGo
    rw [if_pos ⟨by omega, by decide⟩]
    by_cases e : h = sp
    · subst e
      rw [h5]
      exact spGo_head B k (h + 1) [h] (by simp)
    · obtain ⟨y, hy⟩ := h4 h (Nat.le_refl _) (by omega)
      rw [hy]
      exact spGo_first B k (h + 1) sp (by omega) h2 (by omega) (fun j hj => h4 j (by omega)) h5
theorem keys_full (B : Bks) (n : Nat) (h : ∀ j, 1 ≤ j → j ≤ n → ∃ y, mget B (j : Int) = some y) : n ≤ B.length := by
  have hsub : ((List.range n).map fun i => ((i + 1 : Nat) : Int)) ⊆ B.map (·.1) := by
    intro x hx
    obtain ⟨i, hi, rfl⟩ := List.mem_map.1 hx
    obtain ⟨y, hy⟩ := h (i + 1) (by omega) (by have := List.mem_range.1 hi; omega)
    exact mget_some_key hy
  have hnd : ((List.range n).map fun i => ((i + 1 : Nat) : Int)).Nodup := by
    refine List.Pairwise.map _ ?_ (List.nodup_range (n := n))
    intro a b (hab : a ≠ b) e
    omega
  have := hnd.length_le_of_subset hsub
  simpa using this
theorem least_of (p : Nat → Prop) : ∀ n, p n → ∃ k, k ≤ n ∧ p k ∧ ∀ j, j < k → ¬p j := by
  intro n
  induction n using Nat.strongRecOn with
  | _ n ih =>
    intro hn
    by_cases h : ∃ j, j < n ∧ p j
    · obtain ⟨j, hj, hp⟩ := h
      obtain ⟨k, hk, h1, h2⟩ := ih j hj hp
      exact ⟨k, by omega, h1, h2⟩
    · exact ⟨n, Nat.le_refl _, hn, fun j hj hp => h ⟨j, hj, hp⟩⟩
theorem spare_some (B : Bks) (hl : B.length < 64) : ∃ sp rest, spareM B = sp :: rest ∧ mget B (sp : Int) = none ∧ sp ≠ 0 ∧ sp ≤ 64 := by
  have h1 : ∃ j : Nat, 1 ≤ j ∧ j ≤ 64 ∧ mget B (j : Int) = none := by
    refine Classical.byContradiction fun hno => ?_
    have := keys_full B 64 fun j hj1 hj2 => by
      cases hg : mget B (j : Int) with
      | none => exact absurd ⟨j, hj1, hj2, hg⟩ hno
      | some y => exact ⟨y, rfl⟩
    omega
  obtain ⟨j, hj1, hj2, hj3⟩ := h1
  obtain ⟨k, hk1, ⟨hk2, hk3⟩, hk4⟩ := least_of (fun k : Nat => 1 ≤ k ∧ mget B (k : Int) = none) j ⟨hj1, hj3⟩
  obtain ⟨rest, hr⟩ := spGo_first B 65 1 k hk2 (by omega) (by omega) (fun i hi1 hi2 => by
    cases hg : mget B (i : Int) with
    | none => exact absurd ⟨hi1, hg⟩ (hk4 i hi2)
    | some y => exact ⟨y, rfl⟩) hk3
  exact ⟨k, rest, hr, hk3, by omega, by omega⟩
end Go.Proofs.YtphheopbngdhhaaGreatDoor
