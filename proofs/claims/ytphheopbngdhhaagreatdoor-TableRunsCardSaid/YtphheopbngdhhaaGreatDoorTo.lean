/-
  Handles to spare.
-/
import Derived.Test.YtphheopbngdhhaaGreatDoorTb
import Derived.Test.YtphheopbngdhhaaGreatDoorTu
namespace Go.Proofs.YtphheopbngdhhaaGreatDoor
set_option maxRecDepth 100000
/-- there is a handle to spare -/
theorem spGo_head (B : Bks) : ∀ (k h : Nat) (out : List Nat), out ≠ [] → ∃ rest, spGo B k h out = out.headD 0 :: rest
  | 0, _, out, ho => by
    cases out with
    | nil => exact absurd rfl ho
    | cons x xs => exact ⟨xs, rfl⟩
  | k + 1, h, out, ho => by
    unfold spGo
    split
    · cases out with
      | nil => exact absurd rfl ho
      | cons x xs =>
        cases mget B (h : Int) with
        | none => exact spGo_head B k (h + 1) (x :: xs ++ [h]) (by simp)
        | some _ => exact spGo_head B k (h + 1) (x :: xs) (by simp)
    · cases out with
      | nil => exact absurd rfl ho
      | cons x xs => exact ⟨xs, rfl⟩
theorem spGo_first (B : Bks) : ∀ (k h sp : Nat), h ≤ sp → sp ≤ 64 → sp < h + k → (∀ j, h ≤ j → j < sp → ∃ y, mget B (j : Int) = some y) → mget B (sp : Int) = none → ∃ rest, spGo B k h [] = sp :: rest
  | 0, h, sp, h1, _, h3, _, _ => by omega
  | k + 1, h, sp, h1, h2, h3, h4, h5 => by
    unfold spGo
    rw [if_pos ⟨by omega, by decide⟩]
    by_cases e : h = sp
    · subst e
      rw [h5]
      exact spGo_head B k (h + 1) [h] (by simp)
    · obtain ⟨y, hy⟩ := h4 h (Nat.le_refl _) (by omega)
      rw [hy]
      exact spGo_first B k (h + 1) sp (by omega) h2 (by omega) (fun j hj => h4 j (by omega)) h5
theorem spare_some (B : Bks) (hl : B.length < 64) : ∃ sp rest, spareM B = sp :: rest ∧ mget B (sp : Int) = none ∧ sp ≠ 0 ∧ sp ≤ 64 := by
  have h1 : ∃ j : Nat, 1 ≤ j ∧ j ≤ 64 ∧ mget B (j : Int) = none := by
    refine Classical.byContradiction fun hno => ?_
    have := keys_full B 64 fun j hj1 hj2 => by
      cases hg : mget B (j : Int) with
      | none => exact absurd ⟨j, hj1, hj2, hg⟩ hno
      | some y => exact ⟨y, rfl⟩
    omega
  obtain ⟨j, hj1, hj2, hj3⟩ := h1
  obtain ⟨k, hk1, ⟨hk2, hk3⟩, hk4⟩ := least_of (fun k : Nat => 1 ≤ k ∧ mget B (k : Int) = none) j ⟨hj1, hj3⟩
  obtain ⟨rest, hr⟩ := spGo_first B 65 1 k hk2 (by omega) (by omega) (fun i hi1 hi2 => by
    cases hg : mget B (i : Int) with
    | none => exact absurd ⟨hi1, hg⟩ (hk4 i hi2)
    | some y => exact ⟨y, rfl⟩) hk3
  exact ⟨k, rest, hr, hk3, by omega, by omega⟩
/-- there are two handles to spare -/
theorem spGo_head2 (B : Bks) : ∀ (k h : Nat) (out : List Nat) (x y : Nat) (r : List Nat), out = x :: y :: r → ∃ rest, spGo B k h out = x :: y :: rest
  | 0, _, out, x, y, r, ho => ⟨r, by subst ho; rfl⟩
  | k + 1, h, out, x, y, r, ho => by
    subst ho
    unfold spGo
    split
    · cases mget B (h : Int) with
      | none => exact spGo_head2 B k (h + 1) _ x y (r ++ [h]) rfl
      | some _ => exact spGo_head2 B k (h + 1) _ x y r rfl
    · exact ⟨r, rfl⟩
theorem spGo_second (B : Bks) (x : Nat) : ∀ (k h sp : Nat), h ≤ sp → sp ≤ 64 → sp < h + k → (∀ j, h ≤ j → j < sp → ∃ y, mget B (j : Int) = some y) → mget B (sp : Int) = none → ∃ rest, spGo B k h [x] = x :: sp :: rest
  | 0, h, sp, h1, _, h3, _, _ => by omega
  | k + 1, h, sp, h1, h2, h3, h4, h5 => by
    unfold spGo
    rw [if_pos ⟨by omega, by simp⟩]
    by_cases e : h = sp
    · subst e
      rw [h5]
      exact spGo_head2 B k (h + 1) _ x h [] rfl
    · obtain ⟨y, hy⟩ := h4 h (Nat.le_refl _) (by omega)
      rw [hy]
      exact spGo_second B x k (h + 1) sp (by omega) h2 (by omega) (fun j hj => h4 j (by omega)) h5
theorem spGo_two (B : Bks) : ∀ (k h sp sq : Nat), h ≤ sp → sp < sq → sq ≤ 64 → sq < h + k → (∀ j, h ≤ j → j < sp → ∃ y, mget B (j : Int) = some y) → mget B (sp : Int) = none → (∀ j, sp < j → j < sq → ∃ y, mget B (j : Int) = some y) → mget B (sq : Int) = none → ∃ rest, spGo B k h [] = sp :: sq :: rest
  | 0, h, sp, sq, h1, _, _, h3, _, _, _, _ => by omega
  | k + 1, h, sp, sq, h1, h2, h3, h4, h5, h6, h7, h8 => by
    unfold spGo
    rw [if_pos ⟨by omega, by decide⟩]
    by_cases e : h = sp
    · subst e
      rw [h6]
      exact spGo_second B h k (h + 1) sq (by omega) h3 (by omega) (fun j hj => h7 j (by omega)) h8
    · obtain ⟨y, hy⟩ := h5 h (Nat.le_refl _) (by omega)
      rw [hy]
      exact spGo_two B k (h + 1) sp sq (by omega) h2 h3 (by omega) (fun j hj => h5 j (by omega)) h6 h7 h8
theorem spare_two (B : Bks) (hw : WfB B) (hl : B.length < 63) : ∃ sp sq rest, spareM B = sp :: sq :: rest ∧ mget B (sp : Int) = none ∧ sp ≠ 0 ∧ sp ≤ 64 ∧ mget B (sq : Int) = none ∧ sq ≠ 0 ∧ sq ≤ 64 ∧ sp ≠ sq := by
  have ex : ∀ (C : Bks), C.length < 64 → ∃ k : Nat, (1 ≤ k ∧ mget C (k : Int) = none) ∧ k ≤ 64 ∧ ∀ j, 1 ≤ j → j < k → ∃ y, mget C (j : Int) = some y := by
    intro C hC
    have h1 : ∃ j : Nat, 1 ≤ j ∧ j ≤ 64 ∧ mget C (j : Int) = none := by
      refine Classical.byContradiction fun hno => ?_
      have := keys_full C 64 fun j hj1 hj2 => by
        cases hg : mget C (j : Int) with
        | none => exact absurd ⟨j, hj1, hj2, hg⟩ hno
        | some y => exact ⟨y, rfl⟩
      omega
    obtain ⟨j, hj1, hj2, hj3⟩ := h1
    obtain ⟨k, hk1, hk2, hk4⟩ := least_of (fun k : Nat => 1 ≤ k ∧ mget C (k : Int) = none) j ⟨hj1, hj3⟩
    refine ⟨k, hk2, by omega, fun i hi1 hi2 => ?_⟩
    cases hg : mget C (i : Int) with
    | none => exact absurd ⟨hi1, hg⟩ (hk4 i hi2)
    | some y => exact ⟨y, rfl⟩
  obtain ⟨sp, ⟨a1, a2⟩, a3, a4⟩ := ex B (by omega)
  have hl2 := (hw.put_new (k := (sp : Int)) (x := [0, 0, 0, 0, 0, 0, 0, 0]) a2 rfl).2
  obtain ⟨sq, ⟨b1, b2⟩, b3, b4⟩ := ex (mput B (sp : Int) [0, 0, 0, 0, 0, 0, 0, 0]) (by omega)
  have hne : sp ≠ sq := fun e => by subst e; rw [mget_mput, if_pos rfl] at b2; cases b2
  have b2' : mget B (sq : Int) = none := by rw [mget_mput, if_neg (by omega)] at b2; exact b2
  have hlt : sp < sq := by
    rcases Nat.lt_or_ge sq sp with h | h
    · obtain ⟨y, hy⟩ := a4 sq b1 h
      rw [b2'] at hy; cases hy
    · omega
  obtain ⟨rest, hr⟩ := spGo_two B 65 1 sp sq a1 hlt b3 (by omega) a4 a2 (fun j h1 h2 => by
    obtain ⟨y, hy⟩ := b4 j (by omega) h2
    rw [mget_mput, if_neg (by omega)] at hy
    exact ⟨y, hy⟩) b2'
  exact ⟨sp, sq, rest, hr, a2, by omega, a3, b2', by omega, b3, hne⟩
end Go.Proofs.YtphheopbngdhhaaGreatDoor
