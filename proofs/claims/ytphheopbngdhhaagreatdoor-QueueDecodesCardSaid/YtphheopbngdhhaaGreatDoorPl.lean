/-
  The queue that a root leads to, by the document's state.
-/
import Derived.Test.YtphheopbngdhhaaGreatDoorP0
import Derived.Test.YtphheopbngdhhaaGreatDoorQg
namespace Go.Proofs.YtphheopbngdhhaaGreatDoor
def docQ (bs : List (Nat × List Nat)) (b : List Nat) : Option Qu × Int :=
  if (chGo bs 66 (b.getD 1 0) []).2 = true ∧ (chGo bs 66 (b.getD 1 0) []).1.length = b.getD 3 0 ∧ (chGo bs 66 (b.getD 1 0) []).1.getLastD 0 = b.getD 2 0 ∧ b.getD 3 0 ≤ b.getD 4 0 then (some ⟨b.getD 4 0, (chGo bs 66 (b.getD 1 0) []).1.map (valB bs)⟩, 0) else (none, 33)
def docM (roots : List Nat) (bs : List (Nat × List Nat)) (root : Int) : Option Qu × Int :=
  if rootOf roots root = 0 then (none, 4) else match lkB bs (rootOf roots root) with
  | none => (none, 44)
  | some b => if b.getD 0 0 = 1 then docQ bs b else (none, 32)
theorem dec_ch {m : List (Int × List Nat)} {bs : List (Nat × List Nat)} (hb : ∀ h : Nat, mget m (h : Int) = lkB bs h) (b : List Nat) : ∀ (k at_ : Nat) (hs : List Nat), k + hs.length = 66 → hs.length ≤ 64 →
    (∃ hs', decGo m b k at_ (hs.getLastD 0) (hs.map (valB bs)) = some (hs'.map (valB bs), hs'.getLastD 0) ∧ chGo bs k at_ hs = (hs', true)) ∨
    (decGo m b k at_ (hs.getLastD 0) (hs.map (valB bs)) = none ∧ ((chGo bs k at_ hs).2 = false ∨ b.getD 3 0 < (chGo bs k at_ hs).1.length))
  | 0, at_, hs, hk, hl => by omega
  | k + 1, at_, hs, hk, hl => by
    show (∃ hs', (if at_ = 0 then some (hs.map (valB bs), hs.getLastD 0) else match mget m (at_ : Int) with | none => none | some node => if b.getD 3 0 ≤ (hs.map (valB bs)).length ∨ 64 ≤ (hs.map (valB bs)).length then none else decGo m b k (node.getD 1 0) at_ (hs.map (valB bs) ++ [node.getD 0 0])) = _ ∧ (if at_ = 0 then (hs, true) else match lkB bs at_ with | none => (hs, false) | some w => if hs.length = 64 then (hs, false) else chGo bs k (w.getD 1 0) (hs ++ [at_])) = _) ∨
      ((if at_ = 0 then some (hs.map (valB bs), hs.getLastD 0) else match mget m (at_ : Int) with | none => none | some node => if b.getD 3 0 ≤ (hs.map (valB bs)).length ∨ 64 ≤ (hs.map (valB bs)).length then none else decGo m b k (node.getD 1 0) at_ (hs.map (valB bs) ++ [node.getD 0 0])) = none ∧ (((if at_ = 0 then (hs, true) else match lkB bs at_ with | none => (hs, false) | some w => if hs.length = 64 then (hs, false) else chGo bs k (w.getD 1 0) (hs ++ [at_])) : List Nat × Bool).2 = false ∨ b.getD 3 0 < ((if at_ = 0 then (hs, true) else match lkB bs at_ with | none => (hs, false) | some w => if hs.length = 64 then (hs, false) else chGo bs k (w.getD 1 0) (hs ++ [at_])) : List Nat × Bool).1.length))
    rw [hb at_]
    by_cases h0 : at_ = 0
    · simp only [if_pos h0]
      exact .inl ⟨hs, rfl, rfl⟩
    simp only [if_neg h0]
    cases hg : lkB bs at_ with
    | none => exact .inr ⟨rfl, .inl rfl⟩
    | some w =>
      dsimp only
      rw [List.length_map]
      by_cases h64 : hs.length = 64
      · rw [if_pos h64, if_pos (.inr (by omega))]
        exact .inr ⟨rfl, .inl rfl⟩
      rw [if_neg h64]
      by_cases h3 : b.getD 3 0 ≤ hs.length
      · rw [if_pos (.inl h3)]
        refine .inr ⟨rfl, .inr ?_⟩
        have := chGo_len bs k (w.getD 1 0) (hs ++ [at_])
        rw [List.length_append, List.length_singleton] at this
        omega
      · rw [if_neg (by omega)]
        have ih := dec_ch hb b k (w.getD 1 0) (hs ++ [at_]) (by rw [List.length_append, List.length_singleton]; omega) (by rw [List.length_append, List.length_singleton]; omega)
        have hv : valB bs at_ = w.getD 0 0 := by unfold valB; rw [hg]; rfl
        rw [List.map_append, List.map_cons, List.map_nil, hv, show (hs ++ [at_]).getLastD 0 = at_ by simp] at ih
        exact ih
theorem decE_docQ {m : List (Int × List Nat)} {bs : List (Nat × List Nat)} (hb : ∀ h : Nat, mget m (h : Int) = lkB bs h) (b : List Nat) : decE m b = docQ bs b := by
  have h := dec_ch hb b 66 (b.getD 1 0) [] rfl (by decide)
  unfold decE docQ
  rw [show ([] : List Nat).getLastD 0 = 0 from rfl, show ([] : List Nat).map (valB bs) = [] from rfl] at h
  rcases h with ⟨hs, h1, h2⟩ | ⟨h1, h2⟩
  · rw [h1, h2]
    dsimp only
    rw [List.length_map]
    by_cases c : hs.getLastD 0 = b.getD 2 0 ∧ hs.length = b.getD 3 0 ∧ b.getD 3 0 ≤ b.getD 4 0
    · rw [if_pos c, if_pos ⟨rfl, c.2.1, c.1, c.2.2⟩]
    · rw [if_neg c, if_neg (fun x => c ⟨x.2.2.1, x.2.1, x.2.2.2⟩)]
  · rw [h1]
    dsimp only
    rw [if_neg]
    rintro ⟨x1, x2, _, _⟩
    rcases h2 with h2 | h2
    · rw [h2] at x1; cases x1
    · omega
theorem decM_docM {m : Ms} {roots : List Nat} {bs : List (Nat × List Nat)} (h : RelX m roots bs) (root : Int) : decM m root = docM roots bs root := by
  unfold decM docM
  rw [h.r, h.b]
  split
  · rfl
  · cases lkB bs (rootOf roots root) with
    | none => rfl
    | some b =>
      dsimp only
      rw [decE_docQ h.b]
end Go.Proofs.YtphheopbngdhhaaGreatDoor
