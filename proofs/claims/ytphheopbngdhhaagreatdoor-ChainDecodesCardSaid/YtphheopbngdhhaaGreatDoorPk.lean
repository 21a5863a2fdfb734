/-
  The set that a root leads to, by the document's state.
-/
import Derived.Test.YtphheopbngdhhaaGreatDoorP0
import Derived.Test.YtphheopbngdhhaaGreatDoorCg
namespace Go.Proofs.YtphheopbngdhhaaGreatDoor
/-- numbers rise, the first k of them -/
def riseN (l : List Nat) : Nat → Bool
  | 0 => true
  | k + 1 => riseN l k && (decide (k = 0) || decide (l.getD (k - 1) 0 < l.getD k 0))
theorem riseN_app (l t : List Nat) : ∀ k, k ≤ l.length → riseN (l ++ t) k = riseN l k
  | 0, _ => rfl
  | k + 1, h => by
    show (riseN (l ++ t) k && (decide (k = 0) || decide ((l ++ t).getD (k - 1) 0 < (l ++ t).getD k 0))) = (riseN l k && (decide (k = 0) || decide (l.getD (k - 1) 0 < l.getD k 0)))
    rw [riseN_app l t k (by omega)]
    rw [List.getD_eq_getElem?_getD, List.getD_eq_getElem?_getD, List.getElem?_append_left (by omega), List.getElem?_append_left (by omega), ← List.getD_eq_getElem?_getD, ← List.getD_eq_getElem?_getD]
theorem riseN_mono (l : List Nat) : ∀ j k, riseN l (k + j) = true → riseN l k = true
  | 0, _, h => h
  | j + 1, k, h => by
    have h : (riseN l (k + j) && _) = true := h
    rw [Bool.and_eq_true] at h
    exact riseN_mono l j k h.1
def rise (l : List Nat) : Bool := riseN l l.length
theorem rise_pre {l t : List Nat} (h : rise (l ++ t) = true) : rise l = true := by
  unfold rise at h ⊢
  rw [List.length_append] at h
  rw [← riseN_app l t l.length (Nat.le_refl _)]
  exact riseN_mono _ _ _ h
theorem last_at (l : List Nat) : l.getLastD 0 = l.getD (l.length - 1) 0 := by
  rw [List.getLastD_eq_getLast?, List.getLast?_eq_getElem?, List.getD_eq_getElem?_getD]
theorem rise_snoc (l : List Nat) (x : Nat) : rise (l ++ [x]) = (rise l && (decide (l = []) || decide (l.getLastD 0 < x))) := by
  unfold rise
  rw [List.length_append, List.length_singleton]
  show (riseN (l ++ [x]) l.length && (decide (l.length = 0) || decide ((l ++ [x]).getD (l.length - 1) 0 < (l ++ [x]).getD l.length 0))) = _
  rw [riseN_app l [x] l.length (Nat.le_refl _), last_at]
  have e1 : (l ++ [x]).getD l.length 0 = x := by
    rw [List.getD_eq_getElem?_getD, List.getElem?_append_right (Nat.le_refl _), Nat.sub_self]; rfl
  rw [e1]
  cases l with
  | nil => rfl
  | cons y ys =>
    have e2 : (y :: ys ++ [x]).getD ((y :: ys).length - 1) 0 = (y :: ys).getD ((y :: ys).length - 1) 0 := by
      rw [List.getD_eq_getElem?_getD, List.getD_eq_getElem?_getD, List.getElem?_append_left (by rw [List.length_cons]; omega)]
    rw [e2]
    rfl
theorem chGo_pre (bs : List (Nat × List Nat)) : ∀ (k h : Nat) (out : List Nat), ∃ t, (chGo bs k h out).1 = out ++ t
  | 0, _, out => ⟨[], by rw [List.append_nil]; rfl⟩
  | k + 1, h, out => by
    unfold chGo
    split
    · exact ⟨[], by rw [List.append_nil]⟩
    · split
      · exact ⟨[], by rw [List.append_nil]⟩
      · split
        · exact ⟨[], by rw [List.append_nil]⟩
        · next w _ _ =>
          obtain ⟨t, ht⟩ := chGo_pre bs k (w.getD 1 0) (out ++ [h])
          exact ⟨h :: t, by rw [ht]; simp⟩
def docE (bs : List (Nat × List Nat)) (b : List Nat) : Option Qu × Int :=
  if ((chGo bs 66 (b.getD 1 0) []).2 && rise ((chGo bs 66 (b.getD 1 0) []).1.map (valB bs))) = true ∧ (chGo bs 66 (b.getD 1 0) []).1.length = b.getD 2 0 ∧ b.getD 2 0 ≤ b.getD 3 0 then (some ⟨b.getD 3 0, (chGo bs 66 (b.getD 1 0) []).1.map (valB bs)⟩, 0) else (none, 33)
def docM (roots : List Nat) (bs : List (Nat × List Nat)) (root : Int) : Option Qu × Int :=
  if rootOf roots root = 0 then (none, 4) else match lkB bs (rootOf roots root) with
  | none => (none, 44)
  | some b => if b.getD 0 0 = 2 then docE bs b else (none, 32)
theorem dec_ch {m : List (Int × List Nat)} {bs : List (Nat × List Nat)} (hb : ∀ h : Nat, mget m (h : Int) = lkB bs h) : ∀ (k at_ : Nat) (hs : List Nat), k + hs.length = 66 → hs.length ≤ 64 → rise (hs.map (valB bs)) = true →
    (∃ hs', decGo m k at_ (hs.map (valB bs)) = some (hs'.map (valB bs)) ∧ chGo bs k at_ hs = (hs', true) ∧ rise (hs'.map (valB bs)) = true) ∨
    (decGo m k at_ (hs.map (valB bs)) = none ∧ ((chGo bs k at_ hs).2 && rise ((chGo bs k at_ hs).1.map (valB bs))) = false)
  | 0, at_, hs, hk, hl, _ => by omega
  | k + 1, at_, hs, hk, hl, hr => by
    have e1 : decGo m (k + 1) at_ (hs.map (valB bs)) = if at_ = 0 then some (hs.map (valB bs)) else match mget m (at_ : Int) with | none => none | some node => if 64 ≤ (hs.map (valB bs)).length ∨ (hs.map (valB bs) ≠ [] ∧ node.getD 0 0 ≤ (hs.map (valB bs)).getLastD 0) then none else decGo m k (node.getD 1 0) (hs.map (valB bs) ++ [node.getD 0 0]) := rfl
    have e2 : chGo bs (k + 1) at_ hs = if at_ = 0 then (hs, true) else match lkB bs at_ with | none => (hs, false) | some w => if hs.length = 64 then (hs, false) else chGo bs k (w.getD 1 0) (hs ++ [at_]) := rfl
    rw [e1, e2, hb at_]
    by_cases h0 : at_ = 0
    · rw [if_pos h0, if_pos h0]
      exact .inl ⟨hs, rfl, rfl, hr⟩
    rw [if_neg h0, if_neg h0]
    cases hg : lkB bs at_ with
    | none => exact .inr ⟨rfl, rfl⟩
    | some w =>
      dsimp only
      rw [List.length_map]
      have hv : valB bs at_ = w.getD 0 0 := by unfold valB; rw [hg]; rfl
      by_cases h64 : hs.length = 64
      · rw [if_pos h64, if_pos (.inl (by omega))]
        exact .inr ⟨rfl, rfl⟩
      rw [if_neg h64]
      have hsn := rise_snoc (hs.map (valB bs)) (w.getD 0 0)
      rw [hr, Bool.true_and] at hsn
      have hmp : (hs ++ [at_]).map (valB bs) = hs.map (valB bs) ++ [w.getD 0 0] := by rw [List.map_append, List.map_cons, List.map_nil, hv]
      by_cases hc : hs.map (valB bs) ≠ [] ∧ w.getD 0 0 ≤ (hs.map (valB bs)).getLastD 0
      · rw [if_pos (.inr hc)]
        refine .inr ⟨rfl, ?_⟩
        obtain ⟨t, ht⟩ := chGo_pre bs k (w.getD 1 0) (hs ++ [at_])
        rw [ht, List.map_append, hmp]
        cases hq : rise (hs.map (valB bs) ++ [w.getD 0 0] ++ t.map (valB bs)) with
        | false => rw [Bool.and_false]
        | true =>
          have := rise_pre hq
          rw [hsn, decide_eq_false hc.1, decide_eq_false (by omega)] at this
          cases this
      · rw [if_neg (fun h => h.elim (fun h => by omega) hc)]
        have hr2 : rise (hs.map (valB bs) ++ [w.getD 0 0]) = true := by
          rw [hsn]
          by_cases hn : hs.map (valB bs) = []
          · rw [decide_eq_true hn]; rfl
          · rw [decide_eq_true (p := _ < _) (by have : ¬ w.getD 0 0 ≤ (hs.map (valB bs)).getLastD 0 := fun h => hc ⟨hn, h⟩; omega), Bool.or_true]
        have ih := dec_ch hb k (w.getD 1 0) (hs ++ [at_]) (by rw [List.length_append, List.length_singleton]; omega) (by rw [List.length_append, List.length_singleton]; omega) (by rw [hmp]; exact hr2)
        rw [hmp] at ih
        exact ih
theorem decE_docE {m : List (Int × List Nat)} {bs : List (Nat × List Nat)} (hb : ∀ h : Nat, mget m (h : Int) = lkB bs h) (b : List Nat) : decE m b = docE bs b := by
  have h := dec_ch hb 66 (b.getD 1 0) [] rfl (by decide) rfl
  unfold decE docE
  rw [show ([] : List Nat).map (valB bs) = [] from rfl] at h
  rcases h with ⟨hs, h1, h2, h3⟩ | ⟨h1, h2⟩
  · rw [h1, h2]
    dsimp only
    rw [h3, List.length_map]
    by_cases c : hs.length = b.getD 2 0 ∧ b.getD 2 0 ≤ b.getD 3 0
    · rw [if_pos c, if_pos ⟨rfl, c⟩]
    · rw [if_neg c, if_neg (fun x => c x.2)]
  · rw [h1, h2]
    dsimp only
    rw [if_neg]
    rintro ⟨x1, _⟩
    cases x1
theorem decM_docM {m : Ms} {roots : List Nat} {bs : List (Nat × List Nat)} (h : RelX m roots bs) (root : Int) : decM m root = docM roots bs root := by
  unfold decM docM
  rw [h.r, h.b]
  split
  · rfl
  · cases lkB bs (rootOf roots root) with
    | none => rfl
    | some b =>
      dsimp only
      rw [decE_docE h.b]
end Go.Proofs.YtphheopbngdhhaaGreatDoor
