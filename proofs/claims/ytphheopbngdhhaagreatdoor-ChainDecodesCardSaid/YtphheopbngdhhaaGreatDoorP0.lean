/-
  The document's state of a run (package tumblerref06) as lists: what is found, what is put.
-/
import Derived.Test.YtphheopbngdhhaaGreatDoorMo
namespace Go.Proofs.YtphheopbngdhhaaGreatDoor
def lkB : List (Nat × List Nat) → Nat → Option (List Nat)
  | [], _ => none
  | (a, w) :: r, h => if a = h then some w else lkB r h
def withB : List (Nat × List Nat) → Nat → List Nat → Bool → List (Nat × List Nat)
  | [], h, w, d => if d = true then [] else [(h, w)]
  | (a, v) :: r, h, w, d => (if d = false ∧ h ≤ a then [(h, w)] else []) ++ ((if a = h then [] else [(a, v)]) ++ withB r h w (d || decide (h ≤ a)))
theorem lk_app : ∀ (xs ys : List (Nat × List Nat)) (k : Nat), lkB (xs ++ ys) k = (lkB xs k).or (lkB ys k)
  | [], _, _ => rfl
  | (a, v) :: xs, ys, k => by
    show (if a = k then some v else lkB (xs ++ ys) k) = (if a = k then some v else lkB xs k).or (lkB ys k)
    split
    · rfl
    · exact lk_app xs ys k
theorem lk_with : ∀ (bs : List (Nat × List Nat)) (h : Nat) (w : List Nat) (d : Bool) (k : Nat), lkB (withB bs h w d) k = if k = h then (if d = true then none else some w) else lkB bs k
  | [], h, w, d, k => by
    show lkB (if d = true then [] else [(h, w)]) k = _
    cases d
    · show (if h = k then some w else none) = if k = h then some w else none
      by_cases e : k = h
      · rw [if_pos e, if_pos e.symm]
      · rw [if_neg e, if_neg (fun x => e x.symm)]
    · show none = if k = h then none else none
      split <;> rfl
  | (a, v) :: bs, h, w, d, k => by
    have ih := lk_with bs h w (d || decide (h ≤ a)) k
    show lkB ((if d = false ∧ h ≤ a then [(h, w)] else []) ++ ((if a = h then [] else [(a, v)]) ++ withB bs h w (d || decide (h ≤ a)))) k = if k = h then (if d = true then none else some w) else (if a = k then some v else lkB bs k)
    rw [lk_app, lk_app, ih]
    by_cases e : k = h
    · subst e
      rw [if_pos rfl, if_pos rfl]
      by_cases c : d = false ∧ k ≤ a
      · rw [if_pos c]
        obtain ⟨rfl, c⟩ := c
        show (if k = k then some w else none).or _ = _
        rw [if_pos rfl]; rfl
      · rw [if_neg c]
        have hd : (d || decide (k ≤ a)) = d := by
          cases d
          · have : ¬ k ≤ a := fun h => c ⟨rfl, h⟩
            simp [this]
          · rfl
        rw [hd]
        by_cases ea : a = k
        · rw [if_pos ea]; rfl
        · rw [if_neg ea]
          show Option.or none ((if a = k then some v else none).or _) = _
          rw [if_neg ea]; rfl
    · rw [if_neg e, if_neg e]
      have h1 : lkB (if d = false ∧ h ≤ a then [(h, w)] else []) k = none := by
        split
        · show (if h = k then some w else none) = none
          rw [if_neg (fun x => e x.symm)]
        · rfl
      rw [h1]
      by_cases ea : a = h
      · rw [if_pos ea, if_neg (by omega)]; rfl
      · rw [if_neg ea]
        show Option.or none ((if a = k then some v else none).or (lkB bs k)) = _
        split <;> rfl
theorem with_len : ∀ (bs : List (Nat × List Nat)) (h : Nat) (w : List Nat) (d : Bool), (withB bs h w d).length ≤ bs.length + (if d = true then 0 else 1)
  | [], h, w, d => by cases d <;> (unfold withB; simp)
  | (a, v) :: bs, h, w, d => by
    have ih := with_len bs h w (d || decide (h ≤ a))
    show ((if d = false ∧ h ≤ a then [(h, w)] else []) ++ ((if a = h then [] else [(a, v)]) ++ withB bs h w (d || decide (h ≤ a)))).length ≤ bs.length + 1 + _
    rw [List.length_append, List.length_append]
    have h1 : (if a = h then ([] : List (Nat × List Nat)) else [(a, v)]).length ≤ 1 := by split <;> simp
    by_cases c : d = false ∧ h ≤ a
    · rw [if_pos c]
      obtain ⟨rfl, c⟩ := c
      rw [show (false || decide (h ≤ a)) = true by simp [c]] at ih ⊢
      simp only [List.length_singleton] at *
      simp at ih ⊢
      omega
    · rw [if_neg c]
      have hd : (d || decide (h ≤ a)) = d := by
        cases d
        · have : ¬ h ≤ a := fun h => c ⟨rfl, h⟩
          simp [this]
        · rfl
      rw [hd] at ih ⊢
      simp only [List.length_nil]
      omega
theorem with_all {q : Nat × List Nat → Prop} : ∀ (bs : List (Nat × List Nat)) (h : Nat) (w : List Nat) (d : Bool), (∀ p ∈ bs, q p) → q (h, w) → ∀ p ∈ withB bs h w d, q p
  | [], h, w, d, _, hq, p, hp => by
    have hp : p ∈ (if d = true then [] else [(h, w)]) := hp
    cases d
    · have := List.mem_singleton.1 hp; subst this; exact hq
    · cases hp
  | (a, v) :: bs, h, w, d, ha, hq, p, hp => by
    have hp : p ∈ (if d = false ∧ h ≤ a then [(h, w)] else []) ++ ((if a = h then [] else [(a, v)]) ++ withB bs h w (d || decide (h ≤ a))) := hp
    rcases List.mem_append.1 hp with hp | hp
    · split at hp
      · have := List.mem_singleton.1 hp; subst this; exact hq
      · cases hp
    rcases List.mem_append.1 hp with hp | hp
    · split at hp
      · cases hp
      · have := List.mem_singleton.1 hp; subst this; exact ha _ (List.mem_cons_self ..)
    · exact with_all bs h w _ (fun p hp => ha p (List.mem_cons_of_mem _ hp)) hq p hp
/-- the place of a block -/
def findX (h : Nat) : List (Nat × List Nat) → Nat → Int
  | [], _ => -1
  | (a, _) :: r, k => if a = h then (k : Int) else findX h r (k + 1)
theorem find_some {h : Nat} : ∀ {bs : List (Nat × List Nat)} {w : List Nat} (k : Nat), lkB bs h = some w → ∃ i, ∃ hi : i < bs.length, findX h bs k = ((k + i : Nat) : Int) ∧ bs[i] = (h, w)
  | [], _, _, e => by cases e
  | (a, v) :: bs, w, k, e => by
    replace e : (if a = h then some v else lkB bs h) = some w := e
    show ∃ i, ∃ hi : i < bs.length + 1, (if a = h then (k : Int) else findX h bs (k + 1)) = _ ∧ _
    by_cases c : a = h
    · rw [if_pos c] at e
      injection e with e
      subst c e
      exact ⟨0, Nat.succ_pos _, by rw [if_pos rfl]; rfl, rfl⟩
    · rw [if_neg c] at e
      obtain ⟨i, hi, h1, h2⟩ := find_some (k + 1) e
      exact ⟨i + 1, by omega, by rw [if_neg c, h1]; congr 1; omega, h2⟩
theorem find_none {h : Nat} : ∀ {bs : List (Nat × List Nat)} (k : Nat), lkB bs h = none → findX h bs k = -1
  | [], _, _ => rfl
  | (a, v) :: bs, k, e => by
    have e : (if a = h then some v else lkB bs h) = none := e
    show (if a = h then (k : Int) else findX h bs (k + 1)) = -1
    by_cases c : a = h
    · rw [if_pos c] at e; cases e
    · rw [if_neg c] at e ⊢; exact find_none (k + 1) e
theorem lk_mem {h : Nat} : ∀ {bs : List (Nat × List Nat)} {w : List Nat}, lkB bs h = some w → (h, w) ∈ bs
  | (a, v) :: bs, w, e => by
    replace e : (if a = h then some v else lkB bs h) = some w := e
    by_cases c : a = h
    · rw [if_pos c] at e
      injection e with e1
      subst c e1
      exact List.mem_cons_self ..
    · rw [if_neg c] at e
      exact List.mem_cons_of_mem _ (lk_mem e)
/-- the blocks of a chain -/
def chGo (bs : List (Nat × List Nat)) : Nat → Nat → List Nat → List Nat × Bool
  | 0, _, out => (out, false)
  | k + 1, h, out => if h = 0 then (out, true) else match lkB bs h with
    | none => (out, false)
    | some w => if out.length = 64 then (out, false) else chGo bs k (w.getD 1 0) (out ++ [h])
theorem chGo_len (bs : List (Nat × List Nat)) : ∀ (k h : Nat) (out : List Nat), out.length ≤ (chGo bs k h out).1.length
  | 0, _, _ => Nat.le_refl _
  | k + 1, h, out => by
    unfold chGo
    split
    · exact Nat.le_refl _
    · split
      · exact Nat.le_refl _
      · split
        · exact Nat.le_refl _
        · next w _ _ => have := chGo_len bs k (w.getD 1 0) (out ++ [h]); rw [List.length_append, List.length_singleton] at this; omega
theorem chGo_most (bs : List (Nat × List Nat)) : ∀ (k h : Nat) (out : List Nat), out.length ≤ 64 → (chGo bs k h out).1.length ≤ 64
  | 0, _, _, hl => hl
  | k + 1, h, out, hl => by
    unfold chGo
    split
    · exact hl
    · split
      · exact hl
      · split
        · exact hl
        · next w _ _ => exact chGo_most bs k (w.getD 1 0) (out ++ [h]) (by rw [List.length_append, List.length_singleton]; omega)
theorem chGo_mem (bs : List (Nat × List Nat)) : ∀ (k h : Nat) (out : List Nat), (∀ x ∈ out, (lkB bs x).isSome = true ∧ x ≠ 0) → ∀ x ∈ (chGo bs k h out).1, (lkB bs x).isSome = true ∧ x ≠ 0
  | 0, _, _, ho => ho
  | k + 1, h, out, ho => by
    unfold chGo
    split
    · exact ho
    · next h0 =>
      cases hg : lkB bs h with
      | none => exact ho
      | some w =>
        dsimp only
        split
        · exact ho
        · refine chGo_mem bs k (w.getD 1 0) (out ++ [h]) (fun x hx => ?_)
          rcases List.mem_append.1 hx with hx | hx
          · exact ho x hx
          · have := List.mem_singleton.1 hx; subst this; exact ⟨by rw [hg]; rfl, h0⟩
/-- a block's first number -/
def valB (bs : List (Nat × List Nat)) (h : Nat) : Nat := ((lkB bs h).getD []).getD 0 0
/-- the states are the same -/
structure RelX (m : Ms) (roots : List Nat) (bs : List (Nat × List Nat)) : Prop where
  r : m.roots = roots
  b : ∀ h : Nat, mget m.blocks (h : Int) = lkB bs h
end Go.Proofs.YtphheopbngdhhaaGreatDoor
