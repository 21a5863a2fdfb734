/-
  More rules for walking code: a loop whose state is told by what turns.
-/
import Derived.Test.YtmcadilggmlbfaaSx
namespace Go.Proofs.Ytmcadilggmlbfaa
theorem get_app {A B : Env} {t : Nat} : get (A ++ B) t = (get A t).or (get B t) := by
  induction A with
  | nil => simp [get]
  | cons x A ih =>
    obtain ⟨k, v⟩ := x
    simp only [List.cons_append, get]
    cases Nat.beq k t with
    | true => rfl
    | false => exact ih
theorem Sub.app {E A B : Env} (h : Sub E A) (k : Sub E B) : Sub E (A ++ B) := by
  unfold Sub at *
  intro t v ht
  rw [get_app] at ht
  cases hA : get A t with
  | none => rw [hA] at ht; exact k t v ht
  | some u => rw [hA] at ht; injection ht with ht; subst ht; exact h t u hA
/-- E without the slots ks -/
def inK : List Nat → Nat → Bool
  | [], _ => false
  | k :: ks, t => match Nat.beq k t with
    | true => true
    | false => inK ks t
def strip (ks : List Nat) : Env → Env
  | [] => []
  | (t, v) :: E => match inK ks t with
    | true => strip ks E
    | false => (t, v) :: strip ks E
theorem get_strip {ks : List Nat} {E : Env} {t : Nat} {v : Value} (h : get (strip ks E) t = some v) : get E t = some v := by
  have key : ∀ {E : Env}, inK ks t = true → get (strip ks E) t = none := by
    intro E hk
    induction E with
    | nil => rfl
    | cons x E ih =>
      obtain ⟨k, u⟩ := x
      simp only [strip]
      cases hb : inK ks k with
      | true => exact ih
      | false =>
        simp only [get]
        cases hb2 : Nat.beq k t with
        | true => rw [Nat.eq_of_beq_eq_true hb2, hk] at hb; cases hb
        | false => exact ih
  induction E with
  | nil => exact h
  | cons x E ih =>
    obtain ⟨k, u⟩ := x
    simp only [strip] at h
    simp only [get]
    cases hb : inK ks k with
    | true =>
      rw [hb] at h
      cases hb2 : Nat.beq k t with
      | true =>
        rw [Nat.eq_of_beq_eq_true hb2] at hb
        have h2 : get (strip ks E) t = some v := h
        rw [key hb] at h2; cases h2
      | false => exact ih h
    | false =>
      rw [hb] at h
      simp only [get] at h
      cases hb2 : Nat.beq k t with
      | true => rw [hb2] at h; exact h
      | false => rw [hb2] at h; exact ih h
theorem Sub.strip {ks : List Nat} {E : Env} : Sub E (strip ks E) := by
  unfold Sub
  exact fun t v h => get_strip h
def keys : Env → List Nat
  | [] => []
  | (t, _) :: E => t :: keys E
theorem St.loopX {P : Program} {C : Cx} {k : List Item} {E : Env} {L : List HProp} {ι : Type} {c : Code} (μ : ι → Nat) (mods : ι → Env) (ps : ι → List HProp) (i0 : ι) {Lr : List HProp} (hE : Sub E (mods i0)) (hL : Ent L (ps i0 ++ Lr))
    (round : ∀ i, (∀ (j : ι) {E' : Env} {L' : List HProp}, μ j < μ i → Sub E' (mods j ++ strip (keys (mods i0)) E) → Ent L' (ps j ++ Lr) → St P C (.inLoop c :: k) E' L') → St P C (.code c :: .inLoop c :: k) (mods i ++ strip (keys (mods i0)) E) (ps i ++ Lr)) :
    St P C (.code (.loop c) :: k) E L :=
  St.loop μ (fun i => mods i ++ Go.Proofs.Ytmcadilggmlbfaa.strip (keys (mods i0)) E) (fun i => ps i ++ Lr) i0 (Sub.app hE Sub.strip) hL fun i IH => round i fun j _ _ hj hS hEn => (IH j hj).conv hS hEn
theorem OverN.more {α : Type} {vs l l' : List α} (h : OverN vs l l') (r : List α) : OverN vs (l ++ r) (l' ++ r) := by
  induction h with
  | nil => exact .nil
  | cons _ ih => exact .cons ih
theorem SplN.more {α : Type} {vs : List α} {n : Nat} {l l' : List α} (h : SplN vs n l l') (r : List α) : SplN vs n (l ++ r) (l' ++ r) := by
  induction h with
  | zero h => exact .zero (h.more r)
  | succ _ ih => exact .succ ih
theorem SplN.app_right {α : Type} {vs : List α} {n : Nat} {l l' : List α} (h : SplN vs n l l') : ∀ m : List α, SplN vs (m.length + n) (m ++ l) (m ++ l')
  | [] => by rw [List.length_nil, Nat.zero_add]; exact h
  | y :: m => by rw [List.length_cons, Nat.add_right_comm]; exact .succ (h.app_right m)
theorem SplN.part {α : Type} {f : α → List Value} {sz : Nat} (hf : ∀ x, (f x).length = sz) {l : List α} {i j : Nat} {vs : List Value} {x : α} (hi : i < l.length) (h : SplN vs j (f l[i]) (f x)) : SplN vs (i * sz + j) (l.flatMap f) ((l.set i x).flatMap f) := by
  have h1 := (h.more ((l.drop (i + 1)).flatMap f)).app_right ((l.take i).flatMap f)
  rw [flat_len hf, List.length_take, Nat.min_eq_left (Nat.le_of_lt hi), ← flat_split f hi, ← flat_set f hi] at h1
  exact h1
end Go.Proofs.Ytmcadilggmlbfaa
