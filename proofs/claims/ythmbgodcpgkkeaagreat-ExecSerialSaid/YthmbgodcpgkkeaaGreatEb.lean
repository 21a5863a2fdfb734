/-
  What a memory holds, read through what is to be written: roots and blocks, in plain terms. Blocks that are taken, and put into limbo, in plain terms.
-/
import Derived.Test.YthmbgodcpgkkeaaGreatExc
import Derived.Test.YthmbgodcpgkkeaaGreatWa
section
namespace Go.Proofs.YthmbgodcpgkkeaaGreat
set_option maxRecDepth 100000
theorem gput {κ β : Type} [DecidableEq κ] (k k' : κ) (x : β) : ∀ m : List (κ × β), mget (mput m k x) k' = if k = k' then some x else mget m k'
  | [] => by
    unfold mput mget
    split <;> simp [mget]
  | (a, y) :: m => by
    unfold mput
    by_cases h : a = k
    · rw [if_pos h]
      unfold mget
      subst h
      split <;> rfl
    · rw [if_neg h]
      by_cases h2 : a = k'
      · have : ¬ k = k' := fun e => h (h2.trans e.symm)
        rw [if_neg this]
        unfold mget
        rw [if_pos h2, if_pos h2]
      · have ih := gput k k' x m
        unfold mget
        rw [if_neg h2, if_neg h2, ih]
theorem gdel_ne {κ β : Type} [DecidableEq κ] {k k' : κ} (h : k ≠ k') : ∀ {m : List (κ × β)}, mget (mdel m k) k' = mget m k'
  | [] => rfl
  | (a, y) :: m => by
    unfold mdel
    by_cases h1 : a = k
    · rw [if_pos h1]
      subst h1
      show mget m k' = if a = k' then some y else mget m k'
      rw [if_neg h]
    · rw [if_neg h1]
      show (if a = k' then some y else mget (mdel m k) k') = if a = k' then some y else mget m k'
      rw [gdel_ne h]
theorem gdel_none {κ β : Type} [DecidableEq κ] {k : κ} : ∀ {m : List (κ × β)}, ¬ k ∈ m.map (·.1) → mget m k = none
  | [], _ => rfl
  | (a, y) :: m, h => by
    rw [List.map_cons, List.mem_cons, not_or] at h
    unfold mget
    rw [if_neg (fun e => h.1 e.symm)]
    exact gdel_none h.2
theorem gdel {κ β : Type} [DecidableEq κ] {k : κ} : ∀ {m : List (κ × β)}, (m.map (·.1)).Nodup → mget (mdel m k) k = none
  | [], _ => rfl
  | (a, y) :: m, h => by
    rw [List.map_cons, List.nodup_cons] at h
    unfold mdel
    by_cases h1 : a = k
    · rw [if_pos h1]
      subst h1
      exact gdel_none h.1
    · rw [if_neg h1]
      unfold mget
      rw [if_neg h1]
      exact gdel h.2
theorem gkey {κ β : Type} [DecidableEq κ] {k : κ} {x : β} : ∀ {m : List (κ × β)}, mget m k = some x → k ∈ m.map (·.1)
  | [], h => by cases h
  | (a, y) :: m, h => by
    rw [List.map_cons]
    unfold mget at h
    split at h
    · next e => subst e; exact List.mem_cons_self ..
    · exact List.mem_cons_of_mem _ (gkey h)
theorem gput_keys {κ β : Type} [DecidableEq κ] (k : κ) (x : β) : ∀ m : List (κ × β), (mput m k x).map (·.1) = if k ∈ m.map (·.1) then m.map (·.1) else m.map (·.1) ++ [k]
  | [] => rfl
  | (a, y) :: m => by
    unfold mput
    by_cases h : a = k
    · rw [if_pos h]
      subst h
      rw [if_pos (by rw [List.map_cons]; exact List.mem_cons_self ..)]; rfl
    · rw [if_neg h, List.map_cons, List.map_cons, gput_keys k x m]
      by_cases h2 : k ∈ m.map (·.1)
      · rw [if_pos h2, if_pos (List.mem_cons_of_mem _ h2)]
      · rw [if_neg h2, if_neg (fun e => (List.mem_cons.1 e).elim (fun e => h e.symm) h2)]; rfl
theorem gput_nod {κ β : Type} [DecidableEq κ] {k : κ} {x : β} {m : List (κ × β)} (h : (m.map (·.1)).Nodup) : ((mput m k x).map (·.1)).Nodup := by
  rw [gput_keys]
  split
  · exact h
  · next hn =>
    rw [List.nodup_append]
    exact ⟨h, by simp, fun a ha b hb e => by rw [List.mem_singleton] at hb; subst hb; subst e; exact hn ha⟩
theorem gput_len {κ β : Type} [DecidableEq κ] (k : κ) (x : β) (m : List (κ × β)) : (mput m k x).length = if (mget m k).isSome = true then m.length else m.length + 1 := by
  have h := congrArg List.length (gput_keys k x m)
  rw [List.length_map] at h
  rw [h]
  by_cases hk : k ∈ m.map (·.1)
  · rw [if_pos hk, List.length_map]
    cases e : mget m k with
    | some y => rfl
    | none =>
      exfalso
      have key : ∀ {m : List (κ × β)}, k ∈ m.map (·.1) → mget m k ≠ none := by
        intro m
        induction m with
        | nil => intro h; cases h
        | cons a m ih =>
          intro h
          rw [List.map_cons, List.mem_cons] at h
          obtain ⟨a1, a2⟩ := a
          unfold mget
          split
          · intro e; cases e
          · next hn => exact ih (h.resolve_left fun e => hn e.symm)
      exact key hk e
  · rw [if_neg hk, List.length_append, List.length_map, gdel_none hk]; rfl
theorem gdel_sub {κ β : Type} [DecidableEq κ] (k : κ) : ∀ m : List (κ × β), (mdel m k).Sublist m
  | [] => List.Sublist.slnil
  | (a, y) :: m => by
    unfold mdel
    split
    · exact (List.Sublist.refl m).cons _
    · exact (gdel_sub k m).cons_cons _
theorem gdel_len {κ β : Type} [DecidableEq κ] {k : κ} {x : β} : ∀ {m : List (κ × β)}, mget m k = some x → (mdel m k).length + 1 = m.length
  | [], h => by cases h
  | (a, y) :: m, h => by
    unfold mget at h
    unfold mdel
    split at h
    · next e => rw [if_pos e]; rfl
    · next e => rw [if_neg e, List.length_cons, gdel_len h]; rfl
/-- a cell, through what is to be written -/
def ovl (P : List (Int × Nat)) (V : Int → Nat) (a : Int) : Nat := (mget (allP P) a).getD (V a)
def updV (V : Int → Nat) (a : Int) (v : Nat) (x : Int) : Nat := if x = a then v else V x
theorem ovl_snoc (P : List (Int × Nat)) (V : Int → Nat) (a : Int) (v : Nat) : ovl (P ++ [(a, v)]) V = updV (ovl P V) a v := by
  funext x
  unfold ovl updV
  rw [allP_snoc, gput]
  by_cases h : a = x
  · rw [if_pos h, if_pos h.symm]; rfl
  · rw [if_neg h, if_neg (fun e => h e.symm)]
theorem ovl_none {P : List (Int × Nat)} {V : Int → Nat} {a : Int} (h : mget (allP P) a = none) : ovl P V a = V a := by unfold ovl; rw [h]; rfl
theorem ovl_some {P : List (Int × Nat)} {V : Int → Nat} {a : Int} {v : Nat} (h : mget (allP P) a = some v) : ovl P V a = v := by unfold ovl; rw [h]; rfl
theorem updV_same (V : Int → Nat) (a : Int) (v : Nat) : updV V a v a = v := if_pos rfl
theorem updV_ne {V : Int → Nat} {a x : Int} (v : Nat) (h : x ≠ a) : updV V a v x = V x := if_neg h
/-- things of other kinds, and other things of a kind, stand elsewhere -/
theorem at_ne {c : Cfg} (hc : Small c) {k1 i1 j1 k2 i2 j2 : Int} (h1 : 7 ≤ k1 ∧ k1 ≤ 16) (h2 : 7 ≤ k2 ∧ k2 ≤ 16) (a1 : 0 ≤ i1 ∧ i1 < (c.cnt k1).1) (b1 : 0 ≤ j1 ∧ j1 < (c.cnt k1).2) (a2 : 0 ≤ i2 ∧ i2 < (c.cnt k2).1) (b2 : 0 ≤ j2 ∧ j2 < (c.cnt k2).2) (hn : ¬ (k1 = k2 ∧ i1 = i2 ∧ j1 = j2)) : c.at k1 i1 j1 ≠ c.at k2 i2 j2 := fun e => by
  have w1 := at_rest hc h1 a1 b1
  have w2 := at_rest hc h2 a2 b2
  rw [e, w2] at w1
  injection w1 with x1 x2
  injection x2 with x2 x3
  exact hn ⟨x1.symm, x2.symm, x3.symm⟩
theorem cnt10 (c : Cfg) : c.cnt 10 = (16, 1) := by unfold Cfg.cnt; simp
theorem cnt11 (c : Cfg) : c.cnt 11 = (c.blocks, 1) := by unfold Cfg.cnt; simp
theorem cnt13 (c : Cfg) : c.cnt 13 = (c.blocks, 1) := by unfold Cfg.cnt; simp
theorem cnt15 (c : Cfg) : c.cnt 15 = (c.limit, 1) := by unfold Cfg.cnt; simp
theorem cnt16 (c : Cfg) : c.cnt 16 = (c.blocks, 8) := by unfold Cfg.cnt; simp
theorem cnt12 (c : Cfg) : c.cnt 12 = (1, 1) := by unfold Cfg.cnt; simp
theorem cnt14 (c : Cfg) : c.cnt 14 = (1, 1) := by unfold Cfg.cnt; simp
/-- a memory holds these roots and blocks; all other blocks are free (fs: as they lie on the stack), or in limbo (ls) -/
structure RepV (c : Cfg) (V : Int → Nat) (fs ls : List Nat) (R : List Nat) (B : List (Int × List Nat)) : Prop where
  rl : R.length = 16
  root : ∀ k : Nat, k < 16 → V (c.at 10 k 0) = R.getD k 0
  life : ∀ b : Nat, (b : Int) < c.blocks → (V (c.at 11 b 0) = 1 ↔ (mget B ((b : Int) + 1)).isSome = true)
  word : ∀ b : Nat, (b : Int) < c.blocks → ∀ l, mget B ((b : Int) + 1) = some l → ∀ w : Nat, w < 8 → V (c.at 16 b w) = l.getD w 0
  len : ∀ p ∈ B, p.2.length = 8
  keys : ∀ p ∈ B, 1 ≤ p.1 ∧ p.1 ≤ c.blocks
  nod : (B.map (·.1)).Nodup
  free : ∀ b ∈ fs, (b : Int) < c.blocks ∧ V (c.at 11 b 0) = 0
  limbo : ∀ b ∈ ls, (b : Int) < c.blocks ∧ V (c.at 11 b 0) = 2
  stack : ∀ (i : Nat) (h : i < fs.length), V (c.at 13 i 0) = fs[i]
  lim : ∀ (i : Nat) (h : i < ls.length), V (c.at 15 i 0) = ls[i]
  fnod : fs.Nodup
  lnod : ls.Nodup
  cov : ∀ b : Nat, (b : Int) < c.blocks → b ∈ fs ∨ b ∈ ls ∨ V (c.at 11 b 0) = 1
  cnt : ((fs.length + ls.length + B.length : Nat) : Int) = c.blocks
  lsz : (ls.length : Int) ≤ c.limit
section
variable {c : Cfg} {V : Int → Nat} {fs ls R : List Nat} {B : List (Int × List Nat)}
theorem RepV.fsz (h : RepV c V fs ls R B) : (fs.length : Int) ≤ c.blocks := by have := h.cnt; omega
theorem mget_len (h : RepV c V fs ls R B) {k : Int} {l : List Nat} (e : mget B k = some l) : l.length = 8 := h.len (k, l) (mget_mem e)
/-- a root is set -/
theorem RepV.setRoot (hc : Small c) (h : RepV c V fs ls R B) {k : Nat} (hk : k < 16) (v : Nat) : RepV c (updV V (c.at 10 k 0) v) fs ls (R.set k v) B := by
  have n : ∀ {kind : Int} {i j : Int}, 11 ≤ kind ∧ kind ≤ 16 → 0 ≤ i ∧ i < (c.cnt kind).1 → 0 ≤ j ∧ j < (c.cnt kind).2 → updV V (c.at 10 k 0) v (c.at kind i j) = V (c.at kind i j) := fun {kind i j} hk2 hi hj =>
    updV_ne v (at_ne hc (by omega) (by omega) hi hj (by rw [cnt10]; dsimp only; omega) (by rw [cnt10]; dsimp only; decide) (by omega))
  have n11 : ∀ b : Nat, (b : Int) < c.blocks → updV V (c.at 10 k 0) v (c.at 11 b 0) = V (c.at 11 b 0) := fun b hb => n (by decide) (by rw [cnt11]; dsimp only; omega) (by rw [cnt11]; dsimp only; decide)
  refine ⟨by rw [List.length_set]; exact h.rl, fun k' hk' => ?_, fun b hb => by rw [n11 b hb]; exact h.life b hb, fun b hb l e w hw => ?_, h.len, h.keys, h.nod, fun b hb => ?_, fun b hb => ?_, fun i hi => ?_, fun i hi => ?_, h.fnod, h.lnod, fun b hb => by rw [n11 b hb]; exact h.cov b hb, h.cnt, h.lsz⟩
  · rw [List.getD_eq_getElem?_getD, List.getElem?_set]
    by_cases e : k = k'
    · subst e
      rw [if_pos rfl, if_pos (by rw [h.rl]; exact hk), updV_same]; rfl
    · rw [if_neg e, ← List.getD_eq_getElem?_getD, ← h.root k' hk']
      refine updV_ne v (at_ne hc (by decide) (by decide) ?_ ?_ ?_ ?_ (by omega))
      all_goals rw [cnt10]
      all_goals first | decide | (dsimp only; omega)
  · rw [← h.word b hb l e w hw]
    exact n (by decide) (by rw [cnt16]; dsimp only; omega) (by rw [cnt16]; dsimp only; omega)
  · obtain ⟨h1, h2⟩ := h.free b hb
    exact ⟨h1, by rw [n11 b h1]; exact h2⟩
  · obtain ⟨h1, h2⟩ := h.limbo b hb
    exact ⟨h1, by rw [n11 b h1]; exact h2⟩
  · rw [← h.stack i hi]
    have := h.fsz
    exact n (by decide) (by rw [cnt13]; dsimp only; omega) (by rw [cnt13]; dsimp only; decide)
  · rw [← h.lim i hi]
    have := h.lsz
    exact n (by decide) (by rw [cnt15]; dsimp only; omega) (by rw [cnt15]; dsimp only; decide)
/-- a word of a block that lives is set -/
theorem RepV.setWord (hc : Small c) (h : RepV c V fs ls R B) {b w : Nat} (hb : (b : Int) < c.blocks) (hw : w < 8) {l : List Nat} (e : mget B ((b : Int) + 1) = some l) (v : Nat) : RepV c (updV V (c.at 16 b w) v) fs ls R (mput B ((b : Int) + 1) (l.set w v)) := by
  have hlen := mget_len h e
  have n : ∀ {kind : Int} {i j : Int}, 10 ≤ kind ∧ kind ≤ 15 → 0 ≤ i ∧ i < (c.cnt kind).1 → 0 ≤ j ∧ j < (c.cnt kind).2 → updV V (c.at 16 b w) v (c.at kind i j) = V (c.at kind i j) := fun {kind i j} hk2 hi hj =>
    updV_ne v (at_ne hc (by omega) (by omega) hi hj (by rw [cnt16]; dsimp only; omega) (by rw [cnt16]; dsimp only; omega) (by omega))
  have n11 : ∀ b' : Nat, (b' : Int) < c.blocks → updV V (c.at 16 b w) v (c.at 11 b' 0) = V (c.at 11 b' 0) := fun b' hb' => n (by decide) (by rw [cnt11]; dsimp only; omega) (by rw [cnt11]; dsimp only; decide)
  have hk := gkey e
  have hks : (mput B ((b : Int) + 1) (l.set w v)).map (·.1) = B.map (·.1) := by rw [gput_keys, if_pos hk]
  refine ⟨h.rl, fun k' hk' => ?_, fun b' hb' => ?_, fun b' hb' l' e' w' hw' => ?_, fun p hp => ?_, fun p hp => ?_, by rw [hks]; exact h.nod, fun b' hb' => ?_, fun b' hb' => ?_, fun i hi => ?_, fun i hi => ?_, h.fnod, h.lnod, fun b' hb' => by rw [n11 b' hb']; exact h.cov b' hb', ?_, h.lsz⟩
  · rw [← h.root k' hk']
    exact n (by decide) (by rw [cnt10]; dsimp only; omega) (by rw [cnt10]; dsimp only; decide)
  · rw [n11 b' hb', h.life b' hb', gput]
    by_cases eb : (b : Int) + 1 = (b' : Int) + 1
    · rw [if_pos eb, ← eb, e]; rfl
    · rw [if_neg eb]
  · rw [gput] at e'
    by_cases eb : (b : Int) + 1 = (b' : Int) + 1
    · rw [if_pos eb] at e'
      injection e' with e'
      subst e'
      obtain rfl : b = b' := by omega
      rw [List.getD_eq_getElem?_getD, List.getElem?_set]
      by_cases ew : w = w'
      · subst ew
        rw [if_pos rfl, if_pos (by omega), updV_same]; rfl
      · rw [if_neg ew, ← List.getD_eq_getElem?_getD, ← h.word b hb l e w' hw']
        refine updV_ne v (at_ne hc (by decide) (by decide) ?_ ?_ ?_ ?_ (by omega))
        all_goals rw [cnt16]
        all_goals (dsimp only; omega)
    · rw [if_neg eb] at e'
      rw [← h.word b' hb' l' e' w' hw']
      refine updV_ne v (at_ne hc (by decide) (by decide) ?_ ?_ ?_ ?_ (by omega))
      all_goals rw [cnt16]
      all_goals (dsimp only; omega)
  · have h1 : mget (mput B ((b : Int) + 1) (l.set w v)) p.1 = some p.2 ∨ True := .inr trivial
    have key : ∀ {B : List (Int × List Nat)}, (∀ p ∈ B, p.2.length = 8) → ∀ p ∈ mput B ((b : Int) + 1) (l.set w v), p.2.length = 8 := by
      intro B
      induction B with
      | nil => intro _ p hp; unfold mput at hp; rw [List.mem_singleton] at hp; subst hp; dsimp only; rw [List.length_set]; exact hlen
      | cons a B ih =>
        intro hB p hp
        obtain ⟨a1, a2⟩ := a
        unfold mput at hp
        split at hp
        · rcases List.mem_cons.1 hp with rfl | hp
          · dsimp only; rw [List.length_set]; exact hlen
          · exact hB p (List.mem_cons_of_mem _ hp)
        · rcases List.mem_cons.1 hp with rfl | hp
          · exact hB _ (List.mem_cons_self ..)
          · exact ih (fun q hq => hB q (List.mem_cons_of_mem _ hq)) p hp
    exact key h.len p hp
  · have : p.1 ∈ B.map (·.1) := by rw [← hks]; exact List.mem_map_of_mem hp
    obtain ⟨q, hq, eq⟩ := List.mem_map.1 this
    rw [← eq]; exact h.keys q hq
  · obtain ⟨h1, h2⟩ := h.free b' hb'
    exact ⟨h1, by rw [n11 b' h1]; exact h2⟩
  · obtain ⟨h1, h2⟩ := h.limbo b' hb'
    exact ⟨h1, by rw [n11 b' h1]; exact h2⟩
  · rw [← h.stack i hi]
    have := h.fsz
    exact n (by decide) (by rw [cnt13]; dsimp only; omega) (by rw [cnt13]; dsimp only; decide)
  · rw [← h.lim i hi]
    have := h.lsz
    exact n (by decide) (by rw [cnt15]; dsimp only; omega) (by rw [cnt15]; dsimp only; decide)
  · rw [gput_len, if_pos (by rw [e]; rfl)]; exact h.cnt
end
end Go.Proofs.YthmbgodcpgkkeaaGreat
end
section
namespace Go.Proofs.YthmbgodcpgkkeaaGreat
set_option maxRecDepth 100000
theorem ne_kind {c : Cfg} (hc : Small c) {k1 i1 j1 k2 i2 j2 : Int} (h1 : 7 ≤ k1 ∧ k1 ≤ 16) (h2 : 7 ≤ k2 ∧ k2 ≤ 16) (a1 : 0 ≤ i1 ∧ i1 < (c.cnt k1).1 ∧ 0 ≤ j1 ∧ j1 < (c.cnt k1).2) (a2 : 0 ≤ i2 ∧ i2 < (c.cnt k2).1 ∧ 0 ≤ j2 ∧ j2 < (c.cnt k2).2) (hn : ¬ (k1 = k2 ∧ i1 = i2 ∧ j1 = j2)) : c.at k1 i1 j1 ≠ c.at k2 i2 j2 :=
  at_ne hc h1 h2 ⟨a1.1, a1.2.1⟩ ⟨a1.2.2.1, a1.2.2.2⟩ ⟨a2.1, a2.2.1⟩ ⟨a2.2.2.1, a2.2.2.2⟩ hn
theorem in10 (c : Cfg) {k : Nat} (h : k < 16) : 0 ≤ (k : Int) ∧ (k : Int) < (c.cnt 10).1 ∧ (0 : Int) ≤ 0 ∧ 0 < (c.cnt 10).2 := by rw [cnt10]; dsimp only; omega
theorem in11 {c : Cfg} {b : Nat} (h : (b : Int) < c.blocks) : 0 ≤ (b : Int) ∧ (b : Int) < (c.cnt 11).1 ∧ (0 : Int) ≤ 0 ∧ 0 < (c.cnt 11).2 := by rw [cnt11]; dsimp only; omega
theorem in12 (c : Cfg) : 0 ≤ (0 : Int) ∧ (0 : Int) < (c.cnt 12).1 ∧ (0 : Int) ≤ 0 ∧ 0 < (c.cnt 12).2 := by rw [cnt12]; dsimp only; omega
theorem in14 (c : Cfg) : 0 ≤ (0 : Int) ∧ (0 : Int) < (c.cnt 14).1 ∧ (0 : Int) ≤ 0 ∧ 0 < (c.cnt 14).2 := by rw [cnt14]; dsimp only; omega
theorem in13 {c : Cfg} {b : Nat} (h : (b : Int) < c.blocks) : 0 ≤ (b : Int) ∧ (b : Int) < (c.cnt 13).1 ∧ (0 : Int) ≤ 0 ∧ 0 < (c.cnt 13).2 := by rw [cnt13]; dsimp only; omega
theorem in15 {c : Cfg} {b : Nat} (h : (b : Int) < c.limit) : 0 ≤ (b : Int) ∧ (b : Int) < (c.cnt 15).1 ∧ (0 : Int) ≤ 0 ∧ 0 < (c.cnt 15).2 := by rw [cnt15]; dsimp only; omega
theorem in16 {c : Cfg} {b w : Nat} (h : (b : Int) < c.blocks) (hw : w < 8) : 0 ≤ (b : Int) ∧ (b : Int) < (c.cnt 16).1 ∧ (0 : Int) ≤ (w : Int) ∧ (w : Int) < (c.cnt 16).2 := by rw [cnt16]; dsimp only; omega
theorem zero8_get (w : Nat) : zero8.getD w 0 = 0 := by
  unfold zero8
  rcases w with _ | _ | _ | _ | _ | _ | _ | _ | w <;> rfl
section
variable {c : Cfg} {V V' : Int → Nat} {fs ls R : List Nat} {B : List (Int × List Nat)} {b : Nat}
theorem gput_all {κ β : Type} [DecidableEq κ] {P : κ × β → Prop} {k : κ} {x : β} (hx : P (k, x)) : ∀ {m : List (κ × β)}, (∀ p ∈ m, P p) → ∀ p ∈ mput m k x, P p
  | [], _, p, hp => by
    unfold mput at hp
    rw [List.mem_singleton] at hp
    subst hp; exact hx
  | (a, y) :: m, h, p, hp => by
    unfold mput at hp
    split at hp
    · next e =>
      rcases List.mem_cons.1 hp with rfl | hp
      · rw [e]; exact hx
      · exact h p (List.mem_cons_of_mem _ hp)
    · rcases List.mem_cons.1 hp with rfl | hp
      · exact h _ (List.mem_cons_self ..)
      · exact gput_all hx (fun q hq => h q (List.mem_cons_of_mem _ hq)) p hp
/-- the free block that is next is taken -/
theorem RepV.take (hc : Small c) (h : RepV c V (fs ++ [b]) ls R B) (hl : V' (c.at 11 b 0) = 1) (hw : ∀ w : Nat, w < 8 → V' (c.at 16 b w) = 0) (ho : ∀ a, a ≠ c.at 11 b 0 → (∀ w : Nat, w < 8 → a ≠ c.at 16 b w) → V' a = V a) : RepV c V' fs ls R (mput B ((b : Int) + 1) zero8) := by
  obtain ⟨hb, hv0⟩ := h.free b (List.mem_append_right _ (List.mem_singleton_self b))
  have hnd := h.fnod
  rw [List.nodup_append] at hnd
  have hnb : ∀ x ∈ fs, x ≠ b := fun x hx e => hnd.2.2 x hx b (List.mem_singleton_self b) e
  have hnl : ∀ x ∈ ls, x ≠ b := fun x hx e => by
    have := (h.limbo x hx).2
    rw [e, hv0] at this; cases this
  have hnone : mget B ((b : Int) + 1) = none := by
    cases e : mget B ((b : Int) + 1) with
    | none => rfl
    | some l =>
      have := (h.life b hb).2 (by rw [e]; rfl)
      rw [hv0] at this; cases this
  have n : ∀ {kind i j : Int}, 7 ≤ kind ∧ kind ≤ 15 → kind ≠ 11 → (0 ≤ i ∧ i < (c.cnt kind).1 ∧ 0 ≤ j ∧ j < (c.cnt kind).2) → V' (c.at kind i j) = V (c.at kind i j) := fun {kind i j} hk hk2 hi =>
    ho _ (ne_kind hc (by omega) (by decide) hi (in11 hb) (by omega)) fun w hw => ne_kind hc (by omega) (by decide) hi (in16 hb hw) (by omega)
  have n11 : ∀ b' : Nat, (b' : Int) < c.blocks → b' ≠ b → V' (c.at 11 b' 0) = V (c.at 11 b' 0) := fun b' hb' hne =>
    ho _ (ne_kind hc (by decide) (by decide) (in11 hb') (in11 hb) (by omega)) fun w hw => ne_kind hc (by decide) (by decide) (in11 hb') (in16 hb hw) (by omega)
  have n16 : ∀ b' w : Nat, (b' : Int) < c.blocks → w < 8 → b' ≠ b → V' (c.at 16 b' w) = V (c.at 16 b' w) := fun b' w hb' hw' hne =>
    ho _ (ne_kind hc (by decide) (by decide) (in16 hb' hw') (in11 hb) (by omega)) fun w2 hw2 => ne_kind hc (by decide) (by decide) (in16 hb' hw') (in16 hb hw2) (by omega)
  have hfl : fs.length + 1 = (fs ++ [b]).length := by rw [List.length_append]; rfl
  have hfsz := h.fsz
  refine ⟨h.rl, fun k hk => ?_, fun b' hb' => ?_, fun b' hb' l e w hw' => ?_, gput_all (P := fun p : Int × List Nat => p.2.length = 8) rfl h.len, gput_all (P := fun p : Int × List Nat => 1 ≤ p.1 ∧ p.1 ≤ c.blocks) (by dsimp only; omega) h.keys, gput_nod h.nod, fun x hx => ?_, fun x hx => ?_, fun i hi => ?_, fun i hi => ?_, hnd.1, h.lnod, fun b' hb' => ?_, ?_, h.lsz⟩
  · rw [n (by decide) (by decide) (in10 c hk)]; exact h.root k hk
  · rw [gput]
    by_cases e : b' = b
    · subst e
      rw [if_pos rfl, hl]; exact ⟨fun _ => rfl, fun _ => rfl⟩
    · rw [if_neg (by omega), n11 b' hb' e]; exact h.life b' hb'
  · rw [gput] at e
    by_cases eb : b' = b
    · subst eb
      rw [if_pos rfl] at e
      injection e with e
      subst e
      rw [hw w hw', zero8_get]
    · rw [if_neg (by omega)] at e
      rw [n16 b' w hb' hw' eb]; exact h.word b' hb' l e w hw'
  · obtain ⟨h1, h2⟩ := h.free x (List.mem_append_left _ hx)
    exact ⟨h1, by rw [n11 x h1 (hnb x hx)]; exact h2⟩
  · obtain ⟨h1, h2⟩ := h.limbo x hx
    exact ⟨h1, by rw [n11 x h1 (hnl x hx)]; exact h2⟩
  · rw [n (by decide) (by decide) (in13 (by omega)), h.stack i (by omega)]
    exact List.getElem_append_left hi
  · have := h.lsz
    rw [n (by decide) (by decide) (in15 (by omega))]; exact h.lim i hi
  · by_cases e : b' = b
    · subst e; exact .inr (.inr hl)
    · rcases h.cov b' hb' with hx | hx | hx
      · rcases List.mem_append.1 hx with hx | hx
        · exact .inl hx
        · rw [List.mem_singleton] at hx; exact absurd hx e
      · exact .inr (.inl hx)
      · exact .inr (.inr (by rw [n11 b' hb' e]; exact hx))
  · rw [gput_len, if_neg (by rw [hnone]; simp)]
    have := h.cnt
    omega
/-- a block that lives is put into limbo -/
theorem RepV.give (hc : Small c) (h : RepV c V fs ls R B) (hb : (b : Int) < c.blocks) {l : List Nat} (e : mget B ((b : Int) + 1) = some l) (hlt : (ls.length : Int) < c.limit) (hl : V' (c.at 11 b 0) = 2) (hw : V' (c.at 15 ls.length 0) = b) (ho : ∀ a, a ≠ c.at 11 b 0 → a ≠ c.at 15 ls.length 0 → V' a = V a) : RepV c V' fs (ls ++ [b]) R (mdel B ((b : Int) + 1)) := by
  have hv1 := (h.life b hb).2 (by rw [e]; rfl)
  have hnf : ∀ x ∈ fs, x ≠ b := fun x hx ex => by
    have := (h.free x hx).2
    rw [ex, hv1] at this; cases this
  have hnl : ∀ x ∈ ls, x ≠ b := fun x hx ex => by
    have := (h.limbo x hx).2
    rw [ex, hv1] at this; cases this
  have n : ∀ {kind i j : Int}, 7 ≤ kind ∧ kind ≤ 16 → kind ≠ 11 → kind ≠ 15 → (0 ≤ i ∧ i < (c.cnt kind).1 ∧ 0 ≤ j ∧ j < (c.cnt kind).2) → V' (c.at kind i j) = V (c.at kind i j) := fun {kind i j} hk hk2 hk3 hi =>
    ho _ (ne_kind hc (by omega) (by decide) hi (in11 hb) (by omega)) (ne_kind hc (by omega) (by decide) hi (in15 hlt) (by omega))
  have n11 : ∀ b' : Nat, (b' : Int) < c.blocks → b' ≠ b → V' (c.at 11 b' 0) = V (c.at 11 b' 0) := fun b' hb' hne =>
    ho _ (ne_kind hc (by decide) (by decide) (in11 hb') (in11 hb) (by omega)) (ne_kind hc (by decide) (by decide) (in11 hb') (in15 hlt) (by omega))
  have n15 : ∀ i : Nat, i < ls.length → V' (c.at 15 i 0) = V (c.at 15 i 0) := fun i hi =>
    ho _ (ne_kind hc (by decide) (by decide) (in15 (by omega)) (in11 hb) (by omega)) (ne_kind hc (by decide) (by decide) (in15 (by omega)) (in15 hlt) (by omega))
  have hfsz := h.fsz
  have hsub := gdel_sub ((b : Int) + 1) B
  refine ⟨h.rl, fun k hk => ?_, fun b' hb' => ?_, fun b' hb' l' e' w hw' => ?_, fun p hp => h.len p (hsub.subset hp), fun p hp => h.keys p (hsub.subset hp), (hsub.map _).nodup h.nod, fun x hx => ?_, fun x hx => ?_, fun i hi => ?_, fun i hi => ?_, h.fnod, ?_, fun b' hb' => ?_, ?_, ?_⟩
  · rw [n (by decide) (by decide) (by decide) (in10 c hk)]; exact h.root k hk
  · by_cases eb : b' = b
    · subst eb
      rw [hl, gdel h.nod]; exact ⟨fun x => (by cases x), fun x => (by cases x)⟩
    · rw [n11 b' hb' eb, gdel_ne (by omega)]; exact h.life b' hb'
  · by_cases eb : b' = b
    · subst eb
      rw [gdel h.nod] at e'; cases e'
    · rw [gdel_ne (by omega)] at e'
      rw [n (by decide) (by decide) (by decide) (in16 hb' hw')]; exact h.word b' hb' l' e' w hw'
  · obtain ⟨h1, h2⟩ := h.free x hx
    exact ⟨h1, by rw [n11 x h1 (hnf x hx)]; exact h2⟩
  · rcases List.mem_append.1 hx with hx | hx
    · obtain ⟨h1, h2⟩ := h.limbo x hx
      exact ⟨h1, by rw [n11 x h1 (hnl x hx)]; exact h2⟩
    · rw [List.mem_singleton] at hx; subst hx; exact ⟨hb, hl⟩
  · rw [n (by decide) (by decide) (by decide) (in13 (by omega))]; exact h.stack i hi
  · rw [List.length_append, List.length_singleton] at hi
    by_cases ei : i < ls.length
    · rw [n15 i ei, h.lim i ei, List.getElem_append_left ei]
    · obtain rfl : i = ls.length := by omega
      rw [hw, List.getElem_append_right (Nat.le_refl _)]
      simp
  · rw [List.nodup_append]
    exact ⟨h.lnod, by simp, fun x hx y hy exy => by rw [List.mem_singleton] at hy; subst hy; exact hnl x hx exy⟩
  · by_cases eb : b' = b
    · subst eb; exact .inr (.inl (List.mem_append_right _ (List.mem_singleton_self b')))
    · rcases h.cov b' hb' with hx | hx | hx
      · exact .inl hx
      · exact .inr (.inl (List.mem_append_left _ hx))
      · exact .inr (.inr (by rw [n11 b' hb' eb]; exact hx))
  · have := gdel_len e
    have := h.cnt
    rw [List.length_append, List.length_singleton]
    omega
  · rw [List.length_append, List.length_singleton]; omega
end
end Go.Proofs.YthmbgodcpgkkeaaGreat
end
