/-
  A map, as it lies in roots and blocks.
-/
import Derived.Test.YtphheopbngdhhaaGreatDoorTr
namespace Go.Proofs.YtphheopbngdhhaaGreatDoor
set_option maxRecDepth 100000
section assoc
variable {κ β : Type} [DecidableEq κ]
theorem mget_some_key {k : κ} {x : β} : ∀ {m : List (κ × β)}, mget m k = some x → k ∈ m.map (·.1)
  | [], h => by cases h
  | (a, y) :: m, h => by
    unfold mget at h
    split at h
    · next e => subst e; simp
    · rw [List.map_cons]; exact List.mem_cons_of_mem _ (mget_some_key h)
theorem mput_len_old {k : κ} {x y : β} : ∀ {m : List (κ × β)}, mget m k = some y → (mput m k x).length = m.length ∧ (mput m k x).map (·.1) = m.map (·.1)
  | [], h => by cases h
  | (a, z) :: m, h => by
    unfold mget at h
    unfold mput
    split at h
    · next e => rw [if_pos e]; exact ⟨rfl, rfl⟩
    · next e =>
      rw [if_neg e]
      obtain ⟨h1, h2⟩ := mput_len_old (x := x) h
      exact ⟨by rw [List.length_cons, List.length_cons, h1], by rw [List.map_cons, List.map_cons, h2]⟩
theorem mput_len_new {k : κ} {x : β} : ∀ {m : List (κ × β)}, mget m k = none → mput m k x = m ++ [(k, x)]
  | [], _ => rfl
  | (a, z) :: m, h => by
    unfold mget at h
    unfold mput
    split at h
    · cases h
    · next e => rw [if_neg e, mput_len_new h]; rfl
theorem mget_none_key {k : κ} : ∀ {m : List (κ × β)}, mget m k = none → k ∉ m.map (·.1)
  | [], _ => by simp
  | (a, y) :: m, h => by
    unfold mget at h
    split at h
    · cases h
    · next e =>
      rw [List.map_cons, List.mem_cons]
      exact fun o => o.elim (fun e' => e e'.symm) (mget_none_key h)
theorem mdel_len {k : κ} {y : β} : ∀ {m : List (κ × β)}, mget m k = some y → (mdel m k).length + 1 = m.length
  | [], h => by cases h
  | (a, z) :: m, h => by
    unfold mget at h
    unfold mdel
    split at h
    · next e => rw [if_pos e]; rfl
    · next e => rw [if_neg e, List.length_cons, List.length_cons, mdel_len h]
theorem mdel_subl (k : κ) : ∀ (m : List (κ × β)), ((mdel m k).map (·.1)).Sublist (m.map (·.1))
  | [] => List.Sublist.refl _
  | (a, z) :: m => by
    unfold mdel
    split
    · rw [List.map_cons]; exact List.sublist_cons_self _ _
    · rw [List.map_cons, List.map_cons]; exact (mdel_subl k m).cons_cons _
end assoc
/-- a state that is sound -/
structure Wf (m : Ms) : Prop where
  ok : MsOk m
  nd : (m.blocks.map (·.1)).Nodup
structure WfB (B : Bks) : Prop where
  b : ∀ p ∈ B, p.2.length = 8
  nd : (B.map (·.1)).Nodup
theorem WfB.put_old {B : Bks} (h : WfB B) {k : Int} {x y : List Nat} (hg : mget B k = some y) (hx : x.length = 8) : WfB (mput B k x) ∧ (mput B k x).length = B.length := by
  obtain ⟨h1, h2⟩ := mput_len_old (x := x) hg
  exact ⟨⟨mput_all (q := fun l : List Nat => l.length = 8) k x hx B h.b, by rw [h2]; exact h.nd⟩, h1⟩
theorem WfB.put_new {B : Bks} (h : WfB B) {k : Int} {x : List Nat} (hg : mget B k = none) (hx : x.length = 8) : WfB (mput B k x) ∧ (mput B k x).length = B.length + 1 := by
  refine ⟨⟨mput_all (q := fun l : List Nat => l.length = 8) k x hx B h.b, ?_⟩, by rw [mput_len_new hg, List.length_append]; rfl⟩
  rw [mput_len_new hg, List.map_append, List.nodup_append]
  refine ⟨h.nd, by simp, fun a ha b hb => ?_⟩
  have : b = k := by simpa using hb
  subst this
  exact fun e => mget_none_key hg (e ▸ ha)
theorem WfB.del {B : Bks} (h : WfB B) {k : Int} {y : List Nat} (hg : mget B k = some y) : WfB (mdel B k) ∧ (mdel B k).length + 1 = B.length :=
  ⟨⟨mdel_all (q := fun l : List Nat => l.length = 8) k B h.b, h.nd.sublist (mdel_subl k B)⟩, mdel_len hg⟩
theorem keys_full (B : Bks) (n : Nat) (h : ∀ j, 1 ≤ j → j ≤ n → ∃ y, mget B (j : Int) = some y) : n ≤ B.length := by
  have hsub : ((List.range n).map fun i => ((i + 1 : Nat) : Int)) ⊆ B.map (·.1) := by
    intro x hx
    obtain ⟨i, hi, rfl⟩ := List.mem_map.1 hx
    obtain ⟨y, hy⟩ := h (i + 1) (by omega) (by have := List.mem_range.1 hi; omega)
    exact mget_some_key hy
  have hnd : ((List.range n).map fun i => ((i + 1 : Nat) : Int)).Nodup := by
    refine List.Pairwise.map _ ?_ (List.nodup_range (n := n))
    intro a b (hab : a ≠ b) e
    omega
  have := hnd.length_le_of_subset hsub
  simpa using this
theorem least_of (p : Nat → Prop) : ∀ n, p n → ∃ k, k ≤ n ∧ p k ∧ ∀ j, j < k → ¬p j := by
  intro n
  induction n using Nat.strongRecOn with
  | _ n ih =>
    intro hn
    by_cases h : ∃ j, j < n ∧ p j
    · obtain ⟨j, hj, hp⟩ := h
      obtain ⟨k, hk, h1, h2⟩ := ih j hj hp
      exact ⟨k, by omega, h1, h2⟩
    · exact ⟨n, Nat.le_refl _, hn, fun j hj hp => h ⟨j, hj, hp⟩⟩
abbrev Prs := List (Nat × Nat)
structure Tb where
  cap : Nat
  pairs : Prs
abbrev SortP (l : Prs) : Prop := l.Pairwise (fun x y => x.1 < y.1)
def withoutP (key : Nat) (l : Prs) : Prs := l.filter (fun p => decide (p.1 ≠ key))
def loP (key : Nat) (l : Prs) : Prs := l.takeWhile (fun p => decide (p.1 < key))
def hiP (key : Nat) (l : Prs) : Prs := l.dropWhile (fun p => decide (p.1 < key))
def withP (key val : Nat) (l : Prs) : Prs := loP key (withoutP key l) ++ (key, val) :: hiP key (withoutP key l)
theorem loP_hiP (key : Nat) (l : Prs) : loP key l ++ hiP key l = l := List.takeWhile_append_dropWhile
/-- what becomes of a map, the error, the number -/
def doesM (k : Nat) (x : Option Tb) (key val : Nat) : Option Tb × Int × Nat :=
  if k = 0 then (match x with
    | some t => (some t, 40, 4)
    | none => (some ⟨key, []⟩, 0, 0)) else
  if 6 ≤ k then (x, 4, 0) else
  match x with
  | none => (none, 40, 3)
  | some t =>
    if k = 4 then (some t, 0, t.pairs.length) else
    if k = 5 then (if t.pairs.length = 0 then (none, 0, 0) else (some t, 40, 5)) else
    match mget t.pairs key with
    | some v => if k = 1 then (some ⟨t.cap, withP key val t.pairs⟩, 0, 1) else if k = 2 then (some t, 0, v) else (some ⟨t.cap, withoutP key t.pairs⟩, 0, 1)
    | none => if k = 1 then (if t.cap ≤ t.pairs.length then (some t, 40, 2) else (some ⟨t.cap, withP key val t.pairs⟩, 0, 0)) else if k = 2 then (some t, 40, 1) else (some t, 0, 0)
theorem withoutP_mem {key : Nat} {l : Prs} {p : Nat × Nat} : p ∈ withoutP key l ↔ p ∈ l ∧ p.1 ≠ key := by
  unfold withoutP
  rw [List.mem_filter]
  simp
theorem withoutP_sort {key : Nat} {l : Prs} (h : SortP l) : SortP (withoutP key l) := h.filter _
theorem withoutP_self {key : Nat} {l : Prs} (h : key ∉ l.map (·.1)) : withoutP key l = l := by
  unfold withoutP
  refine List.filter_eq_self.mpr fun p hp => ?_
  exact decide_eq_true fun e => h (by rw [← e]; exact List.mem_map_of_mem hp)
theorem loP_lt {key : Nat} : ∀ {l : Prs} {p : Nat × Nat}, p ∈ loP key l → p.1 < key
  | x :: xs, p, hp => by
    unfold loP at hp
    by_cases h : x.1 < key
    · rw [List.takeWhile_cons_of_pos (by simpa using h)] at hp
      rcases List.mem_cons.mp hp with rfl | hp
      · exact h
      · exact loP_lt (l := xs) hp
    · rw [List.takeWhile_cons_of_neg (by simpa using h)] at hp
      cases hp
theorem hiP_ge {key : Nat} : ∀ {l : Prs}, SortP l → ∀ {p : Nat × Nat}, p ∈ hiP key l → key ≤ p.1
  | x :: xs, hs, p, hp => by
    unfold hiP at hp
    by_cases h : x.1 < key
    · rw [List.dropWhile_cons_of_pos (by simpa using h)] at hp
      exact hiP_ge (List.pairwise_cons.mp hs).2 hp
    · rw [List.dropWhile_cons_of_neg (by simpa using h)] at hp
      rcases List.mem_cons.mp hp with rfl | hp
      · omega
      · have := (List.pairwise_cons.mp hs).1 p hp; omega
theorem withP_sort {key val : Nat} {l : Prs} (h : SortP l) : SortP (withP key val l) := by
  have h0 := withoutP_sort (key := key) h
  have h1 := h0
  rw [← loP_hiP key (withoutP key l)] at h1
  obtain ⟨p1, p2, p3⟩ := List.pairwise_append.mp h1
  refine List.pairwise_append.mpr ⟨p1, List.pairwise_cons.mpr ⟨fun y hy => ?_, p2⟩, fun x hx y hy => ?_⟩
  · have h2 := hiP_ge h0 hy
    have h3 : y ∈ withoutP key l := by rw [← loP_hiP key (withoutP key l)]; exact List.mem_append_right _ hy
    have h4 := (withoutP_mem.mp h3).2
    show key < y.1
    omega
  · rcases List.mem_cons.mp hy with rfl | hy
    · exact loP_lt hx
    · exact p3 x hx y hy
theorem withP_perm (key val : Nat) (l : Prs) : (withP key val l).Perm ((key, val) :: withoutP key l) := by
  have h := loP_hiP key (withoutP key l)
  have h1 : (withP key val l).Perm ((key, val) :: (loP key (withoutP key l) ++ hiP key (withoutP key l))) := List.perm_middle
  rw [h] at h1
  exact h1
theorem mget_mem_iff {l : Prs} (hn : (l.map (·.1)).Nodup) (k v : Nat) : mget l k = some v ↔ (k, v) ∈ l := by
  induction l with
  | nil => exact ⟨fun h => (by cases h), fun h => (by cases h)⟩
  | cons x xs ih =>
    obtain ⟨a, y⟩ := x
    rw [List.map_cons, List.nodup_cons] at hn
    show (if a = k then some y else mget xs k) = some v ↔ _
    by_cases h : a = k
    · rw [if_pos h]
      subst h
      constructor
      · intro e; injection e with e; subst e; simp
      · intro hm
        rcases List.mem_cons.mp hm with e | hm
        · injection e with _ e; rw [e]
        · exact absurd (List.mem_map_of_mem hm) hn.1
    · rw [if_neg h, ih hn.2]
      constructor
      · exact fun hm => List.mem_cons_of_mem _ hm
      · intro hm
        rcases List.mem_cons.mp hm with e | hm
        · injection e with e _; exact absurd e.symm h
        · exact hm
theorem mget_none_iff {l : Prs} (k : Nat) : mget l k = none ↔ k ∉ l.map (·.1) := ⟨fun h => mget_none_key h, fun h => mget_none_of h⟩
theorem SortP.nodup {l : Prs} (h : SortP l) : (l.map (·.1)).Nodup := by
  unfold List.Nodup
  rw [List.pairwise_map]
  exact h.imp fun h => Nat.ne_of_lt h
theorem mget_perm {l l' : Prs} (hp : l.Perm l') (hn : (l.map (·.1)).Nodup) (k : Nat) : mget l k = mget l' k := by
  have hn' : (l'.map (·.1)).Nodup := (hp.map (·.1)).nodup_iff.mp hn
  cases h : mget l k with
  | none =>
    symm
    rw [mget_none_iff] at h ⊢
    exact fun hm => h ((hp.map (·.1)).mem_iff.mpr hm)
  | some v =>
    symm
    rw [mget_mem_iff hn] at h
    rw [mget_mem_iff hn']
    exact hp.mem_iff.mp h
end Go.Proofs.YtphheopbngdhhaaGreatDoor
