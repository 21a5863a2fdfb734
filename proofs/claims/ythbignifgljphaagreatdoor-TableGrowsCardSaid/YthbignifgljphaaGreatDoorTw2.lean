/-
  Package tumblerlaw22: TableGrows: what stands in a map, and what was put last.
-/
import Derived.Test.YthbignifgljphaaGreatDoorTk
import Derived.Test.YthbignifgljphaaGreatDoorSr
namespace Go.Proofs.YthbignifgljphaaGreatDoor
set_option maxRecDepth 100000
abbrev N64 := { x : Nat // x < 18446744073709551616 }
def n64V (x : N64) : List Value := [.int .u64 (x.1 : Int)]
theorem mget_withoutP (key : Nat) : ∀ (l : Prs) (j : Nat), mget (withoutP key l) j = if j = key then none else mget l j
  | [], j => by show none = _; split <;> rfl
  | (a, v) :: l, j => by
    have ih := mget_withoutP key l j
    unfold withoutP at ih ⊢
    by_cases h : a = key
    · rw [List.filter_cons_of_neg (by simp [h]), ih]
      by_cases hj : j = key
      · rw [if_pos hj, if_pos hj]
      · rw [if_neg hj, if_neg hj]
        show _ = if a = j then _ else _
        rw [if_neg (by omega)]
    · rw [List.filter_cons_of_pos (by simp [h])]
      show (if a = j then some v else mget (List.filter _ l) j) = _
      rw [ih]
      by_cases hj : j = key
      · rw [if_neg (by omega), if_pos hj, if_pos hj]
      · rw [if_neg hj, if_neg hj]
        rfl
theorem withoutP_len_eq (key : Nat) : ∀ {l : Prs}, (l.map (·.1)).Nodup → (withoutP key l).length + (if (mget l key).isSome then 1 else 0) = l.length
  | [], _ => rfl
  | (a, v) :: l, hn => by
    rw [List.map_cons, List.nodup_cons] at hn
    have ih := withoutP_len_eq key hn.2
    unfold withoutP at ih ⊢
    by_cases h : a = key
    · subst h
      rw [List.filter_cons_of_neg (by simp)]
      have h0 : mget l a = none := mget_none_of hn.1
      rw [h0] at ih
      have h1 : mget ((a, v) :: l) a = some v := if_pos rfl
      rw [h1]
      simp at ih ⊢
      exact ih
    · rw [List.filter_cons_of_pos (by simp [h])]
      have h1 : mget ((a, v) :: l) key = mget l key := if_neg h
      rw [h1, List.length_cons, List.length_cons, ← ih]
      omega
theorem mget_withP {key val : Nat} {l : Prs} (hs : SortP l) (j : Nat) : mget (withP key val l) j = if key = j then some val else mget l j := by
  rw [mget_perm (withP_perm key val l) (withP_sort hs).nodup j]
  show (if key = j then some val else mget (withoutP key l) j) = _
  by_cases h : key = j
  · rw [if_pos h, if_pos h]
  · rw [if_neg h, if_neg h, mget_withoutP, if_neg (fun e => h e.symm)]
theorem withP_len_eq {key val : Nat} {l : Prs} (hs : SortP l) : (withP key val l).length = if (mget l key).isSome then l.length else l.length + 1 := by
  have h1 := (withP_perm key val l).length_eq
  have h2 := withoutP_len_eq key hs.nodup
  rw [List.length_cons] at h1
  cases h : (mget l key).isSome
  · rw [h] at h2
    simp at h2 ⊢
    omega
  · rw [h] at h2
    simp at h2 ⊢
    omega
theorem mem_mdel {κ β : Type} [DecidableEq κ] {k : κ} : ∀ {m : List (κ × β)}, (m.map (·.1)).Nodup → ∀ {p : κ × β}, p ∈ mdel m k → p ∈ m ∧ p.1 ≠ k
  | [], _, _, h => by cases h
  | (a, y) :: m, hn, p, h => by
    rw [List.map_cons, List.nodup_cons] at hn
    unfold mdel at h
    split at h
    · next e =>
      subst e
      exact ⟨List.mem_cons_of_mem _ h, fun e => hn.1 (by rw [← e]; exact List.mem_map_of_mem (f := (·.1)) h)⟩
    · next e =>
      rcases List.mem_cons.mp h with rfl | h
      · exact ⟨by simp, e⟩
      · obtain ⟨h1, h2⟩ := mem_mdel hn.2 h
        exact ⟨List.mem_cons_of_mem _ h1, h2⟩
theorem mdel_none {κ β : Type} [DecidableEq κ] {k : κ} : ∀ {m : List (κ × β)}, mget m k = none → mdel m k = m
  | [], _ => rfl
  | (a, y) :: m, h => by
    unfold mget at h
    unfold mdel
    split at h
    · cases h
    · next e => rw [if_neg e, mdel_none h]
theorem Rep.sort {R : List Nat} {B : Bks} {root own : Nat} {s : Nat × Nat × Nat} {t : Tb} (h : Rep R B root own s (some t)) : SortP t.pairs := by
  obtain ⟨_, _, _, _, _, h5, _⟩ := h
  exact h5
theorem QInv.at {m : Ms} {root : Nat} {x : Option Tb} {own : Nat} {s : Nat × Nat × Nat} {n n' : Nat} (h : QInv m root x own s n) (hn : tSize x ≤ n') : QInv m root x own s n' := ⟨h.wf, h.rl, h.rep, h.len, hn⟩
/-- a map in blocks, and what was put for each key last -/
structure GInv (m : Ms) (P : Prs) (lm : Seen) (own : Nat) (s : Nat × Nat × Nat) : Prop where
  q : QInv m 0 (some ⟨60, P⟩) own s 24
  get : ∀ j : Nat, mget P j = mget lm (j : Int)
  len : P.length = lm.length
  nd : (lm.map (·.1)).Nodup
theorem GInv.sort {m : Ms} {P : Prs} {lm : Seen} {own : Nat} {s : Nat × Nat × Nat} (h : GInv m P lm own s) : SortP P := h.q.rep.sort
/-- a run, as a contract with its answer -/
theorem GInv.run {m : Ms} {P : Prs} {lm : Seen} {own : Nat} {s : Nat × Nat × Nat} (h : GInv m P lm own s) (S k key val : Nat) (hk : k < 6) (ha : key < 18446744073709551616) {x : Option Tb} {c : Int} {v : Nat} (hd : doesM k (some ⟨60, P⟩) key val = (x, c, v)) :
    ∃ m' own' s' st dw nl, QInv m' 0 x own' s' 25 ∧ Tri Tryz.prog 15 #[.pointer (some ⟨S, 0, none⟩), bs (nmB k), .int .u64 0, .int .u64 (key : Int), .int .u64 (val : Int)] [MsE S m]
      fun e L => ∃ nad ncap, e = .agg ⟨[.int .i64 c, .int .u64 (v : Int), .int .i64 st, .int .i64 dw, .slice nad nl ncap]⟩ ∧ L = [MsE S m'] := by
  obtain ⟨r, hr, hran, own', h'⟩ := h.q.step (by decide) k key val hk (by decide) ha
  have h2 := lrun_t S m h.q.ok k hk 0 key val r hr
  obtain ⟨e1, e2⟩ := hran.res
  rw [hd] at e1 e2 h'
  unfold doneV at h2
  rw [e1, e2] at h2
  exact ⟨_, own', _, _, _, _, h', h2⟩
theorem does_put {P : Prs} {lm : Seen} {key val : Nat} (hg : mget P key = mget lm (key : Int)) (hl : P.length < 60) : doesM 1 (some ⟨60, P⟩) key val = (some ⟨60, withP key val P⟩, 0, if (mget lm (key : Int)).isSome then 1 else 0) := by
  unfold doesM
  rw [← hg]
  cases h : mget P key with
  | some v => simp [h]
  | none => simp [h]; omega
theorem does_get {P : Prs} {key v : Nat} (hg : mget P key = some v) : doesM 2 (some ⟨60, P⟩) key 0 = (some ⟨60, P⟩, 0, v) := by
  unfold doesM; simp [hg]
theorem does_miss {P : Prs} {key : Nat} (hg : mget P key = none) : doesM 2 (some ⟨60, P⟩) key 0 = (some ⟨60, P⟩, 40, 1) := by
  unfold doesM; simp [hg]
theorem does_del {P : Prs} {lm : Seen} {key : Nat} (hg : mget P key = mget lm (key : Int)) : doesM 3 (some ⟨60, P⟩) key 0 = (some ⟨60, withoutP key P⟩, 0, if (mget lm (key : Int)).isSome then 1 else 0) := by
  unfold doesM
  rw [← hg]
  cases h : mget P key with
  | some v => simp [h]
  | none =>
    have e : withoutP key P = P := withoutP_self ((mget_none_iff key).mp h)
    simp [h, e]
theorem GInv.put {m m' : Ms} {P : Prs} {lm : Seen} {own own' : Nat} {s s' : Nat × Nat × Nat} (h : GInv m P lm own s) {key val : Nat} (hl : lm.length < 24) (hq : QInv m' 0 (some ⟨60, withP key val P⟩) own' s' 25) : GInv m' (withP key val P) (mput lm (key : Int) val) own' s' := by
  have h1 := withP_len_eq (key := key) (val := val) h.sort
  rw [h.get key, h.len] at h1
  have hml : (mput lm (key : Int) val).length = if (mget lm (key : Int)).isSome then lm.length else lm.length + 1 := by
    cases hg : mget lm (key : Int) with
    | some y => exact (mput_len_old hg).1
    | none => rw [mput_len_new hg, List.length_append]; rfl
  have hle : (withP key val P).length ≤ 24 := by rw [h1]; split <;> omega
  refine ⟨hq.at hle, fun j => ?_, h1.trans hml.symm, ?_⟩
  · rw [mget_withP h.sort, mget_mput, h.get j]
    by_cases e : key = j
    · rw [if_pos e, if_pos (by omega)]
    · rw [if_neg e, if_neg (by omega)]
  · cases hg : mget lm (key : Int) with
    | some y => rw [(mput_len_old hg).2]; exact h.nd
    | none =>
      rw [mput_len_new hg, List.map_append, List.nodup_append]
      refine ⟨h.nd, by simp, fun a ha b hb => ?_⟩
      have : b = (key : Int) := by simpa using hb
      subst this
      exact fun e => mget_none_key hg (e ▸ ha)
theorem GInv.same {m m' : Ms} {P : Prs} {lm : Seen} {own own' : Nat} {s s' : Nat × Nat × Nat} (h : GInv m P lm own s) (hq : QInv m' 0 (some ⟨60, P⟩) own' s' 25) : GInv m' P lm own' s' :=
  ⟨hq.at h.q.n, h.get, h.len, h.nd⟩
theorem GInv.del {m m' : Ms} {P : Prs} {lm : Seen} {own own' : Nat} {s s' : Nat × Nat × Nat} (h : GInv m P lm own s) {key : Nat} (hq : QInv m' 0 (some ⟨60, withoutP key P⟩) own' s' 25) : GInv m' (withoutP key P) (mdel lm (key : Int)) own' s' := by
  have h1 := withoutP_len_eq key h.sort.nodup
  have h2 := withoutP_len key P
  have h3 : P.length ≤ 24 := h.q.n
  have hml : (mdel lm (key : Int)).length + (if (mget lm (key : Int)).isSome then 1 else 0) = lm.length := by
    cases hg : mget lm (key : Int) with
    | some y => exact mdel_len hg
    | none => rw [mdel_none hg]; rfl
  rw [h.get key] at h1
  have h4 := h.len
  refine ⟨hq.at (by show (withoutP key P).length ≤ 24; omega), fun j => ?_, by omega, h.nd.sublist (mdel_subl _ lm)⟩
  rw [mget_withoutP]
  by_cases e : j = key
  · subst e
    rw [if_pos rfl, mget_mdel_same h.nd]
  · rw [if_neg e, mget_mdel_ne (by omega), h.get j]
end Go.Proofs.YthbignifgljphaaGreatDoor
