/-
  The law BuildOrder, in plain terms: where each cell stands among all that is written.
-/
import Derived.Test.YtipnljhelbjmaaaGreatBm
namespace Go.Proofs.YtipnljhelbjmaaaGreat
theorem mget_memP {m : List (Int × Nat)} (hn : (m.map (·.1)).Nodup) {a : Int} {v : Nat} (h : (a, v) ∈ m) : mget m a = some v := by
  induction m with
  | nil => cases h
  | cons p m ih =>
    obtain ⟨q, y⟩ := p
    rw [List.map_cons, List.nodup_cons] at hn
    simp only [mget]
    rcases List.mem_cons.1 h with h | h
    · injection h with h1 h2
      subst h1; subst h2
      rw [if_pos rfl]
    · rw [if_neg, ih hn.2 h]
      rintro rfl
      exact hn.1 (List.mem_map_of_mem (f := (·.1)) h)
/-- where the first k entries stand -/
def atM (l : List (Int × Nat)) : Nat → List (Int × Int)
  | 0 => []
  | k + 1 => mput (atM l k) (l.getD k (0, 0)).1 ((k : Int) + 1)
theorem atM_get {l : List (Int × Nat)} (hnd : (l.map (·.1)).Nodup) : ∀ k, k ≤ l.length → ∀ a v, mget (atM l k) a = some v ↔ ∃ i, ∃ _ : i < l.length, i < k ∧ l[i].1 = a ∧ v = (i : Int) + 1
  | 0, _, a, v => ⟨fun h => (by cases h), fun ⟨i, _, h, _⟩ => (by omega)⟩
  | k + 1, hk, a, v => by
    have ih := atM_get hnd k (by omega) a v
    have hg : (l.getD k (0, 0)) = l[k] := by rw [List.getD_eq_getElem?_getD, List.getElem?_eq_getElem (by omega)]; rfl
    unfold atM
    rw [hg, mget_mput]
    by_cases he : a = l[k].1
    · rw [if_pos he]
      refine ⟨fun h => ⟨k, by omega, by omega, he.symm, by injection h with h; exact h.symm⟩, ?_⟩
      rintro ⟨i, hi, _, h1, rfl⟩
      have : i = k := by
        refine nodup_inj hnd (by rw [List.length_map]; exact hi) (by rw [List.length_map]; omega) ?_
        rw [List.getElem_map, List.getElem_map, h1, he]
      rw [this]
    · rw [if_neg he, ih]
      constructor
      · rintro ⟨i, hi, h1, h2, h3⟩
        exact ⟨i, hi, by omega, h2, h3⟩
      · rintro ⟨i, hi, h1, h2, h3⟩
        refine ⟨i, hi, ?_, h2, h3⟩
        rcases Nat.lt_or_ge i k with h | h
        · exact h
        · have : i = k := by omega
          subst this
          exact absurd h2.symm he
/-- where a cell stands -/
def atOf (l : List (Int × Nat)) (k : Nat) (a : Int) : Int := (mget (atM l k) a).getD 0
theorem atOf_cases {l : List (Int × Nat)} (hnd : (l.map (·.1)).Nodup) {k : Nat} (hk : k ≤ l.length) (a : Int) : (atOf l k a = 0 ∧ ∀ i (_ : i < l.length), i < k → l[i].1 ≠ a) ∨ ∃ i, ∃ _ : i < l.length, i < k ∧ l[i].1 = a ∧ atOf l k a = (i : Int) + 1 := by
  have h := atM_get hnd k hk a
  unfold atOf
  cases hg : mget (atM l k) a with
  | none =>
    refine .inl ⟨rfl, fun i hi hik e => ?_⟩
    have := (h ((i : Int) + 1)).2 ⟨i, hi, hik, e, rfl⟩
    rw [hg] at this
    cases this
  | some v =>
    obtain ⟨i, hi, h1, h2, h3⟩ := (h v).1 hg
    exact .inr ⟨i, hi, h1, h2, h3⟩
theorem atOf_new {l : List (Int × Nat)} (hnd : (l.map (·.1)).Nodup) {k : Nat} (hk : k < l.length) : atOf l k l[k].1 = 0 := by
  rcases atOf_cases hnd (Nat.le_of_lt hk) l[k].1 with h | ⟨i, hi, h1, h2, _⟩
  · exact h.1
  · have : i = k := by
      refine nodup_inj hnd (by rw [List.length_map]; exact hi) (by rw [List.length_map]; exact hk) ?_
      rw [List.getElem_map, List.getElem_map, h2]
    omega
theorem atOf_at {l : List (Int × Nat)} (hnd : (l.map (·.1)).Nodup) {i : Nat} (hi : i < l.length) : atOf l l.length l[i].1 = (i : Int) + 1 := by
  rcases atOf_cases hnd (Nat.le_refl _) l[i].1 with h | ⟨j, hj, h1, h2, h3⟩
  · exact absurd rfl (h.2 i hi hi)
  · have : j = i := by
      refine nodup_inj hnd (by rw [List.length_map]; exact hj) (by rw [List.length_map]; exact hi) ?_
      rw [List.getElem_map, List.getElem_map, h2]
    rw [h3, this]
theorem two_of {α : Type} {a b : α} : ∀ {l : List α}, [a, b].Sublist l → ∃ i j, ∃ _ : i < l.length, ∃ _ : j < l.length, i < j ∧ l[i] = a ∧ l[j] = b
  | _, .cons x h => by
    obtain ⟨i, j, hi, hj, h1, h2, h3⟩ := two_of h
    exact ⟨i + 1, j + 1, by simp; omega, by simp; omega, by omega, by simpa using h2, by simpa using h3⟩
  | _, .cons_cons _ h => by
    rename_i l
    have hb : b ∈ l := h.subset (by simp)
    obtain ⟨j, hj, e⟩ := List.getElem_of_mem hb
    exact ⟨0, j + 1, by simp, by simp; omega, by omega, rfl, by simpa using e⟩
theorem atOf_two {l : List (Int × Nat)} (hnd : (l.map (·.1)).Nodup) {a b : Int} (h : [a, b].Sublist (l.map (·.1))) : 1 ≤ atOf l l.length a ∧ atOf l l.length a ≤ atOf l l.length b := by
  obtain ⟨i, j, hi, hj, hij, ha, hb⟩ := two_of h
  rw [List.length_map] at hi hj
  rw [List.getElem_map] at ha hb
  rw [← ha, ← hb, atOf_at hnd hi, atOf_at hnd hj]
  omega
theorem Cfg.what_call {c : Cfg} {u j : Int} (hc : Small c) (h0 : 0 ≤ u) (h1 : u < c.threads) (hj : j = 0 ∨ j = 1 ∨ j = 2) : (c.what (c.at (7 + j) u 0)).1 ≠ 16 := by
  rw [Cfg.at789 h0 h1 hj]
  have hn := hc.nums.f7; have := hc.t0; have := hc.b0; have := hc.limit
  obtain ⟨hf7, hf10, hf11, hf12, hf13, hf14, hf15, hf16, hf17, hstr⟩ := c.froms
  generalize hp : c.f7 + 3 * u + j = p
  have hm := Int.emod_nonneg (p - c.f7) (show (3 : Int) ≠ 0 by decide)
  have hm2 := Int.emod_lt_of_pos (p - c.f7) (show (0 : Int) < 3 by decide)
  unfold Cfg.what
  rw [if_neg (by omega), if_neg (by omega), if_neg (by omega), if_pos (by omega)]
  dsimp only
  omega
theorem ents_sub {c : Cfg} {P : List (Int × Nat)} {a b : Int} (ha : (c.what a).1 ≠ 16) (hb : (c.what b).1 ≠ 16) (h : [a, b].Sublist (keysP P)) : [a, b].Sublist ((entriesOf c P).map (·.1)) := by
  obtain ⟨l', hl, he⟩ := List.sublist_map_iff.1 h
  have hf : l'.filter (entB c P) = l' := by
    rw [List.filter_eq_self]
    intro x hx
    have : x.1 ∈ [a, b] := by rw [he]; exact List.mem_map_of_mem (f := (·.1)) hx
    unfold entB
    rw [if_neg]
    simp only [List.mem_cons, List.not_mem_nil, or_false] at this
    rcases this with e | e <;> rw [e] <;> assumption
  rw [he, ← hf]
  exact (hl.filter (entB c P)).map _
theorem ents_nodup (c : Cfg) (P : List (Int × Nat)) : ((entriesOf c P).map (·.1)).Nodup :=
  (allP_nodup P).sublist (List.filter_sublist.map _)
theorem ents_word {c : Cfg} {P : List (Int × Nat)} {e x : Int × Nat} (he : e ∈ entriesOf c P) (hk : (c.what e.1).1 = 16) (hx : x ∈ entriesOf c P) (h : x.1 = c.at 11 (c.what e.1).2.1 0) : x.2 = 1 := by
  have h1 := (List.mem_filter.1 he).2
  have h2 := (List.mem_filter.1 hx).1
  have h3 := mget_memP (allP_nodup P) (a := x.1) (v := x.2) h2
  unfold entB at h1
  rw [if_pos hk, ← h, h3] at h1
  simp only [Option.isSome_some, Option.getD_some, Bool.true_and, Bool.not_eq_true', bne_eq_false_iff_eq] at h1
  omega
theorem ents_len (c : Cfg) (P : List (Int × Nat)) : (entriesOf c P).length ≤ P.length := Nat.le_trans (List.length_filter_le _ _) (allP_len P)
/-- a row's places -/
theorem Bz.ats {c : Cfg} {rows : List BRow} {P : List (Int × Nat)} (hc : Small c) (h : Bz c rows P) {r : BRow} (hr : r ∈ rows) :
    1 ≤ atOf (entriesOf c P) (entriesOf c P).length (c.at 8 r.who 0) ∧ atOf (entriesOf c P) (entriesOf c P).length (c.at 8 r.who 0) ≤ atOf (entriesOf c P) (entriesOf c P).length (c.at 7 r.who 0) ∧
    1 ≤ atOf (entriesOf c P) (entriesOf c P).length (c.at 9 r.who 0) ∧ atOf (entriesOf c P) (entriesOf c P).length (c.at 9 r.who 0) ≤ atOf (entriesOf c P) (entriesOf c P).length (c.at 7 r.who 0) := by
  obtain ⟨⟨h0, h1⟩, h2, h3⟩ := h.rows r hr
  have hnd := ents_nodup c P
  have w7 := Cfg.what_call (j := 0) hc h0 h1 (by omega)
  have w8 := Cfg.what_call (j := 1) hc h0 h1 (by omega)
  have w9 := Cfg.what_call (j := 2) hc h0 h1 (by omega)
  obtain ⟨a, b⟩ := atOf_two hnd (ents_sub w8 w7 h2)
  obtain ⟨d, e⟩ := atOf_two hnd (ents_sub w9 w7 h3)
  exact ⟨a, b, d, e⟩
/-- a transaction, reply by reply -/
def bit (c : Cfg) (progs : Progs) (m : Bm) (outs : List Out) : Nat → Bm
  | 0 => m
  | k + 1 => (bit c progs m outs k).tell c c.cap.toNat progs (outs.getD k ⟨⟨0, 0⟩, false⟩)
theorem bit_inv {c : Cfg} (hc : Small c) (hf : 0 ≤ c.fuel ∧ c.fuel ≤ 1000) {progs : Progs} {m : Bm} (h : Binv c progs m) (outs : List Out) : ∀ k, Binv c progs (bit c progs m outs k)
  | 0 => h
  | k + 1 => (bit_inv hc hf h outs k).tell hc hf _
end Go.Proofs.YtipnljhelbjmaaaGreat
