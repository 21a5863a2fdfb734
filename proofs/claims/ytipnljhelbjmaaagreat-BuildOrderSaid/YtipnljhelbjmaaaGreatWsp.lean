/-
  What a transaction is to write, in plain terms: entries by a table with open addressing.
-/
import Derived.Test.YtipnljhelbjmaaaGreatInsc
namespace Go.Proofs.YtipnljhelbjmaaaGreat
/-- all entries, each where it came first, as it was put last -/
def allP (puts : List (Int × Nat)) : List (Int × Nat) := puts.foldl (fun m p => mput m p.1 p.2) []
theorem allP_snoc (puts : List (Int × Nat)) (a : Int) (x : Nat) : allP (puts ++ [(a, x)]) = mput (allP puts) a x := by simp [allP]
theorem mput_nodup {m : List (Int × Nat)} (h : (m.map (·.1)).Nodup) (a : Int) (x : Nat) : ((mput m a x).map (·.1)).Nodup := by
  cases hg : mget m a with
  | some y => rw [mput_keys m a x y hg]; exact h
  | none =>
    rw [mput_new m a x hg, List.map_append]
    refine List.nodup_append.2 ⟨h, by simp, ?_⟩
    intro b hb c hc
    simp only [List.map_cons, List.map_nil, List.mem_singleton] at hc
    subst hc
    exact fun e => mget_none hg (e ▸ hb)
theorem foldl_mput_nodup : ∀ (ps m : List (Int × Nat)), (m.map (·.1)).Nodup → ((ps.foldl (fun m p => mput m p.1 p.2) m).map (·.1)).Nodup
  | [], m, h => h
  | p :: ps, m, h => foldl_mput_nodup ps _ (mput_nodup h p.1 p.2)
theorem allP_nodup (puts : List (Int × Nat)) : ((allP puts).map (·.1)).Nodup := foldl_mput_nodup puts [] (by simp)

theorem nodup_inj {l : List Int} (h : l.Nodup) {i j : Nat} (hi : i < l.length) (hj : j < l.length) (e : l[i] = l[j]) : i = j := by
  have := List.pairwise_iff_getElem.1 h
  rcases Nat.lt_trichotomy i j with h1 | h1 | h1
  · exact absurd e (this i j hi hj h1)
  · exact h1
  · exact absurd e.symm (this j i hj hi h1)
/-! the first place at which something is so -/
def dist (p : Nat → Bool) : Nat → Nat → Nat
  | 0, d => d
  | n + 1, d => if p d then d else dist p n (d + 1)
theorem dist_spec {p : Nat → Bool} : ∀ (n d : Nat), (∃ e, d ≤ e ∧ e < d + n ∧ p e = true) → p (dist p n d) = true ∧ d ≤ dist p n d ∧ dist p n d < d + n ∧ ∀ e, d ≤ e → e < dist p n d → p e = false
  | 0, d, ⟨e, h1, h2, _⟩ => by omega
  | n + 1, d, ⟨e, h1, h2, h3⟩ => by
    unfold dist
    by_cases hp : p d = true
    · rw [if_pos hp]
      exact ⟨hp, Nat.le_refl _, by omega, fun e h1 h2 => by omega⟩
    · rw [if_neg hp]
      have hne : e ≠ d := fun h => hp (h ▸ h3)
      obtain ⟨g1, g2, g3, g4⟩ := dist_spec n (d + 1) ⟨e, by omega, by omega, h3⟩
      refine ⟨g1, by omega, by omega, fun e' h1 h2 => ?_⟩
      by_cases he : e' = d
      · subst he; simpa using hp
      · exact g4 e' (by omega) h2

/-- where a key's search begins -/
def hsh (sz : Nat) (a : Int) : Nat := (a * 11400714819323198485 % 18446744073709551616 / 1099511627776).toNat % sz
/-- the search ends at k: nothing stands there, or a's entry -/
def stopB (T : List Nat) (ks : List Int) (a : Int) (k : Nat) : Bool := T.getD k 0 == 0 || ks.getD (T.getD k 0 - 1) 0 == a
def far (T : List Nat) (ks : List Int) (a : Int) : Nat := dist (fun d => stopB T ks a ((hsh T.length a + d) % T.length)) T.length 0
def slotOf (T : List Nat) (ks : List Int) (a : Int) : Nat := (hsh T.length a + far T ks a) % T.length
/-- the table of the first n keys -/
def tabN (sz : Nat) (ks : List Int) : Nat → List Nat
  | 0 => List.replicate sz 0
  | n + 1 => (tabN sz ks n).set (slotOf (tabN sz ks n) (ks.take n) (ks.getD n 0)) (n + 1)
theorem tabN_len (sz : Nat) (ks : List Int) : ∀ n, (tabN sz ks n).length = sz
  | 0 => by simp [tabN]
  | n + 1 => by rw [tabN, List.length_set, tabN_len]
theorem tabN_app {sz : Nat} {ks l : List Int} : ∀ n, n ≤ ks.length → tabN sz (ks ++ l) n = tabN sz ks n
  | 0, _ => rfl
  | n + 1, h => by
    have h1 : n < ks.length := h
    rw [tabN, tabN, tabN_app n (by omega), List.take_append_of_le_length (by omega)]
    congr 2
    simp [List.getD_eq_getElem?_getD, List.getElem?_append_left h1]
structure TabOk (sz : Nat) (ks : List Int) (T : List Nat) (n : Nat) : Prop where
  len : T.length = sz
  val : ∀ k, k < sz → T.getD k 0 ≤ n
  one : ∀ j k, j < sz → k < sz → T.getD j 0 ≠ 0 → T.getD j 0 = T.getD k 0 → j = k
  count : (T.countP (· != 0)) ≤ n
  path : ∀ i, i < n → ∃ d, d < sz ∧ T.getD ((hsh sz (ks.getD i 0) + d) % sz) 0 = i + 1 ∧ ∀ e, e < d → T.getD ((hsh sz (ks.getD i 0) + e) % sz) 0 ≠ 0
theorem TabOk.zero {sz : Nat} {ks : List Int} {T : List Nat} {n : Nat} (h : TabOk sz ks T n) (hn : n < sz) : ∃ k, k < sz ∧ T.getD k 0 = 0 := by
  refine Decidable.by_contra fun hno => ?_
  have hall : ∀ x ∈ T, (x != 0) = true := by
    intro x hx
    obtain ⟨k, hk, rfl⟩ := List.mem_iff_getElem.1 hx
    have : T.getD k 0 ≠ 0 := fun h0 => hno ⟨k, by rw [← h.len]; exact hk, h0⟩
    rw [List.getD_eq_getElem?_getD, List.getElem?_eq_getElem hk] at this
    simpa using this
  have h1 := List.countP_eq_length.2 hall
  have h2 := h.count
  rw [h1, h.len] at h2
  omega
/-- every slot is come to -/
theorem reach {sz h k : Nat} (hk : k < sz) : ∃ d, d < sz ∧ (h + d) % sz = k := by
  have hh : h % sz < sz := Nat.mod_lt _ (by omega)
  refine ⟨(k + (sz - h % sz)) % sz, Nat.mod_lt _ (by omega), ?_⟩
  rw [Nat.add_mod, Nat.mod_mod, ← Nat.add_mod_mod]
  by_cases hle : h % sz ≤ k
  · have e : (k + (sz - h % sz)) % sz = k - h % sz := by
      rw [show k + (sz - h % sz) = (k - h % sz) + sz by omega, Nat.add_mod_right, Nat.mod_eq_of_lt (by omega)]
    rw [e, Nat.mod_eq_of_lt (a := k - h % sz) (by omega), Nat.add_sub_cancel' hle, Nat.mod_eq_of_lt hk]
  · have e : (k + (sz - h % sz)) % sz = k + (sz - h % sz) := Nat.mod_eq_of_lt (by omega)
    rw [e, e, show h % sz + (k + (sz - h % sz)) = k + sz by omega, Nat.add_mod_right, Nat.mod_eq_of_lt hk]
structure SlotIs (sz : Nat) (ks : List Int) (T : List Nat) (a : Int) : Prop where
  far : far T ks a < sz
  lt : slotOf T ks a < sz
  stop : stopB T ks a (slotOf T ks a) = true
  go : ∀ e, e < Go.Proofs.YtipnljhelbjmaaaGreat.far T ks a → stopB T ks a ((hsh sz a + e) % sz) = false
theorem slot_is {sz : Nat} {ks : List Int} {T : List Nat} {n : Nat} (h : TabOk sz ks T n) (hn : n < sz) (ks' : List Int) (a : Int) : SlotIs sz ks' T a := by
  obtain ⟨k, hk, h0⟩ := h.zero hn
  obtain ⟨d, hd, hr⟩ := reach (h := hsh sz a) hk
  have hex : ∃ e, 0 ≤ e ∧ e < 0 + T.length ∧ (fun d => stopB T ks' a ((hsh T.length a + d) % T.length)) e = true :=
    ⟨d, Nat.zero_le _, by rw [h.len]; omega, by rw [h.len]; show stopB T ks' a ((hsh sz a + d) % sz) = true; rw [hr]; unfold stopB; rw [h0]; rfl⟩
  obtain ⟨g1, g2, g3, g4⟩ := dist_spec T.length 0 hex
  rw [h.len, Nat.zero_add] at g3
  refine ⟨?_, ?_, g1, fun e he => ?_⟩
  · unfold far; rw [h.len]; exact g3
  · unfold slotOf; rw [h.len]; exact Nat.mod_lt _ (by omega)
  · have := g4 e (Nat.zero_le _) he
    rw [h.len] at this
    exact this
theorem slot_new {sz : Nat} {ks : List Int} {T : List Nat} {n : Nat} (h : TabOk sz ks T n) (hn : n < sz) {ks' : List Int} (hl : ks'.length = n) {a : Int} (ha : a ∉ ks') : T.getD (slotOf T ks' a) 0 = 0 := by
  have hs := slot_is h hn ks' a
  have h1 := hs.stop
  unfold stopB at h1
  simp only [Bool.or_eq_true, beq_iff_eq] at h1
  rcases h1 with h1 | h1
  · exact h1
  · by_cases h0 : T.getD (slotOf T ks' a) 0 = 0
    · exact h0
    · exfalso
      have hv := h.val _ hs.lt
      have hlt : T.getD (slotOf T ks' a) 0 - 1 < ks'.length := by omega
      rw [List.getD_eq_getElem?_getD (l := ks'), List.getElem?_eq_getElem hlt] at h1
      exact ha (by rw [← h1]; exact List.getElem_mem hlt)
theorem slot_old {sz : Nat} {ks : List Int} {T : List Nat} {n : Nat} (h : TabOk sz ks T n) (hn : n < sz) (hnd : ks.Nodup) (hl : n ≤ ks.length) {i : Nat} (hi : i < n) : T.getD (slotOf T (ks.take n) (ks.getD i 0)) 0 = i + 1 := by
  obtain ⟨d, hd, hT, hpre⟩ := h.path i hi
  have hs := slot_is h hn (ks.take n) (ks.getD i 0)
  have key : ∀ k, k < sz → T.getD k 0 ≠ 0 → (stopB T (ks.take n) (ks.getD i 0) k = true ↔ T.getD k 0 = i + 1) := by
    intro k hk h0
    have hv := h.val k hk
    have hlt : T.getD k 0 - 1 < ks.length := by omega
    have hlt2 : T.getD k 0 - 1 < n := by omega
    have hil : i < ks.length := by omega
    unfold stopB
    simp only [Bool.or_eq_true, beq_iff_eq, h0, false_or]
    rw [List.getD_eq_getElem?_getD (l := ks.take n), List.getElem?_take, if_pos hlt2, List.getElem?_eq_getElem hlt, List.getD_eq_getElem?_getD (l := ks), List.getElem?_eq_getElem hil]
    simp only [Option.getD_some]
    constructor
    · intro he
      have := nodup_inj hnd _ _ he
      omega
    · intro he
      congr 1
      omega
  have hmod : ∀ e, (hsh sz (ks.getD i 0) + e) % sz < sz := fun e => Nat.mod_lt _ (by omega)
  -- the search does not end ahead of d, and ends there
  have h1 : ¬ far T (ks.take n) (ks.getD i 0) < d := by
    intro hlt
    have h2 := hs.stop
    unfold slotOf at h2
    rw [h.len] at h2
    have h3 := (key _ (hmod _) (hpre _ hlt)).1 h2
    have h4 := h.one _ _ (hmod (far T (ks.take n) (ks.getD i 0))) (hmod d) (hpre _ hlt) (by rw [h3, hT])
    -- two distances below sz that come to one slot
    have hf := hs.far
    have e1 : ∀ x y z : Nat, x < sz → y < sz → (z + x) % sz = (z + y) % sz → x = y := by
      intro x y z hx hy hxy
      have h5 : (z % sz + x) % sz = (z % sz + y) % sz := by rw [Nat.mod_add_mod, Nat.mod_add_mod]; exact hxy
      have hz : z % sz < sz := Nat.mod_lt _ (by omega)
      generalize z % sz = q at h5 hz
      have a1 : (q + x) % sz = if q + x < sz then q + x else q + x - sz := by
        split
        · exact Nat.mod_eq_of_lt (by assumption)
        · rw [Nat.mod_eq_sub_mod (by omega), Nat.mod_eq_of_lt (by omega)]
      have a2 : (q + y) % sz = if q + y < sz then q + y else q + y - sz := by
        split
        · exact Nat.mod_eq_of_lt (by assumption)
        · rw [Nat.mod_eq_sub_mod (by omega), Nat.mod_eq_of_lt (by omega)]
      rw [a1, a2] at h5
      split at h5 <;> split at h5 <;> omega
    have := e1 _ _ _ hf hd h4
    omega
  have h2 : ¬ d < far T (ks.take n) (ks.getD i 0) := by
    intro hlt
    have h3 := hs.go d hlt
    have h4 := (key _ (hmod d) (by rw [hT]; omega)).2 hT
    rw [h3] at h4
    cases h4
  have h3 : far T (ks.take n) (ks.getD i 0) = d := by omega
  unfold slotOf
  rw [h3, h.len]
  exact hT
theorem getD_set (l : List Nat) (i k x : Nat) (hk : k < l.length) : (l.set i x).getD k 0 = if i = k then x else l.getD k 0 := by
  rw [List.getD_eq_getElem?_getD, List.getElem?_set, List.getD_eq_getElem?_getD]
  by_cases h : i = k
  · subst h; simp [hk]
  · simp [h]
theorem countP_set_le (p : Nat → Bool) : ∀ (l : List Nat) (i x : Nat), (l.set i x).countP p ≤ l.countP p + 1
  | [], i, x => by simp
  | y :: l, 0, x => by
    simp only [List.set_cons_zero, List.countP_cons]
    split <;> split <;> omega
  | y :: l, i + 1, x => by
    have := countP_set_le p l i x
    simp only [List.set_cons_succ, List.countP_cons]
    split <;> omega
theorem tab_ok {sz : Nat} {ks : List Int} (hnd : ks.Nodup) : ∀ n, n ≤ ks.length → n ≤ sz → TabOk sz ks (tabN sz ks n) n
  | 0, _, _ => by
    have h0 : ∀ k, (tabN sz ks 0).getD k 0 = 0 := by
      intro k
      rw [tabN, List.getD_eq_getElem?_getD, List.getElem?_replicate]
      split <;> rfl
    refine ⟨tabN_len _ _ _, fun k _ => by rw [h0]; exact Nat.le_refl _, fun j k _ _ hj => absurd (h0 j) hj, ?_, fun i hi => by omega⟩
    rw [tabN, List.countP_replicate]
    simp
  | n + 1, hl, hs => by
    have ih := tab_ok (sz := sz) hnd n (by omega) (by omega)
    have hlt : n < sz := by omega
    have hnl : n < ks.length := by omega
    have hnew : ks.getD n 0 ∉ ks.take n := by
      intro hm
      obtain ⟨i, hi, he⟩ := List.mem_iff_getElem.1 hm
      simp only [List.length_take] at hi
      rw [List.getElem_take, List.getD_eq_getElem?_getD, List.getElem?_eq_getElem hnl] at he
      have := nodup_inj hnd _ _ he
      omega
    have hz := slot_new ih hlt (ks' := ks.take n) (by rw [List.length_take]; omega) hnew
    have hsi := slot_is ih hlt (ks.take n) (ks.getD n 0)
    rw [tabN]
    generalize hT : tabN sz ks n = T at *
    generalize hS : slotOf T (ks.take n) (ks.getD n 0) = s at *
    have hg : ∀ k, k < sz → (T.set s (n + 1)).getD k 0 = if s = k then n + 1 else T.getD k 0 := fun k hk => getD_set T s k (n + 1) (by rw [ih.len]; exact hk)
    have hslt : s < sz := hS ▸ hsi.lt
    refine ⟨by rw [List.length_set]; exact ih.len, fun k hk => ?_, fun j k hj hk h0 he => ?_, ?_, fun i hi => ?_⟩
    · rw [hg k hk]
      have := ih.val k hk
      split <;> omega
    · rw [hg j hj] at h0 he
      rw [hg k hk] at he
      have v1 := ih.val j hj
      have v2 := ih.val k hk
      by_cases a : s = j
      · by_cases b : s = k
        · omega
        · rw [if_pos a, if_neg b] at he; omega
      · rw [if_neg a] at h0 he
        by_cases b : s = k
        · rw [if_pos b] at he; omega
        · rw [if_neg b] at he
          exact ih.one j k hj hk h0 he
    · have := countP_set_le (· != 0) T s (n + 1)
      have := ih.count
      omega
    · have hmod : ∀ e, (hsh sz (ks.getD i 0) + e) % sz < sz := fun e => Nat.mod_lt _ (by omega)
      by_cases hin : i < n
      · obtain ⟨d, hd, hTd, hpre⟩ := ih.path i hin
        refine ⟨d, hd, ?_, fun e he => ?_⟩
        · rw [hg _ (hmod d), if_neg, hTd]
          intro hsd
          rw [hsd, hTd] at hz
          omega
        · rw [hg _ (hmod e)]
          split
          · omega
          · exact hpre e he
      · obtain rfl : i = n := by omega
        refine ⟨far T (ks.take i) (ks.getD i 0), hsi.far, ?_, fun e he => ?_⟩
        · have hS' : (hsh sz (ks.getD i 0) + far T (ks.take i) (ks.getD i 0)) % sz = s := by
            rw [← hS]; unfold slotOf; rw [ih.len]
          rw [hS', hg s hslt, if_pos rfl]
        · have hgo := hsi.go e he
          unfold stopB at hgo
          simp only [Bool.or_eq_false_iff, beq_eq_false_iff_ne] at hgo
          rw [hg _ (hmod e)]
          split
          · omega
          · exact hgo.1
end Go.Proofs.YtipnljhelbjmaaaGreat
