/-
  A transaction that is made, in plain terms: there is room for all, and each answer's code and value stand ahead of its tag.
-/
import Derived.Test.YtemaaenipjinaaaGreatBa
namespace Go.Proofs.YtemaaenipjinaaaGreat
theorem mput_len (m : List (Int × Nat)) (a : Int) (x : Nat) : (mput m a x).length ≤ m.length + 1 := by
  induction m with
  | nil => simp [mput]
  | cons p m ih =>
    unfold mput
    split
    · simp
    · simp only [List.length_cons]; omega
theorem foldl_mput_len : ∀ (ps m : List (Int × Nat)), (ps.foldl (fun m p => mput m p.1 p.2) m).length ≤ m.length + ps.length
  | [], m => Nat.le_refl _
  | p :: ps, m => by
    have := foldl_mput_len ps (mput m p.1 p.2)
    have := mput_len m p.1 p.2
    rw [List.foldl_cons, List.length_cons]; omega
theorem putP_in {room : Nat} {P : List (Int × Nat)} (h : P.length < room) (a : Int) (v : Nat) : putP room P a v = P ++ [(a, v)] := by
  unfold putP
  rw [if_neg]
  rintro ⟨_, h1⟩
  have := allP_len P
  omega
theorem mput_keys_pre (m : List (Int × Nat)) (a : Int) (x : Nat) : m.map (·.1) <+: (mput m a x).map (·.1) := by
  cases h : mget m a with
  | some y => rw [mput_keys m a x y h]; exact List.prefix_refl _
  | none => rw [mput_new m a x h, List.map_append]; exact List.prefix_append _ _
theorem keysP_snoc_pre (P : List (Int × Nat)) (a : Int) (v : Nat) : keysP P <+: keysP (P ++ [(a, v)]) := by
  unfold keysP; rw [allP_snoc]; exact mput_keys_pre _ _ _
theorem keysP_pre : ∀ (l P : List (Int × Nat)), keysP P <+: keysP (P ++ l)
  | [], P => by rw [List.append_nil]; exact List.prefix_refl _
  | (a, v) :: l, P => by
    have := keysP_pre l (P ++ [(a, v)])
    rw [List.append_assoc] at this
    exact (keysP_snoc_pre P a v).trans this
theorem mput_mem {m : List (Int × Nat)} {a : Int} {x : Nat} {k : Int} (h : k ∈ (mput m a x).map (·.1)) : k ∈ m.map (·.1) ∨ k = a := by
  cases hg : mget m a with
  | some y => rw [mput_keys m a x y hg] at h; exact .inl h
  | none => rw [mput_new m a x hg, List.map_append] at h; simpa using h
theorem foldl_mput_mem : ∀ (ps m : List (Int × Nat)) (k : Int), k ∈ (ps.foldl (fun m p => mput m p.1 p.2) m).map (·.1) → k ∈ m.map (·.1) ∨ ∃ x ∈ ps, x.1 = k
  | [], m, k, h => .inl h
  | p :: ps, m, k, h => by
    rcases foldl_mput_mem ps _ k h with h | ⟨x, hx, he⟩
    · rcases mput_mem h with h | h
      · exact .inl h
      · exact .inr ⟨p, by simp, h.symm⟩
    · exact .inr ⟨x, by simp [hx], he⟩
theorem keysP_mem {P : List (Int × Nat)} {k : Int} (h : k ∈ keysP P) : ∃ x ∈ P, x.1 = k := by
  rcases foldl_mput_mem P [] k h with h | h
  · simp at h
  · exact h
theorem keysP_new {P : List (Int × Nat)} {a : Int} (h : a ∉ keysP P) (v : Nat) : keysP (P ++ [(a, v)]) = keysP P ++ [a] := by
  have hg : mget (allP P) a = none := by
    cases hq : mget (allP P) a with
    | none => rfl
    | some y =>
      exfalso
      apply h
      have : ∀ {m : List (Int × Nat)}, mget m a = some y → a ∈ m.map (·.1) := fun {m} => by
        induction m with
        | nil => intro h; cases h
        | cons p m ih =>
          intro h
          unfold mget at h
          split at h
          · simp [*]
          · simp [ih h]
      exact this hq
  unfold keysP
  rw [allP_snoc, mput_new _ _ _ hg, List.map_append]; rfl
def KbU (c : Cfg) (u k : Int) : Prop := c.f7 ≤ k → k < c.f10 → k < c.f7 + 3 * u
theorem Cfg.at789 {c : Cfg} {u j : Int} (h0 : 0 ≤ u) (h1 : u < c.threads) (hj : j = 0 ∨ j = 1 ∨ j = 2) : c.at (7 + j) u 0 = c.f7 + 3 * u + j := by
  unfold Cfg.at
  have e1 : c.cnt (7 + j) = (c.threads, 1) := by unfold Cfg.cnt; rw [if_neg (by omega), if_pos (by omega)]
  have e2 : c.base (7 + j) = c.f7 + j := by unfold Cfg.base; rw [if_neg (by omega), if_neg (by omega), if_pos (by omega)]; omega
  have e3 : c.stp (7 + j) = 3 := by unfold Cfg.stp; rw [if_neg (by omega), if_pos (by omega)]
  rw [e1, e2, e3, if_pos ⟨h0, h1, by decide, (by decide : (0 : Int) < 1)⟩]
  omega
structure Bq (c : Cfg) (u : Int) (rows : List BRow) (P : List (Int × Nat)) : Prop where
  len : (P.length : Int) ≤ 2 * c.limit + u * (c.writes + 3)
  keys : ∀ x ∈ P, KbU c u x.1
  rows : ∀ r ∈ rows, (0 ≤ r.who ∧ r.who < u) ∧ [c.at 8 r.who 0, c.at 7 r.who 0].Sublist (keysP P) ∧ [c.at 9 r.who 0, c.at 7 r.who 0].Sublist (keysP P)
structure Bz (c : Cfg) (rows : List BRow) (P : List (Int × Nat)) : Prop where
  len : (P.length : Int) ≤ c.cap
  rows : ∀ r ∈ rows, (0 ≤ r.who ∧ r.who < c.threads) ∧ [c.at 8 r.who 0, c.at 7 r.who 0].Sublist (keysP P) ∧ [c.at 9 r.who 0, c.at 7 r.who 0].Sublist (keysP P)
section
variable {c : Cfg} {u : Int} {rows : List BRow} {P : List (Int × Nat)}
theorem Small.uw (hc : Small c) (hu0 : 0 ≤ u) (hu : u ≤ c.threads) : 0 ≤ u * (c.writes + 3) ∧ u * (c.writes + 3) ≤ c.threads * (c.writes + 3) ∧ (u + 1) * (c.writes + 3) = u * (c.writes + 3) + c.writes + 3 := by
  have := hc.w0
  refine ⟨Int.mul_nonneg hu0 (by omega), Int.mul_le_mul_of_nonneg_right hu (by omega), ?_⟩
  rw [Int.add_mul, Int.one_mul]; omega
theorem Bq.next (hc : Small c) (hu0 : 0 ≤ u) (hu : u < c.threads) (h : Bq c u rows P) : Bq c (u + 1) rows P := by
  have := hc.uw hu0 (by omega); have := hc.w0; have := h.len
  exact ⟨by omega, fun x hx h1 h2 => by have := h.keys x hx h1 h2; omega, fun r hr => ⟨⟨(h.rows r hr).1.1, by have := (h.rows r hr).1.2; omega⟩, (h.rows r hr).2⟩⟩
theorem Bq.told (hc : Small c) (hu0 : 0 ≤ u) (hu : u < c.threads) {P0 : List (Int × Nat)} (h : Bq c u rows P0) (ha : PA c P0 c.writes.toNat P) (r : BRow) (hr : r.who = u) (a b d : Nat) :
    Bq c (u + 1) (rows ++ [r]) (putP c.cap.toNat (putP c.cap.toNat (putP c.cap.toNat P (c.at 8 u 0) a) (c.at 9 u 0) b) (c.at 7 u 0) d) := by
  have hw := hc.uw hu0 (by omega); have := hc.w0; have hl := h.len; have := hc.limit
  have e8 : c.at 8 u 0 = c.f7 + 3 * u + 1 := Cfg.at789 (j := 1) hu0 hu (by omega)
  have e9 : c.at 9 u 0 = c.f7 + 3 * u + 2 := Cfg.at789 (j := 2) hu0 hu (by omega)
  have e7 : c.at 7 u 0 = c.f7 + 3 * u + 0 := Cfg.at789 (j := 0) hu0 hu (by omega)
  have hcap : c.cap = c.threads * (c.writes + 3) + 3 * c.limit + 2 := rfl
  have hf10 : c.f10 = c.f7 + c.threads * 3 := rfl
  obtain ⟨l, rfl, hll, hlk⟩ := ha
  have hlen : (P0 ++ l).length = P0.length + l.length := List.length_append
  have hkk : ∀ k ∈ keysP (P0 ++ l), c.f7 ≤ k → k < c.f10 → k < c.f7 + 3 * u := fun k hk h1 h2 => by
    obtain ⟨x, hx, rfl⟩ := keysP_mem hk
    rcases List.mem_append.1 hx with hx | hx
    · exact h.keys x hx h1 h2
    · exact absurd ⟨h1, h2⟩ (hlk x hx)
  have hpre := keysP_pre l P0
  have hall : ∀ x ∈ P0 ++ l, KbU c u x.1 := fun x hx h1 h2 => by
    rcases List.mem_append.1 hx with hx | hx
    · exact h.keys x hx h1 h2
    · exact absurd ⟨h1, h2⟩ (hlk x hx)
  generalize P0 ++ l = P at *
  have hu1 := (hc.uw (u := u + 1) (by omega) (by omega)).2.1
  have q1 := putP_in (P := P) (room := c.cap.toNat) (by omega) (c.at 8 u 0) a
  have q2 := putP_in (P := P ++ [(c.at 8 u 0, a)]) (room := c.cap.toNat) (by rw [List.length_append, List.length_singleton]; omega) (c.at 9 u 0) b
  have q3 := putP_in (P := P ++ [(c.at 8 u 0, a)] ++ [(c.at 9 u 0, b)]) (room := c.cap.toNat) (by rw [List.length_append, List.length_append, List.length_singleton, List.length_singleton]; omega) (c.at 7 u 0) d
  rw [q1, q2, q3]
  have n8 : c.at 8 u 0 ∉ keysP P := fun hm => by have := hkk _ hm (by omega) (by omega); omega
  have k8 := keysP_new n8 a
  have n9 : c.at 9 u 0 ∉ keysP (P ++ [(c.at 8 u 0, a)]) := by
    rw [k8]; intro hm
    rcases List.mem_append.1 hm with hm | hm
    · have := hkk _ hm (by omega) (by omega); omega
    · have := List.mem_singleton.1 hm; omega
  have k9 := keysP_new n9 b
  rw [k8] at k9
  have n7 : c.at 7 u 0 ∉ keysP (P ++ [(c.at 8 u 0, a)] ++ [(c.at 9 u 0, b)]) := by
    rw [k9]; intro hm
    rcases List.mem_append.1 hm with hm | hm
    · rcases List.mem_append.1 hm with hm | hm
      · have := hkk _ hm (by omega) (by omega); omega
      · have := List.mem_singleton.1 hm; omega
    · have := List.mem_singleton.1 hm; omega
  have k7 := keysP_new n7 d
  rw [k9] at k7
  have hsub : (keysP P0).Sublist (keysP (P ++ [(c.at 8 u 0, a)] ++ [(c.at 9 u 0, b)] ++ [(c.at 7 u 0, d)])) := by
    rw [k7, List.append_assoc, List.append_assoc]
    exact (hpre.trans (List.prefix_append _ _)).sublist
  refine ⟨?_, ?_, ?_⟩
  · rw [List.length_append, List.length_append, List.length_append, hlen]; simp; omega
  · intro x hx h1 h2
    simp only [List.mem_append, List.mem_singleton] at hx
    rcases hx with ((hx | rfl) | rfl) | rfl
    · have := hall x hx h1 h2; omega
    · dsimp only; omega
    · dsimp only; omega
    · dsimp only; omega
  · intro x hx
    rcases List.mem_append.1 hx with hx | hx
    · obtain ⟨h1, h2, h3⟩ := h.rows x hx
      exact ⟨by omega, h2.trans hsub, h3.trans hsub⟩
    · obtain rfl := List.mem_singleton.1 hx
      rw [hr, k7]
      refine ⟨by omega, ?_, ?_⟩
      · rw [List.append_assoc, List.append_assoc]
        refine List.Sublist.trans ?_ (List.sublist_append_right _ _)
        simp
      · rw [List.append_assoc, List.append_assoc]
        refine List.Sublist.trans ?_ (List.sublist_append_right _ _)
        simp
theorem Bq.ends (hc : Small c) (h : Bq c c.threads rows P) (p : Po) : Bz c rows (endP c c.cap.toNat p P) := by
  have hl := h.len; have := hc.limit
  have hcap : c.cap = c.threads * (c.writes + 3) + 3 * c.limit + 2 := rfl
  have hput : ∀ (Q : List (Int × Nat)) (a : Int) (v : Nat), (Q.length : Int) + 1 ≤ c.cap → Bz c rows Q → Bz c rows (putP c.cap.toNat Q a v) := fun Q a v hq hb => by
    rw [putP_in (by omega)]
    have hs := (keysP_snoc_pre Q a v).sublist
    exact ⟨by rw [List.length_append]; simp; omega, fun r hr => ⟨(hb.rows r hr).1, (hb.rows r hr).2.1.trans hs, (hb.rows r hr).2.2.trans hs⟩⟩
  have h0 : Bz c rows P := ⟨by omega, fun r hr => h.rows r hr⟩
  unfold endP
  have h1 := hput P (c.at 12 0 0) p.nt.toNat (by omega) h0
  split
  · split
    · exact h0
    · exact h1
  · split
    · exact hput P _ _ (by omega) h0
    · refine hput _ _ _ ?_ h1
      have := putP_len c.cap.toNat P (c.at 12 0 0) p.nt.toNat
      omega
end
/-- a pool that is read -/
structure PoI (c : Cfg) (p : Po) : Prop where
  next : 0 ≤ p.next ∧ p.next ≤ 1000
  names : (p.names.length : Int) ≤ c.threads ∧ (p.next ≤ c.threads → (p.names.length : Int) = p.next)
  limbo : (p.limbo.length : Int) ≤ c.limit
  early : p.s = 0 → p.next ≤ c.threads + 1 → p.limbo = []
  late : p.s = 0 → c.threads + 2 ≤ p.next → (p.limbo.length : Int) < p.wl ∧ p.next = c.threads + 2 + p.limbo.length
  wt : 0 ≤ p.wt ∧ p.wt ≤ 64
  wl : 0 ≤ p.wl ∧ p.wl ≤ c.limit
  nt : 0 ≤ p.nt ∧ p.nt ≤ 64
  nl : 0 ≤ p.nl ∧ p.nl ≤ 520
theorem PoI.new {c : Cfg} (hc : Small c) (seq : Nat) : PoI c (Po.new seq) := by
  have := hc.t0; have := hc.limit
  refine ⟨(by decide : (0 : Int) ≤ 0 ∧ (0 : Int) ≤ 1000), ⟨(by show (0 : Int) ≤ c.threads; omega), fun _ => rfl⟩, this.1, fun _ _ => rfl, fun _ h => ?_, (by decide : (0 : Int) ≤ 0 ∧ (0 : Int) ≤ 64), ⟨Int.le_refl 0, this.1⟩, (by decide : (0 : Int) ≤ 0 ∧ (0 : Int) ≤ 64), (by decide : (0 : Int) ≤ 0 ∧ (0 : Int) ≤ 520)⟩
  have : (Po.new seq).next = 0 := rfl
  omega
theorem PoI.tell {c : Cfg} (hc : Small c) {p : Po} (h : PoI c p) (o : Out) : PoI c (p.tell c o) := by
  have h1 := h.next; have h2 := h.names; have h3 := h.limbo; have h4 := hc.limit; have h5 := hc.b0; have h6 := hc.b1; have ht := hc.t0; have ht1 := hc.t1
  have hwl := h.wl; have hwt := h.wt
  unfold Po.tell
  split
  · exact h
  rename_i hs
  have hs0 : p.s = 0 := by omega
  split
  · rename_i hlt
    have hl := h.early hs0 (by omega)
    unfold Po.fin
    rw [if_neg (by dsimp only; omega)]
    exact ⟨by dsimp only; omega, by dsimp only; rw [List.length_append]; simp; omega, h3, fun _ _ => hl, fun _ hn => by dsimp only at hn; omega, h.wt, h.wl, h.nt, h.nl⟩
  rename_i hnt
  split
  · exact ⟨h1, h2, h3, fun e => (by cases e), fun e => (by cases e), h.wt, h.wl, h.nt, h.nl⟩
  split
  · rename_i he
    have hl := h.early hs0 (by omega)
    have hm := minI_le (a := (o.was.val : Int)) (b := c.blocks) (n := 64) (by omega) (by omega) (by omega)
    unfold Po.fin
    rw [if_neg (by dsimp only; omega)]
    exact ⟨by dsimp only; omega, ⟨h2.1, fun e => by dsimp only at e; omega⟩, h3, fun _ _ => hl, fun _ hn => by dsimp only at hn; omega, hm, h.wl, h.nt, h.nl⟩
  split
  · rename_i he
    have hl := h.early hs0 (by omega)
    have hm := minI_le (a := (o.was.val : Int)) (b := c.limit) (n := c.limit) (by omega) (by omega) (Int.le_refl _)
    unfold Po.fin
    dsimp only
    rw [hl]
    split
    · exact ⟨by dsimp only; omega, ⟨h2.1, fun e => by dsimp only at e; omega⟩, h4.1, fun e => (by cases e), fun e => (by cases e), h.wt, hm, h.wt, ⟨hm.1, by dsimp only; omega⟩⟩
    · rename_i hf
      refine ⟨by dsimp only; omega, ⟨h2.1, fun e => by dsimp only at e; omega⟩, h4.1, fun _ hn => by dsimp only at hn; omega, fun _ hn => ?_, h.wt, hm, h.nt, h.nl⟩
      dsimp only [List.length_nil] at hf hn ⊢
      omega
  · rename_i he1 he2
    obtain ⟨hl1, hl2⟩ := h.late hs0 (by omega)
    unfold Po.fin
    dsimp only
    rw [List.length_append, List.length_singleton]
    split
    · rename_i hf
      exact ⟨by dsimp only; omega, ⟨h2.1, fun e => by dsimp only at e; omega⟩, by dsimp only; rw [List.length_append, List.length_singleton]; omega, fun e => (by cases e), fun e => (by cases e), h.wt, h.wl, h.wt, ⟨hwl.1, by dsimp only; omega⟩⟩
    · rename_i hf
      refine ⟨by dsimp only; omega, ⟨h2.1, fun e => by dsimp only at e; omega⟩, by dsimp only; rw [List.length_append, List.length_singleton]; omega, fun _ hn => by dsimp only at hn; omega, fun _ hn => ?_, h.wt, h.wl, h.nt, h.nl⟩
      dsimp only
      rw [List.length_append, List.length_singleton]
      omega
end Go.Proofs.YtemaaenipjinaaaGreat
