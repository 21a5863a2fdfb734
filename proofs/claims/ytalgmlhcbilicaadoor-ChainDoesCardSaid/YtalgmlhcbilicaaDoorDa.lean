/-
  Package slices: BinarySearch of rising numbers.
-/
import Derived.Test.YtalgmlhcbilicaaDoorCf
namespace Go.Proofs.YtalgmlhcbilicaaDoor
set_option maxRecDepth 100000
theorem cisnan_r (a : Nat) : RTri Tryd.prog 64 #[.int .u64 (a : Int)] [] (.bool false) := by
  apply RTri.of_pure
  refine Tri.of_body (vs := [_]) Tryd.func64 rfl rfl fun w0 F => ?_
  repeat' (first | refine Ga ?_ | (refine Gb ?_; intro b) | (refine Gd ?_; intro g cap rest hcap) | (refine Gc ?_; intro ad cap)  | (refine Ge ?_ ?_ <;> (intro h; try (exfalso; omega))) | fail)
  refine St.d1 Tryd.func64 ⟨_, ⟨?_, rfl⟩, Ent.go⟩
  simp
  rfl
theorem sisnan_r (a : Nat) : RTri Tryd.prog 48 #[.int .u64 (a : Int)] [] (.bool false) := by
  apply RTri.of_pure
  refine Tri.of_body (vs := [_]) Tryd.func48 rfl rfl fun w0 F => ?_
  repeat' (first | refine Ga ?_ | (refine Gb ?_; intro b) | (refine Gd ?_; intro g cap rest hcap) | (refine Gc ?_; intro ad cap)  | (refine Ge ?_ ?_ <;> (intro h; try (exfalso; omega))) | fail)
  refine St.d1 Tryd.func48 ⟨_, ⟨?_, rfl⟩, Ent.go⟩
  simp
  rfl
theorem cless_r (a b : Nat) : RTri Tryd.prog 47 #[.int .u64 (a : Int), .int .u64 (b : Int)] [] (.bool (decide ((a : Int) < (b : Int)))) := by
  apply RTri.of_pure
  have h1 := cisnan_r a
  have h2 := cisnan_r b
  refine Tri.of_body (vs := [_, _]) Tryd.func47 rfl rfl fun w0 F => ?_
  repeat' (first | refine Ga ?_ | (refine Gb ?_; intro b) | (refine Gd ?_; intro g cap rest hcap) | (refine Gc ?_; intro ad cap) | refine Gl h1 ?_ | refine Gl h2 ?_ | (refine Ge ?_ ?_ <;> (intro h; try (exfalso; omega))) | fail)
  all_goals refine St.d1 Tryd.func47 ⟨_, ⟨rfl, rfl⟩, Ent.go⟩
theorem loL_len_of {k i : Nat} {xs : List Nat} (hi : i ≤ xs.length) (h1 : ∀ a, (h : a < xs.length) → a < i → xs[a] < k) (h2 : ∀ a, (h : a < xs.length) → i ≤ a → k ≤ xs[a]) : (loL k xs).length = i := by
  induction xs generalizing i with
  | nil => simp at hi; subst hi; rfl
  | cons x xs ih =>
    unfold loL at ih ⊢
    cases i with
    | zero =>
      have := h2 0 (by simp) (Nat.le_refl _)
      have this : k ≤ x := this
      rw [List.takeWhile_cons_of_neg (by simpa using this)]; rfl
    | succ i =>
      have := h1 0 (by simp) (by omega)
      have this : x < k := this
      rw [List.takeWhile_cons_of_pos (by simpa using this), List.length_cons]
      have e := ih (i := i) (by simpa using hi) (fun a h ha => h1 (a + 1) (by simpa using h) (by omega)) (fun a h ha => h2 (a + 1) (by simpa using h) (by omega))
      rw [e]
theorem rising_at {xs : List Nat} (h : xs.Pairwise (· < ·)) {a b : Nat} (hb : b < xs.length) (hab : a < b) : xs[a] < xs[b] := (List.pairwise_iff_getElem.mp h) a b (by omega) hb hab
theorem rising_le {xs : List Nat} (h : xs.Pairwise (· < ·)) {a b : Nat} (hb : b < xs.length) (hab : a ≤ b) : xs[a] ≤ xs[b] := by
  by_cases e : a = b
  · subst e; exact Nat.le_refl _
  · exact Nat.le_of_lt (rising_at h hb (by omega))
set_option maxHeartbeats 1000000 in
theorem bsearch_r (H : HProp) (v : Value) (xs : List Nat) (k : Nat) (hv : SlR H v xs) (hup : xs.Pairwise (· < ·)) (hl : xs.length ≤ 1000) : RTri Tryd.prog 34 #[v, .int .u64 (k : Int)] [H] (.tuple ⟨[.int .i64 ((loL k xs).length : Int), .bool (decide (k ∈ xs))]⟩) := by
  refine RTri.of_reads fun p hp => ?_
  have hpr : ∀ b l, RdC H b l → RdC p b l := fun b l h => RdC.of_sat hp (ReadsC.here h)
  have hv := hv.weak hpr
  by_cases h0 : 0 < xs.length
  · obtain ⟨b1, o1, c1, l1, rfl, hr1, hn1⟩ := hv.at h0
    refine Tri.of_body (vs := [_, _]) Tryd.func34 rfl rfl fun w0 F => ?_
    repeat' (first | refine Ga ?_ | (refine Gb ?_; intro b) | (refine Gd ?_; intro g cap rest hcap) | (refine Gc ?_; intro ad cap)  | (refine Ge ?_ ?_ <;> (intro h; try (exfalso; omega))) | fail)
    refine St.loopY (Lr := ?Lr1) (ι := { x : Nat × Nat // x.1 ≤ x.2 ∧ x.2 ≤ xs.length ∧ (∀ a, (h : a < xs.length) → a < x.1 → xs[a] < k) ∧ (∀ a, (h : a < xs.length) → x.2 ≤ a → k ≤ xs[a]) }) (fun x => x.1.2 - x.1.1)
      (fun x => [(7, .int .i64 (x.1.1 : Int)), (8, .int .i64 (x.1.2 : Int))]) (fun _ => []) ⟨(0, xs.length), Nat.zero_le _, Nat.le_refl _, fun _ _ h => absurd h (Nat.not_lt_zero _), fun a h h2 => absurd h (by omega)⟩ ?hE1 ?hL1 ?round1
    case hE1 => exact Sub.go
    case hL1 => exact Takes.go
    case round1 =>
      rintro ⟨⟨i, j⟩, hij, hj, hlo, hhi⟩ IH; dsimp only at hij hj hlo hhi IH ⊢
      by_cases hlt : i < j
      · obtain ⟨m, hm⟩ : ∃ m : Nat, m = (i + j) / 2 := ⟨_, rfl⟩
        have hmj : m < j := by omega
        have him : i ≤ m := by omega
        have e1 := hn1 m (by omega)
        have hcl := cless_r (xs[m]'(by omega)) k
        have hlo' : xs[m]'(by omega) < k → ∀ a, (h : a < xs.length) → a < m + 1 → xs[a] < k := fun hx a h ha => Nat.lt_of_le_of_lt (rising_le hup (a := a) (b := m) (by omega) (by omega)) hx
        have hhi' : ¬xs[m]'(by omega) < k → ∀ a, (h : a < xs.length) → m ≤ a → k ≤ xs[a] := fun hx a h ha => Nat.le_trans (Nat.le_of_not_lt hx) (rising_le hup (a := m) (b := a) h ha)
        generalize xs[m]'(by omega) = x at *
        have hW : IntKind.i64.wrap (((i : Int) + (j : Int)) / 2 ^ (Int.toNat 1)) = (m : Int) := by
          rw [show ((2 : Int) ^ Int.toNat 1) = 2 from rfl, wrap_fits (by simp only [fits]; omega)]
          omega
        repeat' (first | refine St.halt 5 ?_ |refine Ga ?_ | (refine Gb ?_; intro b) | (refine Gd ?_; intro g cap rest hcap) | (refine Gc ?_; intro ad cap) | refine Gl hcl ?_ | (refine Ge ?_ ?_ <;> (intro h; try (exfalso; omega))) | fail)
        all_goals first | (exfalso; omega) | skip
        apply Halt.go
        rw [hW]
        by_cases hxk : x < k
        · repeat' (first | refine Ga ?_ | (refine Gb ?_; intro b) | (refine Gd ?_; intro g cap rest hcap) | (refine Gc ?_; intro ad cap) | refine Gl hcl ?_ | (refine Ge ?_ ?_ <;> (intro h; try (exfalso; omega))) | fail)
          all_goals first | (exfalso; omega) | skip
          refine IH ⟨(m + 1, j), by dsimp only; omega, hj, hlo' hxk, hhi⟩ (by show j - (m + 1) < j - i; omega) ?_ ?_
          · exact Sub.go
          · exact Ent.go
        · repeat' (first | refine Ga ?_ | (refine Gb ?_; intro b) | (refine Gd ?_; intro g cap rest hcap) | (refine Gc ?_; intro ad cap) | refine Gl hcl ?_ | (refine Ge ?_ ?_ <;> (intro h; try (exfalso; omega))) | fail)
          all_goals first | (exfalso; omega) | skip
          refine IH ⟨(i, m), him, by dsimp only; omega, hlo, hhi' hxk⟩ (by show m - i < j - i; omega) ?_ ?_
          · exact Sub.go
          · exact Ent.go
      · obtain rfl : i = j := by omega
        have hlen := loL_len_of hj hlo hhi
        rw [hlen]
        clear IH
        have hno : (∀ a, (h : a < xs.length) → i ≤ a → k < xs[a]) → decide (k ∈ xs) = false := fun hgt => decide_eq_false fun hm => by
          obtain ⟨a, ha, e⟩ := List.getElem_of_mem hm
          by_cases hai : a < i
          · have := hlo a ha hai; omega
          · have := hgt a ha (by omega); omega
        by_cases hin : i < xs.length
        · have e1 := hn1 i hin
          have hge := hhi i hin (Nat.le_refl _)
          have hyes : xs[i] = k → decide (k ∈ xs) = true := fun e => decide_eq_true (by rw [← e]; exact List.getElem_mem hin)
          have hgt : xs[i] ≠ k → decide (k ∈ xs) = false := fun e => hno fun a h ha => Nat.lt_of_lt_of_le (Nat.lt_of_le_of_ne hge (fun e2 => e e2.symm)) (rising_le hup h ha)
          clear hno
          generalize xs[i] = x at *
          have hni := sisnan_r x
          by_cases hxk : x = k
          · rw [hyes hxk]
            repeat' (first | refine Ga ?_ | (refine Gb ?_; intro b) | (refine Gd ?_; intro g cap rest hcap) | (refine Gc ?_; intro ad cap) | refine Gl hni ?_ | (refine Ge ?_ ?_ <;> (intro h; try (exfalso; omega))) | fail)
            all_goals first | (exfalso; omega) | skip
            refine St.d1 Tryd.func34 ⟨_, ⟨rfl, rfl⟩, Ent.go⟩
          · rw [hgt hxk]
            repeat' (first | refine Ga ?_ | (refine Gb ?_; intro b) | (refine Gd ?_; intro g cap rest hcap) | (refine Gc ?_; intro ad cap) | refine Gl hni ?_ | (refine Ge ?_ ?_ <;> (intro h; try (exfalso; omega))) | fail)
            all_goals first | (exfalso; omega) | skip
            refine St.d1 Tryd.func34 ⟨_, ⟨rfl, rfl⟩, Ent.go⟩
        · rw [hno fun a h ha => absurd h (by omega)]
          repeat' (first | refine Ga ?_ | (refine Gb ?_; intro b) | (refine Gd ?_; intro g cap rest hcap) | (refine Gc ?_; intro ad cap)  | (refine Ge ?_ ?_ <;> (intro h; try (exfalso; omega))) | fail)
          all_goals first | (exfalso; omega) | skip
          refine St.d1 Tryd.func34 ⟨_, ⟨rfl, rfl⟩, Ent.go⟩
  · have hx : xs = [] := List.eq_nil_of_length_eq_zero (by omega)
    subst hx
    obtain ⟨a1, c1, rfl⟩ := hv.val
    refine Tri.of_body (vs := [_, _]) Tryd.func34 rfl rfl fun w0 F => ?_
    repeat' (first | (apply St.loop1) | (apply St.inLoop1) | refine Ga ?_ | (refine Gb ?_; intro b) | (refine Gd ?_; intro g cap rest hcap) | (refine Gc ?_; intro ad cap)  | (refine Ge ?_ ?_ <;> (intro h; try (exfalso; omega))) | fail)
    refine St.d1 Tryd.func34 ⟨_, ⟨rfl, rfl⟩, Ent.go⟩
end Go.Proofs.YtalgmlhcbilicaaDoor
