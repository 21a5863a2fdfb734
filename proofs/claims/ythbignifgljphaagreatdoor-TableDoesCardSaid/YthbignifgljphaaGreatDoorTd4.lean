/-
  Packages slices, table: the search and Clone of pairs; key.
-/
import Derived.Test.YthbignifgljphaaGreatDoorTd2
namespace Go.Proofs.YthbignifgljphaaGreatDoor
set_option maxRecDepth 100000
theorem OpV.appendZx {P : Program} {n' : Fi} {E : Env} {L : List HProp} {ty t e sz c g : Nat} {ad : Addr} {s x : Operand} [hu : Und P t (.slice e)] [hs : Siz P e sz] (hv : ev E s = some (.slice (some ⟨g, 0, none⟩) 0 0)) (hx : ev E x = some (.slice (some ad) 0 c)) :
    OpV P n' (.call { callee := .builtin .append, args := ⟨[s, x]⟩, argTypes := ⟨[t, t]⟩ }) ty E L (.slice (some ⟨g, 0, none⟩) 0 0) := by
  unfold OpV
  intro d ps af g a w ha _
  simp [execOp, resolve, invoke, builtin, ha.ev hv, ha.ev hx, Builtin.append_, run_underlying hu.h, hs.h, Builtin.lenOf, Builtin.firstCells, storeCells, loadCells, loadCellsFrom]
theorem key1_r (x y : Nat × Nat) : RTri Tryz.prog 50 #[.agg ⟨prV x⟩, .agg ⟨prV y⟩] [] (.int .i64 (cmpI x.1 y.1)) := by
  have hc := compare_r x.1 y.1
  apply RTri.of_pure
  unfold prV
  refine Tri.of_body (vs := [_, _]) Tryz.func50 rfl rfl fun w0 F => ?_
  repeat' (first | refine Ga ?_ | (refine Gb ?_; intro b) | (refine Gd ?_; intro g cap rest hcap) | (refine Gc ?_; intro ad cap) | refine Gl hc ?_ | (refine Ge ?_ ?_ <;> (intro h; try (exfalso; omega))) | fail)
  refine St.d1 Tryz.func50 ⟨_, ⟨rfl, rfl⟩, Ent.go⟩
theorem loP_len_of {k i : Nat} {xs : Prs} (hi : i ≤ xs.length) (h1 : ∀ a, (h : a < xs.length) → a < i → xs[a].1 < k) (h2 : ∀ a, (h : a < xs.length) → i ≤ a → k ≤ xs[a].1) : (loP k xs).length = i := by
  induction xs generalizing i with
  | nil => simp at hi; subst hi; rfl
  | cons x xs ih =>
    unfold loP at ih ⊢
    cases i with
    | zero =>
      have := h2 0 (by simp) (Nat.le_refl _)
      have this : k ≤ x.1 := this
      rw [List.takeWhile_cons_of_neg (by simpa using this)]; rfl
    | succ i =>
      have := h1 0 (by simp) (by omega)
      have this : x.1 < k := this
      rw [List.takeWhile_cons_of_pos (by simpa using this), List.length_cons]
      have e := ih (i := i) (by simpa using hi) (fun a h ha => h1 (a + 1) (by simpa using h) (by omega)) (fun a h ha => h2 (a + 1) (by simpa using h) (by omega))
      rw [e]
theorem sortP_at {xs : Prs} (h : SortP xs) {a b : Nat} (hb : b < xs.length) (hab : a < b) : xs[a].1 < xs[b].1 := (List.pairwise_iff_getElem.mp h) a b (by omega) hb hab
theorem sortP_le {xs : Prs} (h : SortP xs) {a b : Nat} (hb : b < xs.length) (hab : a ≤ b) : xs[a].1 ≤ xs[b].1 := by
  by_cases e : a = b
  · subst e; exact Nat.le_refl _
  · exact Nat.le_of_lt (sortP_at h hb (by omega))
theorem cmpI_neg {a b : Nat} (h : a < b) : cmpI a b = -1 := if_pos h
theorem cmpI_eq (a : Nat) : cmpI a a = 0 := by unfold cmpI; rw [if_neg (by omega), if_neg (by omega)]
theorem cmpI_pos {a b : Nat} (h : b < a) : cmpI a b = 1 := by unfold cmpI; rw [if_neg (by omega), if_pos h]
set_option maxHeartbeats 2000000 in
theorem psearch_r (H : HProp) (ad : Option Addr) (cap : Nat) (xs : Prs) (k u : Nat) (hv : ListR prV H (.slice ad xs.length cap) xs) (hup : SortP xs) (hl : xs.length ≤ 1000) : RTri Tryz.prog 49 #[.slice ad xs.length cap, .agg ⟨[.int .u64 (k : Int), .int .u64 (u : Int)]⟩, .func (.func 50) ⟨[]⟩ ⟨[]⟩] [H] (.tuple ⟨[.int .i64 ((loP k xs).length : Int), .bool (decide (k ∈ xs.map (·.1)))]⟩) := by
  refine RTri.of_reads fun p hp => ?_
  have hpr : ∀ b l, RdC H b l → RdC p b l := fun b l h => RdC.of_sat hp (ReadsC.here h)
  have hv := hv.weak hpr
  refine Tri.of_body (vs := [_, _, _]) Tryz.func49 rfl rfl fun w0 F => ?_
  repeat' (first | refine Ga ?_ | (refine Gb ?_; intro b) | (refine Gd ?_; intro g cap rest hcap) | (refine Gc ?_; intro ad cap) | (refine St.draw (id := 5) [(0, 0), (1, 0), (2, 0), (3, 0), (4, 1), (5, 1), (6, 1), (7, 0)] [] mixed (by kernel_rfl) ?_) | (refine St.draw (id := 8) [(0, 0), (1, 0), (2, 0), (3, 0), (4, 0), (5, 0), (6, 0), (7, 0), (8, 0), (9, 1), (10, 1), (11, 1), (12, 0), (13, 0), (14, 0), (15, 0)] [] mixed (by kernel_rfl) ?_) | (refine Ge ?_ ?_ <;> (intro h; try (exfalso; omega))) | fail)
  refine St.loopY (Lr := ?Lr1) (ι := { x : Nat × Nat // x.1 ≤ x.2 ∧ x.2 ≤ xs.length ∧ (∀ a, (h : a < xs.length) → a < x.1 → xs[a].1 < k) ∧ (∀ a, (h : a < xs.length) → x.2 ≤ a → k ≤ xs[a].1) }) (fun x => x.1.2 - x.1.1)
    (fun x => [(9, .int .i64 (x.1.1 : Int)), (10, .int .i64 (x.1.2 : Int))]) (fun _ => []) ⟨(0, xs.length), Nat.zero_le _, Nat.le_refl _, fun _ _ h => absurd h (Nat.not_lt_zero _), fun a h h2 => absurd h (by omega)⟩ ?hE1 ?hL1 ?round1
  case hE1 => exact Sub.go
  case hL1 => exact Takes.go
  case round1 =>
    rintro ⟨⟨i, j⟩, hij, hj, hlo, hhi⟩ IH; dsimp only at hij hj hlo hhi IH ⊢
    by_cases hlt : i < j
    · obtain ⟨m, hm⟩ : ∃ m : Nat, m = (i + j) / 2 := ⟨_, rfl⟩
      have hmj : m < j := by omega
      have him : i ≤ m := by omega
      obtain ⟨b1, o1, l1, l2, rfl, hr1, hd1, ht1⟩ := hv.at' prV_len m (by omega)
      have hcl := key1_r (xs[m]'(by omega)) (k, u)
      have hlo' : (xs[m]'(by omega)).1 < k → ∀ a, (h : a < xs.length) → a < m + 1 → xs[a].1 < k := fun hx a h ha => Nat.lt_of_le_of_lt (sortP_le hup (a := a) (b := m) (by omega) (by omega)) hx
      have hhi' : ¬(xs[m]'(by omega)).1 < k → ∀ a, (h : a < xs.length) → m ≤ a → k ≤ xs[a].1 := fun hx a h ha => Nat.le_trans (Nat.le_of_not_lt hx) (sortP_le hup (a := m) (b := a) h ha)
      generalize xs[m]'(by omega) = x at hcl hlo' hhi' ht1
      dsimp only at hcl
      unfold prV at hcl ht1
      have hW : IntKind.i64.wrap (((i : Int) + (j : Int)) / 2 ^ (Int.toNat 1)) = (m : Int) := by
        rw [show ((2 : Int) ^ Int.toNat 1) = 2 from rfl, wrap_fits (by simp only [fits]; omega)]
        omega
      repeat' (first | refine St.halt 5 ?_ |refine Ga ?_ | (refine Gb ?_; intro b) | (refine Gd ?_; intro g cap rest hcap) | (refine Gc ?_; intro ad cap) | (refine St.draw (id := 5) [(0, 0), (1, 0), (2, 0), (3, 0), (4, 1), (5, 1), (6, 1), (7, 0)] [] mixed (by kernel_rfl) ?_) | (refine St.draw (id := 8) [(0, 0), (1, 0), (2, 0), (3, 0), (4, 0), (5, 0), (6, 0), (7, 0), (8, 0), (9, 1), (10, 1), (11, 1), (12, 0), (13, 0), (14, 0), (15, 0)] [] mixed (by kernel_rfl) ?_)| refine Ka (OpC.callv (by rfl) Evs.go) hcl Oh ?_ | refine Kb rfl (OpC.callv (by rfl) Evs.go) hcl Oi ?_ | refine Kc rfl Oj (OpC.callv (by rfl) Evs.go) hcl Oi ?_ | (refine Ge ?_ ?_ <;> (intro h; try (exfalso; omega))) | fail)
      all_goals first | (exfalso; omega) | skip
      apply Halt.go
      rw [hW]
      by_cases hxk : x.1 < k
      · rw [cmpI_neg hxk] at hcl
        repeat' (first | refine Ga ?_ | (refine Gb ?_; intro b) | (refine Gd ?_; intro g cap rest hcap) | (refine Gc ?_; intro ad cap) | (refine St.draw (id := 5) [(0, 0), (1, 0), (2, 0), (3, 0), (4, 1), (5, 1), (6, 1), (7, 0)] [] mixed (by kernel_rfl) ?_) | (refine St.draw (id := 8) [(0, 0), (1, 0), (2, 0), (3, 0), (4, 0), (5, 0), (6, 0), (7, 0), (8, 0), (9, 1), (10, 1), (11, 1), (12, 0), (13, 0), (14, 0), (15, 0)] [] mixed (by kernel_rfl) ?_)| refine Ka (OpC.callv (by rfl) Evs.go) hcl Oh ?_ | refine Kb rfl (OpC.callv (by rfl) Evs.go) hcl Oi ?_ | refine Kc rfl Oj (OpC.callv (by rfl) Evs.go) hcl Oi ?_ | (refine Ge ?_ ?_ <;> (intro h; try (exfalso; omega))) | fail)
        all_goals first | (exfalso; omega) | skip
        refine IH ⟨(m + 1, j), by dsimp only; omega, hj, hlo' hxk, hhi⟩ (by show j - (m + 1) < j - i; omega) ?_ ?_
        · exact Sub.go
        · exact Ent.go
      · have hc0 : 0 ≤ cmpI x.1 k := by unfold cmpI; rw [if_neg hxk]; split <;> omega
        generalize cmpI x.1 k = cv at hcl hc0
        repeat' (first | refine Ga ?_ | (refine Gb ?_; intro b) | (refine Gd ?_; intro g cap rest hcap) | (refine Gc ?_; intro ad cap) | (refine St.draw (id := 5) [(0, 0), (1, 0), (2, 0), (3, 0), (4, 1), (5, 1), (6, 1), (7, 0)] [] mixed (by kernel_rfl) ?_) | (refine St.draw (id := 8) [(0, 0), (1, 0), (2, 0), (3, 0), (4, 0), (5, 0), (6, 0), (7, 0), (8, 0), (9, 1), (10, 1), (11, 1), (12, 0), (13, 0), (14, 0), (15, 0)] [] mixed (by kernel_rfl) ?_)| refine Ka (OpC.callv (by rfl) Evs.go) hcl Oh ?_ | refine Kb rfl (OpC.callv (by rfl) Evs.go) hcl Oi ?_ | refine Kc rfl Oj (OpC.callv (by rfl) Evs.go) hcl Oi ?_ | (refine Ge ?_ ?_ <;> (intro h; try (exfalso; omega))) | fail)
        all_goals first | (exfalso; omega) | skip
        refine IH ⟨(i, m), him, by dsimp only; omega, hlo, hhi' hxk⟩ (by show m - i < j - i; omega) ?_ ?_
        · exact Sub.go
        · exact Ent.go
    · obtain rfl : i = j := by omega
      have hlen := loP_len_of hj hlo hhi
      rw [hlen]
      clear IH
      have hno : (∀ a, (h : a < xs.length) → i ≤ a → k < xs[a].1) → decide (k ∈ xs.map (·.1)) = false := fun hgt => decide_eq_false fun hm => by
        obtain ⟨z, hz, e⟩ := List.mem_map.mp hm
        obtain ⟨a, ha, rfl⟩ := List.getElem_of_mem hz
        by_cases hai : a < i
        · have := hlo a ha hai; omega
        · have := hgt a ha (by omega); omega
      by_cases hin : i < xs.length
      · obtain ⟨b1, o1, l1, l2, rfl, hr1, hd1, ht1⟩ := hv.at' prV_len i hin
        have hcl := key1_r (xs[i]'hin) (k, u)
        have hge := hhi i hin (Nat.le_refl _)
        have hyes : (xs[i]'hin).1 = k → decide (k ∈ xs.map (·.1)) = true := fun e => decide_eq_true (by rw [← e]; exact List.mem_map_of_mem (List.getElem_mem hin))
        have hgt : (xs[i]'hin).1 ≠ k → decide (k ∈ xs.map (·.1)) = false := fun e => hno fun a h ha => Nat.lt_of_lt_of_le (Nat.lt_of_le_of_ne hge (fun e2 => e e2.symm)) (sortP_le hup h ha)
        clear hno
        generalize xs[i]'hin = x at hcl hge hyes hgt ht1
        dsimp only at hcl
        unfold prV at hcl ht1
        by_cases hxk : x.1 = k
        · rw [hyes hxk]
          rw [show cmpI x.1 k = 0 by rw [hxk]; exact cmpI_eq k] at hcl
          repeat' (first | refine Ga ?_ | (refine Gb ?_; intro b) | (refine Gd ?_; intro g cap rest hcap) | (refine Gc ?_; intro ad cap) | (refine St.draw (id := 5) [(0, 0), (1, 0), (2, 0), (3, 0), (4, 1), (5, 1), (6, 1), (7, 0)] [] mixed (by kernel_rfl) ?_) | (refine St.draw (id := 8) [(0, 0), (1, 0), (2, 0), (3, 0), (4, 0), (5, 0), (6, 0), (7, 0), (8, 0), (9, 1), (10, 1), (11, 1), (12, 0), (13, 0), (14, 0), (15, 0)] [] mixed (by kernel_rfl) ?_)| refine Ka (OpC.callv (by rfl) Evs.go) hcl Oh ?_ | refine Kb rfl (OpC.callv (by rfl) Evs.go) hcl Oi ?_ | refine Kc rfl Oj (OpC.callv (by rfl) Evs.go) hcl Oi ?_ | (refine Ge ?_ ?_ <;> (intro h; try (exfalso; omega))) | fail)
          all_goals first | (exfalso; omega) | skip
          refine St.d1 Tryz.func49 ⟨_, ⟨rfl, rfl⟩, Ent.go⟩
        · rw [hgt hxk]
          rw [cmpI_pos (show k < x.1 by omega)] at hcl
          repeat' (first | refine Ga ?_ | (refine Gb ?_; intro b) | (refine Gd ?_; intro g cap rest hcap) | (refine Gc ?_; intro ad cap) | (refine St.draw (id := 5) [(0, 0), (1, 0), (2, 0), (3, 0), (4, 1), (5, 1), (6, 1), (7, 0)] [] mixed (by kernel_rfl) ?_) | (refine St.draw (id := 8) [(0, 0), (1, 0), (2, 0), (3, 0), (4, 0), (5, 0), (6, 0), (7, 0), (8, 0), (9, 1), (10, 1), (11, 1), (12, 0), (13, 0), (14, 0), (15, 0)] [] mixed (by kernel_rfl) ?_)| refine Ka (OpC.callv (by rfl) Evs.go) hcl Oh ?_ | refine Kb rfl (OpC.callv (by rfl) Evs.go) hcl Oi ?_ | refine Kc rfl Oj (OpC.callv (by rfl) Evs.go) hcl Oi ?_ | (refine Ge ?_ ?_ <;> (intro h; try (exfalso; omega))) | fail)
          all_goals first | (exfalso; omega) | skip
          refine St.d1 Tryz.func49 ⟨_, ⟨rfl, rfl⟩, Ent.go⟩
      · rw [hno fun a h ha => absurd h (by omega)]
        repeat' (first | refine Ga ?_ | (refine Gb ?_; intro b) | (refine Gd ?_; intro g cap rest hcap) | (refine Gc ?_; intro ad cap) | (refine St.draw (id := 5) [(0, 0), (1, 0), (2, 0), (3, 0), (4, 1), (5, 1), (6, 1), (7, 0)] [] mixed (by kernel_rfl) ?_) | (refine St.draw (id := 8) [(0, 0), (1, 0), (2, 0), (3, 0), (4, 0), (5, 0), (6, 0), (7, 0), (8, 0), (9, 1), (10, 1), (11, 1), (12, 0), (13, 0), (14, 0), (15, 0)] [] mixed (by kernel_rfl) ?_) | (refine Ge ?_ ?_ <;> (intro h; try (exfalso; omega))) | fail)
        all_goals first | (exfalso; omega) | skip
        refine St.d1 Tryz.func49 ⟨_, ⟨rfl, rfl⟩, Ent.go⟩
set_option maxHeartbeats 400000 in
theorem pclone_t (q : HProp) (ad : Option Addr) (cap : Nat) (xs : Prs) (hv : ListR prV q (.slice ad xs.length cap) xs) (hn : xs.length ≤ 1000000) : Tri Tryz.prog 51 #[.slice ad xs.length cap] [q]
    fun r L => ∃ ad cap, r = .slice ad xs.length cap ∧ L = [Row (.slice ad xs.length cap) 73 2 xs.length (xs.flatMap prV), q] := by
  have h1 := pf_one xs
  obtain ⟨ad', cap', h0, hc, h2⟩ := hv
  injection h0 with e1 e2 e3
  subst e1 e3
  refine Tri.of_body (vs := [_]) Tryz.func51 rfl rfl fun w0 F => ?_
  rcases h2 with h2 | ⟨b, o, l, rest, rfl, hr, hd⟩
  · obtain rfl : xs = [] := List.eq_nil_of_length_eq_zero h2
    cases ad with
    | none =>
      repeat' (first | refine Ga ?_ | (refine Gb ?_; intro b) | (refine Gd ?_; intro g cap rest hcap) | (refine Gc ?_; intro ad cap)  | (refine Ge ?_ ?_ <;> (intro h; try (exfalso; omega))) | fail)
      refine St.d1 Tryz.func51 ⟨_, ⟨none, 0, rfl, rfl⟩, ?_⟩
      exact Ent.trans (Ent.row_nil 73 2) Ent.go
    | some ad =>
      repeat' (first | refine Ga ?_ | (refine Gb ?_; intro b) | (refine Gd ?_; intro g cap rest hcap) | (refine Gc ?_; intro ad cap)  | (refine Ge ?_ ?_ <;> (intro h; try (exfalso; omega))) | fail)
      (apply StL.v; (apply OpV.appendZx; rfl; rfl); rfl)
      repeat' (first | refine Ga ?_ | (refine Gb ?_; intro b) | (refine Gd ?_; intro g cap rest hcap) | (refine Gc ?_; intro ad cap)  | (refine Ge ?_ ?_ <;> (intro h; try (exfalso; omega))) | fail)
      refine St.d1 Tryz.func51 ⟨_, ⟨_, 0, rfl, rfl⟩, ?_⟩
      refine Ent.trans ?_ Ent.go
      exact Ent.rowF (cap := 0) (n := 0) (rest := []) (xs := []) ⟨by decide, by decide, rfl, rfl⟩
  · have h6 : TakeN (xs.length * 2) (xs.flatMap prV ++ rest) (xs.flatMap prV) := by rw [← prs_len]; exact TakeN.app _ _
    repeat' (first | refine Ga ?_ | (refine Gb ?_; intro b) | (refine Gd ?_; intro g cap rest hcap) | (refine Gc ?_; intro ad cap)  | (refine Ge ?_ ?_ <;> (intro h; try (exfalso; omega))) | fail)
    refine St.d1 Tryz.func51 ⟨_, ⟨_, _, rfl, rfl⟩, ?_⟩
    exact Ent.go
theorem OpOk.ofV' {P : Program} {n' : Fi} {op : Op} {ty : TypeId} {E : Env} {L : List HProp} {v : Value} (h : OpV P n' op ty E L v) : OpOk P n' op ty E L (fun v' L' => v' = v ∧ L' = L) := by
  unfold OpV at h
  unfold OpOk
  exact fun d ps af g a w ha X hs => ⟨v, w, L, .inl (h d ps af g a w ha hs.head_of), ⟨rfl, rfl⟩, hs, Old.refl w⟩
theorem loP_le (k : Nat) (xs : Prs) : (loP k xs).length ≤ xs.length := by
  have h := congrArg List.length (loP_hiP k xs)
  rw [List.length_append] at h
  omega
theorem withP_at {k v : Nat} : ∀ {xs : Prs}, SortP xs →
    (k ∈ xs.map (·.1) → ∃ w, xs[(loP k xs).length]? = some (k, w) ∧ xs.eraseIdx (loP k xs).length = withoutP k xs ∧ xs.set (loP k xs).length (k, v) = withP k v xs)
    ∧ (k ∉ xs.map (·.1) → xs.take (loP k xs).length ++ (k, v) :: xs.drop (loP k xs).length = withP k v xs)
  | [], _ => ⟨fun h => absurd h (by simp), fun _ => rfl⟩
  | (a, w) :: xs, hp => by
    obtain ⟨h1, h2⟩ := List.pairwise_cons.mp hp
    obtain ⟨i1, i2⟩ := withP_at (k := k) (v := v) h2
    by_cases h : a < k
    · have e : (loP k ((a, w) :: xs)).length = (loP k xs).length + 1 := by
        unfold loP
        rw [List.takeWhile_cons_of_pos (by simpa using h), List.length_cons]
      have ew : withoutP k ((a, w) :: xs) = (a, w) :: withoutP k xs := by
        unfold withoutP
        rw [List.filter_cons_of_pos (by simp; omega)]
      have ep : withP k v ((a, w) :: xs) = (a, w) :: withP k v xs := by
        unfold withP
        rw [ew]
        unfold loP hiP
        rw [List.takeWhile_cons_of_pos (by simpa using h), List.dropWhile_cons_of_pos (by simpa using h), List.cons_append]
      rw [e, ew, ep]
      refine ⟨fun hm => ?_, fun hm => ?_⟩
      · have hm' : k ∈ xs.map (·.1) := by
          rw [List.map_cons] at hm
          rcases List.mem_cons.mp hm with e | hm
          · dsimp only at e; omega
          · exact hm
        obtain ⟨w', j1, j2, j3⟩ := i1 hm'
        exact ⟨w', by rw [List.getElem?_cons_succ]; exact j1, by rw [List.eraseIdx_cons_succ, j2], by rw [List.set_cons_succ, j3]⟩
      · rw [List.take_succ_cons, List.drop_succ_cons, List.cons_append, i2 fun h => hm (by rw [List.map_cons]; exact List.mem_cons_of_mem _ h)]
    · have e : (loP k ((a, w) :: xs)).length = 0 := by
        unfold loP
        rw [List.takeWhile_cons_of_neg (by simpa using h)]; rfl
      have hno : k ∉ xs.map (·.1) := fun hm => by
        obtain ⟨z, hz, e⟩ := List.mem_map.mp hm
        have := h1 z hz
        dsimp only at this; omega
      rw [e]
      refine ⟨fun hm => ?_, fun hm => ?_⟩
      · have hak : a = k := by
          rw [List.map_cons] at hm
          rcases List.mem_cons.mp hm with e | hm
          · exact e.symm
          · exact absurd hm hno
        subst hak
        have ew : withoutP a ((a, w) :: xs) = xs := by
          have h3 : withoutP a ((a, w) :: xs) = withoutP a xs := by
            unfold withoutP
            rw [List.filter_cons_of_neg (by simp)]
          rw [h3, withoutP_self hno]
        refine ⟨w, rfl, by rw [ew, List.eraseIdx_cons_zero], ?_⟩
        unfold withP
        rw [ew, List.set_cons_zero]
        unfold loP hiP
        cases xs with
        | nil => rfl
        | cons y ys =>
          have := h1 y (by simp)
          dsimp only at this
          rw [List.takeWhile_cons_of_neg (by simp; omega), List.dropWhile_cons_of_neg (by simp; omega)]
          rfl
      · have ew : withoutP k ((a, w) :: xs) = (a, w) :: xs := withoutP_self hm
        unfold withP
        rw [ew]
        unfold loP hiP
        rw [List.takeWhile_cons_of_neg (by simpa using h), List.dropWhile_cons_of_neg (by simpa using h)]
        rfl
/-- the key's place -/
theorem key_at {k v : Nat} {xs : Prs} (hp : SortP xs) (hm : k ∈ xs.map (·.1)) : ∃ w, ∃ h : (loP k xs).length < xs.length, xs[(loP k xs).length]'h = (k, w) ∧ mget xs k = some w ∧ xs.eraseIdx (loP k xs).length = withoutP k xs ∧ xs.set (loP k xs).length (k, v) = withP k v xs := by
  obtain ⟨w, h1, h2, h3⟩ := (withP_at (v := v) hp).1 hm
  obtain ⟨h4, h5⟩ := List.getElem?_eq_some_iff.mp h1
  exact ⟨w, h4, h5, (mget_mem_iff hp.nodup k w).mpr (by rw [← h5]; exact List.getElem_mem h4), h2, h3⟩
theorem dM_2s {x : Tb} {key val w : Nat} (h : mget x.pairs key = some w) : doesM 2 (some x) key val = (some x, 0, w) := by simp [doesM, h]
theorem dM_2n {x : Tb} {key val : Nat} (h : mget x.pairs key = none) : doesM 2 (some x) key val = (some x, 40, 1) := by simp [doesM, h]
theorem dM_3s {x : Tb} {key val w : Nat} (h : mget x.pairs key = some w) : doesM 3 (some x) key val = (some ⟨x.cap, withoutP key x.pairs⟩, 0, 1) := by simp [doesM, h]
theorem dM_3n {x : Tb} {key val : Nat} (h : mget x.pairs key = none) : doesM 3 (some x) key val = (some x, 0, 0) := by simp [doesM, h]
theorem dM_1s {x : Tb} {key val w : Nat} (h : mget x.pairs key = some w) : doesM 1 (some x) key val = (some ⟨x.cap, withP key val x.pairs⟩, 0, 1) := by simp [doesM, h]
theorem dM_1f {x : Tb} {key val : Nat} (h : mget x.pairs key = none) (hf : x.cap ≤ x.pairs.length) : doesM 1 (some x) key val = (some x, 40, 2) := by simp [doesM, h, hf]
theorem dM_1n {x : Tb} {key val : Nat} (h : mget x.pairs key = none) (hf : ¬x.cap ≤ x.pairs.length) : doesM 1 (some x) key val = (some ⟨x.cap, withP key val x.pairs⟩, 0, 0) := by simp [doesM, h, hf]
theorem key_2 (H : HProp) (pv : Value) (x : Tb) (key val : Nat) (hq : TaR H pv (some x)) (hup : SortP x.pairs) (hl : x.pairs.length ≤ 1000) : Tri Tryz.prog 28 #[pv, bs (nmB 2), .agg ⟨[.int .u64 (key : Int), .int .u64 (val : Int)]⟩] [H] (doesQ H (doesM 2 (some x) key val)) := by
  have hg := gives_r 1
  have hq' := hq
  obtain ⟨b, lv, rfl, hrd, hls⟩ := hq
  have hls' := hls
  obtain ⟨ad, cap, rfl, _⟩ := hls'
  have hb := psearch_r H ad cap x.pairs key val hls hup hl
  have hcl := pclone_t H ad cap x.pairs hls (by omega)
  by_cases hm : key ∈ x.pairs.map (·.1)
  · rw [decide_eq_true hm] at hb
    obtain ⟨w, hi, hw, hmg, -, -⟩ := key_at (v := val) hup hm
    have hd : doesM 2 (some x) key val = (some x, 0, w) := dM_2s hmg
    rw [hd]
    obtain ⟨b1, o1, l1, l2, rfl, hr1, hd1, ht1⟩ := hls.at' prV_len _ hi
    rw [hw] at ht1
    generalize (loP key x.pairs).length = i at hb hi hd1
    unfold prV at ht1
    have hn1 : NthN (o1 + (i : Int).toNat * 2 + 1) l1 (.int .u64 (w : Int)) := NthN.part hd1 ht1 (j := 1) (NthN.of rfl)
    unfold nmB doesQ
    dsimp only
    refine Tri.of_body (vs := [_, _, _]) Tryz.func28 rfl rfl fun w0 F => ?_
    repeat' (first | refine Ga ?_ | (refine Gb ?_; intro b) | (refine Gd ?_; intro g cap rest hcap) | (refine Gc ?_; intro ad cap) | (refine St.draw (id := 1) [(0, 0), (1, 0), (2, 0), (3, 1), (4, 1), (5, 1), (6, 0), (7, 0), (8, 0), (9, 0), (10, 0)] [] mixed (by kernel_rfl) ?_) | (refine St.draw (id := 2) [(0, 0), (1, 0), (2, 0), (3, 1), (4, 0), (5, 0), (6, 0), (7, 1), (8, 2), (9, 0), (10, 2), (11, 0)] [] mixed (by kernel_rfl) ?_) | (refine St.draw (id := 4) [(0, 0), (1, 0), (2, 0), (3, 0), (4, 1), (5, 0), (6, 0), (7, 0), (8, 1), (9, 0), (10, 0), (11, 3)] [11] mixed (by kernel_rfl) ?_) | (refine St.draw (id := 13) [(0, 0), (1, 0), (2, 0), (3, 1), (4, 0), (5, 1), (6, 0), (7, 3)] [7] mixed (by kernel_rfl) ?_) | (refine St.draw (id := 15) [(0, 0), (1, 0), (2, 0), (3, 1), (4, 0), (5, 0), (6, 0), (7, 0), (8, 0), (9, 1), (10, 0), (11, 0)] [] mixed (by kernel_rfl) ?_) | (refine St.draw (id := 17) [(0, 0), (1, 0), (2, 0), (3, 0), (4, 1), (5, 0), (6, 1), (7, 2), (8, 1), (9, 0), (10, 0), (11, 3)] [11] mixed (by kernel_rfl) ?_)| refine Gl hb ?_ | (refine Gt hcl ?_; rintro _ _ ⟨cad, ccap, rfl, rfl⟩) | (refine Gu hcl ?_; rintro _ _ ⟨cad, ccap, rfl, rfl⟩; refine ⟨Ent.go, ?_⟩) | (refine Ge ?_ ?_ <;> (intro h; try (exfalso; omega))) | fail)
    all_goals first | (exfalso; omega) | skip
    refine St.d1 Tryz.func28 ⟨_, ⟨_, H, rfl, hq', fun b l h => h, rfl⟩, Ent.go⟩
  · rw [decide_eq_false hm] at hb
    have hmg : mget x.pairs key = none := (mget_none_iff key).mpr hm
    have hd : doesM 2 (some x) key val = (some x, 40, 1) := dM_2n hmg
    rw [hd]
    unfold nmB doesQ
    dsimp only
    refine Tri.of_body (vs := [_, _, _]) Tryz.func28 rfl rfl fun w0 F => ?_
    repeat' (first | refine Ga ?_ | (refine Gb ?_; intro b) | (refine Gd ?_; intro g cap rest hcap) | (refine Gc ?_; intro ad cap) | (refine St.draw (id := 1) [(0, 0), (1, 0), (2, 0), (3, 1), (4, 1), (5, 1), (6, 0), (7, 0), (8, 0), (9, 0), (10, 0)] [] mixed (by kernel_rfl) ?_) | (refine St.draw (id := 2) [(0, 0), (1, 0), (2, 0), (3, 1), (4, 0), (5, 0), (6, 0), (7, 1), (8, 2), (9, 0), (10, 2), (11, 0)] [] mixed (by kernel_rfl) ?_) | (refine St.draw (id := 4) [(0, 0), (1, 0), (2, 0), (3, 0), (4, 1), (5, 0), (6, 0), (7, 0), (8, 1), (9, 0), (10, 0), (11, 3)] [11] mixed (by kernel_rfl) ?_) | (refine St.draw (id := 13) [(0, 0), (1, 0), (2, 0), (3, 1), (4, 0), (5, 1), (6, 0), (7, 3)] [7] mixed (by kernel_rfl) ?_) | (refine St.draw (id := 15) [(0, 0), (1, 0), (2, 0), (3, 1), (4, 0), (5, 0), (6, 0), (7, 0), (8, 0), (9, 1), (10, 0), (11, 0)] [] mixed (by kernel_rfl) ?_) | (refine St.draw (id := 17) [(0, 0), (1, 0), (2, 0), (3, 0), (4, 1), (5, 0), (6, 1), (7, 2), (8, 1), (9, 0), (10, 0), (11, 3)] [11] mixed (by kernel_rfl) ?_)| refine Gl hb ?_ | refine Gl hg ?_ | (refine Gt hcl ?_; rintro _ _ ⟨cad, ccap, rfl, rfl⟩) | (refine Gu hcl ?_; rintro _ _ ⟨cad, ccap, rfl, rfl⟩; refine ⟨Ent.go, ?_⟩) | (refine Ge ?_ ?_ <;> (intro h; try (exfalso; omega))) | fail)
    all_goals first | (exfalso; omega) | skip
    refine St.d1 Tryz.func28 ⟨_, ⟨_, H, rfl, hq', fun b l h => h, rfl⟩, Ent.go⟩
set_option maxHeartbeats 2000000 in
theorem key_3 (H : HProp) (pv : Value) (x : Tb) (key val : Nat) (hq : TaR H pv (some x)) (hup : SortP x.pairs) (hl : x.pairs.length ≤ 1000) : Tri Tryz.prog 28 #[pv, bs (nmB 3), .agg ⟨[.int .u64 (key : Int), .int .u64 (val : Int)]⟩] [H] (doesQ H (doesM 3 (some x) key val)) := by
  have hg := gives_r 2
  have hq' := hq
  obtain ⟨b, lv, rfl, hrd, hls⟩ := hq
  have hls' := hls
  obtain ⟨ad, cap, rfl, _⟩ := hls'
  have hb := psearch_r H ad cap x.pairs key val hls hup hl
  have hcl := pclone_t H ad cap x.pairs hls (by omega)
  by_cases hm : key ∈ x.pairs.map (·.1)
  · rw [decide_eq_true hm] at hb
    obtain ⟨w, hi, hw, hmg, her, -⟩ := key_at (v := val) hup hm
    rw [dM_3s hmg]
    have hdl : (withoutP key x.pairs).length = x.pairs.length - 1 := by rw [← her]; exact List.length_eraseIdx_of_lt hi
    have hde := fun ad cap => delete_t ad cap x.pairs (loP key x.pairs).length hi hl
    rw [her] at hde
    clear her hw
    generalize (loP key x.pairs).length = i at hb hde hi
    rw [← hdl] at hde
    unfold nmB doesQ
    dsimp only
    refine Tri.of_body (vs := [_, _, _]) Tryz.func28 rfl rfl fun w0 F => ?_
    repeat' (first | refine Ga ?_ | (refine Gb ?_; intro b) | (refine Gd ?_; intro g cap rest hcap) | (refine Gc ?_; intro ad cap) | (refine St.draw (id := 1) [(0, 0), (1, 0), (2, 0), (3, 1), (4, 1), (5, 1), (6, 0), (7, 0), (8, 0), (9, 0), (10, 0)] [] mixed (by kernel_rfl) ?_) | (refine St.draw (id := 2) [(0, 0), (1, 0), (2, 0), (3, 1), (4, 0), (5, 0), (6, 0), (7, 1), (8, 2), (9, 0), (10, 2), (11, 0)] [] mixed (by kernel_rfl) ?_) | (refine St.draw (id := 4) [(0, 0), (1, 0), (2, 0), (3, 0), (4, 1), (5, 0), (6, 0), (7, 0), (8, 1), (9, 0), (10, 0), (11, 3)] [11] mixed (by kernel_rfl) ?_) | (refine St.draw (id := 13) [(0, 0), (1, 0), (2, 0), (3, 1), (4, 0), (5, 1), (6, 0), (7, 3)] [7] mixed (by kernel_rfl) ?_) | (refine St.draw (id := 15) [(0, 0), (1, 0), (2, 0), (3, 1), (4, 0), (5, 0), (6, 0), (7, 0), (8, 0), (9, 1), (10, 0), (11, 0)] [] mixed (by kernel_rfl) ?_) | (refine St.draw (id := 17) [(0, 0), (1, 0), (2, 0), (3, 0), (4, 1), (5, 0), (6, 1), (7, 2), (8, 1), (9, 0), (10, 0), (11, 3)] [11] mixed (by kernel_rfl) ?_)| refine Gl hb ?_ | (refine Gt hcl ?_; rintro _ _ ⟨cad, ccap, rfl, rfl⟩) | (refine Gu hcl ?_; rintro _ _ ⟨cad, ccap, rfl, rfl⟩; refine ⟨Ent.go, ?_⟩) | (refine Gt (hde _ _) ?_; rintro _ _ ⟨rfl, rfl⟩) | (refine Gu (hde _ _) ?_; rintro _ _ ⟨rfl, rfl⟩; refine ⟨Ent.go, ?_⟩) | (refine Ge ?_ ?_ <;> (intro h; try (exfalso; omega))) | fail)
    iterate 4
      all_goals try (refine StD.ok3 rfl (OpOk.ofV' OpV.go) rfl ?_; rintro _ _ ⟨rfl, rfl⟩)
      all_goals repeat' (first | refine Ga ?_ | (refine Gb ?_; intro b) | (refine Gd ?_; intro g cap rest hcap) | (refine Gc ?_; intro ad cap) | (refine St.draw (id := 1) [(0, 0), (1, 0), (2, 0), (3, 1), (4, 1), (5, 1), (6, 0), (7, 0), (8, 0), (9, 0), (10, 0)] [] mixed (by kernel_rfl) ?_) | (refine St.draw (id := 2) [(0, 0), (1, 0), (2, 0), (3, 1), (4, 0), (5, 0), (6, 0), (7, 1), (8, 2), (9, 0), (10, 2), (11, 0)] [] mixed (by kernel_rfl) ?_) | (refine St.draw (id := 4) [(0, 0), (1, 0), (2, 0), (3, 0), (4, 1), (5, 0), (6, 0), (7, 0), (8, 1), (9, 0), (10, 0), (11, 3)] [11] mixed (by kernel_rfl) ?_) | (refine St.draw (id := 13) [(0, 0), (1, 0), (2, 0), (3, 1), (4, 0), (5, 1), (6, 0), (7, 3)] [7] mixed (by kernel_rfl) ?_) | (refine St.draw (id := 15) [(0, 0), (1, 0), (2, 0), (3, 1), (4, 0), (5, 0), (6, 0), (7, 0), (8, 0), (9, 1), (10, 0), (11, 0)] [] mixed (by kernel_rfl) ?_) | (refine St.draw (id := 17) [(0, 0), (1, 0), (2, 0), (3, 0), (4, 1), (5, 0), (6, 1), (7, 2), (8, 1), (9, 0), (10, 0), (11, 3)] [11] mixed (by kernel_rfl) ?_)| refine Gl hb ?_ | (refine Gt hcl ?_; rintro _ _ ⟨cad, ccap, rfl, rfl⟩) | (refine Gu hcl ?_; rintro _ _ ⟨cad, ccap, rfl, rfl⟩; refine ⟨Ent.go, ?_⟩) | (refine Gt (hde _ _) ?_; rintro _ _ ⟨rfl, rfl⟩) | (refine Gu (hde _ _) ?_; rintro _ _ ⟨rfl, rfl⟩; refine ⟨Ent.go, ?_⟩) | (refine Ge ?_ ?_ <;> (intro h; try (exfalso; omega))) | fail)
    all_goals first | (exfalso; omega) | skip
    all_goals (
      revert b; intro Bn
      refine St.conv ?_ (Sub.refl _) (Ent.of_take (p := Row (.slice cad (withoutP key x.pairs).length ccap) 73 2 (withoutP key x.pairs).length ((withoutP key x.pairs).flatMap prV)) Take.go)
      refine St.rowL rfl fun R hR => ?_
      refine St.d1 Tryz.func28 ⟨_, ⟨_, star [bl Bn 71 [.int .u64 (x.cap : Int), .slice cad (withoutP key x.pairs).length ccap], R, H], rfl, ⟨Bn, _, rfl, RdC.star (p := bl Bn 71 [.int .u64 (x.cap : Int), .slice cad (withoutP key x.pairs).length ccap]) (.head _) RdC.bl, hR.weak fun b l h => RdC.star (.tail _ (.head _)) h⟩, fun b l h => RdC.star (.tail _ (.tail _ (.head _))) h, rfl⟩, ?_⟩
      refine Ent.trans ?_ (Ent.star_in _)
      exact Ent.go)
  · rw [decide_eq_false hm] at hb
    rw [dM_3n ((mget_none_iff key).mpr hm)]
    unfold nmB doesQ
    dsimp only
    refine Tri.of_body (vs := [_, _, _]) Tryz.func28 rfl rfl fun w0 F => ?_
    repeat' (first | refine Ga ?_ | (refine Gb ?_; intro b) | (refine Gd ?_; intro g cap rest hcap) | (refine Gc ?_; intro ad cap) | (refine St.draw (id := 1) [(0, 0), (1, 0), (2, 0), (3, 1), (4, 1), (5, 1), (6, 0), (7, 0), (8, 0), (9, 0), (10, 0)] [] mixed (by kernel_rfl) ?_) | (refine St.draw (id := 2) [(0, 0), (1, 0), (2, 0), (3, 1), (4, 0), (5, 0), (6, 0), (7, 1), (8, 2), (9, 0), (10, 2), (11, 0)] [] mixed (by kernel_rfl) ?_) | (refine St.draw (id := 4) [(0, 0), (1, 0), (2, 0), (3, 0), (4, 1), (5, 0), (6, 0), (7, 0), (8, 1), (9, 0), (10, 0), (11, 3)] [11] mixed (by kernel_rfl) ?_) | (refine St.draw (id := 13) [(0, 0), (1, 0), (2, 0), (3, 1), (4, 0), (5, 1), (6, 0), (7, 3)] [7] mixed (by kernel_rfl) ?_) | (refine St.draw (id := 15) [(0, 0), (1, 0), (2, 0), (3, 1), (4, 0), (5, 0), (6, 0), (7, 0), (8, 0), (9, 1), (10, 0), (11, 0)] [] mixed (by kernel_rfl) ?_) | (refine St.draw (id := 17) [(0, 0), (1, 0), (2, 0), (3, 0), (4, 1), (5, 0), (6, 1), (7, 2), (8, 1), (9, 0), (10, 0), (11, 3)] [11] mixed (by kernel_rfl) ?_)| refine Gl hb ?_ | (refine Gt hcl ?_; rintro _ _ ⟨cad, ccap, rfl, rfl⟩) | (refine Gu hcl ?_; rintro _ _ ⟨cad, ccap, rfl, rfl⟩; refine ⟨Ent.go, ?_⟩) | (refine Ge ?_ ?_ <;> (intro h; try (exfalso; omega))) | fail)
    all_goals first | (exfalso; omega) | skip
    refine St.d1 Tryz.func28 ⟨_, ⟨_, H, rfl, hq', fun b l h => h, rfl⟩, Ent.go⟩
set_option maxHeartbeats 2000000 in
theorem key_1 (H : HProp) (pv : Value) (x : Tb) (key val : Nat) (hq : TaR H pv (some x)) (hup : SortP x.pairs) (hl : x.pairs.length ≤ 1000) : Tri Tryz.prog 28 #[pv, bs (nmB 1), .agg ⟨[.int .u64 (key : Int), .int .u64 (val : Int)]⟩] [H] (doesQ H (doesM 1 (some x) key val)) := by
  have hg := gives_r 2
  have hq' := hq
  obtain ⟨b, lv, rfl, hrd, hls⟩ := hq
  have hls' := hls
  obtain ⟨ad, cap, rfl, _⟩ := hls'
  have hb := psearch_r H ad cap x.pairs key val hls hup hl
  have hcl := pclone_t H ad cap x.pairs hls (by omega)
  by_cases hm : key ∈ x.pairs.map (·.1)
  · rw [decide_eq_true hm] at hb
    obtain ⟨w, hi, hw, hmg, -, hse⟩ := key_at (v := val) hup hm
    rw [dM_1s hmg]
    have hdl : (withP key val x.pairs).length = x.pairs.length := by rw [← hse]; exact List.length_set
    clear hw
    generalize (loP key x.pairs).length = i at hb hse hi
    unfold nmB doesQ
    dsimp only
    refine Tri.of_body (vs := [_, _, _]) Tryz.func28 rfl rfl fun w0 F => ?_
    repeat' (first | refine St.halt 13 ?_ |refine Ga ?_ | (refine Gb ?_; intro b) | (refine Gd ?_; intro g cap rest hcap) | (refine Gc ?_; intro ad cap) | (refine St.draw (id := 1) [(0, 0), (1, 0), (2, 0), (3, 1), (4, 1), (5, 1), (6, 0), (7, 0), (8, 0), (9, 0), (10, 0)] [] mixed (by kernel_rfl) ?_) | (refine St.draw (id := 2) [(0, 0), (1, 0), (2, 0), (3, 1), (4, 0), (5, 0), (6, 0), (7, 1), (8, 2), (9, 0), (10, 2), (11, 0)] [] mixed (by kernel_rfl) ?_) | (refine St.draw (id := 4) [(0, 0), (1, 0), (2, 0), (3, 0), (4, 1), (5, 0), (6, 0), (7, 0), (8, 1), (9, 0), (10, 0), (11, 3)] [11] mixed (by kernel_rfl) ?_) | (refine St.draw (id := 13) [(0, 0), (1, 0), (2, 0), (3, 1), (4, 0), (5, 1), (6, 0), (7, 3)] [7] mixed (by kernel_rfl) ?_) | (refine St.draw (id := 15) [(0, 0), (1, 0), (2, 0), (3, 1), (4, 0), (5, 0), (6, 0), (7, 0), (8, 0), (9, 1), (10, 0), (11, 0)] [] mixed (by kernel_rfl) ?_) | (refine St.draw (id := 17) [(0, 0), (1, 0), (2, 0), (3, 0), (4, 1), (5, 0), (6, 1), (7, 2), (8, 1), (9, 0), (10, 0), (11, 3)] [11] mixed (by kernel_rfl) ?_)| refine Gl hb ?_ | (refine Gt hcl ?_; rintro _ _ ⟨cad, ccap, rfl, rfl⟩) | (refine Gu hcl ?_; rintro _ _ ⟨cad, ccap, rfl, rfl⟩; refine ⟨Ent.go, ?_⟩) | (refine Ge ?_ ?_ <;> (intro h; try (exfalso; omega))) | fail)
    all_goals first | (exfalso; omega) | skip
    apply Halt.go
    revert b; intro Bn
    refine St.conv ?_ (Sub.refl _) (Ent.of_take (p := Row (.slice cad x.pairs.length ccap) 73 2 x.pairs.length (x.pairs.flatMap prV)) Take.go)
    refine St.rowF (by omega) fun g lcp rest hv hrf => ?_
    injection hv with hv1 hv2 hv3
    subst hv1 hv3
    have hpl := prs_len x.pairs
    have htot := hrf.tot
    have s1 := (SplN.flat prV_len hi (key, val)).more rest
    rw [hse] at s1
    rw [show i * 2 = (i : Int).toNat * 2 by omega] at s1
    unfold prV at s1
    have hpl2 := prs_len (withP key val x.pairs)
    repeat' (first | refine Ga ?_ | (refine Gb ?_; intro b) | (refine Gd ?_; intro g cap rest hcap) | (refine Gc ?_; intro ad cap) | (refine St.draw (id := 1) [(0, 0), (1, 0), (2, 0), (3, 1), (4, 1), (5, 1), (6, 0), (7, 0), (8, 0), (9, 0), (10, 0)] [] mixed (by kernel_rfl) ?_) | (refine St.draw (id := 2) [(0, 0), (1, 0), (2, 0), (3, 1), (4, 0), (5, 0), (6, 0), (7, 1), (8, 2), (9, 0), (10, 2), (11, 0)] [] mixed (by kernel_rfl) ?_) | (refine St.draw (id := 4) [(0, 0), (1, 0), (2, 0), (3, 0), (4, 1), (5, 0), (6, 0), (7, 0), (8, 1), (9, 0), (10, 0), (11, 3)] [11] mixed (by kernel_rfl) ?_) | (refine St.draw (id := 13) [(0, 0), (1, 0), (2, 0), (3, 1), (4, 0), (5, 1), (6, 0), (7, 3)] [7] mixed (by kernel_rfl) ?_) | (refine St.draw (id := 15) [(0, 0), (1, 0), (2, 0), (3, 1), (4, 0), (5, 0), (6, 0), (7, 0), (8, 0), (9, 1), (10, 0), (11, 0)] [] mixed (by kernel_rfl) ?_) | (refine St.draw (id := 17) [(0, 0), (1, 0), (2, 0), (3, 0), (4, 1), (5, 0), (6, 1), (7, 2), (8, 1), (9, 0), (10, 0), (11, 3)] [11] mixed (by kernel_rfl) ?_) | (refine Ge ?_ ?_ <;> (intro h; try (exfalso; omega))) | fail)
    all_goals first | (exfalso; omega) | skip
    have hRF : RowF (withP key val x.pairs).length ccap 2 ((withP key val x.pairs).flatMap prV) rest := ⟨by rw [hdl]; exact hrf.le, hrf.max, prs_len _, by rw [hpl2, hdl, ← hpl]; exact htot⟩
    rw [← hdl]
    refine St.conv ?_ (Sub.refl _) (Ent.of_take (p := bl g 73 ((withP key val x.pairs).flatMap prV ++ rest)) Take.go)
    refine St.conv ?_ (Sub.refl _) (Ent.rowF hRF)
    refine St.rowL rfl fun R hR => ?_
    refine St.d1 Tryz.func28 ⟨_, ⟨_, star [bl Bn 71 [.int .u64 (x.cap : Int), .slice (some ⟨g, 0, none⟩) (withP key val x.pairs).length ccap], R, H], rfl, ⟨Bn, _, rfl, RdC.star (p := bl Bn 71 [.int .u64 (x.cap : Int), .slice (some ⟨g, 0, none⟩) (withP key val x.pairs).length ccap]) (.head _) RdC.bl, hR.weak fun b l h => RdC.star (.tail _ (.head _)) h⟩, fun b l h => RdC.star (.tail _ (.tail _ (.head _))) h, rfl⟩, ?_⟩
    refine Ent.trans ?_ (Ent.star_in _)
    exact Ent.go
  rw [decide_eq_false hm] at hb
  have hmg : mget x.pairs key = none := (mget_none_iff key).mpr hm
  by_cases hf : x.cap ≤ x.pairs.length
  · rw [dM_1f hmg hf]
    unfold nmB doesQ
    dsimp only
    refine Tri.of_body (vs := [_, _, _]) Tryz.func28 rfl rfl fun w0 F => ?_
    repeat' (first | refine Ga ?_ | (refine Gb ?_; intro b) | (refine Gd ?_; intro g cap rest hcap) | (refine Gc ?_; intro ad cap) | (refine St.draw (id := 1) [(0, 0), (1, 0), (2, 0), (3, 1), (4, 1), (5, 1), (6, 0), (7, 0), (8, 0), (9, 0), (10, 0)] [] mixed (by kernel_rfl) ?_) | (refine St.draw (id := 2) [(0, 0), (1, 0), (2, 0), (3, 1), (4, 0), (5, 0), (6, 0), (7, 1), (8, 2), (9, 0), (10, 2), (11, 0)] [] mixed (by kernel_rfl) ?_) | (refine St.draw (id := 4) [(0, 0), (1, 0), (2, 0), (3, 0), (4, 1), (5, 0), (6, 0), (7, 0), (8, 1), (9, 0), (10, 0), (11, 3)] [11] mixed (by kernel_rfl) ?_) | (refine St.draw (id := 13) [(0, 0), (1, 0), (2, 0), (3, 1), (4, 0), (5, 1), (6, 0), (7, 3)] [7] mixed (by kernel_rfl) ?_) | (refine St.draw (id := 15) [(0, 0), (1, 0), (2, 0), (3, 1), (4, 0), (5, 0), (6, 0), (7, 0), (8, 0), (9, 1), (10, 0), (11, 0)] [] mixed (by kernel_rfl) ?_) | (refine St.draw (id := 17) [(0, 0), (1, 0), (2, 0), (3, 0), (4, 1), (5, 0), (6, 1), (7, 2), (8, 1), (9, 0), (10, 0), (11, 3)] [11] mixed (by kernel_rfl) ?_)| refine Gl hb ?_ | refine Gl hg ?_ | (refine Gt hcl ?_; rintro _ _ ⟨cad, ccap, rfl, rfl⟩) | (refine Gu hcl ?_; rintro _ _ ⟨cad, ccap, rfl, rfl⟩; refine ⟨Ent.go, ?_⟩) | (refine Ge ?_ ?_ <;> (intro h; try (exfalso; omega))) | fail)
    all_goals first | (exfalso; omega) | skip
    refine St.d1 Tryz.func28 ⟨_, ⟨_, H, rfl, hq', fun b l h => h, rfl⟩, Ent.go⟩
  · rw [dM_1n hmg hf]
    have hins := (withP_at (v := val) hup).2 hm
    have hle := loP_le key x.pairs
    have hdl : (withP key val x.pairs).length = x.pairs.length + 1 := by
      rw [← hins, List.length_append, List.length_cons, List.length_take, List.length_drop]
      omega
    have hin := fun ad cap vb => insert_t ad cap x.pairs (loP key x.pairs).length key val vb hle hl
    rw [hins] at hin
    clear hins
    generalize (loP key x.pairs).length = i at hb hin
    rw [← hdl] at hin
    unfold nmB doesQ
    dsimp only
    refine Tri.of_body (vs := [_, _, _]) Tryz.func28 rfl rfl fun w0 F => ?_
    repeat' (first | refine Ga ?_ | (refine Gb ?_; intro b) | (refine Gd ?_; intro g cap rest hcap) | (refine Gc ?_; intro ad cap) | (refine St.draw (id := 1) [(0, 0), (1, 0), (2, 0), (3, 1), (4, 1), (5, 1), (6, 0), (7, 0), (8, 0), (9, 0), (10, 0)] [] mixed (by kernel_rfl) ?_) | (refine St.draw (id := 2) [(0, 0), (1, 0), (2, 0), (3, 1), (4, 0), (5, 0), (6, 0), (7, 1), (8, 2), (9, 0), (10, 2), (11, 0)] [] mixed (by kernel_rfl) ?_) | (refine St.draw (id := 4) [(0, 0), (1, 0), (2, 0), (3, 0), (4, 1), (5, 0), (6, 0), (7, 0), (8, 1), (9, 0), (10, 0), (11, 3)] [11] mixed (by kernel_rfl) ?_) | (refine St.draw (id := 13) [(0, 0), (1, 0), (2, 0), (3, 1), (4, 0), (5, 1), (6, 0), (7, 3)] [7] mixed (by kernel_rfl) ?_) | (refine St.draw (id := 15) [(0, 0), (1, 0), (2, 0), (3, 1), (4, 0), (5, 0), (6, 0), (7, 0), (8, 0), (9, 1), (10, 0), (11, 0)] [] mixed (by kernel_rfl) ?_) | (refine St.drawT (id := 17) [(0, 0), (1, 0), (2, 0), (3, 0), (5, 0)] (.pick [(4, 3), (6, 3), (7, 2), (8, 3), (9, 0), (10, 0), (11, 3)] .done (.pick [(6, 3)] (.pick [(4, 3), (7, 2), (8, 3), (9, 0), (10, 0), (11, 3)] .done (.pick [(7, 2), (4, 3), (8, 3), (9, 0), (10, 0), (11, 3)] .done .nope)) .nope)) [4, 6, 8, 11] mixed (by kernel_rfl) ?_) | apply StD.pick | exact StD.nope | refine Gl hb ?_ | (refine Gt hcl ?_; rintro _ _ ⟨cad1, ccap1, rfl, rfl⟩) | (refine Gu hcl ?_; rintro _ _ ⟨cad1, ccap1, rfl, rfl⟩; refine ⟨Ent.go, ?_⟩) | (refine Gt (hin _ _ _) ?_; rintro _ _ ⟨cad, ccap, rfl, rfl⟩) | (refine Gu (hin _ _ _) ?_; rintro _ _ ⟨cad, ccap, rfl, rfl⟩; refine ⟨Ent.go, ?_⟩) | (refine Ge ?_ ?_ <;> (intro h; try (exfalso; omega))) | fail)
    iterate 4
      all_goals try (refine StD.ok3 rfl (OpOk.ofV' OpV.go) rfl ?_; rintro _ _ ⟨rfl, rfl⟩)
      all_goals repeat' (first | refine Ga ?_ | (refine Gb ?_; intro b) | (refine Gd ?_; intro g cap rest hcap) | (refine Gc ?_; intro ad cap) | (refine St.draw (id := 1) [(0, 0), (1, 0), (2, 0), (3, 1), (4, 1), (5, 1), (6, 0), (7, 0), (8, 0), (9, 0), (10, 0)] [] mixed (by kernel_rfl) ?_) | (refine St.draw (id := 2) [(0, 0), (1, 0), (2, 0), (3, 1), (4, 0), (5, 0), (6, 0), (7, 1), (8, 2), (9, 0), (10, 2), (11, 0)] [] mixed (by kernel_rfl) ?_) | (refine St.draw (id := 4) [(0, 0), (1, 0), (2, 0), (3, 0), (4, 1), (5, 0), (6, 0), (7, 0), (8, 1), (9, 0), (10, 0), (11, 3)] [11] mixed (by kernel_rfl) ?_) | (refine St.draw (id := 13) [(0, 0), (1, 0), (2, 0), (3, 1), (4, 0), (5, 1), (6, 0), (7, 3)] [7] mixed (by kernel_rfl) ?_) | (refine St.draw (id := 15) [(0, 0), (1, 0), (2, 0), (3, 1), (4, 0), (5, 0), (6, 0), (7, 0), (8, 0), (9, 1), (10, 0), (11, 0)] [] mixed (by kernel_rfl) ?_) | (refine St.drawT (id := 17) [(0, 0), (1, 0), (2, 0), (3, 0), (5, 0)] (.pick [(4, 3), (6, 3), (7, 2), (8, 3), (9, 0), (10, 0), (11, 3)] .done (.pick [(6, 3)] (.pick [(4, 3), (7, 2), (8, 3), (9, 0), (10, 0), (11, 3)] .done (.pick [(7, 2), (4, 3), (8, 3), (9, 0), (10, 0), (11, 3)] .done .nope)) .nope)) [4, 6, 8, 11] mixed (by kernel_rfl) ?_) | apply StD.pick | exact StD.nope | refine Gl hb ?_ | (refine Gt hcl ?_; rintro _ _ ⟨cad1, ccap1, rfl, rfl⟩) | (refine Gu hcl ?_; rintro _ _ ⟨cad1, ccap1, rfl, rfl⟩; refine ⟨Ent.go, ?_⟩) | (refine Gt (hin _ _ _) ?_; rintro _ _ ⟨cad, ccap, rfl, rfl⟩) | (refine Gu (hin _ _ _) ?_; rintro _ _ ⟨cad, ccap, rfl, rfl⟩; refine ⟨Ent.go, ?_⟩) | (refine Ge ?_ ?_ <;> (intro h; try (exfalso; omega))) | fail)
    all_goals first | (exfalso; omega) | skip
    all_goals (
      revert b; intro Vb
      revert b; intro Bn
      refine St.conv ?_ (Sub.refl _) (Ent.of_take (p := Row (.slice cad (withP key val x.pairs).length ccap) 73 2 (withP key val x.pairs).length ((withP key val x.pairs).flatMap prV)) Take.go)
      refine St.rowL rfl fun R hR => ?_
      refine St.d1 Tryz.func28 ⟨_, ⟨_, star [bl Bn 71 [.int .u64 (x.cap : Int), .slice cad (withP key val x.pairs).length ccap], R, H], rfl, ⟨Bn, _, rfl, RdC.star (p := bl Bn 71 [.int .u64 (x.cap : Int), .slice cad (withP key val x.pairs).length ccap]) (.head _) RdC.bl, hR.weak fun b l h => RdC.star (.tail _ (.head _)) h⟩, fun b l h => RdC.star (.tail _ (.tail _ (.head _))) h, rfl⟩, ?_⟩
      refine Ent.trans ?_ (Ent.star_in _)
      exact Ent.go)
end Go.Proofs.YthbignifgljphaaGreatDoor
