/-
  Packages tumblerref20, tumblerlaw20: Same, same.
-/
import Derived.Test.YtphheopbngdhhaaGreatDoorQe
namespace Go.Proofs.YtphheopbngdhhaaGreatDoor
set_option maxRecDepth 100000
theorem SlR.at {q : HProp} {v : Value} {xs : List Nat} (h : SlR q v xs) (h0 : 0 < xs.length) : ∃ b o cap l, v = .slice (some ⟨b, o, none⟩) xs.length cap ∧ RdC q b l ∧ ∀ (k : Nat) (hk : k < xs.length), NthN (o + (k : Int).toNat * 1) l (.int .u64 (xs[k] : Int)) := by
  rcases h with ⟨_, rfl⟩ | ⟨b, o, l, r, cap, h1, h2, h3, h4, h5⟩
  · cases h0
  · refine ⟨b, o, cap, l, h1, h3, fun k hk => ?_⟩
    have := NthN.part h4 h5 (NthN.u64s hk)
    rw [show (k : Int).toNat * 1 = k by omega]
    rw [show xs[k] = xs.getD k 0 by rw [List.getD_eq_getElem?_getD, List.getElem?_eq_getElem hk]; rfl]
    exact this
def sameGo (xs ys : List Nat) : Bool := decide (xs = ys)
theorem rsame_r (H : HProp) (v u : Value) (xs ys : List Nat) (hv : SlR H v xs) (hu : SlR H u ys) (hln : xs.length ≤ 1000000) : RTri Tryz.prog 56 #[v, u] [H] (.bool (decide (xs = ys))) := by
  refine RTri.of_reads fun p hp => ?_
  have hpr : ∀ b l, RdC H b l → RdC p b l := fun b l h => RdC.of_sat hp (ReadsC.here h)
  have hv := hv.weak hpr
  have hu := hu.weak hpr
  by_cases hl : xs.length = ys.length
  · by_cases h0 : 0 < xs.length
    · obtain ⟨b1, o1, c1, l1, rfl, hr1, hn1⟩ := hv.at h0
      obtain ⟨b2, o2, c2, l2, rfl, hr2, hn2⟩ := hu.at (by omega)
      refine Tri.of_body (vs := [_, _]) Tryz.func56 rfl rfl fun w0 F => ?_
      repeat' (first | refine Ga ?_ | (refine Gb ?_; intro b) | (refine Gd ?_; intro g cap rest hcap) | (refine Gc ?_; intro ad cap) | (refine St.draw (id := 6) [(0, 0), (1, 0), (2, 0), (3, 1), (4, 0), (5, 0), (6, 0), (7, 1), (8, 0)] [] mixed (by kernel_rfl) ?_) | (refine Ge ?_ ?_ <;> (intro h; try (exfalso; omega))) | fail)
      refine St.loopY (Lr := ?Lr1) (ι := { x : Nat // x ≤ xs.length ∧ xs.take x = ys.take x }) (fun x => xs.length - x.1) (fun x => [(5, .int .i64 (x.1 : Int))]) (fun _ => []) ⟨0, Nat.zero_le _, rfl⟩ ?hE1 ?hL1 ?round1
      case hE1 => exact Sub.go
      case hL1 => exact Takes.go
      case round1 =>
        rintro ⟨k, hk, ht⟩ IH; dsimp only at hk ht IH ⊢
        by_cases hlt : k < xs.length
        · have e1 := hn1 k hlt
          have hlt2 : k < ys.length := by omega
          have e2 := hn2 k hlt2
          have ht1 := fun (h : xs[k] = ys[k]) => (show xs.take (k + 1) = ys.take (k + 1) by rw [List.take_succ_eq_append_getElem hlt, List.take_succ_eq_append_getElem hlt2, ht, h])
          have hne := fun (h : ¬xs[k] = ys[k]) (e : xs = ys) => h (by subst e; rfl)
          generalize xs[k] = x at e1 ht1 hne
          generalize ys[k] = y at e2 ht1 hne
          by_cases hxy : x = y
          · repeat' (first | refine Ga ?_ | (refine Gb ?_; intro b) | (refine Gd ?_; intro g cap rest hcap) | (refine Gc ?_; intro ad cap) | (refine St.draw (id := 6) [(0, 0), (1, 0), (2, 0), (3, 1), (4, 0), (5, 0), (6, 0), (7, 1), (8, 0)] [] mixed (by kernel_rfl) ?_) | (refine Ge ?_ ?_ <;> (intro h; try (exfalso; omega))) | fail)
            all_goals first | (exfalso; omega) | skip
            refine IH ⟨k + 1, hlt, ht1 hxy⟩ (by show xs.length - (k + 1) < xs.length - k; omega) ?_ ?_
            · exact Sub.go
            · exact Ent.go
          · rw [show decide (xs = ys) = false from decide_eq_false (hne hxy)]
            clear IH
            repeat' (first | refine Ga ?_ | (refine Gb ?_; intro b) | (refine Gd ?_; intro g cap rest hcap) | (refine Gc ?_; intro ad cap) | (refine St.draw (id := 6) [(0, 0), (1, 0), (2, 0), (3, 1), (4, 0), (5, 0), (6, 0), (7, 1), (8, 0)] [] mixed (by kernel_rfl) ?_) | (refine Ge ?_ ?_ <;> (intro h; try (exfalso; omega))) | fail)
            all_goals first | (exfalso; omega) | skip
            refine St.d1 Tryz.func56 ⟨_, ⟨rfl, rfl⟩, Ent.go⟩
        · obtain rfl : k = xs.length := by omega
          rw [List.take_length, hl, List.take_length] at ht
          rw [show decide (xs = ys) = true from decide_eq_true ht]
          clear IH
          repeat' (first | refine Ga ?_ | (refine Gb ?_; intro b) | (refine Gd ?_; intro g cap rest hcap) | (refine Gc ?_; intro ad cap) | (refine St.draw (id := 6) [(0, 0), (1, 0), (2, 0), (3, 1), (4, 0), (5, 0), (6, 0), (7, 1), (8, 0)] [] mixed (by kernel_rfl) ?_) | (refine Ge ?_ ?_ <;> (intro h; try (exfalso; omega))) | fail)
          all_goals first | (exfalso; omega) | skip
          refine St.d1 Tryz.func56 ⟨_, ⟨rfl, rfl⟩, Ent.go⟩
    · have hx : xs = [] := List.eq_nil_of_length_eq_zero (by omega)
      have hy : ys = [] := List.eq_nil_of_length_eq_zero (by omega)
      subst hx hy
      obtain ⟨a1, c1, rfl⟩ := hv.val
      obtain ⟨a2, c2, rfl⟩ := hu.val
      refine Tri.of_body (vs := [_, _]) Tryz.func56 rfl rfl fun w0 F => ?_
      repeat' (first | (apply St.loop1) | (apply St.inLoop1) | refine Ga ?_ | (refine Gb ?_; intro b) | (refine Gd ?_; intro g cap rest hcap) | (refine Gc ?_; intro ad cap) | (refine St.draw (id := 6) [(0, 0), (1, 0), (2, 0), (3, 1), (4, 0), (5, 0), (6, 0), (7, 1), (8, 0)] [] mixed (by kernel_rfl) ?_) | (refine Ge ?_ ?_ <;> (intro h; try (exfalso; omega))) | fail)
      refine St.d1 Tryz.func56 ⟨_, ⟨rfl, rfl⟩, Ent.go⟩
  · rw [show decide (xs = ys) = false from decide_eq_false (fun e => hl (by rw [e]))]
    obtain ⟨a1, c1, rfl⟩ := hv.val
    obtain ⟨a2, c2, rfl⟩ := hu.val
    refine Tri.of_body (vs := [_, _]) Tryz.func56 rfl rfl fun w0 F => ?_
    repeat' (first | refine Ga ?_ | (refine Gb ?_; intro b) | (refine Gd ?_; intro g cap rest hcap) | (refine Gc ?_; intro ad cap) | (refine St.draw (id := 6) [(0, 0), (1, 0), (2, 0), (3, 1), (4, 0), (5, 0), (6, 0), (7, 1), (8, 0)] [] mixed (by kernel_rfl) ?_) | (refine Ge ?_ ?_ <;> (intro h; try (exfalso; omega))) | fail)
    all_goals first | (exfalso; omega) | skip
    refine St.d1 Tryz.func56 ⟨_, ⟨rfl, rfl⟩, Ent.go⟩
def qEq : Option Qu → Option Qu → Bool
  | none, none => true
  | some x, some y => decide (x.cap = y.cap) && decide (x.list = y.list)
  | _, _ => false
theorem qEq_refl (q : Option Qu) : qEq q q = true := by
  cases q <;> simp [qEq]
theorem lsame_r (H : HProp) (pv xv : Value) (q x : Option Qu) (hq : QuR H pv q) (hx : XuR H xv x) (hln : ∀ y, q = some y → y.list.length ≤ 1000000) : RTri Tryz.prog 19 #[pv, xv] [H] (.bool (qEq q x)) := by
  refine RTri.of_reads fun p hp => ?_
  have hpr : ∀ b l, RdC H b l → RdC p b l := fun b l h => RdC.of_sat hp (ReadsC.here h)
  have hq := hq.weak hpr
  have hx := hx.weak hpr
  cases q with
  | none =>
    obtain rfl : pv = .pointer none := hq
    cases x with
    | none =>
      obtain rfl : xv = .agg ⟨[.bool false, .int .u64 0, .slice none 0 0]⟩ := hx
      refine Tri.of_body (vs := [_, _]) Tryz.func19 rfl rfl fun w0 F => ?_
      repeat' (first | refine Ga ?_ | (refine Gb ?_; intro b) | (refine Gd ?_; intro g cap rest hcap) | (refine Gc ?_; intro ad cap) | (refine St.draw (id := 3) [(0, 0), (1, 1), (2, 0), (3, 0), (4, 0), (5, 0), (6, 1), (7, 0), (8, 1), (9, 0), (10, 0), (11, 0), (12, 0), (13, 0), (14, 0), (15, 1), (16, 0), (17, 1), (18, 1), (19, 0), (20, 0)] [] mixed (by kernel_rfl) ?_) | (refine Ge ?_ ?_ <;> (intro h; try (exfalso; omega))) | fail)
      refine St.d1 Tryz.func19 ⟨_, ⟨rfl, rfl⟩, Ent.go⟩
    | some x =>
      obtain ⟨lv, rfl, hsx⟩ := hx
      obtain ⟨a2, c2, rfl⟩ := hsx.val
      refine Tri.of_body (vs := [_, _]) Tryz.func19 rfl rfl fun w0 F => ?_
      repeat' (first | refine Ga ?_ | (refine Gb ?_; intro b) | (refine Gd ?_; intro g cap rest hcap) | (refine Gc ?_; intro ad cap) | (refine St.draw (id := 3) [(0, 0), (1, 1), (2, 0), (3, 0), (4, 0), (5, 0), (6, 1), (7, 0), (8, 1), (9, 0), (10, 0), (11, 0), (12, 0), (13, 0), (14, 0), (15, 1), (16, 0), (17, 1), (18, 1), (19, 0), (20, 0)] [] mixed (by kernel_rfl) ?_) | (refine Ge ?_ ?_ <;> (intro h; try (exfalso; omega))) | fail)
      refine St.d1 Tryz.func19 ⟨_, ⟨rfl, rfl⟩, Ent.go⟩
  | some q =>
    obtain ⟨b, lq, rfl, hrd, hsq⟩ := hq
    obtain ⟨a1, c1, rfl⟩ := hsq.val
    cases x with
    | none =>
      obtain rfl : xv = .agg ⟨[.bool false, .int .u64 0, .slice none 0 0]⟩ := hx
      refine Tri.of_body (vs := [_, _]) Tryz.func19 rfl rfl fun w0 F => ?_
      repeat' (first | refine Ga ?_ | (refine Gb ?_; intro b) | (refine Gd ?_; intro g cap rest hcap) | (refine Gc ?_; intro ad cap) | (refine St.draw (id := 3) [(0, 0), (1, 1), (2, 0), (3, 0), (4, 0), (5, 0), (6, 1), (7, 0), (8, 1), (9, 0), (10, 0), (11, 0), (12, 0), (13, 0), (14, 0), (15, 1), (16, 0), (17, 1), (18, 1), (19, 0), (20, 0)] [] mixed (by kernel_rfl) ?_) | (refine Ge ?_ ?_ <;> (intro h; try (exfalso; omega))) | fail)
      refine St.d1 Tryz.func19 ⟨_, ⟨rfl, rfl⟩, Ent.go⟩
    | some x =>
      obtain ⟨lv, rfl, hsx⟩ := hx
      obtain ⟨a2, c2, rfl⟩ := hsx.val
      have hsm := rsame_r p _ _ _ _ hsq hsx (hln q rfl)
      rw [show qEq (some q) (some x) = (decide (q.cap = x.cap) && decide (q.list = x.list)) from rfl]
      by_cases hc : q.cap = x.cap
      · rw [decide_eq_true hc, Bool.true_and]
        refine Tri.of_body (vs := [_, _]) Tryz.func19 rfl rfl fun w0 F => ?_
        repeat' (first | refine Ga ?_ | (refine Gb ?_; intro b) | (refine Gd ?_; intro g cap rest hcap) | (refine Gc ?_; intro ad cap) | (refine St.draw (id := 3) [(0, 0), (1, 1), (2, 0), (3, 0), (4, 0), (5, 0), (6, 1), (7, 0), (8, 1), (9, 0), (10, 0), (11, 0), (12, 0), (13, 0), (14, 0), (15, 1), (16, 0), (17, 1), (18, 1), (19, 0), (20, 0)] [] mixed (by kernel_rfl) ?_)| refine Gl hsm ?_ | (refine Ge ?_ ?_ <;> (intro h; try (exfalso; omega))) | fail)
        all_goals first | (exfalso; omega) | skip
        refine St.d1 Tryz.func19 ⟨_, ⟨rfl, rfl⟩, Ent.go⟩
      · rw [decide_eq_false hc, Bool.false_and]
        refine Tri.of_body (vs := [_, _]) Tryz.func19 rfl rfl fun w0 F => ?_
        repeat' (first | refine Ga ?_ | (refine Gb ?_; intro b) | (refine Gd ?_; intro g cap rest hcap) | (refine Gc ?_; intro ad cap) | (refine St.draw (id := 3) [(0, 0), (1, 1), (2, 0), (3, 0), (4, 0), (5, 0), (6, 1), (7, 0), (8, 1), (9, 0), (10, 0), (11, 0), (12, 0), (13, 0), (14, 0), (15, 1), (16, 0), (17, 1), (18, 1), (19, 0), (20, 0)] [] mixed (by kernel_rfl) ?_)| refine Gl hsm ?_ | (refine Ge ?_ ?_ <;> (intro h; try (exfalso; omega))) | fail)
        all_goals first | (exfalso; omega) | skip
        refine St.d1 Tryz.func19 ⟨_, ⟨rfl, rfl⟩, Ent.go⟩
end Go.Proofs.YtphheopbngdhhaaGreatDoor
