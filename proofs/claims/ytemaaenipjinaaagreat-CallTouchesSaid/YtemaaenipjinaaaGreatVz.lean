/-
  Packages call, tumblerref07, tumblerref15, tumblerlaw15: the bound.
-/
import Derived.Test.YtemaaenipjinaaaGreatBk
namespace Go.Proofs.YtemaaenipjinaaaGreat
set_option maxRecDepth 100000
def boundN (c : Cfg) : Int := if c.right = true then 5 + 5 * (10 * c.cap + c.threads * (3 * c.fuel + 7) + c.limit + 14) else 0
structure Bd15 (c : Cfg) : Prop where
  small : Small c
  f : 1 ≤ c.fuel ∧ c.fuel ≤ 1000
  p : 0 ≤ c.threads * (3 * c.fuel + 7) ∧ c.threads * (3 * c.fuel + 7) ≤ 24056
theorem bd15 {c : Cfg} (h : c.right = true) : Bd15 c := by
  have hs := Cfg.small h
  have h := of_decide_eq_true h
  have h0 := hs.t0; have h1 := hs.t1
  have f0 : 1 ≤ c.fuel := by omega
  have f1 : c.fuel ≤ 1000 := by omega
  refine ⟨hs, ⟨f0, f1⟩, Int.mul_nonneg (by omega) (by omega), ?_⟩
  have := Int.mul_le_mul (a := c.threads) (b := 3 * c.fuel + 7) (c := 8) (d := 3007) h1 (by omega) (by omega) (by omega)
  omega
theorem bound_r (c : Cfg) : RTri Tryz.prog 28 #[.agg ⟨c.v⟩] [] (.int .i64 (boundN c)) := by
  apply RTri.of_pure
  have hof := of_r c
  unfold Cfg.ofV at hof
  unfold boundN
  cases hr : c.right with
  | true =>
    rw [hr] at hof
    obtain ⟨hc, hf, hp⟩ := bd15 hr
    have hcap := hc.cap; have hlim := hc.limit
    have hcp := cap_r c hc c.fr rfl
    have hlm := limit_r c hc c.fr
    rw [if_pos rfl]
    refine Tri.of_body (vs := [_]) Tryz.func28 rfl rfl fun w0 F => ?_
    repeat' (first | refine Ga ?_ | (refine Gb ?_; intro b) | (refine Gd ?_; intro g cap rest hcap) | (refine Gc ?_; intro ad cap) | (refine St.draw (id := 4) [(0, 1), (1, 1), (2, 0), (3, 0), (4, 1), (5, 0), (6, 1), (7, 0), (8, 0), (9, 0), (10, 0), (11, 1), (12, 1), (13, 0), (14, 0), (15, 0), (16, 0), (17, 0)] [] mixed (by kernel_rfl) ?_)| refine Gl hof ?_ | refine Gl hcp ?_ | refine Gl hlm ?_ | (refine Ge ?_ ?_ <;> (intro h; try (exfalso; omega))) | fail)
    all_goals (first | refine St.dn Tryz.func28 ⟨?_, rfl⟩ Ent.go | refine St.fl Tryz.func28 ⟨?_, rfl⟩ Ent.go)
    all_goals rfl
  | false =>
    rw [hr] at hof
    rw [if_neg (by decide)]
    refine Tri.of_body (vs := [_]) Tryz.func28 rfl rfl fun w0 F => ?_
    repeat' (first | refine Ga ?_ | (refine Gb ?_; intro b) | (refine Gd ?_; intro g cap rest hcap) | (refine Gc ?_; intro ad cap) | (refine St.draw (id := 4) [(0, 1), (1, 1), (2, 0), (3, 0), (4, 1), (5, 0), (6, 1), (7, 0), (8, 0), (9, 0), (10, 0), (11, 1), (12, 1), (13, 0), (14, 0), (15, 0), (16, 0), (17, 0)] [] mixed (by kernel_rfl) ?_)| refine Gl hof ?_ | (refine Ge ?_ ?_ <;> (intro h; try (exfalso; omega))) | fail)
    all_goals (first | refine St.dn Tryz.func28 ⟨?_, rfl⟩ Ent.go | refine St.fl Tryz.func28 ⟨?_, rfl⟩ Ent.go)
    all_goals rfl
theorem rlimit_r (c : Cfg) (hc : Small c) : RTri Tryz.prog 84 #[.agg ⟨c.v⟩] [] (.int .i64 c.limit) := by
  apply RTri.of_pure
  have hl := hc.limit
  have e : c.limit = c.threads * c.writes + c.threads := by unfold Cfg.limit; rw [Int.mul_add, Int.mul_one]
  have h0 := hc.t0; have h1 := hc.t1; have w0 := hc.w0; have w1 := hc.w1
  rw [e] at hl ⊢
  have hm : 0 ≤ c.threads * c.writes := Int.mul_nonneg (by omega) w0
  refine Tri.of_body (vs := [_]) Tryz.func84 rfl rfl fun w0 F => ?_
  repeat' (first | refine Ga ?_ | (refine Gb ?_; intro b) | (refine Gd ?_; intro g cap rest hcap) | (refine Gc ?_; intro ad cap)  | (refine Ge ?_ ?_ <;> (intro h; try (exfalso; omega))) | fail)
  (first | refine St.dn Tryz.func84 ⟨?_, rfl⟩ Ent.go | refine St.fl Tryz.func84 ⟨?_, rfl⟩ Ent.go)
  rfl
theorem rcap_r (c : Cfg) (hc : Small c) : RTri Tryz.prog 83 #[.agg ⟨c.v⟩] [] (.int .i64 c.cap) := by
  apply RTri.of_pure
  have hl := rlimit_r c hc
  have hl0 := hc.limit
  have h3 := hc.tw3
  have hcap := hc.cap
  have h0 := hc.t0; have h1 := hc.t1; have w0 := hc.w0; have w1 := hc.w1
  refine Tri.of_body (vs := [_]) Tryz.func83 rfl rfl fun w0 F => ?_
  repeat' (first | refine Ga ?_ | (refine Gb ?_; intro b) | (refine Gd ?_; intro g cap rest hcap) | (refine Gc ?_; intro ad cap) | (refine St.draw (id := 1) [(0, 0), (1, 1), (2, 0), (3, 1), (4, 0), (5, 0), (6, 1), (7, 1), (8, 0), (9, 0), (10, 0), (11, 0)] [] mixed (by kernel_rfl) ?_)| refine Gl hl ?_ | (refine Ge ?_ ?_ <;> (intro h; try (exfalso; omega))) | fail)
  (first | refine St.dn Tryz.func83 ⟨?_, rfl⟩ Ent.go | refine St.fl Tryz.func83 ⟨?_, rfl⟩ Ent.go)
  rfl
theorem rbound_r (c : Cfg) : RTri Tryz.prog 29 #[.agg ⟨c.v⟩] [] (.int .i64 (boundN c)) := by
  apply RTri.of_pure
  have hri := right14_r c
  unfold boundN
  cases hr : c.right with
  | true =>
    rw [hr] at hri
    obtain ⟨hc, hf, hp⟩ := bd15 hr
    have hcap := hc.cap; have hlim := hc.limit
    have hcp := rcap_r c hc
    have hlm := rlimit_r c hc
    have h0 := hc.t0; have h1 := hc.t1
    have em : 5 * c.threads * (3 * c.fuel + 7) = 5 * (c.threads * (3 * c.fuel + 7)) := Int.mul_assoc _ _ _
    rw [if_pos rfl]
    refine Tri.of_body (vs := [_]) Tryz.func29 rfl rfl fun w0 F => ?_
    repeat' (first | refine Ga ?_ | (refine Gb ?_; intro b) | (refine Gd ?_; intro g cap rest hcap) | (refine Gc ?_; intro ad cap) | (refine St.draw (id := 3) [(0, 1), (1, 1), (2, 0), (3, 0), (4, 0), (5, 1), (6, 0), (7, 0), (8, 1), (9, 0), (10, 0), (11, 0), (12, 0), (13, 1), (14, 1), (15, 0), (16, 0), (17, 0)] [] mixed (by kernel_rfl) ?_)| refine Gl hri ?_ | refine Gl hcp ?_ | refine Gl hlm ?_ | (refine Ge ?_ ?_ <;> (intro h; try (exfalso; omega))) | fail)
    all_goals (first | refine St.dn Tryz.func29 ⟨?_, rfl⟩ Ent.go | refine St.fl Tryz.func29 ⟨?_, rfl⟩ Ent.go)
    all_goals exact congrArg (Value.int .i64) (by omega)
  | false =>
    rw [hr] at hri
    rw [if_neg (by decide)]
    refine Tri.of_body (vs := [_]) Tryz.func29 rfl rfl fun w0 F => ?_
    repeat' (first | refine Ga ?_ | (refine Gb ?_; intro b) | (refine Gd ?_; intro g cap rest hcap) | (refine Gc ?_; intro ad cap) | (refine St.draw (id := 3) [(0, 1), (1, 1), (2, 0), (3, 0), (4, 0), (5, 1), (6, 0), (7, 0), (8, 1), (9, 0), (10, 0), (11, 0), (12, 0), (13, 1), (14, 1), (15, 0), (16, 0), (17, 0)] [] mixed (by kernel_rfl) ?_)| refine Gl hri ?_ | (refine Ge ?_ ?_ <;> (intro h; try (exfalso; omega))) | fail)
    all_goals (first | refine St.dn Tryz.func29 ⟨?_, rfl⟩ Ent.go | refine St.fl Tryz.func29 ⟨?_, rfl⟩ Ent.go)
    all_goals rfl
theorem bound_pos {c : Cfg} (h : c.right = true) : 0 < boundN c ∧ boundN c ≤ 1000000 := by
  obtain ⟨hc, hf, hp⟩ := bd15 h
  have hcap := hc.cap; have hlim := hc.limit
  unfold boundN
  rw [if_pos h]
  omega
theorem bound_no {c : Cfg} (h : c.right = false) : boundN c = 0 := by
  unfold boundN
  rw [h]; rfl
theorem bound_nn (c : Cfg) : 0 ≤ boundN c ∧ boundN c ≤ 1000000 := by
  cases h : c.right with
  | true => have := bound_pos h; omega
  | false => have := bound_no h; omega
theorem bound_up {c d : Cfg} (h : c.right = true) (h1 : c.cap ≤ d.cap) (h2 : c.threads * (3 * c.fuel + 7) ≤ d.threads * (3 * d.fuel + 7)) (h3 : c.limit ≤ d.limit) (h4 : c.cap < d.cap ∨ c.threads * (3 * c.fuel + 7) < d.threads * (3 * d.fuel + 7)) : boundN d = 0 ∨ boundN c < boundN d := by
  cases hd : d.right with
  | false => exact .inl (bound_no hd)
  | true =>
    right
    unfold boundN
    rw [if_pos h, if_pos hd]
    omega
theorem bound_threads {c : Cfg} (h : c.right = true) : boundN { c with threads := c.threads + 1 } = 0 ∨ boundN c < boundN { c with threads := c.threads + 1 } := by
  obtain ⟨hc, hf, hp⟩ := bd15 h
  have w0 := hc.w0
  have e1 : (c.threads + 1) * (c.writes + 1) = c.threads * (c.writes + 1) + (c.writes + 1) := by rw [Int.add_mul, Int.one_mul]
  have e2 : (c.threads + 1) * (c.writes + 3) = c.threads * (c.writes + 3) + (c.writes + 3) := by rw [Int.add_mul, Int.one_mul]
  have e3 : (c.threads + 1) * (3 * c.fuel + 7) = c.threads * (3 * c.fuel + 7) + (3 * c.fuel + 7) := by rw [Int.add_mul, Int.one_mul]
  refine bound_up h ?_ ?_ ?_ (.inl ?_) <;> (try unfold Cfg.cap) <;> (try unfold Cfg.limit) <;> dsimp only <;> omega
theorem bound_writes {c : Cfg} (h : c.right = true) : boundN { c with writes := c.writes + 1 } = 0 ∨ boundN c < boundN { c with writes := c.writes + 1 } := by
  obtain ⟨hc, hf, hp⟩ := bd15 h
  have t0 := hc.t0
  have e1 : c.threads * (c.writes + 1 + 1) = c.threads * (c.writes + 1) + c.threads := by rw [Int.mul_add, Int.mul_one]
  have e2 : c.threads * (c.writes + 1 + 3) = c.threads * (c.writes + 3) + c.threads := by rw [show c.writes + 1 + 3 = (c.writes + 3) + 1 by omega, Int.mul_add, Int.mul_one]
  refine bound_up h ?_ ?_ ?_ (.inl ?_) <;> (try unfold Cfg.cap) <;> (try unfold Cfg.limit) <;> dsimp only <;> omega
theorem bound_fuel {c : Cfg} (h : c.right = true) : boundN { c with fuel := c.fuel + 1 } = 0 ∨ boundN c < boundN { c with fuel := c.fuel + 1 } := by
  obtain ⟨hc, hf, hp⟩ := bd15 h
  have t0 := hc.t0
  have e3 : c.threads * (3 * (c.fuel + 1) + 7) = c.threads * (3 * c.fuel + 7) + c.threads * 3 := by rw [show 3 * (c.fuel + 1) + 7 = (3 * c.fuel + 7) + 3 by omega, Int.mul_add]
  refine bound_up h ?_ ?_ ?_ (.inr ?_) <;> (try unfold Cfg.cap) <;> (try unfold Cfg.limit) <;> dsimp only <;> omega
theorem bound_blocks {c : Cfg} (h : c.right = true) : boundN { c with blocks := 1 } = boundN c := by
  have hr : ({ c with blocks := 1 } : Cfg).right = true := by
    have h := of_decide_eq_true h
    exact decide_eq_true (by dsimp only; omega)
  unfold boundN
  rw [if_pos h, if_pos hr]
  rfl
end Go.Proofs.YtemaaenipjinaaaGreat
