/-
  slices.Sort of fewer than fifty numbers: pivots, partitions.
-/
import Derived.Test.YthmbgodcpgkkeaaGreatSo
namespace Go.Proofs.YthmbgodcpgkkeaaGreat
set_option maxRecDepth 100000
/-- as St.loopY; all ways out of the loop come to one place -/
theorem St.loopZ {P : Program} {C : Cx} {k k' : List Item} {E : Env} {L : List HProp} {ι κ : Type} {c : Code} (μ : ι → Nat) (mods : ι → Env) (ps : ι → List HProp) (i0 : ι) (mx : κ → Env) (px : κ → List HProp) {Lr : List HProp} (hE : Sub E (mods i0)) (hL : Takes (ps i0) L Lr)
    (round : ∀ i, (∀ (j : ι) {E' : Env} {L' : List HProp}, μ j < μ i → Sub E' (mods j ++ strip (keys (mods i0)) E) → Ent L' (ps j ++ Lr) → St P C (.inLoop c :: k) E' L') →
      (∀ (x : κ) {E' : Env} {L' : List HProp}, Sub E' (mx x ++ strip (keys (mods i0)) E) → Ent L' (px x ++ Lr) → St P C k' E' L') → St P C (.code c :: .inLoop c :: k) (mods i ++ strip (keys (mods i0)) E) (ps i ++ Lr))
    (after : ∀ x : κ, St P C k' (mx x ++ strip (keys (mods i0)) E) (px x ++ Lr)) : St P C (.code (.loop c) :: k) E L :=
  St.loopY μ mods ps i0 hE hL fun i IH => round i IH fun x _ _ h1 h2 => (after x).conv h1 h2
theorem norder2_t (g cap n S : Nat) (_hc : n ≤ cap) (_hn : n ≤ 1000) (a b : Nat) (ha : a < n) (hb : b < n) (l : List Value) (hl : NumsU n l) (c : Nat) (hcc : c ≤ 100) : Tri Tryz.prog 322 #[.slice (some ⟨g, 0, none⟩) n cap, .int .i64 (a : Int), .int .i64 (b : Int), .pointer (some ⟨S, 0, none⟩)] [bl g 22 l, bl S 3 [.int .i64 (c : Int)]]
    fun r L => ∃ x y c' : Nat, r = .tuple ⟨[.int .i64 (x : Int), .int .i64 (y : Int)]⟩ ∧ ((x = a ∧ y = b) ∨ (x = b ∧ y = a)) ∧ c' ≤ c + 1 ∧ L = [bl g 22 l, bl S 3 [.int .i64 (c' : Int)]] := by
  have h1 := hl (b : Int) (by omega) (by omega)
  have h2 := hl (a : Int) (by omega) (by omega)
  generalize cI l (b : Int) = x at h1
  generalize cI l (a : Int) = y at h2
  have hs := less_r x y
  by_cases hxy : x < y
  · rw [decide_eq_true hxy] at hs
    refine Tri.of_body (vs := [_, _, _, _]) Tryz.func322 rfl rfl fun w0 F => ?_
    repeat' (first | refine Ga ?_ | (refine Gb ?_; intro b) | (refine Gd ?_; intro g cap rest hcap) | (refine Gc ?_; intro ad cap) | (refine St.draw (id := 1) [(0, 0), (1, 0), (2, 0), (3, 1), (4, 0), (5, 0), (6, 0), (7, 1), (8, 1)] [] mixed (by kernel_rfl) ?_)| refine Gl hs ?_ | (refine Ge ?_ ?_ <;> (intro h; try (exfalso; omega))) | fail)
    all_goals first | (exfalso; omega) | skip
    refine St.d1 Tryz.func322 ⟨_, ⟨b, a, c + 1, rfl, .inr ⟨rfl, rfl⟩, Nat.le_refl _, rfl⟩, ?_⟩
    rw [show ((c + 1 : Nat) : Int) = (c : Int) + 1 by omega]
    exact Ent.go
  · rw [decide_eq_false hxy] at hs
    refine Tri.of_body (vs := [_, _, _, _]) Tryz.func322 rfl rfl fun w0 F => ?_
    repeat' (first | refine Ga ?_ | (refine Gb ?_; intro b) | (refine Gd ?_; intro g cap rest hcap) | (refine Gc ?_; intro ad cap) | (refine St.draw (id := 1) [(0, 0), (1, 0), (2, 0), (3, 1), (4, 0), (5, 0), (6, 0), (7, 1), (8, 1)] [] mixed (by kernel_rfl) ?_)| refine Gl hs ?_ | (refine Ge ?_ ?_ <;> (intro h; try (exfalso; omega))) | fail)
    all_goals first | (exfalso; omega) | skip
    refine St.d1 Tryz.func322 ⟨_, ⟨a, b, c, rfl, .inl ⟨rfl, rfl⟩, Nat.le_succ _, rfl⟩, ?_⟩
    exact Ent.go
theorem nmedian_t (g cap n S : Nat) (hc : n ≤ cap) (hn : n ≤ 1000) (a b c : Nat) (ha : a < n) (hb : b < n) (hcn : c < n) (l : List Value) (hl : NumsU n l) : Tri Tryz.prog 318 #[.slice (some ⟨g, 0, none⟩) n cap, .int .i64 (a : Int), .int .i64 (b : Int), .int .i64 (c : Int), .pointer (some ⟨S, 0, none⟩)] [bl g 22 l, bl S 3 [.int .i64 0]]
    fun r L => ∃ x k : Nat, r = .int .i64 (x : Int) ∧ (x = a ∨ x = b ∨ x = c) ∧ k ≤ 3 ∧ L = [bl g 22 l, bl S 3 [.int .i64 (k : Int)]] := by
  have o1 := norder2_t g cap n S hc hn a b ha hb l hl 0 (by omega)
  rw [show ((0 : Nat) : Int) = 0 from rfl] at o1
  refine Tri.of_body (vs := [_, _, _, _, _]) Tryz.func318 rfl rfl fun w0 F => ?_
  repeat' (first | refine St.halt 2 ?_ |refine Ga ?_ | (refine Gb ?_; intro b) | (refine Gd ?_; intro g cap rest hcap) | (refine Gc ?_; intro ad cap)  | (refine Gt o1 ?_; rintro _ _ ⟨x1, y1, c1, rfl, hx1, hc1, rfl⟩) | (refine Ge ?_ ?_ <;> (intro h; try (exfalso; omega))) | fail)
  apply Halt.go
  have o2 := norder2_t g cap n S hc hn y1 c (by omega) hcn l hl c1 (by omega)
  repeat' (first | refine St.halt 3 ?_ |refine Ga ?_ | (refine Gb ?_; intro b) | (refine Gd ?_; intro g cap rest hcap) | (refine Gc ?_; intro ad cap)  | (refine Gt o2 ?_; rintro _ _ ⟨x2, y2, c2, rfl, hx2, hc2, rfl⟩) | (refine Ge ?_ ?_ <;> (intro h; try (exfalso; omega))) | fail)
  apply Halt.go
  have o3 := norder2_t g cap n S hc hn x1 x2 (by omega) (by omega) l hl c2 (by omega)
  repeat' (first | refine Ga ?_ | (refine Gb ?_; intro b) | (refine Gd ?_; intro g cap rest hcap) | (refine Gc ?_; intro ad cap)  | (refine Gt o3 ?_; rintro _ _ ⟨x3, y3, c3, rfl, hx3, hc3, rfl⟩) | (refine Ge ?_ ?_ <;> (intro h; try (exfalso; omega))) | fail)
  refine St.d1 Tryz.func318 ⟨_, ⟨y3, c3, rfl, by omega, by omega, rfl⟩, ?_⟩
  exact Ent.go
theorem npivot_t (g cap n : Nat) (hc : n ≤ cap) (hn : n < 50) (a b : Nat) (hab : a + 8 ≤ b) (hb : b ≤ n) (l : List Value) (hl : NumsU n l) : Tri Tryz.prog 298 #[.slice (some ⟨g, 0, none⟩) n cap, .int .i64 (a : Int), .int .i64 (b : Int)] [bl g 22 l]
    fun r L => ∃ (p : Nat) (h : Int), r = .tuple ⟨[.int .i64 (p : Int), .int .i64 h]⟩ ∧ a ≤ p ∧ p < b ∧ (h = 0 ∨ h = 1) ∧ L = [bl g 22 l] := by
  obtain ⟨q, hq⟩ : ∃ q, q = (b - a) / 4 := ⟨_, rfl⟩
  have e1 : ((b : Int) - a) / 4 = q := by omega
  have m1 := fun S => nmedian_t g cap n S hc (by omega) (a + q * 1) (a + q * 2) (a + q * 3) (by omega) (by omega) (by omega) l hl
  rw [show ((a + q * 1 : Nat) : Int) = (a : Int) + q * 1 by omega, show ((a + q * 2 : Nat) : Int) = (a : Int) + q * 2 by omega, show ((a + q * 3 : Nat) : Int) = (a : Int) + q * 3 by omega] at m1
  refine Tri.of_body (vs := [_, _, _]) Tryz.func298 rfl rfl fun w0 F => ?_
  repeat' (first | refine St.halt 4 ?_ |refine Ga ?_ | (refine Gb ?_; intro b) | (refine Gd ?_; intro g cap rest hcap) | (refine Gc ?_; intro ad cap)  | (refine Ge ?_ ?_ <;> (intro h; try (exfalso; omega))) | fail)
  apply Halt.go
  rw [e1]
  repeat' (first | refine St.halt 5 ?_ |refine Ga ?_ | (refine Gb ?_; intro b) | (refine Gd ?_; intro g cap rest hcap) | (refine Gc ?_; intro ad cap)  | (refine Ge ?_ ?_ <;> (intro h; try (exfalso; omega))) | fail)
  apply Halt.go
  rw [e1]
  repeat' (first | refine St.halt 6 ?_ |refine Ga ?_ | (refine Gb ?_; intro b) | (refine Gd ?_; intro g cap rest hcap) | (refine Gc ?_; intro ad cap)  | (refine Ge ?_ ?_ <;> (intro h; try (exfalso; omega))) | fail)
  apply Halt.go
  rw [e1]
  repeat' (first | refine Ga ?_ | (refine Gb ?_; intro b) | (refine Gd ?_; intro g cap rest hcap) | (refine Gc ?_; intro ad cap)  | (refine Gt (m1 _) ?_; rintro _ _ ⟨x, k, rfl, hx, hk, rfl⟩) | (refine Ge ?_ ?_ <;> (intro h; try (exfalso; omega))) | fail)
  all_goals first | (exfalso; omega) | skip
  all_goals first | refine St.d1 Tryz.func298 ⟨_, ⟨x, 1, rfl, by omega, by omega, .inr rfl, rfl⟩, ?_⟩ | refine St.d1 Tryz.func298 ⟨_, ⟨x, 0, rfl, by omega, by omega, .inl rfl, rfl⟩, ?_⟩
  all_goals exact Ent.go
set_option maxHeartbeats 2000000 in
theorem npart_t (g cap n : Nat) (_hc : n ≤ cap) (hn : n < 50) (a b : Nat) (ha : a ≤ b) (hb : b ≤ n) (l : List Value) (hl : NumsU n l) : Tri Tryz.prog 300 #[.slice (some ⟨g, 0, none⟩) n cap, .int .i64 (a : Int), .int .i64 (b : Int)] [bl g 22 l]
    fun r L => ∃ t : Bool, r = .bool t ∧ L = [bl g 22 l] := by
  by_cases hab : a = b
  · subst hab
    refine Tri.of_body (vs := [_, _, _]) Tryz.func300 rfl rfl fun w0 F => ?_
    repeat' (first | refine Ga ?_ | (refine Gb ?_; intro b) | (refine Gd ?_; intro g cap rest hcap) | (refine Gc ?_; intro ad cap) | (refine St.draw (id := 5) [(0, 0), (1, 0), (2, 0), (3, 0), (4, 0), (5, 0), (6, 0), (7, 1), (8, 0), (9, 0), (10, 0), (11, 0), (12, 1), (13, 1), (14, 0), (15, 0)] [] mixed (by kernel_rfl) ?_) | (refine St.draw (id := 11) [(0, 0), (1, 0), (2, 0), (3, 0), (4, 0), (5, 0), (6, 0), (7, 0), (8, 0), (9, 1), (10, 0), (11, 0), (12, 0), (13, 1), (14, 0), (15, 3), (16, 0), (17, 3)] [15, 17] mixed (by kernel_rfl) ?_) | (refine St.draw (id := 16) [(0, 0), (1, 0), (2, 0), (3, 1), (4, 0), (5, 0), (6, 0), (7, 0), (8, 1), (9, 1), (10, 0)] [] mixed (by kernel_rfl) ?_) | (refine St.draw (id := 17) [(0, 0), (1, 0), (2, 0), (3, 0), (4, 0), (5, 0), (6, 0), (7, 0), (8, 0), (9, 1), (10, 0), (11, 0), (12, 0), (13, 1), (14, 0), (15, 3), (16, 0), (17, 3)] [15, 17] mixed (by kernel_rfl) ?_) | (refine St.draw (id := 22) [(0, 0), (1, 0), (2, 0), (3, 1), (4, 0), (5, 0), (6, 0), (7, 0), (8, 1), (9, 1), (10, 0)] [] mixed (by kernel_rfl) ?_) | (refine St.draw (id := 23) [(0, 0), (1, 0), (2, 0), (3, 0), (4, 0), (5, 0), (6, 0), (7, 0), (8, 0), (9, 1), (10, 0), (11, 0), (12, 0), (13, 1), (14, 0), (15, 3), (16, 0), (17, 3)] [15, 17] mixed (by kernel_rfl) ?_) | (refine Ge ?_ ?_ <;> (intro h; try (exfalso; omega))) | fail)
    refine St.loop1 ?_
    repeat' (first | refine Ga ?_ | (refine Gb ?_; intro b) | (refine Gd ?_; intro g cap rest hcap) | (refine Gc ?_; intro ad cap) | (refine St.draw (id := 5) [(0, 0), (1, 0), (2, 0), (3, 0), (4, 0), (5, 0), (6, 0), (7, 1), (8, 0), (9, 0), (10, 0), (11, 0), (12, 1), (13, 1), (14, 0), (15, 0)] [] mixed (by kernel_rfl) ?_) | (refine St.draw (id := 11) [(0, 0), (1, 0), (2, 0), (3, 0), (4, 0), (5, 0), (6, 0), (7, 0), (8, 0), (9, 1), (10, 0), (11, 0), (12, 0), (13, 1), (14, 0), (15, 3), (16, 0), (17, 3)] [15, 17] mixed (by kernel_rfl) ?_) | (refine St.draw (id := 16) [(0, 0), (1, 0), (2, 0), (3, 1), (4, 0), (5, 0), (6, 0), (7, 0), (8, 1), (9, 1), (10, 0)] [] mixed (by kernel_rfl) ?_) | (refine St.draw (id := 17) [(0, 0), (1, 0), (2, 0), (3, 0), (4, 0), (5, 0), (6, 0), (7, 0), (8, 0), (9, 1), (10, 0), (11, 0), (12, 0), (13, 1), (14, 0), (15, 3), (16, 0), (17, 3)] [15, 17] mixed (by kernel_rfl) ?_) | (refine St.draw (id := 22) [(0, 0), (1, 0), (2, 0), (3, 1), (4, 0), (5, 0), (6, 0), (7, 0), (8, 1), (9, 1), (10, 0)] [] mixed (by kernel_rfl) ?_) | (refine St.draw (id := 23) [(0, 0), (1, 0), (2, 0), (3, 0), (4, 0), (5, 0), (6, 0), (7, 0), (8, 0), (9, 1), (10, 0), (11, 0), (12, 0), (13, 1), (14, 0), (15, 3), (16, 0), (17, 3)] [15, 17] mixed (by kernel_rfl) ?_) | (refine Ge ?_ ?_ <;> (intro h; try (exfalso; omega))) | fail)
    refine St.loop1 ?_
    repeat' (first | refine Ga ?_ | (refine Gb ?_; intro b) | (refine Gd ?_; intro g cap rest hcap) | (refine Gc ?_; intro ad cap) | (refine St.draw (id := 5) [(0, 0), (1, 0), (2, 0), (3, 0), (4, 0), (5, 0), (6, 0), (7, 1), (8, 0), (9, 0), (10, 0), (11, 0), (12, 1), (13, 1), (14, 0), (15, 0)] [] mixed (by kernel_rfl) ?_) | (refine St.draw (id := 11) [(0, 0), (1, 0), (2, 0), (3, 0), (4, 0), (5, 0), (6, 0), (7, 0), (8, 0), (9, 1), (10, 0), (11, 0), (12, 0), (13, 1), (14, 0), (15, 3), (16, 0), (17, 3)] [15, 17] mixed (by kernel_rfl) ?_) | (refine St.draw (id := 16) [(0, 0), (1, 0), (2, 0), (3, 1), (4, 0), (5, 0), (6, 0), (7, 0), (8, 1), (9, 1), (10, 0)] [] mixed (by kernel_rfl) ?_) | (refine St.draw (id := 17) [(0, 0), (1, 0), (2, 0), (3, 0), (4, 0), (5, 0), (6, 0), (7, 0), (8, 0), (9, 1), (10, 0), (11, 0), (12, 0), (13, 1), (14, 0), (15, 3), (16, 0), (17, 3)] [15, 17] mixed (by kernel_rfl) ?_) | (refine St.draw (id := 22) [(0, 0), (1, 0), (2, 0), (3, 1), (4, 0), (5, 0), (6, 0), (7, 0), (8, 1), (9, 1), (10, 0)] [] mixed (by kernel_rfl) ?_) | (refine St.draw (id := 23) [(0, 0), (1, 0), (2, 0), (3, 0), (4, 0), (5, 0), (6, 0), (7, 0), (8, 0), (9, 1), (10, 0), (11, 0), (12, 0), (13, 1), (14, 0), (15, 3), (16, 0), (17, 3)] [15, 17] mixed (by kernel_rfl) ?_) | (refine Ge ?_ ?_ <;> (intro h; try (exfalso; omega))) | fail)
    all_goals first | (exfalso; omega) | skip
    all_goals refine St.d1 Tryz.func300 ⟨_, ⟨_, rfl, rfl⟩, ?_⟩
    all_goals exact Ent.go
  refine Tri.of_body (vs := [_, _, _]) Tryz.func300 rfl rfl fun w0 F => ?_
  repeat' (first | refine Ga ?_ | (refine Gb ?_; intro b) | (refine Gd ?_; intro g cap rest hcap) | (refine Gc ?_; intro ad cap) | (refine St.draw (id := 5) [(0, 0), (1, 0), (2, 0), (3, 0), (4, 0), (5, 0), (6, 0), (7, 1), (8, 0), (9, 0), (10, 0), (11, 0), (12, 1), (13, 1), (14, 0), (15, 0)] [] mixed (by kernel_rfl) ?_) | (refine St.draw (id := 11) [(0, 0), (1, 0), (2, 0), (3, 0), (4, 0), (5, 0), (6, 0), (7, 0), (8, 0), (9, 1), (10, 0), (11, 0), (12, 0), (13, 1), (14, 0), (15, 3), (16, 0), (17, 3)] [15, 17] mixed (by kernel_rfl) ?_) | (refine St.draw (id := 16) [(0, 0), (1, 0), (2, 0), (3, 1), (4, 0), (5, 0), (6, 0), (7, 0), (8, 1), (9, 1), (10, 0)] [] mixed (by kernel_rfl) ?_) | (refine St.draw (id := 17) [(0, 0), (1, 0), (2, 0), (3, 0), (4, 0), (5, 0), (6, 0), (7, 0), (8, 0), (9, 1), (10, 0), (11, 0), (12, 0), (13, 1), (14, 0), (15, 3), (16, 0), (17, 3)] [15, 17] mixed (by kernel_rfl) ?_) | (refine St.draw (id := 22) [(0, 0), (1, 0), (2, 0), (3, 1), (4, 0), (5, 0), (6, 0), (7, 0), (8, 1), (9, 1), (10, 0)] [] mixed (by kernel_rfl) ?_) | (refine St.draw (id := 23) [(0, 0), (1, 0), (2, 0), (3, 0), (4, 0), (5, 0), (6, 0), (7, 0), (8, 0), (9, 1), (10, 0), (11, 0), (12, 0), (13, 1), (14, 0), (15, 3), (16, 0), (17, 3)] [15, 17] mixed (by kernel_rfl) ?_) | (refine Ge ?_ ?_ <;> (intro h; try (exfalso; omega))) | fail)
  refine St.loop1 ?_
  repeat' (first | refine Ga ?_ | (refine Gb ?_; intro b) | (refine Gd ?_; intro g cap rest hcap) | (refine Gc ?_; intro ad cap) | (refine St.draw (id := 5) [(0, 0), (1, 0), (2, 0), (3, 0), (4, 0), (5, 0), (6, 0), (7, 1), (8, 0), (9, 0), (10, 0), (11, 0), (12, 1), (13, 1), (14, 0), (15, 0)] [] mixed (by kernel_rfl) ?_) | (refine St.draw (id := 11) [(0, 0), (1, 0), (2, 0), (3, 0), (4, 0), (5, 0), (6, 0), (7, 0), (8, 0), (9, 1), (10, 0), (11, 0), (12, 0), (13, 1), (14, 0), (15, 3), (16, 0), (17, 3)] [15, 17] mixed (by kernel_rfl) ?_) | (refine St.draw (id := 16) [(0, 0), (1, 0), (2, 0), (3, 1), (4, 0), (5, 0), (6, 0), (7, 0), (8, 1), (9, 1), (10, 0)] [] mixed (by kernel_rfl) ?_) | (refine St.draw (id := 17) [(0, 0), (1, 0), (2, 0), (3, 0), (4, 0), (5, 0), (6, 0), (7, 0), (8, 0), (9, 1), (10, 0), (11, 0), (12, 0), (13, 1), (14, 0), (15, 3), (16, 0), (17, 3)] [15, 17] mixed (by kernel_rfl) ?_) | (refine St.draw (id := 22) [(0, 0), (1, 0), (2, 0), (3, 1), (4, 0), (5, 0), (6, 0), (7, 0), (8, 1), (9, 1), (10, 0)] [] mixed (by kernel_rfl) ?_) | (refine St.draw (id := 23) [(0, 0), (1, 0), (2, 0), (3, 0), (4, 0), (5, 0), (6, 0), (7, 0), (8, 0), (9, 1), (10, 0), (11, 0), (12, 0), (13, 1), (14, 0), (15, 3), (16, 0), (17, 3)] [15, 17] mixed (by kernel_rfl) ?_) | (refine Ge ?_ ?_ <;> (intro h; try (exfalso; omega))) | fail)
  refine St.loopY (Lr := ?Lr1) (ι := { x : Nat // a + 1 ≤ x ∧ x ≤ b }) (fun x => b - x.1) (fun x => [(7, .int .i64 (x.1 : Int))]) (fun x => []) ⟨a + 1, Nat.le_refl _, by omega⟩ ?hE ?hL ?round
  case hE => exact Sub.go
  case hL => exact Takes.go
  case round =>
    rintro ⟨i, hi, hib⟩ IH; dsimp only at hi hib IH ⊢
    by_cases hlt : i < b
    · have h1 := hl (i : Int) (by omega) (by omega)
      have h2 := hl ((i : Int) - 1) (by omega) (by omega)
      generalize cI l (i : Int) = x at h1
      generalize cI l ((i : Int) - 1) = y at h2
      have hs := less_r x y
      by_cases hxy : x < y
      · rw [decide_eq_true hxy] at hs
        clear IH
        repeat' (first | refine Ga ?_ | (refine Gb ?_; intro b) | (refine Gd ?_; intro g cap rest hcap) | (refine Gc ?_; intro ad cap) | (refine St.draw (id := 5) [(0, 0), (1, 0), (2, 0), (3, 0), (4, 0), (5, 0), (6, 0), (7, 1), (8, 0), (9, 0), (10, 0), (11, 0), (12, 1), (13, 1), (14, 0), (15, 0)] [] mixed (by kernel_rfl) ?_) | (refine St.draw (id := 11) [(0, 0), (1, 0), (2, 0), (3, 0), (4, 0), (5, 0), (6, 0), (7, 0), (8, 0), (9, 1), (10, 0), (11, 0), (12, 0), (13, 1), (14, 0), (15, 3), (16, 0), (17, 3)] [15, 17] mixed (by kernel_rfl) ?_) | (refine St.draw (id := 16) [(0, 0), (1, 0), (2, 0), (3, 1), (4, 0), (5, 0), (6, 0), (7, 0), (8, 1), (9, 1), (10, 0)] [] mixed (by kernel_rfl) ?_) | (refine St.draw (id := 17) [(0, 0), (1, 0), (2, 0), (3, 0), (4, 0), (5, 0), (6, 0), (7, 0), (8, 0), (9, 1), (10, 0), (11, 0), (12, 0), (13, 1), (14, 0), (15, 3), (16, 0), (17, 3)] [15, 17] mixed (by kernel_rfl) ?_) | (refine St.draw (id := 22) [(0, 0), (1, 0), (2, 0), (3, 1), (4, 0), (5, 0), (6, 0), (7, 0), (8, 1), (9, 1), (10, 0)] [] mixed (by kernel_rfl) ?_) | (refine St.draw (id := 23) [(0, 0), (1, 0), (2, 0), (3, 0), (4, 0), (5, 0), (6, 0), (7, 0), (8, 0), (9, 1), (10, 0), (11, 0), (12, 0), (13, 1), (14, 0), (15, 3), (16, 0), (17, 3)] [15, 17] mixed (by kernel_rfl) ?_)| refine Gl hs ?_ | (refine Ge ?_ ?_ <;> (intro h; try (exfalso; omega))) | fail)
        all_goals first | (exfalso; omega) | skip
        all_goals refine St.d1 Tryz.func300 ⟨_, ⟨_, rfl, rfl⟩, ?_⟩
        all_goals exact Ent.go
      · rw [decide_eq_false hxy] at hs
        repeat' (first | refine Ga ?_ | (refine Gb ?_; intro b) | (refine Gd ?_; intro g cap rest hcap) | (refine Gc ?_; intro ad cap) | (refine St.draw (id := 5) [(0, 0), (1, 0), (2, 0), (3, 0), (4, 0), (5, 0), (6, 0), (7, 1), (8, 0), (9, 0), (10, 0), (11, 0), (12, 1), (13, 1), (14, 0), (15, 0)] [] mixed (by kernel_rfl) ?_) | (refine St.draw (id := 11) [(0, 0), (1, 0), (2, 0), (3, 0), (4, 0), (5, 0), (6, 0), (7, 0), (8, 0), (9, 1), (10, 0), (11, 0), (12, 0), (13, 1), (14, 0), (15, 3), (16, 0), (17, 3)] [15, 17] mixed (by kernel_rfl) ?_) | (refine St.draw (id := 16) [(0, 0), (1, 0), (2, 0), (3, 1), (4, 0), (5, 0), (6, 0), (7, 0), (8, 1), (9, 1), (10, 0)] [] mixed (by kernel_rfl) ?_) | (refine St.draw (id := 17) [(0, 0), (1, 0), (2, 0), (3, 0), (4, 0), (5, 0), (6, 0), (7, 0), (8, 0), (9, 1), (10, 0), (11, 0), (12, 0), (13, 1), (14, 0), (15, 3), (16, 0), (17, 3)] [15, 17] mixed (by kernel_rfl) ?_) | (refine St.draw (id := 22) [(0, 0), (1, 0), (2, 0), (3, 1), (4, 0), (5, 0), (6, 0), (7, 0), (8, 1), (9, 1), (10, 0)] [] mixed (by kernel_rfl) ?_) | (refine St.draw (id := 23) [(0, 0), (1, 0), (2, 0), (3, 0), (4, 0), (5, 0), (6, 0), (7, 0), (8, 0), (9, 1), (10, 0), (11, 0), (12, 0), (13, 1), (14, 0), (15, 3), (16, 0), (17, 3)] [15, 17] mixed (by kernel_rfl) ?_)| refine Gl hs ?_ | (refine Ge ?_ ?_ <;> (intro h; try (exfalso; omega))) | fail)
        all_goals first | (exfalso; omega) | skip
        refine IH ⟨i + 1, by omega, hlt⟩ (by show b - (i + 1) < b - i; omega) ?_ ?_
        · exact Sub.go
        · exact Ent.go
    · clear IH
      repeat' (first | refine Ga ?_ | (refine Gb ?_; intro b) | (refine Gd ?_; intro g cap rest hcap) | (refine Gc ?_; intro ad cap) | (refine St.draw (id := 5) [(0, 0), (1, 0), (2, 0), (3, 0), (4, 0), (5, 0), (6, 0), (7, 1), (8, 0), (9, 0), (10, 0), (11, 0), (12, 1), (13, 1), (14, 0), (15, 0)] [] mixed (by kernel_rfl) ?_) | (refine St.draw (id := 11) [(0, 0), (1, 0), (2, 0), (3, 0), (4, 0), (5, 0), (6, 0), (7, 0), (8, 0), (9, 1), (10, 0), (11, 0), (12, 0), (13, 1), (14, 0), (15, 3), (16, 0), (17, 3)] [15, 17] mixed (by kernel_rfl) ?_) | (refine St.draw (id := 16) [(0, 0), (1, 0), (2, 0), (3, 1), (4, 0), (5, 0), (6, 0), (7, 0), (8, 1), (9, 1), (10, 0)] [] mixed (by kernel_rfl) ?_) | (refine St.draw (id := 17) [(0, 0), (1, 0), (2, 0), (3, 0), (4, 0), (5, 0), (6, 0), (7, 0), (8, 0), (9, 1), (10, 0), (11, 0), (12, 0), (13, 1), (14, 0), (15, 3), (16, 0), (17, 3)] [15, 17] mixed (by kernel_rfl) ?_) | (refine St.draw (id := 22) [(0, 0), (1, 0), (2, 0), (3, 1), (4, 0), (5, 0), (6, 0), (7, 0), (8, 1), (9, 1), (10, 0)] [] mixed (by kernel_rfl) ?_) | (refine St.draw (id := 23) [(0, 0), (1, 0), (2, 0), (3, 0), (4, 0), (5, 0), (6, 0), (7, 0), (8, 0), (9, 1), (10, 0), (11, 0), (12, 0), (13, 1), (14, 0), (15, 3), (16, 0), (17, 3)] [15, 17] mixed (by kernel_rfl) ?_) | (refine Ge ?_ ?_ <;> (intro h; try (exfalso; omega))) | fail)
      all_goals first | (exfalso; omega) | skip
      all_goals refine St.d1 Tryz.func300 ⟨_, ⟨_, rfl, rfl⟩, ?_⟩
      all_goals exact Ent.go
set_option maxHeartbeats 4000000 in
theorem npartition_t (g cap n : Nat) (_hc : n ≤ cap) (hn : n < 50) (a b p : Nat) (hap : a ≤ p) (hpb : p < b) (hb : b ≤ n) (l : List Value) (hl : NumsU n l) : Tri Tryz.prog 303 #[.slice (some ⟨g, 0, none⟩) n cap, .int .i64 (a : Int), .int .i64 (b : Int), .int .i64 (p : Int)] [bl g 22 l]
    fun r L => ∃ (j : Nat) (t : Bool) (l' : List Value), r = .tuple ⟨[.int .i64 (j : Int), .bool t]⟩ ∧ a ≤ j ∧ j < b ∧ NumsU n l' ∧ L = [bl g 22 l'] := by
  have q1 := hl (p : Int) (by omega) (by omega)
  have q2 := hl (a : Int) (by omega) (by omega)
  generalize cI l (p : Int) = y at q1
  generalize cI l (a : Int) = x at q2
  obtain ⟨l1, l2, t1, t2, hl2⟩ := hl.swap (a : Int) (p : Int) (by omega) (by omega) (by omega) (by omega) x y
  clear hl
  refine Tri.of_body (vs := [_, _, _, _]) Tryz.func303 rfl rfl fun w0 F => ?_
  repeat' (first | refine Ga ?_ | (refine Gb ?_; intro b) | (refine Gd ?_; intro g cap rest hcap) | (refine Gc ?_; intro ad cap) | (refine St.draw (id := 1) [(0, 0), (1, 0), (2, 0), (3, 0), (4, 0), (5, 0), (6, 0), (7, 1), (8, 0), (9, 0), (10, 0), (11, 1), (12, 0), (13, 3), (14, 0), (15, 3)] [13, 15] mixed (by kernel_rfl) ?_) | (refine St.draw (id := 3) [(0, 0), (1, 0), (2, 0), (3, 0), (4, 0), (5, 0), (6, 0), (7, 1), (8, 0), (9, 0), (10, 0), (11, 1), (12, 1), (13, 0)] [] mixed (by kernel_rfl) ?_) | (refine St.draw (id := 5) [(0, 0), (1, 0), (2, 0), (3, 0), (4, 0), (5, 0), (6, 0), (7, 1), (8, 0), (9, 0), (10, 0), (11, 1), (12, 1), (13, 0), (14, 0)] [] mixed (by kernel_rfl) ?_) | (refine St.draw (id := 8) [(0, 0), (1, 0), (2, 0), (3, 0), (4, 0), (5, 0), (6, 0), (7, 1), (8, 0), (9, 0), (10, 0), (11, 1), (12, 0), (13, 3), (14, 0), (15, 3)] [13, 15] mixed (by kernel_rfl) ?_) | (refine St.draw (id := 10) [(0, 0), (1, 0), (2, 0), (3, 0), (4, 0), (5, 0), (6, 0), (7, 1), (8, 0), (9, 0), (10, 0), (11, 1), (12, 0), (13, 3), (14, 0), (15, 3)] [13, 15] mixed (by kernel_rfl) ?_) | (refine St.draw (id := 13) [(0, 0), (1, 0), (2, 0), (3, 0), (4, 0), (5, 0), (6, 0), (7, 1), (8, 0), (9, 0), (10, 0), (11, 1), (12, 1), (13, 0)] [] mixed (by kernel_rfl) ?_) | (refine St.draw (id := 15) [(0, 0), (1, 0), (2, 0), (3, 0), (4, 0), (5, 0), (6, 0), (7, 1), (8, 0), (9, 0), (10, 0), (11, 1), (12, 1), (13, 0), (14, 0)] [] mixed (by kernel_rfl) ?_) | (refine St.draw (id := 18) [(0, 0), (1, 0), (2, 0), (3, 0), (4, 0), (5, 0), (6, 0), (7, 1), (8, 0), (9, 0), (10, 0), (11, 1), (12, 0), (13, 3), (14, 0), (15, 3)] [13, 15] mixed (by kernel_rfl) ?_) | (refine St.draw (id := 21) [(0, 0), (1, 0), (2, 0), (3, 0), (4, 0), (5, 0), (6, 0), (7, 1), (8, 0), (9, 0), (10, 0), (11, 1), (12, 0), (13, 3), (14, 0), (15, 3)] [13, 15] mixed (by kernel_rfl) ?_) | (refine Ge ?_ ?_ <;> (intro h; try (exfalso; omega))) | fail)
  all_goals first | (exfalso; omega) | skip
  obtain ⟨j, hj⟩ : ∃ j : Int, j = (b : Int) - 1 := ⟨_, rfl⟩
  rw [← hj]
  refine St.loopZ (Lr := ?Lr1) (k' := ?kx1) (ι := { x : Int // (a : Int) + 1 ≤ x ∧ x ≤ j + 2 ∧ j < b }) (κ := { x : Int // (a : Int) + 1 ≤ x ∧ x ≤ j + 2 ∧ j < b }) (fun x => (j + 3 - x.1).toNat) (fun x => [(10, .int .i64 x.1)]) (fun x => []) ⟨(a : Int) + 1, by omega, by omega, by omega⟩ (fun x => [(10, .int .i64 x.1)]) (fun x => []) ?hE1 ?hL1 ?round1 ?after1
  case hE1 => exact Sub.go
  case hL1 => exact Takes.go
  case round1 =>
    rintro ⟨i, hz1, hz2, hz3⟩ IH1 EX1; dsimp only at hz1 hz2 hz3 IH1 EX1 ⊢
    by_cases hij : i ≤ j
    · have h1 := hl2 i (by omega) (by omega)
      have h2 := hl2 (a : Int) (by omega) (by omega)
      generalize cI l2 i = u at h1
      generalize cI l2 (a : Int) = v at h2
      have hs := less_r u v
      by_cases huv : u < v
      · rw [decide_eq_true huv] at hs
        repeat' (first | refine Ga ?_ | (refine Gb ?_; intro b) | (refine Gd ?_; intro g cap rest hcap) | (refine Gc ?_; intro ad cap) | (refine St.draw (id := 1) [(0, 0), (1, 0), (2, 0), (3, 0), (4, 0), (5, 0), (6, 0), (7, 1), (8, 0), (9, 0), (10, 0), (11, 1), (12, 0), (13, 3), (14, 0), (15, 3)] [13, 15] mixed (by kernel_rfl) ?_) | (refine St.draw (id := 3) [(0, 0), (1, 0), (2, 0), (3, 0), (4, 0), (5, 0), (6, 0), (7, 1), (8, 0), (9, 0), (10, 0), (11, 1), (12, 1), (13, 0)] [] mixed (by kernel_rfl) ?_) | (refine St.draw (id := 5) [(0, 0), (1, 0), (2, 0), (3, 0), (4, 0), (5, 0), (6, 0), (7, 1), (8, 0), (9, 0), (10, 0), (11, 1), (12, 1), (13, 0), (14, 0)] [] mixed (by kernel_rfl) ?_) | (refine St.draw (id := 8) [(0, 0), (1, 0), (2, 0), (3, 0), (4, 0), (5, 0), (6, 0), (7, 1), (8, 0), (9, 0), (10, 0), (11, 1), (12, 0), (13, 3), (14, 0), (15, 3)] [13, 15] mixed (by kernel_rfl) ?_) | (refine St.draw (id := 10) [(0, 0), (1, 0), (2, 0), (3, 0), (4, 0), (5, 0), (6, 0), (7, 1), (8, 0), (9, 0), (10, 0), (11, 1), (12, 0), (13, 3), (14, 0), (15, 3)] [13, 15] mixed (by kernel_rfl) ?_) | (refine St.draw (id := 13) [(0, 0), (1, 0), (2, 0), (3, 0), (4, 0), (5, 0), (6, 0), (7, 1), (8, 0), (9, 0), (10, 0), (11, 1), (12, 1), (13, 0)] [] mixed (by kernel_rfl) ?_) | (refine St.draw (id := 15) [(0, 0), (1, 0), (2, 0), (3, 0), (4, 0), (5, 0), (6, 0), (7, 1), (8, 0), (9, 0), (10, 0), (11, 1), (12, 1), (13, 0), (14, 0)] [] mixed (by kernel_rfl) ?_) | (refine St.draw (id := 18) [(0, 0), (1, 0), (2, 0), (3, 0), (4, 0), (5, 0), (6, 0), (7, 1), (8, 0), (9, 0), (10, 0), (11, 1), (12, 0), (13, 3), (14, 0), (15, 3)] [13, 15] mixed (by kernel_rfl) ?_) | (refine St.draw (id := 21) [(0, 0), (1, 0), (2, 0), (3, 0), (4, 0), (5, 0), (6, 0), (7, 1), (8, 0), (9, 0), (10, 0), (11, 1), (12, 0), (13, 3), (14, 0), (15, 3)] [13, 15] mixed (by kernel_rfl) ?_)| refine Gl hs ?_ | (refine Ge ?_ ?_ <;> (intro h; try (exfalso; omega))) | fail)
        all_goals first | (exfalso; omega) | skip
        refine IH1 ⟨i + 1, by omega, by omega, by omega⟩ (by dsimp only; omega) ?_ ?_
        · exact Sub.go
        · exact Ent.go
      · rw [decide_eq_false huv] at hs
        clear IH1
        repeat' (first | refine Ga ?_ | (refine Gb ?_; intro b) | (refine Gd ?_; intro g cap rest hcap) | (refine Gc ?_; intro ad cap) | (refine St.draw (id := 1) [(0, 0), (1, 0), (2, 0), (3, 0), (4, 0), (5, 0), (6, 0), (7, 1), (8, 0), (9, 0), (10, 0), (11, 1), (12, 0), (13, 3), (14, 0), (15, 3)] [13, 15] mixed (by kernel_rfl) ?_) | (refine St.draw (id := 3) [(0, 0), (1, 0), (2, 0), (3, 0), (4, 0), (5, 0), (6, 0), (7, 1), (8, 0), (9, 0), (10, 0), (11, 1), (12, 1), (13, 0)] [] mixed (by kernel_rfl) ?_) | (refine St.draw (id := 5) [(0, 0), (1, 0), (2, 0), (3, 0), (4, 0), (5, 0), (6, 0), (7, 1), (8, 0), (9, 0), (10, 0), (11, 1), (12, 1), (13, 0), (14, 0)] [] mixed (by kernel_rfl) ?_) | (refine St.draw (id := 8) [(0, 0), (1, 0), (2, 0), (3, 0), (4, 0), (5, 0), (6, 0), (7, 1), (8, 0), (9, 0), (10, 0), (11, 1), (12, 0), (13, 3), (14, 0), (15, 3)] [13, 15] mixed (by kernel_rfl) ?_) | (refine St.draw (id := 10) [(0, 0), (1, 0), (2, 0), (3, 0), (4, 0), (5, 0), (6, 0), (7, 1), (8, 0), (9, 0), (10, 0), (11, 1), (12, 0), (13, 3), (14, 0), (15, 3)] [13, 15] mixed (by kernel_rfl) ?_) | (refine St.draw (id := 13) [(0, 0), (1, 0), (2, 0), (3, 0), (4, 0), (5, 0), (6, 0), (7, 1), (8, 0), (9, 0), (10, 0), (11, 1), (12, 1), (13, 0)] [] mixed (by kernel_rfl) ?_) | (refine St.draw (id := 15) [(0, 0), (1, 0), (2, 0), (3, 0), (4, 0), (5, 0), (6, 0), (7, 1), (8, 0), (9, 0), (10, 0), (11, 1), (12, 1), (13, 0), (14, 0)] [] mixed (by kernel_rfl) ?_) | (refine St.draw (id := 18) [(0, 0), (1, 0), (2, 0), (3, 0), (4, 0), (5, 0), (6, 0), (7, 1), (8, 0), (9, 0), (10, 0), (11, 1), (12, 0), (13, 3), (14, 0), (15, 3)] [13, 15] mixed (by kernel_rfl) ?_) | (refine St.draw (id := 21) [(0, 0), (1, 0), (2, 0), (3, 0), (4, 0), (5, 0), (6, 0), (7, 1), (8, 0), (9, 0), (10, 0), (11, 1), (12, 0), (13, 3), (14, 0), (15, 3)] [13, 15] mixed (by kernel_rfl) ?_)| refine Gl hs ?_ | (refine Ge ?_ ?_ <;> (intro h; try (exfalso; omega))) | fail)
        all_goals first | (exfalso; omega) | skip
        refine EX1 ⟨i, by omega, by omega, by omega⟩ ?_ ?_
        · exact Sub.go
        · exact Ent.go
    · clear IH1
      repeat' (first | refine Ga ?_ | (refine Gb ?_; intro b) | (refine Gd ?_; intro g cap rest hcap) | (refine Gc ?_; intro ad cap) | (refine St.draw (id := 1) [(0, 0), (1, 0), (2, 0), (3, 0), (4, 0), (5, 0), (6, 0), (7, 1), (8, 0), (9, 0), (10, 0), (11, 1), (12, 0), (13, 3), (14, 0), (15, 3)] [13, 15] mixed (by kernel_rfl) ?_) | (refine St.draw (id := 3) [(0, 0), (1, 0), (2, 0), (3, 0), (4, 0), (5, 0), (6, 0), (7, 1), (8, 0), (9, 0), (10, 0), (11, 1), (12, 1), (13, 0)] [] mixed (by kernel_rfl) ?_) | (refine St.draw (id := 5) [(0, 0), (1, 0), (2, 0), (3, 0), (4, 0), (5, 0), (6, 0), (7, 1), (8, 0), (9, 0), (10, 0), (11, 1), (12, 1), (13, 0), (14, 0)] [] mixed (by kernel_rfl) ?_) | (refine St.draw (id := 8) [(0, 0), (1, 0), (2, 0), (3, 0), (4, 0), (5, 0), (6, 0), (7, 1), (8, 0), (9, 0), (10, 0), (11, 1), (12, 0), (13, 3), (14, 0), (15, 3)] [13, 15] mixed (by kernel_rfl) ?_) | (refine St.draw (id := 10) [(0, 0), (1, 0), (2, 0), (3, 0), (4, 0), (5, 0), (6, 0), (7, 1), (8, 0), (9, 0), (10, 0), (11, 1), (12, 0), (13, 3), (14, 0), (15, 3)] [13, 15] mixed (by kernel_rfl) ?_) | (refine St.draw (id := 13) [(0, 0), (1, 0), (2, 0), (3, 0), (4, 0), (5, 0), (6, 0), (7, 1), (8, 0), (9, 0), (10, 0), (11, 1), (12, 1), (13, 0)] [] mixed (by kernel_rfl) ?_) | (refine St.draw (id := 15) [(0, 0), (1, 0), (2, 0), (3, 0), (4, 0), (5, 0), (6, 0), (7, 1), (8, 0), (9, 0), (10, 0), (11, 1), (12, 1), (13, 0), (14, 0)] [] mixed (by kernel_rfl) ?_) | (refine St.draw (id := 18) [(0, 0), (1, 0), (2, 0), (3, 0), (4, 0), (5, 0), (6, 0), (7, 1), (8, 0), (9, 0), (10, 0), (11, 1), (12, 0), (13, 3), (14, 0), (15, 3)] [13, 15] mixed (by kernel_rfl) ?_) | (refine St.draw (id := 21) [(0, 0), (1, 0), (2, 0), (3, 0), (4, 0), (5, 0), (6, 0), (7, 1), (8, 0), (9, 0), (10, 0), (11, 1), (12, 0), (13, 3), (14, 0), (15, 3)] [13, 15] mixed (by kernel_rfl) ?_) | (refine Ge ?_ ?_ <;> (intro h; try (exfalso; omega))) | fail)
      all_goals first | (exfalso; omega) | skip
      refine EX1 ⟨i, by omega, by omega, by omega⟩ ?_ ?_
      · exact Sub.go
      · exact Ent.go
  case after1 =>
    rintro ⟨i, hz1, hz2, hz3⟩; dsimp only at hz1 hz2 hz3 ⊢
    have hi1 := hz1; have hi2 := hz2; clear hz1 hz2 hz3
    refine St.loopZ (Lr := ?Lr2) (k' := ?kx2) (ι := { x : Int // (a : Int) ≤ x ∧ x < b ∧ i ≤ x + 2 }) (κ := { x : Int // (a : Int) ≤ x ∧ x < b ∧ i ≤ x + 2 }) (fun x => (x.1 + 3 - i).toNat) (fun x => [(11, .int .i64 x.1)]) (fun x => []) ⟨j, by omega, by omega, by omega⟩ (fun x => [(11, .int .i64 x.1)]) (fun x => []) ?hE2 ?hL2 ?round2 ?after2
    case hE2 => exact Sub.go
    case hL2 => exact Takes.go
    case round2 =>
      rintro ⟨j, hz1, hz2, hz3⟩ IH2 EX2; dsimp only at hz1 hz2 hz3 IH2 EX2 ⊢
      by_cases hij : i ≤ j
      · have h1 := hl2 j (by omega) (by omega)
        have h2 := hl2 (a : Int) (by omega) (by omega)
        generalize cI l2 j = u at h1
        generalize cI l2 (a : Int) = v at h2
        have hs := less_r u v
        by_cases huv : u < v
        · rw [decide_eq_true huv] at hs
          clear IH2
          repeat' (first | refine St.halt 7 ?_ |refine Ga ?_ | (refine Gb ?_; intro b) | (refine Gd ?_; intro g cap rest hcap) | (refine Gc ?_; intro ad cap) | (refine St.draw (id := 1) [(0, 0), (1, 0), (2, 0), (3, 0), (4, 0), (5, 0), (6, 0), (7, 1), (8, 0), (9, 0), (10, 0), (11, 1), (12, 0), (13, 3), (14, 0), (15, 3)] [13, 15] mixed (by kernel_rfl) ?_) | (refine St.draw (id := 3) [(0, 0), (1, 0), (2, 0), (3, 0), (4, 0), (5, 0), (6, 0), (7, 1), (8, 0), (9, 0), (10, 0), (11, 1), (12, 1), (13, 0)] [] mixed (by kernel_rfl) ?_) | (refine St.draw (id := 5) [(0, 0), (1, 0), (2, 0), (3, 0), (4, 0), (5, 0), (6, 0), (7, 1), (8, 0), (9, 0), (10, 0), (11, 1), (12, 1), (13, 0), (14, 0)] [] mixed (by kernel_rfl) ?_) | (refine St.draw (id := 8) [(0, 0), (1, 0), (2, 0), (3, 0), (4, 0), (5, 0), (6, 0), (7, 1), (8, 0), (9, 0), (10, 0), (11, 1), (12, 0), (13, 3), (14, 0), (15, 3)] [13, 15] mixed (by kernel_rfl) ?_) | (refine St.draw (id := 10) [(0, 0), (1, 0), (2, 0), (3, 0), (4, 0), (5, 0), (6, 0), (7, 1), (8, 0), (9, 0), (10, 0), (11, 1), (12, 0), (13, 3), (14, 0), (15, 3)] [13, 15] mixed (by kernel_rfl) ?_) | (refine St.draw (id := 13) [(0, 0), (1, 0), (2, 0), (3, 0), (4, 0), (5, 0), (6, 0), (7, 1), (8, 0), (9, 0), (10, 0), (11, 1), (12, 1), (13, 0)] [] mixed (by kernel_rfl) ?_) | (refine St.draw (id := 15) [(0, 0), (1, 0), (2, 0), (3, 0), (4, 0), (5, 0), (6, 0), (7, 1), (8, 0), (9, 0), (10, 0), (11, 1), (12, 1), (13, 0), (14, 0)] [] mixed (by kernel_rfl) ?_) | (refine St.draw (id := 18) [(0, 0), (1, 0), (2, 0), (3, 0), (4, 0), (5, 0), (6, 0), (7, 1), (8, 0), (9, 0), (10, 0), (11, 1), (12, 0), (13, 3), (14, 0), (15, 3)] [13, 15] mixed (by kernel_rfl) ?_) | (refine St.draw (id := 21) [(0, 0), (1, 0), (2, 0), (3, 0), (4, 0), (5, 0), (6, 0), (7, 1), (8, 0), (9, 0), (10, 0), (11, 1), (12, 0), (13, 3), (14, 0), (15, 3)] [13, 15] mixed (by kernel_rfl) ?_)| refine Gl hs ?_ | (refine Ge ?_ ?_ <;> (intro h; try (exfalso; omega))) | fail)
          all_goals first | (exfalso; omega) | skip
          all_goals apply Halt.go
          refine EX2 ⟨j, by omega, by omega, by omega⟩ ?_ ?_
          · exact Sub.go
          · exact Ent.go
        · rw [decide_eq_false huv] at hs
          repeat' (first | refine Ga ?_ | (refine Gb ?_; intro b) | (refine Gd ?_; intro g cap rest hcap) | (refine Gc ?_; intro ad cap) | (refine St.draw (id := 1) [(0, 0), (1, 0), (2, 0), (3, 0), (4, 0), (5, 0), (6, 0), (7, 1), (8, 0), (9, 0), (10, 0), (11, 1), (12, 0), (13, 3), (14, 0), (15, 3)] [13, 15] mixed (by kernel_rfl) ?_) | (refine St.draw (id := 3) [(0, 0), (1, 0), (2, 0), (3, 0), (4, 0), (5, 0), (6, 0), (7, 1), (8, 0), (9, 0), (10, 0), (11, 1), (12, 1), (13, 0)] [] mixed (by kernel_rfl) ?_) | (refine St.draw (id := 5) [(0, 0), (1, 0), (2, 0), (3, 0), (4, 0), (5, 0), (6, 0), (7, 1), (8, 0), (9, 0), (10, 0), (11, 1), (12, 1), (13, 0), (14, 0)] [] mixed (by kernel_rfl) ?_) | (refine St.draw (id := 8) [(0, 0), (1, 0), (2, 0), (3, 0), (4, 0), (5, 0), (6, 0), (7, 1), (8, 0), (9, 0), (10, 0), (11, 1), (12, 0), (13, 3), (14, 0), (15, 3)] [13, 15] mixed (by kernel_rfl) ?_) | (refine St.draw (id := 10) [(0, 0), (1, 0), (2, 0), (3, 0), (4, 0), (5, 0), (6, 0), (7, 1), (8, 0), (9, 0), (10, 0), (11, 1), (12, 0), (13, 3), (14, 0), (15, 3)] [13, 15] mixed (by kernel_rfl) ?_) | (refine St.draw (id := 13) [(0, 0), (1, 0), (2, 0), (3, 0), (4, 0), (5, 0), (6, 0), (7, 1), (8, 0), (9, 0), (10, 0), (11, 1), (12, 1), (13, 0)] [] mixed (by kernel_rfl) ?_) | (refine St.draw (id := 15) [(0, 0), (1, 0), (2, 0), (3, 0), (4, 0), (5, 0), (6, 0), (7, 1), (8, 0), (9, 0), (10, 0), (11, 1), (12, 1), (13, 0), (14, 0)] [] mixed (by kernel_rfl) ?_) | (refine St.draw (id := 18) [(0, 0), (1, 0), (2, 0), (3, 0), (4, 0), (5, 0), (6, 0), (7, 1), (8, 0), (9, 0), (10, 0), (11, 1), (12, 0), (13, 3), (14, 0), (15, 3)] [13, 15] mixed (by kernel_rfl) ?_) | (refine St.draw (id := 21) [(0, 0), (1, 0), (2, 0), (3, 0), (4, 0), (5, 0), (6, 0), (7, 1), (8, 0), (9, 0), (10, 0), (11, 1), (12, 0), (13, 3), (14, 0), (15, 3)] [13, 15] mixed (by kernel_rfl) ?_)| refine Gl hs ?_ | (refine Ge ?_ ?_ <;> (intro h; try (exfalso; omega))) | fail)
          all_goals first | (exfalso; omega) | skip
          refine IH2 ⟨j - 1, by omega, by omega, by omega⟩ (by dsimp only; omega) ?_ ?_
          · exact Sub.go
          · exact Ent.go
      · clear IH2
        repeat' (first | refine St.halt 7 ?_ |refine Ga ?_ | (refine Gb ?_; intro b) | (refine Gd ?_; intro g cap rest hcap) | (refine Gc ?_; intro ad cap) | (refine St.draw (id := 1) [(0, 0), (1, 0), (2, 0), (3, 0), (4, 0), (5, 0), (6, 0), (7, 1), (8, 0), (9, 0), (10, 0), (11, 1), (12, 0), (13, 3), (14, 0), (15, 3)] [13, 15] mixed (by kernel_rfl) ?_) | (refine St.draw (id := 3) [(0, 0), (1, 0), (2, 0), (3, 0), (4, 0), (5, 0), (6, 0), (7, 1), (8, 0), (9, 0), (10, 0), (11, 1), (12, 1), (13, 0)] [] mixed (by kernel_rfl) ?_) | (refine St.draw (id := 5) [(0, 0), (1, 0), (2, 0), (3, 0), (4, 0), (5, 0), (6, 0), (7, 1), (8, 0), (9, 0), (10, 0), (11, 1), (12, 1), (13, 0), (14, 0)] [] mixed (by kernel_rfl) ?_) | (refine St.draw (id := 8) [(0, 0), (1, 0), (2, 0), (3, 0), (4, 0), (5, 0), (6, 0), (7, 1), (8, 0), (9, 0), (10, 0), (11, 1), (12, 0), (13, 3), (14, 0), (15, 3)] [13, 15] mixed (by kernel_rfl) ?_) | (refine St.draw (id := 10) [(0, 0), (1, 0), (2, 0), (3, 0), (4, 0), (5, 0), (6, 0), (7, 1), (8, 0), (9, 0), (10, 0), (11, 1), (12, 0), (13, 3), (14, 0), (15, 3)] [13, 15] mixed (by kernel_rfl) ?_) | (refine St.draw (id := 13) [(0, 0), (1, 0), (2, 0), (3, 0), (4, 0), (5, 0), (6, 0), (7, 1), (8, 0), (9, 0), (10, 0), (11, 1), (12, 1), (13, 0)] [] mixed (by kernel_rfl) ?_) | (refine St.draw (id := 15) [(0, 0), (1, 0), (2, 0), (3, 0), (4, 0), (5, 0), (6, 0), (7, 1), (8, 0), (9, 0), (10, 0), (11, 1), (12, 1), (13, 0), (14, 0)] [] mixed (by kernel_rfl) ?_) | (refine St.draw (id := 18) [(0, 0), (1, 0), (2, 0), (3, 0), (4, 0), (5, 0), (6, 0), (7, 1), (8, 0), (9, 0), (10, 0), (11, 1), (12, 0), (13, 3), (14, 0), (15, 3)] [13, 15] mixed (by kernel_rfl) ?_) | (refine St.draw (id := 21) [(0, 0), (1, 0), (2, 0), (3, 0), (4, 0), (5, 0), (6, 0), (7, 1), (8, 0), (9, 0), (10, 0), (11, 1), (12, 0), (13, 3), (14, 0), (15, 3)] [13, 15] mixed (by kernel_rfl) ?_) | (refine Ge ?_ ?_ <;> (intro h; try (exfalso; omega))) | fail)
        all_goals first | (exfalso; omega) | skip
        all_goals apply Halt.go
        refine EX2 ⟨j, by omega, by omega, by omega⟩ ?_ ?_
        · exact Sub.go
        · exact Ent.go
    case after2 =>
      rintro ⟨j, hz1, hz2, hz3⟩; dsimp only at hz1 hz2 hz3 ⊢
      have h1 := hl2 j (by omega) (by omega)
      have h2 := hl2 (a : Int) (by omega) (by omega)
      by_cases hij : j < i
      · obtain ⟨jn, rfl⟩ : ∃ jn : Nat, j = jn := ⟨j.toNat, by omega⟩
        generalize cI l2 (jn : Int) = u at h1
        generalize cI l2 (a : Int) = v at h2
        obtain ⟨l3, l4, s1, s2, hl4⟩ := hl2.swap (jn : Int) (a : Int) (by omega) (by omega) (by omega) (by omega) u v
        repeat' (first | refine Ga ?_ | (refine Gb ?_; intro b) | (refine Gd ?_; intro g cap rest hcap) | (refine Gc ?_; intro ad cap) | (refine St.draw (id := 1) [(0, 0), (1, 0), (2, 0), (3, 0), (4, 0), (5, 0), (6, 0), (7, 1), (8, 0), (9, 0), (10, 0), (11, 1), (12, 0), (13, 3), (14, 0), (15, 3)] [13, 15] mixed (by kernel_rfl) ?_) | (refine St.draw (id := 3) [(0, 0), (1, 0), (2, 0), (3, 0), (4, 0), (5, 0), (6, 0), (7, 1), (8, 0), (9, 0), (10, 0), (11, 1), (12, 1), (13, 0)] [] mixed (by kernel_rfl) ?_) | (refine St.draw (id := 5) [(0, 0), (1, 0), (2, 0), (3, 0), (4, 0), (5, 0), (6, 0), (7, 1), (8, 0), (9, 0), (10, 0), (11, 1), (12, 1), (13, 0), (14, 0)] [] mixed (by kernel_rfl) ?_) | (refine St.draw (id := 8) [(0, 0), (1, 0), (2, 0), (3, 0), (4, 0), (5, 0), (6, 0), (7, 1), (8, 0), (9, 0), (10, 0), (11, 1), (12, 0), (13, 3), (14, 0), (15, 3)] [13, 15] mixed (by kernel_rfl) ?_) | (refine St.draw (id := 10) [(0, 0), (1, 0), (2, 0), (3, 0), (4, 0), (5, 0), (6, 0), (7, 1), (8, 0), (9, 0), (10, 0), (11, 1), (12, 0), (13, 3), (14, 0), (15, 3)] [13, 15] mixed (by kernel_rfl) ?_) | (refine St.draw (id := 13) [(0, 0), (1, 0), (2, 0), (3, 0), (4, 0), (5, 0), (6, 0), (7, 1), (8, 0), (9, 0), (10, 0), (11, 1), (12, 1), (13, 0)] [] mixed (by kernel_rfl) ?_) | (refine St.draw (id := 15) [(0, 0), (1, 0), (2, 0), (3, 0), (4, 0), (5, 0), (6, 0), (7, 1), (8, 0), (9, 0), (10, 0), (11, 1), (12, 1), (13, 0), (14, 0)] [] mixed (by kernel_rfl) ?_) | (refine St.draw (id := 18) [(0, 0), (1, 0), (2, 0), (3, 0), (4, 0), (5, 0), (6, 0), (7, 1), (8, 0), (9, 0), (10, 0), (11, 1), (12, 0), (13, 3), (14, 0), (15, 3)] [13, 15] mixed (by kernel_rfl) ?_) | (refine St.draw (id := 21) [(0, 0), (1, 0), (2, 0), (3, 0), (4, 0), (5, 0), (6, 0), (7, 1), (8, 0), (9, 0), (10, 0), (11, 1), (12, 0), (13, 3), (14, 0), (15, 3)] [13, 15] mixed (by kernel_rfl) ?_) | (refine Ge ?_ ?_ <;> (intro h; try (exfalso; omega))) | fail)
        all_goals first | (exfalso; omega) | skip
        refine St.d1 Tryz.func303 ⟨_, ⟨jn, true, l4, rfl, by omega, by omega, hl4, rfl⟩, ?_⟩
        exact Ent.go
      · have h3 := hl2 i (by omega) (by omega)
        generalize cI l2 j = u at h1
        generalize cI l2 i = v at h3
        obtain ⟨l3, l4, s1, s2, hl4⟩ := hl2.swap i j (by omega) (by omega) (by omega) (by omega) v u
        clear hl2
        repeat' (first | refine Ga ?_ | (refine Gb ?_; intro b) | (refine Gd ?_; intro g cap rest hcap) | (refine Gc ?_; intro ad cap) | (refine St.draw (id := 1) [(0, 0), (1, 0), (2, 0), (3, 0), (4, 0), (5, 0), (6, 0), (7, 1), (8, 0), (9, 0), (10, 0), (11, 1), (12, 0), (13, 3), (14, 0), (15, 3)] [13, 15] mixed (by kernel_rfl) ?_) | (refine St.draw (id := 3) [(0, 0), (1, 0), (2, 0), (3, 0), (4, 0), (5, 0), (6, 0), (7, 1), (8, 0), (9, 0), (10, 0), (11, 1), (12, 1), (13, 0)] [] mixed (by kernel_rfl) ?_) | (refine St.draw (id := 5) [(0, 0), (1, 0), (2, 0), (3, 0), (4, 0), (5, 0), (6, 0), (7, 1), (8, 0), (9, 0), (10, 0), (11, 1), (12, 1), (13, 0), (14, 0)] [] mixed (by kernel_rfl) ?_) | (refine St.draw (id := 8) [(0, 0), (1, 0), (2, 0), (3, 0), (4, 0), (5, 0), (6, 0), (7, 1), (8, 0), (9, 0), (10, 0), (11, 1), (12, 0), (13, 3), (14, 0), (15, 3)] [13, 15] mixed (by kernel_rfl) ?_) | (refine St.draw (id := 10) [(0, 0), (1, 0), (2, 0), (3, 0), (4, 0), (5, 0), (6, 0), (7, 1), (8, 0), (9, 0), (10, 0), (11, 1), (12, 0), (13, 3), (14, 0), (15, 3)] [13, 15] mixed (by kernel_rfl) ?_) | (refine St.draw (id := 13) [(0, 0), (1, 0), (2, 0), (3, 0), (4, 0), (5, 0), (6, 0), (7, 1), (8, 0), (9, 0), (10, 0), (11, 1), (12, 1), (13, 0)] [] mixed (by kernel_rfl) ?_) | (refine St.draw (id := 15) [(0, 0), (1, 0), (2, 0), (3, 0), (4, 0), (5, 0), (6, 0), (7, 1), (8, 0), (9, 0), (10, 0), (11, 1), (12, 1), (13, 0), (14, 0)] [] mixed (by kernel_rfl) ?_) | (refine St.draw (id := 18) [(0, 0), (1, 0), (2, 0), (3, 0), (4, 0), (5, 0), (6, 0), (7, 1), (8, 0), (9, 0), (10, 0), (11, 1), (12, 0), (13, 3), (14, 0), (15, 3)] [13, 15] mixed (by kernel_rfl) ?_) | (refine St.draw (id := 21) [(0, 0), (1, 0), (2, 0), (3, 0), (4, 0), (5, 0), (6, 0), (7, 1), (8, 0), (9, 0), (10, 0), (11, 1), (12, 0), (13, 3), (14, 0), (15, 3)] [13, 15] mixed (by kernel_rfl) ?_) | (refine Ge ?_ ?_ <;> (intro h; try (exfalso; omega))) | fail)
        all_goals first | (exfalso; omega) | skip
        refine St.loopY (Lr := ?Lr3) (ι := { x : Int × Int × List Value // (a : Int) + 1 ≤ x.1 ∧ a ≤ x.2.1 ∧ x.1 ≤ x.2.1 + 2 ∧ x.2.1 < b ∧ NumsU n x.2.2 }) (fun x => (x.1.2.1 + 3 - x.1.1).toNat) (fun x => [(10, .int .i64 x.1.1), (11, .int .i64 x.1.2.1)]) (fun x => [bl g 22 x.1.2.2]) ⟨(i + 1, j - 1, l4), by dsimp only; omega, by dsimp only; omega, by dsimp only; omega, by dsimp only; omega, hl4⟩ ?hE3 ?hL3 ?round3
        case hE3 => exact Sub.go
        case hL3 => exact Takes.go
        case round3 =>
          rintro ⟨⟨i0, j0, l5⟩, hi0, hj0, hij0, hjb0, hl5⟩ IH3; dsimp only at hi0 hj0 hij0 hjb0 hl5 IH3 ⊢
          repeat' (first | refine Ga ?_ | (refine Gb ?_; intro b) | (refine Gd ?_; intro g cap rest hcap) | (refine Gc ?_; intro ad cap) | (refine St.draw (id := 1) [(0, 0), (1, 0), (2, 0), (3, 0), (4, 0), (5, 0), (6, 0), (7, 1), (8, 0), (9, 0), (10, 0), (11, 1), (12, 0), (13, 3), (14, 0), (15, 3)] [13, 15] mixed (by kernel_rfl) ?_) | (refine St.draw (id := 3) [(0, 0), (1, 0), (2, 0), (3, 0), (4, 0), (5, 0), (6, 0), (7, 1), (8, 0), (9, 0), (10, 0), (11, 1), (12, 1), (13, 0)] [] mixed (by kernel_rfl) ?_) | (refine St.draw (id := 5) [(0, 0), (1, 0), (2, 0), (3, 0), (4, 0), (5, 0), (6, 0), (7, 1), (8, 0), (9, 0), (10, 0), (11, 1), (12, 1), (13, 0), (14, 0)] [] mixed (by kernel_rfl) ?_) | (refine St.draw (id := 8) [(0, 0), (1, 0), (2, 0), (3, 0), (4, 0), (5, 0), (6, 0), (7, 1), (8, 0), (9, 0), (10, 0), (11, 1), (12, 0), (13, 3), (14, 0), (15, 3)] [13, 15] mixed (by kernel_rfl) ?_) | (refine St.draw (id := 10) [(0, 0), (1, 0), (2, 0), (3, 0), (4, 0), (5, 0), (6, 0), (7, 1), (8, 0), (9, 0), (10, 0), (11, 1), (12, 0), (13, 3), (14, 0), (15, 3)] [13, 15] mixed (by kernel_rfl) ?_) | (refine St.draw (id := 13) [(0, 0), (1, 0), (2, 0), (3, 0), (4, 0), (5, 0), (6, 0), (7, 1), (8, 0), (9, 0), (10, 0), (11, 1), (12, 1), (13, 0)] [] mixed (by kernel_rfl) ?_) | (refine St.draw (id := 15) [(0, 0), (1, 0), (2, 0), (3, 0), (4, 0), (5, 0), (6, 0), (7, 1), (8, 0), (9, 0), (10, 0), (11, 1), (12, 1), (13, 0), (14, 0)] [] mixed (by kernel_rfl) ?_) | (refine St.draw (id := 18) [(0, 0), (1, 0), (2, 0), (3, 0), (4, 0), (5, 0), (6, 0), (7, 1), (8, 0), (9, 0), (10, 0), (11, 1), (12, 0), (13, 3), (14, 0), (15, 3)] [13, 15] mixed (by kernel_rfl) ?_) | (refine St.draw (id := 21) [(0, 0), (1, 0), (2, 0), (3, 0), (4, 0), (5, 0), (6, 0), (7, 1), (8, 0), (9, 0), (10, 0), (11, 1), (12, 0), (13, 3), (14, 0), (15, 3)] [13, 15] mixed (by kernel_rfl) ?_) | (refine Ge ?_ ?_ <;> (intro h; try (exfalso; omega))) | fail)
          refine St.loopZ (Lr := ?Lr4) (k' := ?kx4) (ι := { x : Int // i0 ≤ x ∧ x ≤ j0 + 2 ∧ j0 < b }) (κ := { x : Int // i0 ≤ x ∧ x ≤ j0 + 2 ∧ j0 < b }) (fun x => (j0 + 3 - x.1).toNat) (fun x => [(10, .int .i64 x.1)]) (fun x => []) ⟨i0, by omega, by omega, by omega⟩ (fun x => [(10, .int .i64 x.1)]) (fun x => []) ?hE4 ?hL4 ?round4 ?after4
          case hE4 => exact Sub.go
          case hL4 => exact Takes.go
          case round4 =>
            rintro ⟨i, hz1, hz2, hz3⟩ IH4 EX4; dsimp only at hz1 hz2 hz3 IH4 EX4 ⊢
            by_cases hij : i ≤ j0
            · have h1 := hl5 i (by omega) (by omega)
              have h2 := hl5 (a : Int) (by omega) (by omega)
              generalize cI l5 i = u at h1
              generalize cI l5 (a : Int) = v at h2
              have hs := less_r u v
              by_cases huv : u < v
              · rw [decide_eq_true huv] at hs
                repeat' (first | refine Ga ?_ | (refine Gb ?_; intro b) | (refine Gd ?_; intro g cap rest hcap) | (refine Gc ?_; intro ad cap) | (refine St.draw (id := 1) [(0, 0), (1, 0), (2, 0), (3, 0), (4, 0), (5, 0), (6, 0), (7, 1), (8, 0), (9, 0), (10, 0), (11, 1), (12, 0), (13, 3), (14, 0), (15, 3)] [13, 15] mixed (by kernel_rfl) ?_) | (refine St.draw (id := 3) [(0, 0), (1, 0), (2, 0), (3, 0), (4, 0), (5, 0), (6, 0), (7, 1), (8, 0), (9, 0), (10, 0), (11, 1), (12, 1), (13, 0)] [] mixed (by kernel_rfl) ?_) | (refine St.draw (id := 5) [(0, 0), (1, 0), (2, 0), (3, 0), (4, 0), (5, 0), (6, 0), (7, 1), (8, 0), (9, 0), (10, 0), (11, 1), (12, 1), (13, 0), (14, 0)] [] mixed (by kernel_rfl) ?_) | (refine St.draw (id := 8) [(0, 0), (1, 0), (2, 0), (3, 0), (4, 0), (5, 0), (6, 0), (7, 1), (8, 0), (9, 0), (10, 0), (11, 1), (12, 0), (13, 3), (14, 0), (15, 3)] [13, 15] mixed (by kernel_rfl) ?_) | (refine St.draw (id := 10) [(0, 0), (1, 0), (2, 0), (3, 0), (4, 0), (5, 0), (6, 0), (7, 1), (8, 0), (9, 0), (10, 0), (11, 1), (12, 0), (13, 3), (14, 0), (15, 3)] [13, 15] mixed (by kernel_rfl) ?_) | (refine St.draw (id := 13) [(0, 0), (1, 0), (2, 0), (3, 0), (4, 0), (5, 0), (6, 0), (7, 1), (8, 0), (9, 0), (10, 0), (11, 1), (12, 1), (13, 0)] [] mixed (by kernel_rfl) ?_) | (refine St.draw (id := 15) [(0, 0), (1, 0), (2, 0), (3, 0), (4, 0), (5, 0), (6, 0), (7, 1), (8, 0), (9, 0), (10, 0), (11, 1), (12, 1), (13, 0), (14, 0)] [] mixed (by kernel_rfl) ?_) | (refine St.draw (id := 18) [(0, 0), (1, 0), (2, 0), (3, 0), (4, 0), (5, 0), (6, 0), (7, 1), (8, 0), (9, 0), (10, 0), (11, 1), (12, 0), (13, 3), (14, 0), (15, 3)] [13, 15] mixed (by kernel_rfl) ?_) | (refine St.draw (id := 21) [(0, 0), (1, 0), (2, 0), (3, 0), (4, 0), (5, 0), (6, 0), (7, 1), (8, 0), (9, 0), (10, 0), (11, 1), (12, 0), (13, 3), (14, 0), (15, 3)] [13, 15] mixed (by kernel_rfl) ?_)| refine Gl hs ?_ | (refine Ge ?_ ?_ <;> (intro h; try (exfalso; omega))) | fail)
                all_goals first | (exfalso; omega) | skip
                refine IH4 ⟨i + 1, by omega, by omega, by omega⟩ (by dsimp only; omega) ?_ ?_
                · exact Sub.go
                · exact Ent.go
              · rw [decide_eq_false huv] at hs
                clear IH4
                repeat' (first | refine Ga ?_ | (refine Gb ?_; intro b) | (refine Gd ?_; intro g cap rest hcap) | (refine Gc ?_; intro ad cap) | (refine St.draw (id := 1) [(0, 0), (1, 0), (2, 0), (3, 0), (4, 0), (5, 0), (6, 0), (7, 1), (8, 0), (9, 0), (10, 0), (11, 1), (12, 0), (13, 3), (14, 0), (15, 3)] [13, 15] mixed (by kernel_rfl) ?_) | (refine St.draw (id := 3) [(0, 0), (1, 0), (2, 0), (3, 0), (4, 0), (5, 0), (6, 0), (7, 1), (8, 0), (9, 0), (10, 0), (11, 1), (12, 1), (13, 0)] [] mixed (by kernel_rfl) ?_) | (refine St.draw (id := 5) [(0, 0), (1, 0), (2, 0), (3, 0), (4, 0), (5, 0), (6, 0), (7, 1), (8, 0), (9, 0), (10, 0), (11, 1), (12, 1), (13, 0), (14, 0)] [] mixed (by kernel_rfl) ?_) | (refine St.draw (id := 8) [(0, 0), (1, 0), (2, 0), (3, 0), (4, 0), (5, 0), (6, 0), (7, 1), (8, 0), (9, 0), (10, 0), (11, 1), (12, 0), (13, 3), (14, 0), (15, 3)] [13, 15] mixed (by kernel_rfl) ?_) | (refine St.draw (id := 10) [(0, 0), (1, 0), (2, 0), (3, 0), (4, 0), (5, 0), (6, 0), (7, 1), (8, 0), (9, 0), (10, 0), (11, 1), (12, 0), (13, 3), (14, 0), (15, 3)] [13, 15] mixed (by kernel_rfl) ?_) | (refine St.draw (id := 13) [(0, 0), (1, 0), (2, 0), (3, 0), (4, 0), (5, 0), (6, 0), (7, 1), (8, 0), (9, 0), (10, 0), (11, 1), (12, 1), (13, 0)] [] mixed (by kernel_rfl) ?_) | (refine St.draw (id := 15) [(0, 0), (1, 0), (2, 0), (3, 0), (4, 0), (5, 0), (6, 0), (7, 1), (8, 0), (9, 0), (10, 0), (11, 1), (12, 1), (13, 0), (14, 0)] [] mixed (by kernel_rfl) ?_) | (refine St.draw (id := 18) [(0, 0), (1, 0), (2, 0), (3, 0), (4, 0), (5, 0), (6, 0), (7, 1), (8, 0), (9, 0), (10, 0), (11, 1), (12, 0), (13, 3), (14, 0), (15, 3)] [13, 15] mixed (by kernel_rfl) ?_) | (refine St.draw (id := 21) [(0, 0), (1, 0), (2, 0), (3, 0), (4, 0), (5, 0), (6, 0), (7, 1), (8, 0), (9, 0), (10, 0), (11, 1), (12, 0), (13, 3), (14, 0), (15, 3)] [13, 15] mixed (by kernel_rfl) ?_)| refine Gl hs ?_ | (refine Ge ?_ ?_ <;> (intro h; try (exfalso; omega))) | fail)
                all_goals first | (exfalso; omega) | skip
                refine EX4 ⟨i, by omega, by omega, by omega⟩ ?_ ?_
                · exact Sub.go
                · exact Ent.go
            · clear IH4
              repeat' (first | refine Ga ?_ | (refine Gb ?_; intro b) | (refine Gd ?_; intro g cap rest hcap) | (refine Gc ?_; intro ad cap) | (refine St.draw (id := 1) [(0, 0), (1, 0), (2, 0), (3, 0), (4, 0), (5, 0), (6, 0), (7, 1), (8, 0), (9, 0), (10, 0), (11, 1), (12, 0), (13, 3), (14, 0), (15, 3)] [13, 15] mixed (by kernel_rfl) ?_) | (refine St.draw (id := 3) [(0, 0), (1, 0), (2, 0), (3, 0), (4, 0), (5, 0), (6, 0), (7, 1), (8, 0), (9, 0), (10, 0), (11, 1), (12, 1), (13, 0)] [] mixed (by kernel_rfl) ?_) | (refine St.draw (id := 5) [(0, 0), (1, 0), (2, 0), (3, 0), (4, 0), (5, 0), (6, 0), (7, 1), (8, 0), (9, 0), (10, 0), (11, 1), (12, 1), (13, 0), (14, 0)] [] mixed (by kernel_rfl) ?_) | (refine St.draw (id := 8) [(0, 0), (1, 0), (2, 0), (3, 0), (4, 0), (5, 0), (6, 0), (7, 1), (8, 0), (9, 0), (10, 0), (11, 1), (12, 0), (13, 3), (14, 0), (15, 3)] [13, 15] mixed (by kernel_rfl) ?_) | (refine St.draw (id := 10) [(0, 0), (1, 0), (2, 0), (3, 0), (4, 0), (5, 0), (6, 0), (7, 1), (8, 0), (9, 0), (10, 0), (11, 1), (12, 0), (13, 3), (14, 0), (15, 3)] [13, 15] mixed (by kernel_rfl) ?_) | (refine St.draw (id := 13) [(0, 0), (1, 0), (2, 0), (3, 0), (4, 0), (5, 0), (6, 0), (7, 1), (8, 0), (9, 0), (10, 0), (11, 1), (12, 1), (13, 0)] [] mixed (by kernel_rfl) ?_) | (refine St.draw (id := 15) [(0, 0), (1, 0), (2, 0), (3, 0), (4, 0), (5, 0), (6, 0), (7, 1), (8, 0), (9, 0), (10, 0), (11, 1), (12, 1), (13, 0), (14, 0)] [] mixed (by kernel_rfl) ?_) | (refine St.draw (id := 18) [(0, 0), (1, 0), (2, 0), (3, 0), (4, 0), (5, 0), (6, 0), (7, 1), (8, 0), (9, 0), (10, 0), (11, 1), (12, 0), (13, 3), (14, 0), (15, 3)] [13, 15] mixed (by kernel_rfl) ?_) | (refine St.draw (id := 21) [(0, 0), (1, 0), (2, 0), (3, 0), (4, 0), (5, 0), (6, 0), (7, 1), (8, 0), (9, 0), (10, 0), (11, 1), (12, 0), (13, 3), (14, 0), (15, 3)] [13, 15] mixed (by kernel_rfl) ?_) | (refine Ge ?_ ?_ <;> (intro h; try (exfalso; omega))) | fail)
              all_goals first | (exfalso; omega) | skip
              refine EX4 ⟨i, by omega, by omega, by omega⟩ ?_ ?_
              · exact Sub.go
              · exact Ent.go
          case after4 =>
            rintro ⟨i, hz1, hz2, hz3⟩; dsimp only at hz1 hz2 hz3 ⊢
            have hi1 := hz1; have hi2 := hz2; clear hz1 hz2 hz3
            refine St.loopZ (Lr := ?Lr5) (k' := ?kx5) (ι := { x : Int // (a : Int) ≤ x ∧ x ≤ j0 ∧ i ≤ x + 2 }) (κ := { x : Int // (a : Int) ≤ x ∧ x ≤ j0 ∧ i ≤ x + 2 }) (fun x => (x.1 + 3 - i).toNat) (fun x => [(11, .int .i64 x.1)]) (fun x => []) ⟨j0, by omega, by omega, by omega⟩ (fun x => [(11, .int .i64 x.1)]) (fun x => []) ?hE5 ?hL5 ?round5 ?after5
            case hE5 => exact Sub.go
            case hL5 => exact Takes.go
            case round5 =>
              rintro ⟨j, hz1, hz2, hz3⟩ IH5 EX5; dsimp only at hz1 hz2 hz3 IH5 EX5 ⊢
              by_cases hij : i ≤ j
              · have h1 := hl5 j (by omega) (by omega)
                have h2 := hl5 (a : Int) (by omega) (by omega)
                generalize cI l5 j = u at h1
                generalize cI l5 (a : Int) = v at h2
                have hs := less_r u v
                by_cases huv : u < v
                · rw [decide_eq_true huv] at hs
                  clear IH5
                  repeat' (first | refine St.halt 17 ?_ |refine Ga ?_ | (refine Gb ?_; intro b) | (refine Gd ?_; intro g cap rest hcap) | (refine Gc ?_; intro ad cap) | (refine St.draw (id := 1) [(0, 0), (1, 0), (2, 0), (3, 0), (4, 0), (5, 0), (6, 0), (7, 1), (8, 0), (9, 0), (10, 0), (11, 1), (12, 0), (13, 3), (14, 0), (15, 3)] [13, 15] mixed (by kernel_rfl) ?_) | (refine St.draw (id := 3) [(0, 0), (1, 0), (2, 0), (3, 0), (4, 0), (5, 0), (6, 0), (7, 1), (8, 0), (9, 0), (10, 0), (11, 1), (12, 1), (13, 0)] [] mixed (by kernel_rfl) ?_) | (refine St.draw (id := 5) [(0, 0), (1, 0), (2, 0), (3, 0), (4, 0), (5, 0), (6, 0), (7, 1), (8, 0), (9, 0), (10, 0), (11, 1), (12, 1), (13, 0), (14, 0)] [] mixed (by kernel_rfl) ?_) | (refine St.draw (id := 8) [(0, 0), (1, 0), (2, 0), (3, 0), (4, 0), (5, 0), (6, 0), (7, 1), (8, 0), (9, 0), (10, 0), (11, 1), (12, 0), (13, 3), (14, 0), (15, 3)] [13, 15] mixed (by kernel_rfl) ?_) | (refine St.draw (id := 10) [(0, 0), (1, 0), (2, 0), (3, 0), (4, 0), (5, 0), (6, 0), (7, 1), (8, 0), (9, 0), (10, 0), (11, 1), (12, 0), (13, 3), (14, 0), (15, 3)] [13, 15] mixed (by kernel_rfl) ?_) | (refine St.draw (id := 13) [(0, 0), (1, 0), (2, 0), (3, 0), (4, 0), (5, 0), (6, 0), (7, 1), (8, 0), (9, 0), (10, 0), (11, 1), (12, 1), (13, 0)] [] mixed (by kernel_rfl) ?_) | (refine St.draw (id := 15) [(0, 0), (1, 0), (2, 0), (3, 0), (4, 0), (5, 0), (6, 0), (7, 1), (8, 0), (9, 0), (10, 0), (11, 1), (12, 1), (13, 0), (14, 0)] [] mixed (by kernel_rfl) ?_) | (refine St.draw (id := 18) [(0, 0), (1, 0), (2, 0), (3, 0), (4, 0), (5, 0), (6, 0), (7, 1), (8, 0), (9, 0), (10, 0), (11, 1), (12, 0), (13, 3), (14, 0), (15, 3)] [13, 15] mixed (by kernel_rfl) ?_) | (refine St.draw (id := 21) [(0, 0), (1, 0), (2, 0), (3, 0), (4, 0), (5, 0), (6, 0), (7, 1), (8, 0), (9, 0), (10, 0), (11, 1), (12, 0), (13, 3), (14, 0), (15, 3)] [13, 15] mixed (by kernel_rfl) ?_)| refine Gl hs ?_ | (refine Ge ?_ ?_ <;> (intro h; try (exfalso; omega))) | fail)
                  all_goals first | (exfalso; omega) | skip
                  all_goals apply Halt.go
                  refine EX5 ⟨j, by omega, by omega, by omega⟩ ?_ ?_
                  · exact Sub.go
                  · exact Ent.go
                · rw [decide_eq_false huv] at hs
                  repeat' (first | refine Ga ?_ | (refine Gb ?_; intro b) | (refine Gd ?_; intro g cap rest hcap) | (refine Gc ?_; intro ad cap) | (refine St.draw (id := 1) [(0, 0), (1, 0), (2, 0), (3, 0), (4, 0), (5, 0), (6, 0), (7, 1), (8, 0), (9, 0), (10, 0), (11, 1), (12, 0), (13, 3), (14, 0), (15, 3)] [13, 15] mixed (by kernel_rfl) ?_) | (refine St.draw (id := 3) [(0, 0), (1, 0), (2, 0), (3, 0), (4, 0), (5, 0), (6, 0), (7, 1), (8, 0), (9, 0), (10, 0), (11, 1), (12, 1), (13, 0)] [] mixed (by kernel_rfl) ?_) | (refine St.draw (id := 5) [(0, 0), (1, 0), (2, 0), (3, 0), (4, 0), (5, 0), (6, 0), (7, 1), (8, 0), (9, 0), (10, 0), (11, 1), (12, 1), (13, 0), (14, 0)] [] mixed (by kernel_rfl) ?_) | (refine St.draw (id := 8) [(0, 0), (1, 0), (2, 0), (3, 0), (4, 0), (5, 0), (6, 0), (7, 1), (8, 0), (9, 0), (10, 0), (11, 1), (12, 0), (13, 3), (14, 0), (15, 3)] [13, 15] mixed (by kernel_rfl) ?_) | (refine St.draw (id := 10) [(0, 0), (1, 0), (2, 0), (3, 0), (4, 0), (5, 0), (6, 0), (7, 1), (8, 0), (9, 0), (10, 0), (11, 1), (12, 0), (13, 3), (14, 0), (15, 3)] [13, 15] mixed (by kernel_rfl) ?_) | (refine St.draw (id := 13) [(0, 0), (1, 0), (2, 0), (3, 0), (4, 0), (5, 0), (6, 0), (7, 1), (8, 0), (9, 0), (10, 0), (11, 1), (12, 1), (13, 0)] [] mixed (by kernel_rfl) ?_) | (refine St.draw (id := 15) [(0, 0), (1, 0), (2, 0), (3, 0), (4, 0), (5, 0), (6, 0), (7, 1), (8, 0), (9, 0), (10, 0), (11, 1), (12, 1), (13, 0), (14, 0)] [] mixed (by kernel_rfl) ?_) | (refine St.draw (id := 18) [(0, 0), (1, 0), (2, 0), (3, 0), (4, 0), (5, 0), (6, 0), (7, 1), (8, 0), (9, 0), (10, 0), (11, 1), (12, 0), (13, 3), (14, 0), (15, 3)] [13, 15] mixed (by kernel_rfl) ?_) | (refine St.draw (id := 21) [(0, 0), (1, 0), (2, 0), (3, 0), (4, 0), (5, 0), (6, 0), (7, 1), (8, 0), (9, 0), (10, 0), (11, 1), (12, 0), (13, 3), (14, 0), (15, 3)] [13, 15] mixed (by kernel_rfl) ?_)| refine Gl hs ?_ | (refine Ge ?_ ?_ <;> (intro h; try (exfalso; omega))) | fail)
                  all_goals first | (exfalso; omega) | skip
                  refine IH5 ⟨j - 1, by omega, by omega, by omega⟩ (by dsimp only; omega) ?_ ?_
                  · exact Sub.go
                  · exact Ent.go
              · clear IH5
                repeat' (first | refine St.halt 17 ?_ |refine Ga ?_ | (refine Gb ?_; intro b) | (refine Gd ?_; intro g cap rest hcap) | (refine Gc ?_; intro ad cap) | (refine St.draw (id := 1) [(0, 0), (1, 0), (2, 0), (3, 0), (4, 0), (5, 0), (6, 0), (7, 1), (8, 0), (9, 0), (10, 0), (11, 1), (12, 0), (13, 3), (14, 0), (15, 3)] [13, 15] mixed (by kernel_rfl) ?_) | (refine St.draw (id := 3) [(0, 0), (1, 0), (2, 0), (3, 0), (4, 0), (5, 0), (6, 0), (7, 1), (8, 0), (9, 0), (10, 0), (11, 1), (12, 1), (13, 0)] [] mixed (by kernel_rfl) ?_) | (refine St.draw (id := 5) [(0, 0), (1, 0), (2, 0), (3, 0), (4, 0), (5, 0), (6, 0), (7, 1), (8, 0), (9, 0), (10, 0), (11, 1), (12, 1), (13, 0), (14, 0)] [] mixed (by kernel_rfl) ?_) | (refine St.draw (id := 8) [(0, 0), (1, 0), (2, 0), (3, 0), (4, 0), (5, 0), (6, 0), (7, 1), (8, 0), (9, 0), (10, 0), (11, 1), (12, 0), (13, 3), (14, 0), (15, 3)] [13, 15] mixed (by kernel_rfl) ?_) | (refine St.draw (id := 10) [(0, 0), (1, 0), (2, 0), (3, 0), (4, 0), (5, 0), (6, 0), (7, 1), (8, 0), (9, 0), (10, 0), (11, 1), (12, 0), (13, 3), (14, 0), (15, 3)] [13, 15] mixed (by kernel_rfl) ?_) | (refine St.draw (id := 13) [(0, 0), (1, 0), (2, 0), (3, 0), (4, 0), (5, 0), (6, 0), (7, 1), (8, 0), (9, 0), (10, 0), (11, 1), (12, 1), (13, 0)] [] mixed (by kernel_rfl) ?_) | (refine St.draw (id := 15) [(0, 0), (1, 0), (2, 0), (3, 0), (4, 0), (5, 0), (6, 0), (7, 1), (8, 0), (9, 0), (10, 0), (11, 1), (12, 1), (13, 0), (14, 0)] [] mixed (by kernel_rfl) ?_) | (refine St.draw (id := 18) [(0, 0), (1, 0), (2, 0), (3, 0), (4, 0), (5, 0), (6, 0), (7, 1), (8, 0), (9, 0), (10, 0), (11, 1), (12, 0), (13, 3), (14, 0), (15, 3)] [13, 15] mixed (by kernel_rfl) ?_) | (refine St.draw (id := 21) [(0, 0), (1, 0), (2, 0), (3, 0), (4, 0), (5, 0), (6, 0), (7, 1), (8, 0), (9, 0), (10, 0), (11, 1), (12, 0), (13, 3), (14, 0), (15, 3)] [13, 15] mixed (by kernel_rfl) ?_) | (refine Ge ?_ ?_ <;> (intro h; try (exfalso; omega))) | fail)
                all_goals first | (exfalso; omega) | skip
                all_goals apply Halt.go
                refine EX5 ⟨j, by omega, by omega, by omega⟩ ?_ ?_
                · exact Sub.go
                · exact Ent.go
            case after5 =>
              rintro ⟨j, hz1, hz2, hz3⟩; dsimp only at hz1 hz2 hz3 ⊢
              have h1 := hl5 j (by omega) (by omega)
              have h2 := hl5 (a : Int) (by omega) (by omega)
              by_cases hij : j < i
              · clear IH3
                obtain ⟨jn, rfl⟩ : ∃ jn : Nat, j = jn := ⟨j.toNat, by omega⟩
                generalize cI l5 (jn : Int) = u at h1
                generalize cI l5 (a : Int) = v at h2
                obtain ⟨l3, l4, s1, s2, hl4⟩ := hl5.swap (jn : Int) (a : Int) (by omega) (by omega) (by omega) (by omega) u v
                repeat' (first | refine Ga ?_ | (refine Gb ?_; intro b) | (refine Gd ?_; intro g cap rest hcap) | (refine Gc ?_; intro ad cap) | (refine St.draw (id := 1) [(0, 0), (1, 0), (2, 0), (3, 0), (4, 0), (5, 0), (6, 0), (7, 1), (8, 0), (9, 0), (10, 0), (11, 1), (12, 0), (13, 3), (14, 0), (15, 3)] [13, 15] mixed (by kernel_rfl) ?_) | (refine St.draw (id := 3) [(0, 0), (1, 0), (2, 0), (3, 0), (4, 0), (5, 0), (6, 0), (7, 1), (8, 0), (9, 0), (10, 0), (11, 1), (12, 1), (13, 0)] [] mixed (by kernel_rfl) ?_) | (refine St.draw (id := 5) [(0, 0), (1, 0), (2, 0), (3, 0), (4, 0), (5, 0), (6, 0), (7, 1), (8, 0), (9, 0), (10, 0), (11, 1), (12, 1), (13, 0), (14, 0)] [] mixed (by kernel_rfl) ?_) | (refine St.draw (id := 8) [(0, 0), (1, 0), (2, 0), (3, 0), (4, 0), (5, 0), (6, 0), (7, 1), (8, 0), (9, 0), (10, 0), (11, 1), (12, 0), (13, 3), (14, 0), (15, 3)] [13, 15] mixed (by kernel_rfl) ?_) | (refine St.draw (id := 10) [(0, 0), (1, 0), (2, 0), (3, 0), (4, 0), (5, 0), (6, 0), (7, 1), (8, 0), (9, 0), (10, 0), (11, 1), (12, 0), (13, 3), (14, 0), (15, 3)] [13, 15] mixed (by kernel_rfl) ?_) | (refine St.draw (id := 13) [(0, 0), (1, 0), (2, 0), (3, 0), (4, 0), (5, 0), (6, 0), (7, 1), (8, 0), (9, 0), (10, 0), (11, 1), (12, 1), (13, 0)] [] mixed (by kernel_rfl) ?_) | (refine St.draw (id := 15) [(0, 0), (1, 0), (2, 0), (3, 0), (4, 0), (5, 0), (6, 0), (7, 1), (8, 0), (9, 0), (10, 0), (11, 1), (12, 1), (13, 0), (14, 0)] [] mixed (by kernel_rfl) ?_) | (refine St.draw (id := 18) [(0, 0), (1, 0), (2, 0), (3, 0), (4, 0), (5, 0), (6, 0), (7, 1), (8, 0), (9, 0), (10, 0), (11, 1), (12, 0), (13, 3), (14, 0), (15, 3)] [13, 15] mixed (by kernel_rfl) ?_) | (refine St.draw (id := 21) [(0, 0), (1, 0), (2, 0), (3, 0), (4, 0), (5, 0), (6, 0), (7, 1), (8, 0), (9, 0), (10, 0), (11, 1), (12, 0), (13, 3), (14, 0), (15, 3)] [13, 15] mixed (by kernel_rfl) ?_) | (refine Ge ?_ ?_ <;> (intro h; try (exfalso; omega))) | fail)
                all_goals first | (exfalso; omega) | skip
                refine St.d1 Tryz.func303 ⟨_, ⟨jn, false, l4, rfl, by omega, by omega, hl4, rfl⟩, ?_⟩
                exact Ent.go
              · have h3 := hl5 i (by omega) (by omega)
                generalize cI l5 j = u at h1
                generalize cI l5 i = v at h3
                obtain ⟨l3, l4, s1, s2, hl4⟩ := hl5.swap i j (by omega) (by omega) (by omega) (by omega) v u
                repeat' (first | refine Ga ?_ | (refine Gb ?_; intro b) | (refine Gd ?_; intro g cap rest hcap) | (refine Gc ?_; intro ad cap) | (refine St.draw (id := 1) [(0, 0), (1, 0), (2, 0), (3, 0), (4, 0), (5, 0), (6, 0), (7, 1), (8, 0), (9, 0), (10, 0), (11, 1), (12, 0), (13, 3), (14, 0), (15, 3)] [13, 15] mixed (by kernel_rfl) ?_) | (refine St.draw (id := 3) [(0, 0), (1, 0), (2, 0), (3, 0), (4, 0), (5, 0), (6, 0), (7, 1), (8, 0), (9, 0), (10, 0), (11, 1), (12, 1), (13, 0)] [] mixed (by kernel_rfl) ?_) | (refine St.draw (id := 5) [(0, 0), (1, 0), (2, 0), (3, 0), (4, 0), (5, 0), (6, 0), (7, 1), (8, 0), (9, 0), (10, 0), (11, 1), (12, 1), (13, 0), (14, 0)] [] mixed (by kernel_rfl) ?_) | (refine St.draw (id := 8) [(0, 0), (1, 0), (2, 0), (3, 0), (4, 0), (5, 0), (6, 0), (7, 1), (8, 0), (9, 0), (10, 0), (11, 1), (12, 0), (13, 3), (14, 0), (15, 3)] [13, 15] mixed (by kernel_rfl) ?_) | (refine St.draw (id := 10) [(0, 0), (1, 0), (2, 0), (3, 0), (4, 0), (5, 0), (6, 0), (7, 1), (8, 0), (9, 0), (10, 0), (11, 1), (12, 0), (13, 3), (14, 0), (15, 3)] [13, 15] mixed (by kernel_rfl) ?_) | (refine St.draw (id := 13) [(0, 0), (1, 0), (2, 0), (3, 0), (4, 0), (5, 0), (6, 0), (7, 1), (8, 0), (9, 0), (10, 0), (11, 1), (12, 1), (13, 0)] [] mixed (by kernel_rfl) ?_) | (refine St.draw (id := 15) [(0, 0), (1, 0), (2, 0), (3, 0), (4, 0), (5, 0), (6, 0), (7, 1), (8, 0), (9, 0), (10, 0), (11, 1), (12, 1), (13, 0), (14, 0)] [] mixed (by kernel_rfl) ?_) | (refine St.draw (id := 18) [(0, 0), (1, 0), (2, 0), (3, 0), (4, 0), (5, 0), (6, 0), (7, 1), (8, 0), (9, 0), (10, 0), (11, 1), (12, 0), (13, 3), (14, 0), (15, 3)] [13, 15] mixed (by kernel_rfl) ?_) | (refine St.draw (id := 21) [(0, 0), (1, 0), (2, 0), (3, 0), (4, 0), (5, 0), (6, 0), (7, 1), (8, 0), (9, 0), (10, 0), (11, 1), (12, 0), (13, 3), (14, 0), (15, 3)] [13, 15] mixed (by kernel_rfl) ?_) | (refine Ge ?_ ?_ <;> (intro h; try (exfalso; omega))) | fail)
                all_goals first | (exfalso; omega) | skip
                refine IH3 ⟨(i + 1, j - 1, l4), by dsimp only; omega, by dsimp only; omega, by dsimp only; omega, by dsimp only; omega, hl4⟩ (by dsimp only; omega) ?_ ?_
                · exact Sub.go
                · exact Ent.go
set_option maxHeartbeats 4000000 in
theorem nequal_t (g cap n : Nat) (_hc : n ≤ cap) (hn : n < 50) (a b p : Nat) (hap : a ≤ p) (hpb : p < b) (hb : b ≤ n) (l : List Value) (hl : NumsU n l) : Tri Tryz.prog 302 #[.slice (some ⟨g, 0, none⟩) n cap, .int .i64 (a : Int), .int .i64 (b : Int), .int .i64 (p : Int)] [bl g 22 l]
    fun r L => ∃ (i : Nat) (l' : List Value), r = .int .i64 (i : Int) ∧ a < i ∧ i ≤ b ∧ NumsU n l' ∧ L = [bl g 22 l'] := by
  have q1 := hl (p : Int) (by omega) (by omega)
  have q2 := hl (a : Int) (by omega) (by omega)
  generalize cI l (p : Int) = y at q1
  generalize cI l (a : Int) = x at q2
  obtain ⟨l1, l2, t1, t2, hl2⟩ := hl.swap (a : Int) (p : Int) (by omega) (by omega) (by omega) (by omega) x y
  clear hl
  refine Tri.of_body (vs := [_, _, _, _]) Tryz.func302 rfl rfl fun w0 F => ?_
  repeat' (first | refine Ga ?_ | (refine Gb ?_; intro b) | (refine Gd ?_; intro g cap rest hcap) | (refine Gc ?_; intro ad cap) | (refine St.draw (id := 1) [(0, 0), (1, 0), (2, 0), (3, 0), (4, 0), (5, 0), (6, 0), (7, 1), (8, 0), (9, 0), (10, 0), (11, 1), (12, 0), (13, 3), (14, 0), (15, 3)] [13, 15] mixed (by kernel_rfl) ?_) | (refine St.draw (id := 3) [(0, 0), (1, 0), (2, 0), (3, 0), (4, 0), (5, 0), (6, 0), (7, 1), (8, 0), (9, 0), (10, 0), (11, 1), (12, 1), (13, 0), (14, 0)] [] mixed (by kernel_rfl) ?_) | (refine St.draw (id := 5) [(0, 0), (1, 0), (2, 0), (3, 0), (4, 0), (5, 0), (6, 0), (7, 1), (8, 0), (9, 0), (10, 0), (11, 1), (12, 1), (13, 0)] [] mixed (by kernel_rfl) ?_) | (refine St.draw (id := 8) [(0, 0), (1, 0), (2, 0), (3, 0), (4, 0), (5, 0), (6, 0), (7, 1), (8, 0), (9, 0), (10, 0), (11, 1), (12, 0), (13, 3), (14, 0), (15, 3)] [13, 15] mixed (by kernel_rfl) ?_) | (refine Ge ?_ ?_ <;> (intro h; try (exfalso; omega))) | fail)
  all_goals first | (exfalso; omega) | skip
  refine St.loopY (Lr := ?Lr3) (ι := { x : Int × Int × List Value // (a : Int) + 1 ≤ x.1 ∧ a ≤ x.2.1 ∧ x.1 ≤ x.2.1 + 2 ∧ x.2.1 < b ∧ x.1 ≤ b ∧ NumsU n x.2.2 }) (fun x => (x.1.2.1 + 3 - x.1.1).toNat) (fun x => [(9, .int .i64 x.1.1), (10, .int .i64 x.1.2.1)]) (fun x => [bl g 22 x.1.2.2]) ⟨((a : Int) + 1, (b : Int) - 1, l2), by dsimp only; omega, by dsimp only; omega, by dsimp only; omega, by dsimp only; omega, by dsimp only; omega, hl2⟩ ?hE3 ?hL3 ?round3
  case hE3 => exact Sub.go
  case hL3 => exact Takes.go
  case round3 =>
    rintro ⟨⟨i0, j0, l5⟩, hi0, hj0, hij0, hjb0, hib0, hl5⟩ IH3; dsimp only at hi0 hj0 hij0 hjb0 hib0 hl5 IH3 ⊢
    repeat' (first | refine Ga ?_ | (refine Gb ?_; intro b) | (refine Gd ?_; intro g cap rest hcap) | (refine Gc ?_; intro ad cap) | (refine St.draw (id := 1) [(0, 0), (1, 0), (2, 0), (3, 0), (4, 0), (5, 0), (6, 0), (7, 1), (8, 0), (9, 0), (10, 0), (11, 1), (12, 0), (13, 3), (14, 0), (15, 3)] [13, 15] mixed (by kernel_rfl) ?_) | (refine St.draw (id := 3) [(0, 0), (1, 0), (2, 0), (3, 0), (4, 0), (5, 0), (6, 0), (7, 1), (8, 0), (9, 0), (10, 0), (11, 1), (12, 1), (13, 0), (14, 0)] [] mixed (by kernel_rfl) ?_) | (refine St.draw (id := 5) [(0, 0), (1, 0), (2, 0), (3, 0), (4, 0), (5, 0), (6, 0), (7, 1), (8, 0), (9, 0), (10, 0), (11, 1), (12, 1), (13, 0)] [] mixed (by kernel_rfl) ?_) | (refine St.draw (id := 8) [(0, 0), (1, 0), (2, 0), (3, 0), (4, 0), (5, 0), (6, 0), (7, 1), (8, 0), (9, 0), (10, 0), (11, 1), (12, 0), (13, 3), (14, 0), (15, 3)] [13, 15] mixed (by kernel_rfl) ?_) | (refine Ge ?_ ?_ <;> (intro h; try (exfalso; omega))) | fail)
    refine St.loopZ (Lr := ?Lr4) (k' := ?kx4) (ι := { x : Int // i0 ≤ x ∧ x ≤ j0 + 2 ∧ x ≤ b }) (κ := { x : Int // i0 ≤ x ∧ x ≤ j0 + 2 ∧ x ≤ b }) (fun x => (j0 + 3 - x.1).toNat) (fun x => [(9, .int .i64 x.1)]) (fun x => []) ⟨i0, by omega, by omega, by omega⟩ (fun x => [(9, .int .i64 x.1)]) (fun x => []) ?hE4 ?hL4 ?round4 ?after4
    case hE4 => exact Sub.go
    case hL4 => exact Takes.go
    case round4 =>
      rintro ⟨i, hz1, hz2, hz3⟩ IH4 EX4; dsimp only at hz1 hz2 hz3 IH4 EX4 ⊢
      by_cases hij : i ≤ j0
      · have h1 := hl5 i (by omega) (by omega)
        have h2 := hl5 (a : Int) (by omega) (by omega)
        generalize cI l5 i = u at h1
        generalize cI l5 (a : Int) = v at h2
        have hs := less_r v u
        by_cases huv : v < u
        · rw [decide_eq_true huv] at hs
          clear IH4
          repeat' (first | refine Ga ?_ | (refine Gb ?_; intro b) | (refine Gd ?_; intro g cap rest hcap) | (refine Gc ?_; intro ad cap) | (refine St.draw (id := 1) [(0, 0), (1, 0), (2, 0), (3, 0), (4, 0), (5, 0), (6, 0), (7, 1), (8, 0), (9, 0), (10, 0), (11, 1), (12, 0), (13, 3), (14, 0), (15, 3)] [13, 15] mixed (by kernel_rfl) ?_) | (refine St.draw (id := 3) [(0, 0), (1, 0), (2, 0), (3, 0), (4, 0), (5, 0), (6, 0), (7, 1), (8, 0), (9, 0), (10, 0), (11, 1), (12, 1), (13, 0), (14, 0)] [] mixed (by kernel_rfl) ?_) | (refine St.draw (id := 5) [(0, 0), (1, 0), (2, 0), (3, 0), (4, 0), (5, 0), (6, 0), (7, 1), (8, 0), (9, 0), (10, 0), (11, 1), (12, 1), (13, 0)] [] mixed (by kernel_rfl) ?_) | (refine St.draw (id := 8) [(0, 0), (1, 0), (2, 0), (3, 0), (4, 0), (5, 0), (6, 0), (7, 1), (8, 0), (9, 0), (10, 0), (11, 1), (12, 0), (13, 3), (14, 0), (15, 3)] [13, 15] mixed (by kernel_rfl) ?_)| refine Gl hs ?_ | (refine Ge ?_ ?_ <;> (intro h; try (exfalso; omega))) | fail)
          all_goals first | (exfalso; omega) | skip
          refine EX4 ⟨i, by omega, by omega, by omega⟩ ?_ ?_
          · exact Sub.go
          · exact Ent.go
        · rw [decide_eq_false huv] at hs
          repeat' (first | refine Ga ?_ | (refine Gb ?_; intro b) | (refine Gd ?_; intro g cap rest hcap) | (refine Gc ?_; intro ad cap) | (refine St.draw (id := 1) [(0, 0), (1, 0), (2, 0), (3, 0), (4, 0), (5, 0), (6, 0), (7, 1), (8, 0), (9, 0), (10, 0), (11, 1), (12, 0), (13, 3), (14, 0), (15, 3)] [13, 15] mixed (by kernel_rfl) ?_) | (refine St.draw (id := 3) [(0, 0), (1, 0), (2, 0), (3, 0), (4, 0), (5, 0), (6, 0), (7, 1), (8, 0), (9, 0), (10, 0), (11, 1), (12, 1), (13, 0), (14, 0)] [] mixed (by kernel_rfl) ?_) | (refine St.draw (id := 5) [(0, 0), (1, 0), (2, 0), (3, 0), (4, 0), (5, 0), (6, 0), (7, 1), (8, 0), (9, 0), (10, 0), (11, 1), (12, 1), (13, 0)] [] mixed (by kernel_rfl) ?_) | (refine St.draw (id := 8) [(0, 0), (1, 0), (2, 0), (3, 0), (4, 0), (5, 0), (6, 0), (7, 1), (8, 0), (9, 0), (10, 0), (11, 1), (12, 0), (13, 3), (14, 0), (15, 3)] [13, 15] mixed (by kernel_rfl) ?_)| refine Gl hs ?_ | (refine Ge ?_ ?_ <;> (intro h; try (exfalso; omega))) | fail)
          all_goals first | (exfalso; omega) | skip
          refine IH4 ⟨i + 1, by omega, by omega, by omega⟩ (by dsimp only; omega) ?_ ?_
          · exact Sub.go
          · exact Ent.go
      · clear IH4
        repeat' (first | refine Ga ?_ | (refine Gb ?_; intro b) | (refine Gd ?_; intro g cap rest hcap) | (refine Gc ?_; intro ad cap) | (refine St.draw (id := 1) [(0, 0), (1, 0), (2, 0), (3, 0), (4, 0), (5, 0), (6, 0), (7, 1), (8, 0), (9, 0), (10, 0), (11, 1), (12, 0), (13, 3), (14, 0), (15, 3)] [13, 15] mixed (by kernel_rfl) ?_) | (refine St.draw (id := 3) [(0, 0), (1, 0), (2, 0), (3, 0), (4, 0), (5, 0), (6, 0), (7, 1), (8, 0), (9, 0), (10, 0), (11, 1), (12, 1), (13, 0), (14, 0)] [] mixed (by kernel_rfl) ?_) | (refine St.draw (id := 5) [(0, 0), (1, 0), (2, 0), (3, 0), (4, 0), (5, 0), (6, 0), (7, 1), (8, 0), (9, 0), (10, 0), (11, 1), (12, 1), (13, 0)] [] mixed (by kernel_rfl) ?_) | (refine St.draw (id := 8) [(0, 0), (1, 0), (2, 0), (3, 0), (4, 0), (5, 0), (6, 0), (7, 1), (8, 0), (9, 0), (10, 0), (11, 1), (12, 0), (13, 3), (14, 0), (15, 3)] [13, 15] mixed (by kernel_rfl) ?_) | (refine Ge ?_ ?_ <;> (intro h; try (exfalso; omega))) | fail)
        all_goals first | (exfalso; omega) | skip
        refine EX4 ⟨i, by omega, by omega, by omega⟩ ?_ ?_
        · exact Sub.go
        · exact Ent.go
    case after4 =>
      rintro ⟨i, hz1, hz2, hz3⟩; dsimp only at hz1 hz2 hz3 ⊢
      have hi1 := hz1; have hi2 := hz2; have hi3 := hz3; clear hz1 hz2 hz3
      refine St.loopZ (Lr := ?Lr5) (k' := ?kx5) (ι := { x : Int // (a : Int) ≤ x ∧ x ≤ j0 ∧ i ≤ x + 2 }) (κ := { x : Int // (a : Int) ≤ x ∧ x ≤ j0 ∧ i ≤ x + 2 }) (fun x => (x.1 + 3 - i).toNat) (fun x => [(10, .int .i64 x.1)]) (fun x => []) ⟨j0, by omega, by omega, by omega⟩ (fun x => [(10, .int .i64 x.1)]) (fun x => []) ?hE5 ?hL5 ?round5 ?after5
      case hE5 => exact Sub.go
      case hL5 => exact Takes.go
      case round5 =>
        rintro ⟨j, hz1, hz2, hz3⟩ IH5 EX5; dsimp only at hz1 hz2 hz3 IH5 EX5 ⊢
        by_cases hij : i ≤ j
        · have h1 := hl5 j (by omega) (by omega)
          have h2 := hl5 (a : Int) (by omega) (by omega)
          generalize cI l5 j = u at h1
          generalize cI l5 (a : Int) = v at h2
          have hs := less_r v u
          by_cases huv : v < u
          · rw [decide_eq_true huv] at hs
            repeat' (first | refine Ga ?_ | (refine Gb ?_; intro b) | (refine Gd ?_; intro g cap rest hcap) | (refine Gc ?_; intro ad cap) | (refine St.draw (id := 1) [(0, 0), (1, 0), (2, 0), (3, 0), (4, 0), (5, 0), (6, 0), (7, 1), (8, 0), (9, 0), (10, 0), (11, 1), (12, 0), (13, 3), (14, 0), (15, 3)] [13, 15] mixed (by kernel_rfl) ?_) | (refine St.draw (id := 3) [(0, 0), (1, 0), (2, 0), (3, 0), (4, 0), (5, 0), (6, 0), (7, 1), (8, 0), (9, 0), (10, 0), (11, 1), (12, 1), (13, 0), (14, 0)] [] mixed (by kernel_rfl) ?_) | (refine St.draw (id := 5) [(0, 0), (1, 0), (2, 0), (3, 0), (4, 0), (5, 0), (6, 0), (7, 1), (8, 0), (9, 0), (10, 0), (11, 1), (12, 1), (13, 0)] [] mixed (by kernel_rfl) ?_) | (refine St.draw (id := 8) [(0, 0), (1, 0), (2, 0), (3, 0), (4, 0), (5, 0), (6, 0), (7, 1), (8, 0), (9, 0), (10, 0), (11, 1), (12, 0), (13, 3), (14, 0), (15, 3)] [13, 15] mixed (by kernel_rfl) ?_)| refine Gl hs ?_ | (refine Ge ?_ ?_ <;> (intro h; try (exfalso; omega))) | fail)
            all_goals first | (exfalso; omega) | skip
            refine IH5 ⟨j - 1, by omega, by omega, by omega⟩ (by dsimp only; omega) ?_ ?_
            · exact Sub.go
            · exact Ent.go
          · rw [decide_eq_false huv] at hs
            clear IH5
            repeat' (first | refine St.halt 7 ?_ |refine Ga ?_ | (refine Gb ?_; intro b) | (refine Gd ?_; intro g cap rest hcap) | (refine Gc ?_; intro ad cap) | (refine St.draw (id := 1) [(0, 0), (1, 0), (2, 0), (3, 0), (4, 0), (5, 0), (6, 0), (7, 1), (8, 0), (9, 0), (10, 0), (11, 1), (12, 0), (13, 3), (14, 0), (15, 3)] [13, 15] mixed (by kernel_rfl) ?_) | (refine St.draw (id := 3) [(0, 0), (1, 0), (2, 0), (3, 0), (4, 0), (5, 0), (6, 0), (7, 1), (8, 0), (9, 0), (10, 0), (11, 1), (12, 1), (13, 0), (14, 0)] [] mixed (by kernel_rfl) ?_) | (refine St.draw (id := 5) [(0, 0), (1, 0), (2, 0), (3, 0), (4, 0), (5, 0), (6, 0), (7, 1), (8, 0), (9, 0), (10, 0), (11, 1), (12, 1), (13, 0)] [] mixed (by kernel_rfl) ?_) | (refine St.draw (id := 8) [(0, 0), (1, 0), (2, 0), (3, 0), (4, 0), (5, 0), (6, 0), (7, 1), (8, 0), (9, 0), (10, 0), (11, 1), (12, 0), (13, 3), (14, 0), (15, 3)] [13, 15] mixed (by kernel_rfl) ?_)| refine Gl hs ?_ | (refine Ge ?_ ?_ <;> (intro h; try (exfalso; omega))) | fail)
            all_goals first | (exfalso; omega) | skip
            all_goals apply Halt.go
            refine EX5 ⟨j, by omega, by omega, by omega⟩ ?_ ?_
            · exact Sub.go
            · exact Ent.go
        · clear IH5
          repeat' (first | refine St.halt 7 ?_ |refine Ga ?_ | (refine Gb ?_; intro b) | (refine Gd ?_; intro g cap rest hcap) | (refine Gc ?_; intro ad cap) | (refine St.draw (id := 1) [(0, 0), (1, 0), (2, 0), (3, 0), (4, 0), (5, 0), (6, 0), (7, 1), (8, 0), (9, 0), (10, 0), (11, 1), (12, 0), (13, 3), (14, 0), (15, 3)] [13, 15] mixed (by kernel_rfl) ?_) | (refine St.draw (id := 3) [(0, 0), (1, 0), (2, 0), (3, 0), (4, 0), (5, 0), (6, 0), (7, 1), (8, 0), (9, 0), (10, 0), (11, 1), (12, 1), (13, 0), (14, 0)] [] mixed (by kernel_rfl) ?_) | (refine St.draw (id := 5) [(0, 0), (1, 0), (2, 0), (3, 0), (4, 0), (5, 0), (6, 0), (7, 1), (8, 0), (9, 0), (10, 0), (11, 1), (12, 1), (13, 0)] [] mixed (by kernel_rfl) ?_) | (refine St.draw (id := 8) [(0, 0), (1, 0), (2, 0), (3, 0), (4, 0), (5, 0), (6, 0), (7, 1), (8, 0), (9, 0), (10, 0), (11, 1), (12, 0), (13, 3), (14, 0), (15, 3)] [13, 15] mixed (by kernel_rfl) ?_) | (refine Ge ?_ ?_ <;> (intro h; try (exfalso; omega))) | fail)
          all_goals first | (exfalso; omega) | skip
          all_goals apply Halt.go
          refine EX5 ⟨j, by omega, by omega, by omega⟩ ?_ ?_
          · exact Sub.go
          · exact Ent.go
      case after5 =>
        rintro ⟨j, hz1, hz2, hz3⟩; dsimp only at hz1 hz2 hz3 ⊢
        by_cases hij : j < i
        · clear IH3
          obtain ⟨jn, rfl⟩ : ∃ jn : Nat, i = jn := ⟨i.toNat, by omega⟩
          repeat' (first | refine Ga ?_ | (refine Gb ?_; intro b) | (refine Gd ?_; intro g cap rest hcap) | (refine Gc ?_; intro ad cap) | (refine St.draw (id := 1) [(0, 0), (1, 0), (2, 0), (3, 0), (4, 0), (5, 0), (6, 0), (7, 1), (8, 0), (9, 0), (10, 0), (11, 1), (12, 0), (13, 3), (14, 0), (15, 3)] [13, 15] mixed (by kernel_rfl) ?_) | (refine St.draw (id := 3) [(0, 0), (1, 0), (2, 0), (3, 0), (4, 0), (5, 0), (6, 0), (7, 1), (8, 0), (9, 0), (10, 0), (11, 1), (12, 1), (13, 0), (14, 0)] [] mixed (by kernel_rfl) ?_) | (refine St.draw (id := 5) [(0, 0), (1, 0), (2, 0), (3, 0), (4, 0), (5, 0), (6, 0), (7, 1), (8, 0), (9, 0), (10, 0), (11, 1), (12, 1), (13, 0)] [] mixed (by kernel_rfl) ?_) | (refine St.draw (id := 8) [(0, 0), (1, 0), (2, 0), (3, 0), (4, 0), (5, 0), (6, 0), (7, 1), (8, 0), (9, 0), (10, 0), (11, 1), (12, 0), (13, 3), (14, 0), (15, 3)] [13, 15] mixed (by kernel_rfl) ?_) | (refine Ge ?_ ?_ <;> (intro h; try (exfalso; omega))) | fail)
          all_goals first | (exfalso; omega) | skip
          refine St.d1 Tryz.func302 ⟨_, ⟨jn, l5, rfl, by omega, by omega, hl5, rfl⟩, ?_⟩
          exact Ent.go
        · have h1 := hl5 j (by omega) (by omega)
          have h3 := hl5 i (by omega) (by omega)
          generalize cI l5 j = u at h1
          generalize cI l5 i = v at h3
          obtain ⟨l3, l4, s1, s2, hl4⟩ := hl5.swap i j (by omega) (by omega) (by omega) (by omega) v u
          repeat' (first | refine Ga ?_ | (refine Gb ?_; intro b) | (refine Gd ?_; intro g cap rest hcap) | (refine Gc ?_; intro ad cap) | (refine St.draw (id := 1) [(0, 0), (1, 0), (2, 0), (3, 0), (4, 0), (5, 0), (6, 0), (7, 1), (8, 0), (9, 0), (10, 0), (11, 1), (12, 0), (13, 3), (14, 0), (15, 3)] [13, 15] mixed (by kernel_rfl) ?_) | (refine St.draw (id := 3) [(0, 0), (1, 0), (2, 0), (3, 0), (4, 0), (5, 0), (6, 0), (7, 1), (8, 0), (9, 0), (10, 0), (11, 1), (12, 1), (13, 0), (14, 0)] [] mixed (by kernel_rfl) ?_) | (refine St.draw (id := 5) [(0, 0), (1, 0), (2, 0), (3, 0), (4, 0), (5, 0), (6, 0), (7, 1), (8, 0), (9, 0), (10, 0), (11, 1), (12, 1), (13, 0)] [] mixed (by kernel_rfl) ?_) | (refine St.draw (id := 8) [(0, 0), (1, 0), (2, 0), (3, 0), (4, 0), (5, 0), (6, 0), (7, 1), (8, 0), (9, 0), (10, 0), (11, 1), (12, 0), (13, 3), (14, 0), (15, 3)] [13, 15] mixed (by kernel_rfl) ?_) | (refine Ge ?_ ?_ <;> (intro h; try (exfalso; omega))) | fail)
          all_goals first | (exfalso; omega) | skip
          refine IH3 ⟨(i + 1, j - 1, l4), by dsimp only; omega, by dsimp only; omega, by dsimp only; omega, by dsimp only; omega, by dsimp only; omega, hl4⟩ (by dsimp only; omega) ?_ ?_
          · exact Sub.go
          · exact Ent.go
end Go.Proofs.YthmbgodcpgkkeaaGreat
