/-
  slices.Sort of fewer than fifty numbers: patterns broken, the sort itself.
-/
import Derived.Test.YthmbgodcpgkkeaaGreatSp
namespace Go.Proofs.YthmbgodcpgkkeaaGreat
set_option maxRecDepth 100000
theorem OpV.shl {P : Program} {n' : Fi} {E : Env} {L : List HProp} {ty t t' : TypeId} {x y : Operand} {kd kd' : IntKind} {a b : Int} (hx : ev E x = some (.int kd a)) (hy : ev E y = some (.int kd' b)) (h1 : 0 ≤ b)
    : OpV P n' (.binOp .shl t x y t') ty E L (.int kd (kd.wrap (a * 2 ^ min b.toNat kd.bits))) := by
  unfold OpV
  exact (fun d ps af g ac w ha _ => by
    have h2 : ¬ b < 0 := by omega
    simp [execOp, ha.ev hx, ha.ev hy, eqGuard, binOp, Op.shift, h2])
theorem AndIs.le (a : Int) (b : Nat) (hb : b < 9223372036854775808) : ∃ c : Int, AndIs .u64 a (b : Int) c ∧ 0 ≤ c ∧ c ≤ b := by
  have e1 : (BitVec.ofInt 64 (b : Int)).toNat = b := by
    rw [BitVec.toNat_ofInt]
    have : (2 : Nat) ^ 64 = 18446744073709551616 := by decide
    omega
  have e2 : (BitVec.ofInt 64 a &&& BitVec.ofInt 64 (b : Int)).toNat ≤ b := by
    rw [BitVec.toNat_and, e1]
    exact Nat.and_le_right
  refine ⟨((BitVec.ofInt 64 a &&& BitVec.ofInt 64 (b : Int)).toNat : Int), ?_, by omega, by omega⟩
  unfold AndIs
  rw [show IntKind.u64.bits = 64 from rfl]
  exact wrap_fits (by simp only [fits]; omega)
theorem St.joinZ {P : Program} {C : Cx} {k k' : List Item} {E : Env} {L : List HProp} {κ : Type} (mx : κ → Env) (px : κ → List HProp) {Lr : List HProp}
    (round : (∀ (x : κ) {E' : Env} {L' : List HProp}, Sub E' (mx x) → Ent L' (px x ++ Lr) → St P C k' E' L') → St P C k E L)
    (after : ∀ x : κ, St P C k' (mx x) (px x ++ Lr)) : St P C k E L :=
  round fun x _ _ h1 h2 => (after x).conv h1 h2
theorem nlen64_t (n : Nat) (hn : n < 50) : Tri Tryz.prog 305 #[.int .u64 (n : Int)] [] fun r L => ∃ k : Nat, r = .int .i64 (k : Int) ∧ (0 < n → 2 ^ k ≤ 2 * n) ∧ k ≤ 6 ∧ L = [] := by
  refine Tri.of_body (vs := [_]) Tryz.func305 rfl rfl fun w0 F => ?_
  repeat' (first | refine Ga ?_ | (refine Gb ?_; intro b) | (refine Gd ?_; intro g cap rest hcap) | (refine Gc ?_; intro ad cap)  | (refine Ge ?_ ?_ <;> (intro h; try (exfalso; omega))) | fail)
  (apply StL.v; (apply OpV.idxStr; rfl; rfl; omega; (show (n : Int) < ((256 : Nat) : Int); omega)); rfl)
  generalize hbv : (Array.getD _ (n : Int).toNat _ : UInt8) = bv
  have hk : (0 < n → 2 ^ bv.toNat ≤ 2 * n) ∧ bv.toNat ≤ 6 := by
    rw [← hbv]
    clear hbv
    rcases (by omega : n = 0 ∨ n = 1 ∨ n = 2 ∨ n = 3 ∨ n = 4 ∨ n = 5 ∨ n = 6 ∨ n = 7 ∨ n = 8 ∨ n = 9 ∨ n = 10 ∨ n = 11 ∨ n = 12 ∨ n = 13 ∨ n = 14 ∨ n = 15 ∨ n = 16 ∨ n = 17 ∨ n = 18 ∨ n = 19 ∨ n = 20 ∨ n = 21 ∨ n = 22 ∨ n = 23 ∨ n = 24 ∨ n = 25 ∨ n = 26 ∨ n = 27 ∨ n = 28 ∨ n = 29 ∨ n = 30 ∨ n = 31 ∨ n = 32 ∨ n = 33 ∨ n = 34 ∨ n = 35 ∨ n = 36 ∨ n = 37 ∨ n = 38 ∨ n = 39 ∨ n = 40 ∨ n = 41 ∨ n = 42 ∨ n = 43 ∨ n = 44 ∨ n = 45 ∨ n = 46 ∨ n = 47 ∨ n = 48 ∨ n = 49) with rfl | rfl | rfl | rfl | rfl | rfl | rfl | rfl | rfl | rfl | rfl | rfl | rfl | rfl | rfl | rfl | rfl | rfl | rfl | rfl | rfl | rfl | rfl | rfl | rfl | rfl | rfl | rfl | rfl | rfl | rfl | rfl | rfl | rfl | rfl | rfl | rfl | rfl | rfl | rfl | rfl | rfl | rfl | rfl | rfl | rfl | rfl | rfl | rfl | rfl <;> decide +kernel
  obtain ⟨hk1, hk2⟩ := hk
  clear hbv
  repeat' (first | refine Ga ?_ | (refine Gb ?_; intro b) | (refine Gd ?_; intro g cap rest hcap) | (refine Gc ?_; intro ad cap)  | (refine Ge ?_ ?_ <;> (intro h; try (exfalso; omega))) | fail)
  refine St.d1 Tryz.func305 ⟨_, ⟨bv.toNat, ?_, hk1, hk2, rfl⟩, Ent.go⟩
  refine congrArg (Value.int .i64) ?_
  exact Int.zero_add _

theorem nlen_t (n : Nat) (hn : n < 50) : Tri Tryz.prog 279 #[.int .u64 (n : Int)] [] fun r L => ∃ k : Nat, r = .int .i64 (k : Int) ∧ (0 < n → 2 ^ k ≤ 2 * n) ∧ k ≤ 6 ∧ L = [] := by
  have h6 := nlen64_t n hn
  refine Tri.of_body (vs := [_]) Tryz.func279 rfl rfl fun w0 F => ?_
  repeat' (first | refine Ga ?_ | (refine Gb ?_; intro b) | (refine Gd ?_; intro g cap rest hcap) | (refine Gc ?_; intro ad cap)  | (refine Gt h6 ?_; rintro _ _ ⟨k, rfl, hk1, hk2, rfl⟩) | (refine Ge ?_ ?_ <;> (intro h; try (exfalso; omega))) | fail)
  refine St.d1 Tryz.func279 ⟨_, ⟨k, rfl, hk1, hk2, rfl⟩, Ent.go⟩
theorem npow_t (n : Nat) (h0 : 0 < n) (hn : n < 50) : Tri Tryz.prog 315 #[.int .i64 (n : Int)] [] fun r L => ∃ m : Nat, r = .int .u64 (m : Int) ∧ 0 < m ∧ m ≤ 2 * n ∧ L = [] := by
  have h6 := nlen_t n hn
  refine Tri.of_body (vs := [_]) Tryz.func315 rfl rfl fun w0 F => ?_
  repeat' (first | refine Ga ?_ | (refine Gb ?_; intro b) | (refine Gd ?_; intro g cap rest hcap) | (refine Gc ?_; intro ad cap)  | (refine Gt h6 ?_; rintro _ _ ⟨k, rfl, hk1, hk2, rfl⟩) | (refine Ge ?_ ?_ <;> (intro h; try (exfalso; omega))) | fail)
  (apply StL.v; (apply OpV.shl; rfl; rfl; omega); rfl)
  replace hk1 := hk1 h0
  have e : IntKind.u64.wrap (1 * 2 ^ min (k : Int).toNat IntKind.u64.bits) = ((2 ^ k : Nat) : Int) := by
    have hb : IntKind.u64.bits = 64 := rfl
    rw [Int.toNat_natCast, hb, show min k 64 = k by omega, Int.one_mul]
    rw [show ((2 : Int) ^ k) = ((2 ^ k : Nat) : Int) by rw [Int.natCast_pow]; rfl]
    generalize 2 ^ k = m at hk1 ⊢
    exact wrap_fits (by simp only [fits]; omega)
  rw [e]
  have hp : 0 < 2 ^ k := Nat.two_pow_pos k
  generalize 2 ^ k = m at hk1 hp
  repeat' (first | refine Ga ?_ | (refine Gb ?_; intro b) | (refine Gd ?_; intro g cap rest hcap) | (refine Gc ?_; intro ad cap)  | (refine Ge ?_ ?_ <;> (intro h; try (exfalso; omega))) | fail)
  refine St.d1 Tryz.func315 ⟨_, ⟨m, rfl, hp, hk1, rfl⟩, Ent.go⟩
/-- a shift, an exclusive or: of whatever comes -/
theorem nnext_t (R : Nat) (z : Int) (m : Nat) (hm : m < 9223372036854775808) : Tri Tryz.prog 316 #[.pointer (some ⟨R, 0, none⟩)] [bl R 422 [.int .u64 z]] fun r L => ∃ x c : Int, r = .int .u64 x ∧ AndIs .u64 x (m : Int) c ∧ 0 ≤ c ∧ c ≤ m ∧ L = [bl R 422 [.int .u64 x]] := by
  refine Tri.of_body (vs := [_]) Tryz.func316 rfl rfl fun w0 F => ?_
  repeat' (first | refine Ga ?_ | (refine Gb ?_; intro b) | (refine Gd ?_; intro g cap rest hcap) | (refine Gc ?_; intro ad cap) | (refine St.draw (id := 1) [(0, 0), (1, 0), (2, 1), (3, 0), (4, 0), (5, 1), (6, 0), (7, 0), (8, 0), (9, 3)] [9] mixed (by kernel_rfl) ?_) | (refine St.draw (id := 2) [(0, 0), (1, 0), (2, 1), (3, 0), (4, 0), (5, 1), (6, 0), (7, 0), (8, 0), (9, 3)] [9] mixed (by kernel_rfl) ?_) | (refine St.draw (id := 3) [(0, 0), (1, 0), (2, 1), (3, 0), (4, 0), (5, 1), (6, 0), (7, 0), (8, 0), (9, 3)] [9] mixed (by kernel_rfl) ?_) | (refine Ge ?_ ?_ <;> (intro h; try (exfalso; omega))) | fail)
  (apply Za; rfl; (refine ⟨?_, rfl⟩; apply OpV.shl; rfl; rfl; decide))
  generalize IntKind.u64.wrap (z * _) = z1
  repeat' (first | refine St.halt 2 ?_ |refine Ga ?_ | (refine Gb ?_; intro b) | (refine Gd ?_; intro g cap rest hcap) | (refine Gc ?_; intro ad cap) | (refine St.draw (id := 1) [(0, 0), (1, 0), (2, 1), (3, 0), (4, 0), (5, 1), (6, 0), (7, 0), (8, 0), (9, 3)] [9] mixed (by kernel_rfl) ?_) | (refine St.draw (id := 2) [(0, 0), (1, 0), (2, 1), (3, 0), (4, 0), (5, 1), (6, 0), (7, 0), (8, 0), (9, 3)] [9] mixed (by kernel_rfl) ?_) | (refine St.draw (id := 3) [(0, 0), (1, 0), (2, 1), (3, 0), (4, 0), (5, 1), (6, 0), (7, 0), (8, 0), (9, 3)] [9] mixed (by kernel_rfl) ?_) | (refine Ge ?_ ?_ <;> (intro h; try (exfalso; omega))) | fail)
  apply Halt.go
  generalize IntKind.u64.wrap _ = z2
  repeat' (first | refine St.halt 3 ?_ |refine Ga ?_ | (refine Gb ?_; intro b) | (refine Gd ?_; intro g cap rest hcap) | (refine Gc ?_; intro ad cap) | (refine St.draw (id := 1) [(0, 0), (1, 0), (2, 1), (3, 0), (4, 0), (5, 1), (6, 0), (7, 0), (8, 0), (9, 3)] [9] mixed (by kernel_rfl) ?_) | (refine St.draw (id := 2) [(0, 0), (1, 0), (2, 1), (3, 0), (4, 0), (5, 1), (6, 0), (7, 0), (8, 0), (9, 3)] [9] mixed (by kernel_rfl) ?_) | (refine St.draw (id := 3) [(0, 0), (1, 0), (2, 1), (3, 0), (4, 0), (5, 1), (6, 0), (7, 0), (8, 0), (9, 3)] [9] mixed (by kernel_rfl) ?_) | (refine Ge ?_ ?_ <;> (intro h; try (exfalso; omega))) | fail)
  apply Halt.go
  generalize IntKind.u64.wrap _ = z3
  repeat' (first | refine Ga ?_ | (refine Gb ?_; intro b) | (refine Gd ?_; intro g cap rest hcap) | (refine Gc ?_; intro ad cap) | (refine St.draw (id := 1) [(0, 0), (1, 0), (2, 1), (3, 0), (4, 0), (5, 1), (6, 0), (7, 0), (8, 0), (9, 3)] [9] mixed (by kernel_rfl) ?_) | (refine St.draw (id := 2) [(0, 0), (1, 0), (2, 1), (3, 0), (4, 0), (5, 1), (6, 0), (7, 0), (8, 0), (9, 3)] [9] mixed (by kernel_rfl) ?_) | (refine St.draw (id := 3) [(0, 0), (1, 0), (2, 1), (3, 0), (4, 0), (5, 1), (6, 0), (7, 0), (8, 0), (9, 3)] [9] mixed (by kernel_rfl) ?_) | (refine Ge ?_ ?_ <;> (intro h; try (exfalso; omega))) | fail)
  (apply Za; rfl; (refine ⟨?_, rfl⟩; apply OpV.shl; rfl; rfl; decide))
  generalize IntKind.u64.wrap (z3 * _) = z4
  repeat' (first | refine St.halt 4 ?_ |refine Ga ?_ | (refine Gb ?_; intro b) | (refine Gd ?_; intro g cap rest hcap) | (refine Gc ?_; intro ad cap) | (refine St.draw (id := 1) [(0, 0), (1, 0), (2, 1), (3, 0), (4, 0), (5, 1), (6, 0), (7, 0), (8, 0), (9, 3)] [9] mixed (by kernel_rfl) ?_) | (refine St.draw (id := 2) [(0, 0), (1, 0), (2, 1), (3, 0), (4, 0), (5, 1), (6, 0), (7, 0), (8, 0), (9, 3)] [9] mixed (by kernel_rfl) ?_) | (refine St.draw (id := 3) [(0, 0), (1, 0), (2, 1), (3, 0), (4, 0), (5, 1), (6, 0), (7, 0), (8, 0), (9, 3)] [9] mixed (by kernel_rfl) ?_) | (refine Ge ?_ ?_ <;> (intro h; try (exfalso; omega))) | fail)
  apply Halt.go
  generalize IntKind.u64.wrap _ = z5
  obtain ⟨c, h1, h2, h3⟩ := AndIs.le z5 m hm
  repeat' (first | refine Ga ?_ | (refine Gb ?_; intro b) | (refine Gd ?_; intro g cap rest hcap) | (refine Gc ?_; intro ad cap) | (refine St.draw (id := 1) [(0, 0), (1, 0), (2, 1), (3, 0), (4, 0), (5, 1), (6, 0), (7, 0), (8, 0), (9, 3)] [9] mixed (by kernel_rfl) ?_) | (refine St.draw (id := 2) [(0, 0), (1, 0), (2, 1), (3, 0), (4, 0), (5, 1), (6, 0), (7, 0), (8, 0), (9, 3)] [9] mixed (by kernel_rfl) ?_) | (refine St.draw (id := 3) [(0, 0), (1, 0), (2, 1), (3, 0), (4, 0), (5, 1), (6, 0), (7, 0), (8, 0), (9, 3)] [9] mixed (by kernel_rfl) ?_) | (refine Ge ?_ ?_ <;> (intro h; try (exfalso; omega))) | fail)
  refine St.d1 Tryz.func316 ⟨_, ⟨z5, c, rfl, h1, h2, h3, rfl⟩, Ent.go⟩
set_option maxHeartbeats 2000000 in
theorem nbreak_t (g cap n : Nat) (_hc : n ≤ cap) (hn : n < 50) (a b : Nat) (hab : a + 8 ≤ b) (hb : b ≤ n) (l : List Value) (hl : NumsU n l) : Tri Tryz.prog 297 #[.slice (some ⟨g, 0, none⟩) n cap, .int .i64 (a : Int), .int .i64 (b : Int)] [bl g 22 l]
    fun r L => ∃ l', r = .tuple ⟨[]⟩ ∧ NumsU n l' ∧ L = [bl g 22 l'] := by
  obtain ⟨d, hd⟩ : ∃ d : Nat, d = b - a := ⟨_, rfl⟩
  have e1 : (b : Int) - a = d := by omega
  have hp := npow_t d (by omega) (by omega)
  obtain ⟨q, hq⟩ : ∃ q : Nat, q = d / 4 := ⟨_, rfl⟩
  have e2 : (d : Int) / 4 = q := by omega
  refine Tri.of_body (vs := [_, _, _]) Tryz.func297 rfl rfl fun w0 F => ?_
  repeat' (first | refine St.halt 1 ?_ |refine Ga ?_ | (refine Gb ?_; intro b) | (refine Gd ?_; intro g cap rest hcap) | (refine Gc ?_; intro ad cap) | (refine St.draw (id := 10) [(0, 0), (1, 0), (2, 0), (3, 0), (4, 0), (5, 0), (6, 0), (7, 0), (8, 0), (9, 0), (10, 0), (11, 1), (12, 0), (13, 0), (14, 0), (15, 1), (16, 0), (17, 3), (18, 0), (19, 3)] [17, 19] mixed (by kernel_rfl) ?_) | (refine Ge ?_ ?_ <;> (intro h; try (exfalso; omega))) | fail)
  apply Halt.go
  rw [e1]
  repeat' (first | refine Ga ?_ | (refine Gb ?_; intro b) | (refine Gd ?_; intro g cap rest hcap) | (refine Gc ?_; intro ad cap) | (refine St.draw (id := 10) [(0, 0), (1, 0), (2, 0), (3, 0), (4, 0), (5, 0), (6, 0), (7, 0), (8, 0), (9, 0), (10, 0), (11, 1), (12, 0), (13, 0), (14, 0), (15, 1), (16, 0), (17, 3), (18, 0), (19, 3)] [17, 19] mixed (by kernel_rfl) ?_) | (refine Gt hp ?_; rintro _ _ ⟨m, rfl, hm0, hm1, rfl⟩) | (refine Ge ?_ ?_ <;> (intro h; try (exfalso; omega))) | fail)
  all_goals first | (exfalso; omega) | skip
  rw [e2]
  revert b; intro R
  have em : ((m : Int) - 1) = ((m - 1 : Nat) : Int) := by omega
  refine St.loopY (Lr := ?Lr1) (ι := { x : Int × Int × List Value // (a : Int) + q * 2 - 1 ≤ x.1 ∧ x.1 ≤ a + q * 2 + 2 ∧ NumsU n x.2.2 }) (fun x => ((a : Int) + q * 2 + 2 - x.1.1).toNat) (fun x => [(9, .int .i64 x.1.1)]) (fun x => [bl g 22 x.1.2.2, bl R 422 [.int .u64 x.1.2.1]]) ⟨((a : Int) + q * 2 - 1, (d : Int), l), by dsimp only; omega, by dsimp only; omega, hl⟩ ?hE ?hL ?round
  case hE => exact Sub.go
  case hL => exact Takes.go
  case round =>
    rintro ⟨⟨i, z, l0⟩, hi0, hi1, hl0⟩ IH; dsimp only at hi0 hi1 hl0 IH ⊢
    have hx := nnext_t R z (m - 1) (by omega)
    rw [← em] at hx
    by_cases hlt : i ≤ (a : Int) + q * 2 + 1
    · repeat' (first | refine St.halt 8 ?_ |refine Ga ?_ | (refine Gb ?_; intro b) | (refine Gd ?_; intro g cap rest hcap) | (refine Gc ?_; intro ad cap) | (refine St.draw (id := 10) [(0, 0), (1, 0), (2, 0), (3, 0), (4, 0), (5, 0), (6, 0), (7, 0), (8, 0), (9, 0), (10, 0), (11, 1), (12, 0), (13, 0), (14, 0), (15, 1), (16, 0), (17, 3), (18, 0), (19, 3)] [17, 19] mixed (by kernel_rfl) ?_) | (refine Gt hx ?_; rintro _ _ ⟨x, c, rfl, hand, hc0, hc1, rfl⟩) | (refine Ge ?_ ?_ <;> (intro h; try (exfalso; omega))) | fail)
      all_goals first | (exfalso; omega) | skip
      apply Halt.go
      by_cases hcd : (d : Int) ≤ c
      · have h1 := hl0 ((a : Int) + (c - d)) (by omega) (by omega)
        have h2 := hl0 i (by omega) (by omega)
        generalize cI l0 ((a : Int) + (c - d)) = u at h1
        generalize cI l0 i = v at h2
        obtain ⟨l2, l3, t1, t2, hl3⟩ := hl0.swap i ((a : Int) + (c - d)) (by omega) (by omega) (by omega) (by omega) v u
        repeat' (first | refine Ga ?_ | (refine Gb ?_; intro b) | (refine Gd ?_; intro g cap rest hcap) | (refine Gc ?_; intro ad cap) | (refine St.draw (id := 10) [(0, 0), (1, 0), (2, 0), (3, 0), (4, 0), (5, 0), (6, 0), (7, 0), (8, 0), (9, 0), (10, 0), (11, 1), (12, 0), (13, 0), (14, 0), (15, 1), (16, 0), (17, 3), (18, 0), (19, 3)] [17, 19] mixed (by kernel_rfl) ?_) | (refine Ge ?_ ?_ <;> (intro h; try (exfalso; omega))) | fail)
        all_goals first | (exfalso; omega) | skip
        refine IH ⟨(i + 1, x, l3), by dsimp only; omega, by dsimp only; omega, hl3⟩ (by show ((a : Int) + q * 2 + 2 - (i + 1)).toNat < ((a : Int) + q * 2 + 2 - i).toNat; omega) ?_ ?_
        · exact Sub.go
        · exact Ent.go
      · have h1 := hl0 ((a : Int) + c) (by omega) (by omega)
        have h2 := hl0 i (by omega) (by omega)
        generalize cI l0 ((a : Int) + c) = u at h1
        generalize cI l0 i = v at h2
        obtain ⟨l2, l3, t1, t2, hl3⟩ := hl0.swap i ((a : Int) + c) (by omega) (by omega) (by omega) (by omega) v u
        repeat' (first | refine Ga ?_ | (refine Gb ?_; intro b) | (refine Gd ?_; intro g cap rest hcap) | (refine Gc ?_; intro ad cap) | (refine St.draw (id := 10) [(0, 0), (1, 0), (2, 0), (3, 0), (4, 0), (5, 0), (6, 0), (7, 0), (8, 0), (9, 0), (10, 0), (11, 1), (12, 0), (13, 0), (14, 0), (15, 1), (16, 0), (17, 3), (18, 0), (19, 3)] [17, 19] mixed (by kernel_rfl) ?_) | (refine Ge ?_ ?_ <;> (intro h; try (exfalso; omega))) | fail)
        all_goals first | (exfalso; omega) | skip
        refine IH ⟨(i + 1, x, l3), by dsimp only; omega, by dsimp only; omega, hl3⟩ (by show ((a : Int) + q * 2 + 2 - (i + 1)).toNat < ((a : Int) + q * 2 + 2 - i).toNat; omega) ?_ ?_
        · exact Sub.go
        · exact Ent.go
    · clear IH
      repeat' (first | refine Ga ?_ | (refine Gb ?_; intro b) | (refine Gd ?_; intro g cap rest hcap) | (refine Gc ?_; intro ad cap) | (refine St.draw (id := 10) [(0, 0), (1, 0), (2, 0), (3, 0), (4, 0), (5, 0), (6, 0), (7, 0), (8, 0), (9, 0), (10, 0), (11, 1), (12, 0), (13, 0), (14, 0), (15, 1), (16, 0), (17, 3), (18, 0), (19, 3)] [17, 19] mixed (by kernel_rfl) ?_) | (refine Ge ?_ ?_ <;> (intro h; try (exfalso; omega))) | fail)
      all_goals first | (exfalso; omega) | skip
      refine St.f1 Tryz.func297 ⟨_, ⟨l0, rfl, hl0, rfl⟩, Ent.go⟩
set_option maxHeartbeats 8000000 in
theorem npdq_t (g cap n : Nat) (hc : n ≤ cap) (hn : n < 50) : ∀ (N a b : Nat) (limit : Int) (l : List Value), b - a < N → a ≤ b → b ≤ n → 0 ≤ limit ∧ limit ≤ 100 → NumsU n l → Tri Tryz.prog 278 #[.slice (some ⟨g, 0, none⟩) n cap, .int .i64 (a : Int), .int .i64 (b : Int), .int .i64 limit] [bl g 22 l]
    fun r L => ∃ l', r = .tuple ⟨[]⟩ ∧ NumsU n l' ∧ L = [bl g 22 l'] := by
  intro N
  induction N with
  | zero => intro a b limit l h; omega
  | succ N ihN =>
  intro a b limit l hN hab hb hlim hl
  refine Tri.of_body (vs := [_, _, _, _]) Tryz.func278 rfl rfl fun w0 F => ?_
  repeat' (first | refine Ga ?_ | (refine Gb ?_; intro b) | (refine Gd ?_; intro g cap rest hcap) | (refine Gc ?_; intro ad cap) | (refine St.draw (id := 17) [(0, 0), (1, 0), (2, 0), (3, 0), (4, 0), (5, 0), (6, 0), (7, 1), (8, 0), (9, 0), (10, 0), (11, 1), (12, 1), (13, 0), (14, 0)] [] mixed (by kernel_rfl) ?_) | (refine Ge ?_ ?_ <;> (intro h; try (exfalso; omega))) | fail)
  refine St.loopY (Lr := ?Lr1) (ι := { x : Nat × Nat × Int × Bool × Bool × List Value // x.2.1 - x.1 < N + 1 ∧ x.1 ≤ x.2.1 ∧ x.2.1 ≤ n ∧ (0 ≤ x.2.2.1 ∧ x.2.2.1 ≤ 100) ∧ NumsU n x.2.2.2.2.2 }) (fun x => x.1.2.1 - x.1.1)
    (fun x => [(1, .int .i64 (x.1.1 : Int)), (2, .int .i64 (x.1.2.1 : Int)), (3, .int .i64 x.1.2.2.1), (8, .bool x.1.2.2.2.1), (9, .bool x.1.2.2.2.2.1)]) (fun x => [bl g 22 x.1.2.2.2.2.2]) ⟨(a, b, limit, true, true, l), hN, hab, hb, hlim, hl⟩ ?hE ?hL ?round
  case hE => exact Sub.go
  case hL => exact Takes.go
  case round =>
    rintro ⟨⟨a0, b0, lim0, wb0, wp0, l0⟩, hN0, hab0, hb0, hlim0, hl0⟩ IH; dsimp only at hN0 hab0 hb0 hlim0 hl0 IH ⊢
    by_cases h12 : (b0 : Int) - a0 ≤ 12
    · clear IH
      have hins := nins_t g cap n hc (by omega) a0 b0 (by omega) hb0 l0 hl0
      repeat' (first | refine Ga ?_ | (refine Gb ?_; intro b) | (refine Gd ?_; intro g cap rest hcap) | (refine Gc ?_; intro ad cap) | (refine St.draw (id := 17) [(0, 0), (1, 0), (2, 0), (3, 0), (4, 0), (5, 0), (6, 0), (7, 1), (8, 0), (9, 0), (10, 0), (11, 1), (12, 1), (13, 0), (14, 0)] [] mixed (by kernel_rfl) ?_) | (refine Gt hins ?_; rintro _ _ ⟨l1, rfl, hl1, rfl⟩) | (refine Ge ?_ ?_ <;> (intro h; try (exfalso; omega))) | fail)
      all_goals first | (exfalso; omega) | skip
      refine St.d1 Tryz.func278 ⟨_, ⟨l1, rfl, hl1, rfl⟩, Ent.go⟩
    by_cases hz : lim0 = 0
    · clear IH
      subst hz
      have hhe := nheap_t g cap n hc (by omega) a0 b0 (by omega) hb0 l0 hl0
      repeat' (first | refine Ga ?_ | (refine Gb ?_; intro b) | (refine Gd ?_; intro g cap rest hcap) | (refine Gc ?_; intro ad cap) | (refine St.draw (id := 17) [(0, 0), (1, 0), (2, 0), (3, 0), (4, 0), (5, 0), (6, 0), (7, 1), (8, 0), (9, 0), (10, 0), (11, 1), (12, 1), (13, 0), (14, 0)] [] mixed (by kernel_rfl) ?_) | (refine Gt hhe ?_; rintro _ _ ⟨l1, rfl, hl1, rfl⟩) | (refine Ge ?_ ?_ <;> (intro h; try (exfalso; omega))) | fail)
      all_goals first | (exfalso; omega) | skip
      refine St.d1 Tryz.func278 ⟨_, ⟨l1, rfl, hl1, rfl⟩, Ent.go⟩
    refine St.joinZ (κ := { x : Int × Nat × Bool × Bool × List Value // (0 ≤ x.1 ∧ x.1 ≤ 100) ∧ a0 ≤ x.2.1 ∧ x.2.1 < b0 ∧ NumsU n x.2.2.2.2 }) (k' := ?kx) (Lr := ?Lr2)
      (fun x => [(0, .slice (some ⟨g, 0, none⟩) n cap), (1, .int .i64 (a0 : Int)), (2, .int .i64 (b0 : Int)), (3, .int .i64 x.1.1), (8, .bool x.1.2.2.1), (9, .bool x.1.2.2.2.1), (10, .int .i64 ((b0 : Int) - a0)), (11, .int .i64 (x.1.2.1 : Int))]) (fun x => [bl g 22 x.1.2.2.2.2]) ?join ?after
    case join =>
      intro JO
      have hbr := nbreak_t g cap n hc hn a0 b0 (by omega) hb0 l0 hl0
      have hpv := fun l1 hl1 => npivot_t g cap n hc hn a0 b0 (by omega) hb0 l1 hl1
      have hps := fun l1 hl1 => npart_t g cap n hc hn a0 b0 hab0 hb0 l1 hl1
      cases wb0 with
      | false =>
        repeat' (first | refine St.halt 10 ?_ |refine Ga ?_ | (refine Gb ?_; intro b) | (refine Gd ?_; intro g cap rest hcap) | (refine Gc ?_; intro ad cap) | (refine St.draw (id := 17) [(0, 0), (1, 0), (2, 0), (3, 0), (4, 0), (5, 0), (6, 0), (7, 1), (8, 0), (9, 0), (10, 0), (11, 1), (12, 1), (13, 0), (14, 0)] [] mixed (by kernel_rfl) ?_) | (refine Gt hbr ?_; rintro _ _ ⟨l1, rfl, hl1, rfl⟩) | (refine Ge ?_ ?_ <;> (intro h; try (exfalso; omega))) | fail)
        all_goals first | (exfalso; omega) | skip
        apply Halt.go
        have hpv1 := hpv l1 hl1
        repeat' (first | refine St.halt 11 ?_ |refine Ga ?_ | (refine Gb ?_; intro b) | (refine Gd ?_; intro g cap rest hcap) | (refine Gc ?_; intro ad cap) | (refine St.draw (id := 17) [(0, 0), (1, 0), (2, 0), (3, 0), (4, 0), (5, 0), (6, 0), (7, 1), (8, 0), (9, 0), (10, 0), (11, 1), (12, 1), (13, 0), (14, 0)] [] mixed (by kernel_rfl) ?_) | (refine Gt hpv1 ?_; rintro _ _ ⟨p, h, rfl, hp0, hp1, hh, rfl⟩) | (refine Ge ?_ ?_ <;> (intro h; try (exfalso; omega))) | fail)
        apply Halt.go
        rcases hh with rfl | rfl
        all_goals (
          repeat' (first | refine St.halt 17 ?_ |refine Ga ?_ | (refine Gb ?_; intro b) | (refine Gd ?_; intro g cap rest hcap) | (refine Gc ?_; intro ad cap) | (refine St.draw (id := 17) [(0, 0), (1, 0), (2, 0), (3, 0), (4, 0), (5, 0), (6, 0), (7, 1), (8, 0), (9, 0), (10, 0), (11, 1), (12, 1), (13, 0), (14, 0)] [] mixed (by kernel_rfl) ?_) | (refine Ge ?_ ?_ <;> (intro h; try (exfalso; omega))) | fail)
          all_goals first | (exfalso; omega) | skip
          apply Halt.go
          refine JO ⟨(lim0 - 1, p, false, wp0, l1), by dsimp only; omega, hp0, hp1, hl1⟩ ?_ ?_
          · exact Sub.go
          · exact Ent.go)
      | true =>
        have hpv1 := hpv l0 hl0
        have hps1 := hps l0 hl0
        repeat' (first | refine St.halt 11 ?_ |refine Ga ?_ | (refine Gb ?_; intro b) | (refine Gd ?_; intro g cap rest hcap) | (refine Gc ?_; intro ad cap) | (refine St.draw (id := 17) [(0, 0), (1, 0), (2, 0), (3, 0), (4, 0), (5, 0), (6, 0), (7, 1), (8, 0), (9, 0), (10, 0), (11, 1), (12, 1), (13, 0), (14, 0)] [] mixed (by kernel_rfl) ?_) | (refine Gt hpv1 ?_; rintro _ _ ⟨p, h, rfl, hp0, hp1, hh, rfl⟩) | (refine Ge ?_ ?_ <;> (intro h; try (exfalso; omega))) | fail)
        all_goals first | (exfalso; omega) | skip
        apply Halt.go
        rcases hh with rfl | rfl <;> cases wp0
        all_goals (
          repeat' (first | refine St.halt 17 ?_ |refine Ga ?_ | (refine Gb ?_; intro b) | (refine Gd ?_; intro g cap rest hcap) | (refine Gc ?_; intro ad cap) | (refine St.draw (id := 17) [(0, 0), (1, 0), (2, 0), (3, 0), (4, 0), (5, 0), (6, 0), (7, 1), (8, 0), (9, 0), (10, 0), (11, 1), (12, 1), (13, 0), (14, 0)] [] mixed (by kernel_rfl) ?_) | (refine Gt hps1 ?_; rintro _ _ ⟨t, rfl, rfl⟩) | (refine Ge ?_ ?_ <;> (intro h; try (exfalso; omega))) | fail)
          all_goals first | (exfalso; omega) | skip
          all_goals first
            | (apply Halt.go
               refine JO ⟨(lim0, p, true, false, l0), hlim0, hp0, hp1, hl0⟩ ?_ ?_
               · exact Sub.go
               · exact Ent.go)
            | (apply Halt.go
               refine JO ⟨(lim0, p, true, true, l0), hlim0, hp0, hp1, hl0⟩ ?_ ?_
               · exact Sub.go
               · exact Ent.go)
            | refine St.d1 Tryz.func278 ⟨_, ⟨l0, rfl, hl0, rfl⟩, Ent.go⟩)
    case after =>
      rintro ⟨⟨lim, p, wb, wp, l1⟩, hlim, hp0, hp1, hl1⟩; dsimp only at hlim hp0 hp1 hl1 ⊢
      have heq := nequal_t g cap n hc hn a0 b0 p hp0 hp1 hb0 l1 hl1
      have hpt := npartition_t g cap n hc hn a0 b0 p hp0 hp1 hb0 l1 hl1
      by_cases ha : 0 < a0
      · have h1 := hl1 ((a0 : Int) - 1) (by omega) (by omega)
        have h2 := hl1 (p : Int) (by omega) (by omega)
        generalize cI l1 ((a0 : Int) - 1) = u at h1
        generalize cI l1 (p : Int) = v at h2
        have hs := less_r u v
        by_cases huv : u < v
        · rw [decide_eq_true huv] at hs
          repeat' (first | refine St.halt 24 ?_ |refine Ga ?_ | (refine Gb ?_; intro b) | (refine Gd ?_; intro g cap rest hcap) | (refine Gc ?_; intro ad cap) | (refine St.draw (id := 17) [(0, 0), (1, 0), (2, 0), (3, 0), (4, 0), (5, 0), (6, 0), (7, 1), (8, 0), (9, 0), (10, 0), (11, 1), (12, 1), (13, 0), (14, 0)] [] mixed (by kernel_rfl) ?_)| refine Gl hs ?_ | (refine Gt hpt ?_; rintro _ _ ⟨mid, t, l2, rfl, hm0, hm1, hl2, rfl⟩) | (refine Ge ?_ ?_ <;> (intro h; try (exfalso; omega))) | fail)
          all_goals first | (exfalso; omega) | skip
          apply Halt.go
          have hr1 := ihN a0 mid lim l2 (by omega) (by omega) (by omega) hlim hl2
          have hr2 := ihN (mid + 1) b0 lim l2 (by omega) (by omega) (by omega) hlim hl2
          rw [show ((mid + 1 : Nat) : Int) = (mid : Int) + 1 by omega] at hr2
          by_cases hlr : (mid : Int) - a0 < (b0 : Int) - mid
          · repeat' (first | refine Ga ?_ | (refine Gb ?_; intro b) | (refine Gd ?_; intro g cap rest hcap) | (refine Gc ?_; intro ad cap) | (refine St.draw (id := 17) [(0, 0), (1, 0), (2, 0), (3, 0), (4, 0), (5, 0), (6, 0), (7, 1), (8, 0), (9, 0), (10, 0), (11, 1), (12, 1), (13, 0), (14, 0)] [] mixed (by kernel_rfl) ?_) | (refine Gt hr1 ?_; rintro _ _ ⟨l3, rfl, hl3, rfl⟩) | (refine Ge ?_ ?_ <;> (intro h; try (exfalso; omega))) | fail)
            all_goals first | (exfalso; omega) | skip
            all_goals refine IH ⟨(mid + 1, b0, lim, decide (((b0 : Int) - a0) / 8 ≤ (mid : Int) - a0), t, l3), by dsimp only; omega, by dsimp only; omega, by dsimp only; omega, hlim, hl3⟩ (by show b0 - (mid + 1) < b0 - a0; omega) ?_ ?_
            all_goals first | (dsimp only; rw [show ((mid + 1 : Nat) : Int) = (mid : Int) + 1 by omega]; exact Sub.go; done) | (exact Ent.go; done) | skip
          · repeat' (first | refine Ga ?_ | (refine Gb ?_; intro b) | (refine Gd ?_; intro g cap rest hcap) | (refine Gc ?_; intro ad cap) | (refine St.draw (id := 17) [(0, 0), (1, 0), (2, 0), (3, 0), (4, 0), (5, 0), (6, 0), (7, 1), (8, 0), (9, 0), (10, 0), (11, 1), (12, 1), (13, 0), (14, 0)] [] mixed (by kernel_rfl) ?_) | (refine Gt hr2 ?_; rintro _ _ ⟨l3, rfl, hl3, rfl⟩) | (refine Ge ?_ ?_ <;> (intro h; try (exfalso; omega))) | fail)
            all_goals first | (exfalso; omega) | skip
            all_goals refine IH ⟨(a0, mid, lim, decide (((b0 : Int) - a0) / 8 ≤ (b0 : Int) - mid), t, l3), by dsimp only; omega, by dsimp only; omega, by dsimp only; omega, hlim, hl3⟩ (by show mid - a0 < b0 - a0; omega) ?_ ?_
            all_goals first | (exact Sub.go; done) | (exact Ent.go; done) | skip
        · rw [decide_eq_false huv] at hs
          repeat' (first | refine Ga ?_ | (refine Gb ?_; intro b) | (refine Gd ?_; intro g cap rest hcap) | (refine Gc ?_; intro ad cap) | (refine St.draw (id := 17) [(0, 0), (1, 0), (2, 0), (3, 0), (4, 0), (5, 0), (6, 0), (7, 1), (8, 0), (9, 0), (10, 0), (11, 1), (12, 1), (13, 0), (14, 0)] [] mixed (by kernel_rfl) ?_)| refine Gl hs ?_ | (refine Gt heq ?_; rintro _ _ ⟨mid, l2, rfl, hm0, hm1, hl2, rfl⟩) | (refine Ge ?_ ?_ <;> (intro h; try (exfalso; omega))) | fail)
          all_goals first | (exfalso; omega) | skip
          refine IH ⟨(mid, b0, lim, wb, wp, l2), by dsimp only; omega, by dsimp only; omega, by dsimp only; omega, hlim, hl2⟩ (by show b0 - mid < b0 - a0; omega) ?_ ?_
          · exact Sub.go
          · exact Ent.go
      · repeat' (first | refine St.halt 24 ?_ |refine Ga ?_ | (refine Gb ?_; intro b) | (refine Gd ?_; intro g cap rest hcap) | (refine Gc ?_; intro ad cap) | (refine St.draw (id := 17) [(0, 0), (1, 0), (2, 0), (3, 0), (4, 0), (5, 0), (6, 0), (7, 1), (8, 0), (9, 0), (10, 0), (11, 1), (12, 1), (13, 0), (14, 0)] [] mixed (by kernel_rfl) ?_) | (refine Gt hpt ?_; rintro _ _ ⟨mid, t, l2, rfl, hm0, hm1, hl2, rfl⟩) | (refine Ge ?_ ?_ <;> (intro h; try (exfalso; omega))) | fail)
        all_goals first | (exfalso; omega) | skip
        apply Halt.go
        have hr1 := ihN a0 mid lim l2 (by omega) (by omega) (by omega) hlim hl2
        have hr2 := ihN (mid + 1) b0 lim l2 (by omega) (by omega) (by omega) hlim hl2
        rw [show ((mid + 1 : Nat) : Int) = (mid : Int) + 1 by omega] at hr2
        by_cases hlr : (mid : Int) - a0 < (b0 : Int) - mid
        · repeat' (first | refine Ga ?_ | (refine Gb ?_; intro b) | (refine Gd ?_; intro g cap rest hcap) | (refine Gc ?_; intro ad cap) | (refine St.draw (id := 17) [(0, 0), (1, 0), (2, 0), (3, 0), (4, 0), (5, 0), (6, 0), (7, 1), (8, 0), (9, 0), (10, 0), (11, 1), (12, 1), (13, 0), (14, 0)] [] mixed (by kernel_rfl) ?_) | (refine Gt hr1 ?_; rintro _ _ ⟨l3, rfl, hl3, rfl⟩) | (refine Ge ?_ ?_ <;> (intro h; try (exfalso; omega))) | fail)
          all_goals first | (exfalso; omega) | skip
          all_goals refine IH ⟨(mid + 1, b0, lim, decide (((b0 : Int) - a0) / 8 ≤ (mid : Int) - a0), t, l3), by dsimp only; omega, by dsimp only; omega, by dsimp only; omega, hlim, hl3⟩ (by show b0 - (mid + 1) < b0 - a0; omega) ?_ ?_
          all_goals first | (dsimp only; rw [show ((mid + 1 : Nat) : Int) = (mid : Int) + 1 by omega]; exact Sub.go; done) | (exact Ent.go; done) | skip
        · repeat' (first | refine Ga ?_ | (refine Gb ?_; intro b) | (refine Gd ?_; intro g cap rest hcap) | (refine Gc ?_; intro ad cap) | (refine St.draw (id := 17) [(0, 0), (1, 0), (2, 0), (3, 0), (4, 0), (5, 0), (6, 0), (7, 1), (8, 0), (9, 0), (10, 0), (11, 1), (12, 1), (13, 0), (14, 0)] [] mixed (by kernel_rfl) ?_) | (refine Gt hr2 ?_; rintro _ _ ⟨l3, rfl, hl3, rfl⟩) | (refine Ge ?_ ?_ <;> (intro h; try (exfalso; omega))) | fail)
          all_goals first | (exfalso; omega) | skip
          all_goals refine IH ⟨(a0, mid, lim, decide (((b0 : Int) - a0) / 8 ≤ (b0 : Int) - mid), t, l3), by dsimp only; omega, by dsimp only; omega, by dsimp only; omega, hlim, hl3⟩ (by show mid - a0 < b0 - a0; omega) ?_ ?_
          all_goals first | (exact Sub.go; done) | (exact Ent.go; done) | skip
end Go.Proofs.YthmbgodcpgkkeaaGreat
