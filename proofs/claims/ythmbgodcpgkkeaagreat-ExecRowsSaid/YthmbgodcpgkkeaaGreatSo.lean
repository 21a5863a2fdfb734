/-
  slices.Sort of fewer than fifty numbers: how many stand behind it (not which): insertion sort, heap sort, partitions.
-/
import Derived.Test.YthmbgodcpgkkeaaGreatMo
namespace Go.Proofs.YthmbgodcpgkkeaaGreat
set_option maxRecDepth 100000
theorem less_r (x y : Int) : RTri Tryz.prog 301 #[.int .u64 x, .int .u64 y] [] (.bool (decide (x < y))) := by
  have hn : ∀ z : Int, RTri Tryz.prog 319 #[.int .u64 z] [] (.bool false) := fun z => by
    apply RTri.of_pure
    refine Tri.of_body (vs := [_]) Tryz.func319 rfl rfl fun w0 F => ?_
    repeat' (first | refine Ga ?_ | (refine Gb ?_; intro b) | (refine Gd ?_; intro g cap rest hcap) | (refine Gc ?_; intro ad cap)  | (refine Ge ?_ ?_ <;> (intro h; try (exfalso; omega))) | fail)
    refine St.d1 Tryz.func319 ⟨_, ⟨?_, rfl⟩, Ent.go⟩
    simp [resV]
  apply RTri.of_pure
  refine Tri.of_body (vs := [_, _]) Tryz.func301 rfl rfl fun w0 F => ?_
  repeat' (first | refine Ga ?_ | (refine Gb ?_; intro b) | (refine Gd ?_; intro g cap rest hcap) | (refine Gc ?_; intro ad cap) | refine Gl (hn _) ?_ | (refine Ge ?_ ?_ <;> (intro h; try (exfalso; omega))) | fail)
  refine St.d1 Tryz.func301 ⟨_, ⟨?_, rfl⟩, Ent.go⟩
  simp [resV]
def cI (l : List Value) (i : Int) : Int := match l[i.toNat]? with
  | some (.int _ x) => x
  | _ => 0
/-- the first n cells are numbers -/
def NumsU (n : Nat) (l : List Value) : Prop := ∀ i : Int, 0 ≤ i → i < n → NthN (i.toNat * 1) l (.int .u64 (cI l i))
theorem NumsU.of {n : Nat} {l : List Value} (h : ∀ i : Nat, i < n → ∃ x : Int, l[i]? = some (.int .u64 x)) : NumsU n l := by
  intro i h0 h1
  obtain ⟨x, hx⟩ := h i.toNat (by omega)
  refine NthN.of ?_
  rw [Nat.mul_one, hx]
  unfold cI
  rw [hx]
theorem NumsU.get {n : Nat} {l : List Value} (h : NumsU n l) (i : Nat) (hi : i < n) : ∃ x : Int, l[i]? = some (.int .u64 x) := by
  have := (h i (by omega) (by omega)).eq
  rw [Nat.mul_one, Int.toNat_natCast] at this
  exact ⟨_, this⟩
theorem NumsU.set {n : Nat} {l : List Value} (h : NumsU n l) (i : Int) (h0 : 0 ≤ i) (h1 : i < n) (x : Int) : ∃ l', SetN (.int .u64 x) (i.toNat * 1) l l' ∧ NumsU n l' := by
  refine ⟨l.set (i.toNat * 1) (.int .u64 x), SetN.of ?_, NumsU.of fun k hk => ?_⟩
  · obtain ⟨y, hy⟩ := h.get i.toNat (by omega)
    rw [Nat.mul_one]
    exact (List.getElem?_eq_some_iff.1 hy).1
  · obtain ⟨y, hy⟩ := h.get k hk
    by_cases e : i.toNat * 1 = k
    · subst e
      exact ⟨x, List.getElem?_set_self (List.getElem?_eq_some_iff.1 hy).1⟩
    · rw [List.getElem?_set_ne e]; exact ⟨y, hy⟩
theorem NumsU.swap {n : Nat} {l : List Value} (h : NumsU n l) (i j : Int) (i0 : 0 ≤ i) (i1 : i < n) (j0 : 0 ≤ j) (j1 : j < n) (x y : Int) : ∃ l1 l2, SetN (.int .u64 y) (i.toNat * 1) l l1 ∧ SetN (.int .u64 x) (j.toNat * 1) l1 l2 ∧ NumsU n l2 := by
  obtain ⟨l1, h1, h2⟩ := h.set i i0 i1 y
  obtain ⟨l2, h3, h4⟩ := h2.set j j0 j1 x
  exact ⟨l1, l2, h1, h3, h4⟩
set_option maxHeartbeats 2000000 in
theorem nins_t (g cap n : Nat) (_hc : n ≤ cap) (hn : n ≤ 1000) (a b : Nat) (ha : a ≤ n) (hb : b ≤ n) (l : List Value) (hl : NumsU n l) : Tri Tryz.prog 295 #[.slice (some ⟨g, 0, none⟩) n cap, .int .i64 (a : Int), .int .i64 (b : Int)] [bl g 22 l]
    fun r L => ∃ l', r = .tuple ⟨[]⟩ ∧ NumsU n l' ∧ L = [bl g 22 l'] := by
  by_cases hab : b ≤ a
  · refine Tri.of_body (vs := [_, _, _]) Tryz.func295 rfl rfl fun w0 F => ?_
    repeat' (first | refine Ga ?_ | (refine Gb ?_; intro b) | (refine Gd ?_; intro g cap rest hcap) | (refine Gc ?_; intro ad cap) | (refine St.draw (id := 4) [(0, 0), (1, 0), (2, 0), (3, 0), (4, 0), (5, 0), (6, 0), (7, 1), (8, 0), (9, 0), (10, 0), (11, 0), (12, 1), (13, 1), (14, 0)] [] mixed (by kernel_rfl) ?_) | (refine St.draw (id := 6) [(0, 0), (1, 0), (2, 0), (3, 0), (4, 0), (5, 0), (6, 0), (7, 0), (8, 0), (9, 1), (10, 0), (11, 0), (12, 0), (13, 1), (14, 0), (15, 3), (16, 0), (17, 3)] [15, 17] mixed (by kernel_rfl) ?_) | (refine Ge ?_ ?_ <;> (intro h; try (exfalso; omega))) | fail)
    refine St.loop1 ?_
    repeat' (first | refine Ga ?_ | (refine Gb ?_; intro b) | (refine Gd ?_; intro g cap rest hcap) | (refine Gc ?_; intro ad cap) | (refine St.draw (id := 4) [(0, 0), (1, 0), (2, 0), (3, 0), (4, 0), (5, 0), (6, 0), (7, 1), (8, 0), (9, 0), (10, 0), (11, 0), (12, 1), (13, 1), (14, 0)] [] mixed (by kernel_rfl) ?_) | (refine St.draw (id := 6) [(0, 0), (1, 0), (2, 0), (3, 0), (4, 0), (5, 0), (6, 0), (7, 0), (8, 0), (9, 1), (10, 0), (11, 0), (12, 0), (13, 1), (14, 0), (15, 3), (16, 0), (17, 3)] [15, 17] mixed (by kernel_rfl) ?_) | (refine Ge ?_ ?_ <;> (intro h; try (exfalso; omega))) | fail)
    all_goals first | (exfalso; omega) | skip
    refine St.f1 Tryz.func295 ⟨_, ⟨l, rfl, hl, rfl⟩, Ent.go⟩
  refine Tri.of_body (vs := [_, _, _]) Tryz.func295 rfl rfl fun w0 F => ?_
  repeat' (first | refine Ga ?_ | (refine Gb ?_; intro b) | (refine Gd ?_; intro g cap rest hcap) | (refine Gc ?_; intro ad cap) | (refine St.draw (id := 4) [(0, 0), (1, 0), (2, 0), (3, 0), (4, 0), (5, 0), (6, 0), (7, 1), (8, 0), (9, 0), (10, 0), (11, 0), (12, 1), (13, 1), (14, 0)] [] mixed (by kernel_rfl) ?_) | (refine St.draw (id := 6) [(0, 0), (1, 0), (2, 0), (3, 0), (4, 0), (5, 0), (6, 0), (7, 0), (8, 0), (9, 1), (10, 0), (11, 0), (12, 0), (13, 1), (14, 0), (15, 3), (16, 0), (17, 3)] [15, 17] mixed (by kernel_rfl) ?_) | (refine Ge ?_ ?_ <;> (intro h; try (exfalso; omega))) | fail)
  refine St.loopY (Lr := ?Lr1) (ι := { x : Nat × List Value // a + 1 ≤ x.1 ∧ x.1 ≤ b ∧ NumsU n x.2 }) (fun x => b - x.1.1) (fun x => [(6, .int .i64 (x.1.1 : Int))]) (fun x => [bl g 22 x.1.2]) ⟨(a + 1, l), Nat.le_refl _, by dsimp only; omega, hl⟩ ?hE ?hL ?round
  case hE => exact Sub.go
  case hL => exact Takes.go
  case round =>
    rintro ⟨⟨i, l0⟩, hi, hib, hl0⟩ IH; dsimp only at hi hib hl0 IH ⊢
    by_cases hlt : i < b
    · repeat' (first | refine Ga ?_ | (refine Gb ?_; intro b) | (refine Gd ?_; intro g cap rest hcap) | (refine Gc ?_; intro ad cap) | (refine St.draw (id := 4) [(0, 0), (1, 0), (2, 0), (3, 0), (4, 0), (5, 0), (6, 0), (7, 1), (8, 0), (9, 0), (10, 0), (11, 0), (12, 1), (13, 1), (14, 0)] [] mixed (by kernel_rfl) ?_) | (refine St.draw (id := 6) [(0, 0), (1, 0), (2, 0), (3, 0), (4, 0), (5, 0), (6, 0), (7, 0), (8, 0), (9, 1), (10, 0), (11, 0), (12, 0), (13, 1), (14, 0), (15, 3), (16, 0), (17, 3)] [15, 17] mixed (by kernel_rfl) ?_) | (refine Ge ?_ ?_ <;> (intro h; try (exfalso; omega))) | fail)
      all_goals first | (exfalso; omega) | skip
      refine St.loopY (Lr := ?Lr2) (ι := { x : Nat × List Value // a ≤ x.1 ∧ x.1 < b ∧ NumsU n x.2 }) (fun x => x.1.1) (fun x => [(7, .int .i64 (x.1.1 : Int))]) (fun x => [bl g 22 x.1.2]) ⟨(i, l0), by dsimp only; omega, hlt, hl0⟩ ?hE ?hL ?round
      case hE => exact Sub.go
      case hL => exact Takes.go
      case round =>
        rintro ⟨⟨j, l1⟩, hja, hjb, hl1⟩ IH2; dsimp only at hja hjb hl1 IH2 ⊢
        by_cases hj : a < j
        · have h1 := hl1 (j : Int) (by omega) (by omega)
          have h2 := hl1 ((j : Int) - 1) (by omega) (by omega)
          generalize cI l1 (j : Int) = x at h1
          generalize cI l1 ((j : Int) - 1) = y at h2
          have hs := less_r x y
          by_cases hxy : x < y
          · rw [decide_eq_true hxy] at hs
            obtain ⟨l2, l3, s1, s2, hl3⟩ := hl1.swap (j : Int) ((j : Int) - 1) (by omega) (by omega) (by omega) (by omega) x y
            repeat' (first | refine Ga ?_ | (refine Gb ?_; intro b) | (refine Gd ?_; intro g cap rest hcap) | (refine Gc ?_; intro ad cap) | (refine St.draw (id := 4) [(0, 0), (1, 0), (2, 0), (3, 0), (4, 0), (5, 0), (6, 0), (7, 1), (8, 0), (9, 0), (10, 0), (11, 0), (12, 1), (13, 1), (14, 0)] [] mixed (by kernel_rfl) ?_) | (refine St.draw (id := 6) [(0, 0), (1, 0), (2, 0), (3, 0), (4, 0), (5, 0), (6, 0), (7, 0), (8, 0), (9, 1), (10, 0), (11, 0), (12, 0), (13, 1), (14, 0), (15, 3), (16, 0), (17, 3)] [15, 17] mixed (by kernel_rfl) ?_)| refine Gl hs ?_ | (refine Ge ?_ ?_ <;> (intro h; try (exfalso; omega))) | fail)
            all_goals first | (exfalso; omega) | skip
            refine IH2 ⟨(j - 1, l3), by dsimp only; omega, by dsimp only; omega, hl3⟩ (by show j - 1 < j; omega) ?_ ?_
            · dsimp only; rw [show ((j - 1 : Nat) : Int) = (j : Int) - 1 by omega]; exact Sub.go
            · exact Ent.go
          · rw [decide_eq_false hxy] at hs
            clear IH2
            repeat' (first | refine Ga ?_ | (refine Gb ?_; intro b) | (refine Gd ?_; intro g cap rest hcap) | (refine Gc ?_; intro ad cap) | (refine St.draw (id := 4) [(0, 0), (1, 0), (2, 0), (3, 0), (4, 0), (5, 0), (6, 0), (7, 1), (8, 0), (9, 0), (10, 0), (11, 0), (12, 1), (13, 1), (14, 0)] [] mixed (by kernel_rfl) ?_) | (refine St.draw (id := 6) [(0, 0), (1, 0), (2, 0), (3, 0), (4, 0), (5, 0), (6, 0), (7, 0), (8, 0), (9, 1), (10, 0), (11, 0), (12, 0), (13, 1), (14, 0), (15, 3), (16, 0), (17, 3)] [15, 17] mixed (by kernel_rfl) ?_)| refine Gl hs ?_ | (refine Ge ?_ ?_ <;> (intro h; try (exfalso; omega))) | fail)
            all_goals first | (exfalso; omega) | skip
            refine IH ⟨(i + 1, l1), by dsimp only; omega, hlt, hl1⟩ (by show b - (i + 1) < b - i; omega) ?_ ?_
            · exact Sub.go
            · exact Ent.go
        · clear IH2
          repeat' (first | refine Ga ?_ | (refine Gb ?_; intro b) | (refine Gd ?_; intro g cap rest hcap) | (refine Gc ?_; intro ad cap) | (refine St.draw (id := 4) [(0, 0), (1, 0), (2, 0), (3, 0), (4, 0), (5, 0), (6, 0), (7, 1), (8, 0), (9, 0), (10, 0), (11, 0), (12, 1), (13, 1), (14, 0)] [] mixed (by kernel_rfl) ?_) | (refine St.draw (id := 6) [(0, 0), (1, 0), (2, 0), (3, 0), (4, 0), (5, 0), (6, 0), (7, 0), (8, 0), (9, 1), (10, 0), (11, 0), (12, 0), (13, 1), (14, 0), (15, 3), (16, 0), (17, 3)] [15, 17] mixed (by kernel_rfl) ?_) | (refine Ge ?_ ?_ <;> (intro h; try (exfalso; omega))) | fail)
          all_goals first | (exfalso; omega) | skip
          refine IH ⟨(i + 1, l1), by dsimp only; omega, hlt, hl1⟩ (by show b - (i + 1) < b - i; omega) ?_ ?_
          · exact Sub.go
          · exact Ent.go
    · clear IH
      repeat' (first | refine Ga ?_ | (refine Gb ?_; intro b) | (refine Gd ?_; intro g cap rest hcap) | (refine Gc ?_; intro ad cap) | (refine St.draw (id := 4) [(0, 0), (1, 0), (2, 0), (3, 0), (4, 0), (5, 0), (6, 0), (7, 1), (8, 0), (9, 0), (10, 0), (11, 0), (12, 1), (13, 1), (14, 0)] [] mixed (by kernel_rfl) ?_) | (refine St.draw (id := 6) [(0, 0), (1, 0), (2, 0), (3, 0), (4, 0), (5, 0), (6, 0), (7, 0), (8, 0), (9, 1), (10, 0), (11, 0), (12, 0), (13, 1), (14, 0), (15, 3), (16, 0), (17, 3)] [15, 17] mixed (by kernel_rfl) ?_) | (refine Ge ?_ ?_ <;> (intro h; try (exfalso; omega))) | fail)
      all_goals first | (exfalso; omega) | skip
      refine St.f1 Tryz.func295 ⟨_, ⟨l0, rfl, hl0, rfl⟩, Ent.go⟩
set_option maxHeartbeats 2000000 in
theorem nsift_t (g cap n : Nat) (_hc : n ≤ cap) (hn : n ≤ 1000) (lo hi first : Nat) (hh : first + hi ≤ n) (hlo : first + lo < n) (l : List Value) (hl : NumsU n l) : Tri Tryz.prog 314 #[.slice (some ⟨g, 0, none⟩) n cap, .int .i64 (lo : Int), .int .i64 (hi : Int), .int .i64 (first : Int)] [bl g 22 l]
    fun r L => ∃ l', r = .tuple ⟨[]⟩ ∧ NumsU n l' ∧ L = [bl g 22 l'] := by
  refine Tri.of_body (vs := [_, _, _, _]) Tryz.func314 rfl rfl fun w0 F => ?_
  repeat' (first | refine Ga ?_ | (refine Gb ?_; intro b) | (refine Gd ?_; intro g cap rest hcap) | (refine Gc ?_; intro ad cap) | (refine St.draw (id := 3) [(0, 0), (1, 0), (2, 0), (3, 0), (4, 0), (5, 0), (6, 0), (7, 0), (8, 0), (9, 0), (10, 1), (11, 0), (12, 0), (13, 0), (14, 0), (15, 0), (16, 0), (17, 1), (18, 1), (19, 0)] [] mixed (by kernel_rfl) ?_) | (refine St.draw (id := 5) [(0, 0), (1, 0), (2, 0), (3, 0), (4, 0), (5, 1), (6, 0), (7, 0), (8, 0), (9, 0), (10, 0), (11, 1), (12, 1), (13, 0)] [] mixed (by kernel_rfl) ?_) | (refine St.draw (id := 6) [(0, 0), (1, 0), (2, 0), (3, 0), (4, 0), (5, 0), (6, 0), (7, 0), (8, 0), (9, 0), (10, 0), (11, 0), (12, 0), (13, 1), (14, 0), (15, 0), (16, 0), (17, 0), (18, 0), (19, 1), (20, 0), (21, 3), (22, 0), (23, 3)] [21, 23] mixed (by kernel_rfl) ?_) | (refine Ge ?_ ?_ <;> (intro h; try (exfalso; omega))) | fail)
  refine St.loopY (Lr := ?Lr1) (ι := { x : Nat × List Value // first + x.1 < n ∧ NumsU n x.2 }) (fun x => n - x.1.1) (fun x => [(8, .int .i64 (x.1.1 : Int))]) (fun x => [bl g 22 x.1.2]) ⟨(lo, l), hlo, hl⟩ ?hE ?hL ?round
  case hE => exact Sub.go
  case hL => exact Takes.go
  case round =>
    rintro ⟨⟨r, l0⟩, hr, hl0⟩ IH; dsimp only at hr hl0 IH ⊢
    by_cases hch : hi ≤ 2 * r + 1
    · clear IH
      repeat' (first | refine Ga ?_ | (refine Gb ?_; intro b) | (refine Gd ?_; intro g cap rest hcap) | (refine Gc ?_; intro ad cap) | (refine St.draw (id := 3) [(0, 0), (1, 0), (2, 0), (3, 0), (4, 0), (5, 0), (6, 0), (7, 0), (8, 0), (9, 0), (10, 1), (11, 0), (12, 0), (13, 0), (14, 0), (15, 0), (16, 0), (17, 1), (18, 1), (19, 0)] [] mixed (by kernel_rfl) ?_) | (refine St.draw (id := 5) [(0, 0), (1, 0), (2, 0), (3, 0), (4, 0), (5, 1), (6, 0), (7, 0), (8, 0), (9, 0), (10, 0), (11, 1), (12, 1), (13, 0)] [] mixed (by kernel_rfl) ?_) | (refine St.draw (id := 6) [(0, 0), (1, 0), (2, 0), (3, 0), (4, 0), (5, 0), (6, 0), (7, 0), (8, 0), (9, 0), (10, 0), (11, 0), (12, 0), (13, 1), (14, 0), (15, 0), (16, 0), (17, 0), (18, 0), (19, 1), (20, 0), (21, 3), (22, 0), (23, 3)] [21, 23] mixed (by kernel_rfl) ?_) | (refine Ge ?_ ?_ <;> (intro h; try (exfalso; omega))) | fail)
      all_goals first | (exfalso; omega) | skip
      refine St.f1 Tryz.func314 ⟨_, ⟨l0, rfl, hl0, rfl⟩, Ent.go⟩
    have hu := hl0 ((first : Int) + r) (by omega) (by omega)
    have h1 := hl0 ((first : Int) + (2 * r + 1)) (by omega) (by omega)
    have hfin : ∀ (k : Nat), r < k → first + k < n → ∀ l2, NumsU n l2 → n - k < n - r := fun k h1 h2 _ _ => by omega
    by_cases h2c : 2 * r + 1 + 1 < hi
    · have h2 := hl0 ((first : Int) + (2 * r + 1) + 1) (by omega) (by omega)
      have h2' : NthN (((first : Int) + (2 * r + 1 + 1)).toNat * 1) l0 (.int .u64 (cI l0 ((first : Int) + (2 * r + 1) + 1))) := by
        rw [show ((first : Int) + (2 * r + 1 + 1)) = (first : Int) + (2 * r + 1) + 1 by omega]; exact h2
      generalize cI l0 ((first : Int) + r) = u at hu
      generalize cI l0 ((first : Int) + (2 * r + 1)) = x at h1
      generalize cI l0 ((first : Int) + (2 * r + 1) + 1) = y at h2 h2'
      have s1 := less_r x y
      by_cases hxy : x < y
      · rw [decide_eq_true hxy] at s1
        have s2 := less_r u y
        by_cases huy : u < y
        · rw [decide_eq_true huy] at s2
          obtain ⟨l2, l3, t1, t2, hl3⟩ := hl0.swap ((first : Int) + r) ((first : Int) + (2 * r + 1 + 1)) (by omega) (by omega) (by omega) (by omega) u y
          repeat' (first | refine Ga ?_ | (refine Gb ?_; intro b) | (refine Gd ?_; intro g cap rest hcap) | (refine Gc ?_; intro ad cap) | (refine St.draw (id := 3) [(0, 0), (1, 0), (2, 0), (3, 0), (4, 0), (5, 0), (6, 0), (7, 0), (8, 0), (9, 0), (10, 1), (11, 0), (12, 0), (13, 0), (14, 0), (15, 0), (16, 0), (17, 1), (18, 1), (19, 0)] [] mixed (by kernel_rfl) ?_) | (refine St.draw (id := 5) [(0, 0), (1, 0), (2, 0), (3, 0), (4, 0), (5, 1), (6, 0), (7, 0), (8, 0), (9, 0), (10, 0), (11, 1), (12, 1), (13, 0)] [] mixed (by kernel_rfl) ?_) | (refine St.draw (id := 6) [(0, 0), (1, 0), (2, 0), (3, 0), (4, 0), (5, 0), (6, 0), (7, 0), (8, 0), (9, 0), (10, 0), (11, 0), (12, 0), (13, 1), (14, 0), (15, 0), (16, 0), (17, 0), (18, 0), (19, 1), (20, 0), (21, 3), (22, 0), (23, 3)] [21, 23] mixed (by kernel_rfl) ?_)| refine Gl s1 ?_ | refine Gl s2 ?_ | (refine Ge ?_ ?_ <;> (intro h; try (exfalso; omega))) | fail)
          all_goals first | (exfalso; omega) | skip
          refine IH ⟨(2 * r + 1 + 1, l3), by dsimp only; omega, hl3⟩ (by show n - (2 * r + 1 + 1) < n - r; omega) ?_ ?_
          · dsimp only; rw [show ((2 * r + 1 + 1 : Nat) : Int) = 2 * (r : Int) + 1 + 1 by omega]; exact Sub.go
          · exact Ent.go
        · rw [decide_eq_false huy] at s2
          clear IH
          repeat' (first | refine Ga ?_ | (refine Gb ?_; intro b) | (refine Gd ?_; intro g cap rest hcap) | (refine Gc ?_; intro ad cap) | (refine St.draw (id := 3) [(0, 0), (1, 0), (2, 0), (3, 0), (4, 0), (5, 0), (6, 0), (7, 0), (8, 0), (9, 0), (10, 1), (11, 0), (12, 0), (13, 0), (14, 0), (15, 0), (16, 0), (17, 1), (18, 1), (19, 0)] [] mixed (by kernel_rfl) ?_) | (refine St.draw (id := 5) [(0, 0), (1, 0), (2, 0), (3, 0), (4, 0), (5, 1), (6, 0), (7, 0), (8, 0), (9, 0), (10, 0), (11, 1), (12, 1), (13, 0)] [] mixed (by kernel_rfl) ?_) | (refine St.draw (id := 6) [(0, 0), (1, 0), (2, 0), (3, 0), (4, 0), (5, 0), (6, 0), (7, 0), (8, 0), (9, 0), (10, 0), (11, 0), (12, 0), (13, 1), (14, 0), (15, 0), (16, 0), (17, 0), (18, 0), (19, 1), (20, 0), (21, 3), (22, 0), (23, 3)] [21, 23] mixed (by kernel_rfl) ?_)| refine Gl s1 ?_ | refine Gl s2 ?_ | (refine Ge ?_ ?_ <;> (intro h; try (exfalso; omega))) | fail)
          all_goals first | (exfalso; omega) | skip
          refine St.d1 Tryz.func314 ⟨_, ⟨l0, rfl, hl0, rfl⟩, Ent.go⟩
      · rw [decide_eq_false hxy] at s1
        have s2 := less_r u x
        by_cases huy : u < x
        · rw [decide_eq_true huy] at s2
          obtain ⟨l2, l3, t1, t2, hl3⟩ := hl0.swap ((first : Int) + r) ((first : Int) + (2 * r + 1)) (by omega) (by omega) (by omega) (by omega) u x
          repeat' (first | refine Ga ?_ | (refine Gb ?_; intro b) | (refine Gd ?_; intro g cap rest hcap) | (refine Gc ?_; intro ad cap) | (refine St.draw (id := 3) [(0, 0), (1, 0), (2, 0), (3, 0), (4, 0), (5, 0), (6, 0), (7, 0), (8, 0), (9, 0), (10, 1), (11, 0), (12, 0), (13, 0), (14, 0), (15, 0), (16, 0), (17, 1), (18, 1), (19, 0)] [] mixed (by kernel_rfl) ?_) | (refine St.draw (id := 5) [(0, 0), (1, 0), (2, 0), (3, 0), (4, 0), (5, 1), (6, 0), (7, 0), (8, 0), (9, 0), (10, 0), (11, 1), (12, 1), (13, 0)] [] mixed (by kernel_rfl) ?_) | (refine St.draw (id := 6) [(0, 0), (1, 0), (2, 0), (3, 0), (4, 0), (5, 0), (6, 0), (7, 0), (8, 0), (9, 0), (10, 0), (11, 0), (12, 0), (13, 1), (14, 0), (15, 0), (16, 0), (17, 0), (18, 0), (19, 1), (20, 0), (21, 3), (22, 0), (23, 3)] [21, 23] mixed (by kernel_rfl) ?_)| refine Gl s1 ?_ | refine Gl s2 ?_ | (refine Ge ?_ ?_ <;> (intro h; try (exfalso; omega))) | fail)
          all_goals first | (exfalso; omega) | skip
          refine IH ⟨(2 * r + 1, l3), by dsimp only; omega, hl3⟩ (by show n - (2 * r + 1) < n - r; omega) ?_ ?_
          · dsimp only; rw [show ((2 * r + 1 : Nat) : Int) = 2 * (r : Int) + 1 by omega]; exact Sub.go
          · exact Ent.go
        · rw [decide_eq_false huy] at s2
          clear IH
          repeat' (first | refine Ga ?_ | (refine Gb ?_; intro b) | (refine Gd ?_; intro g cap rest hcap) | (refine Gc ?_; intro ad cap) | (refine St.draw (id := 3) [(0, 0), (1, 0), (2, 0), (3, 0), (4, 0), (5, 0), (6, 0), (7, 0), (8, 0), (9, 0), (10, 1), (11, 0), (12, 0), (13, 0), (14, 0), (15, 0), (16, 0), (17, 1), (18, 1), (19, 0)] [] mixed (by kernel_rfl) ?_) | (refine St.draw (id := 5) [(0, 0), (1, 0), (2, 0), (3, 0), (4, 0), (5, 1), (6, 0), (7, 0), (8, 0), (9, 0), (10, 0), (11, 1), (12, 1), (13, 0)] [] mixed (by kernel_rfl) ?_) | (refine St.draw (id := 6) [(0, 0), (1, 0), (2, 0), (3, 0), (4, 0), (5, 0), (6, 0), (7, 0), (8, 0), (9, 0), (10, 0), (11, 0), (12, 0), (13, 1), (14, 0), (15, 0), (16, 0), (17, 0), (18, 0), (19, 1), (20, 0), (21, 3), (22, 0), (23, 3)] [21, 23] mixed (by kernel_rfl) ?_)| refine Gl s1 ?_ | refine Gl s2 ?_ | (refine Ge ?_ ?_ <;> (intro h; try (exfalso; omega))) | fail)
          all_goals first | (exfalso; omega) | skip
          refine St.d1 Tryz.func314 ⟨_, ⟨l0, rfl, hl0, rfl⟩, Ent.go⟩
    · generalize cI l0 ((first : Int) + r) = u at hu
      generalize cI l0 ((first : Int) + (2 * r + 1)) = x at h1
      have s2 := less_r u x
      by_cases huy : u < x
      · rw [decide_eq_true huy] at s2
        obtain ⟨l2, l3, t1, t2, hl3⟩ := hl0.swap ((first : Int) + r) ((first : Int) + (2 * r + 1)) (by omega) (by omega) (by omega) (by omega) u x
        repeat' (first | refine Ga ?_ | (refine Gb ?_; intro b) | (refine Gd ?_; intro g cap rest hcap) | (refine Gc ?_; intro ad cap) | (refine St.draw (id := 3) [(0, 0), (1, 0), (2, 0), (3, 0), (4, 0), (5, 0), (6, 0), (7, 0), (8, 0), (9, 0), (10, 1), (11, 0), (12, 0), (13, 0), (14, 0), (15, 0), (16, 0), (17, 1), (18, 1), (19, 0)] [] mixed (by kernel_rfl) ?_) | (refine St.draw (id := 5) [(0, 0), (1, 0), (2, 0), (3, 0), (4, 0), (5, 1), (6, 0), (7, 0), (8, 0), (9, 0), (10, 0), (11, 1), (12, 1), (13, 0)] [] mixed (by kernel_rfl) ?_) | (refine St.draw (id := 6) [(0, 0), (1, 0), (2, 0), (3, 0), (4, 0), (5, 0), (6, 0), (7, 0), (8, 0), (9, 0), (10, 0), (11, 0), (12, 0), (13, 1), (14, 0), (15, 0), (16, 0), (17, 0), (18, 0), (19, 1), (20, 0), (21, 3), (22, 0), (23, 3)] [21, 23] mixed (by kernel_rfl) ?_)| refine Gl s2 ?_ | (refine Ge ?_ ?_ <;> (intro h; try (exfalso; omega))) | fail)
        all_goals first | (exfalso; omega) | skip
        refine IH ⟨(2 * r + 1, l3), by dsimp only; omega, hl3⟩ (by show n - (2 * r + 1) < n - r; omega) ?_ ?_
        · dsimp only; rw [show ((2 * r + 1 : Nat) : Int) = 2 * (r : Int) + 1 by omega]; exact Sub.go
        · exact Ent.go
      · rw [decide_eq_false huy] at s2
        clear IH
        repeat' (first | refine Ga ?_ | (refine Gb ?_; intro b) | (refine Gd ?_; intro g cap rest hcap) | (refine Gc ?_; intro ad cap) | (refine St.draw (id := 3) [(0, 0), (1, 0), (2, 0), (3, 0), (4, 0), (5, 0), (6, 0), (7, 0), (8, 0), (9, 0), (10, 1), (11, 0), (12, 0), (13, 0), (14, 0), (15, 0), (16, 0), (17, 1), (18, 1), (19, 0)] [] mixed (by kernel_rfl) ?_) | (refine St.draw (id := 5) [(0, 0), (1, 0), (2, 0), (3, 0), (4, 0), (5, 1), (6, 0), (7, 0), (8, 0), (9, 0), (10, 0), (11, 1), (12, 1), (13, 0)] [] mixed (by kernel_rfl) ?_) | (refine St.draw (id := 6) [(0, 0), (1, 0), (2, 0), (3, 0), (4, 0), (5, 0), (6, 0), (7, 0), (8, 0), (9, 0), (10, 0), (11, 0), (12, 0), (13, 1), (14, 0), (15, 0), (16, 0), (17, 0), (18, 0), (19, 1), (20, 0), (21, 3), (22, 0), (23, 3)] [21, 23] mixed (by kernel_rfl) ?_)| refine Gl s2 ?_ | (refine Ge ?_ ?_ <;> (intro h; try (exfalso; omega))) | fail)
        all_goals first | (exfalso; omega) | skip
        refine St.d1 Tryz.func314 ⟨_, ⟨l0, rfl, hl0, rfl⟩, Ent.go⟩
set_option maxHeartbeats 2000000 in
theorem nheap_t (g cap n : Nat) (hc : n ≤ cap) (hn : n ≤ 1000) (a b : Nat) (hab : a < b) (hb : b ≤ n) (l : List Value) (hl : NumsU n l) : Tri Tryz.prog 296 #[.slice (some ⟨g, 0, none⟩) n cap, .int .i64 (a : Int), .int .i64 (b : Int)] [bl g 22 l]
    fun r L => ∃ l', r = .tuple ⟨[]⟩ ∧ NumsU n l' ∧ L = [bl g 22 l'] := by
  refine Tri.of_body (vs := [_, _, _]) Tryz.func296 rfl rfl fun w0 F => ?_
  repeat' (first | refine Ga ?_ | (refine Gb ?_; intro b) | (refine Gd ?_; intro g cap rest hcap) | (refine Gc ?_; intro ad cap) | (refine St.draw (id := 10) [(0, 0), (1, 0), (2, 0), (3, 0), (4, 0), (5, 0), (6, 0), (7, 0), (8, 0), (9, 0), (10, 0), (11, 1), (12, 0), (13, 0), (14, 0), (15, 1), (16, 0), (17, 3), (18, 0), (19, 3)] [17, 19] mixed (by kernel_rfl) ?_) | (refine Ge ?_ ?_ <;> (intro h; try (exfalso; omega))) | fail)
  refine St.loopY (Lr := ?Lr1) (ι := { x : Nat × List Value // x.1 ≤ (b - a - 1) / 2 + 1 ∧ NumsU n x.2 }) (fun x => x.1.1) (fun x => [(9, .int .i64 ((x.1.1 : Int) - 1))]) (fun x => [bl g 22 x.1.2]) ⟨((b - a - 1) / 2 + 1, l), Nat.le_refl _, hl⟩ ?hE ?hL ?round
  case hE => dsimp only; rw [show (((b - a - 1) / 2 + 1 : Nat) : Int) - 1 = ((b : Int) - a - 1) / 2 by omega]; exact Sub.go
  case hL => exact Takes.go
  case round =>
    rintro ⟨⟨i, l0⟩, hi, hl0⟩ IH; dsimp only at hi hl0 IH ⊢
    cases i with
    | succ i =>
      have hs := nsift_t g cap n hc hn i (b - a) a (by omega) (by omega) l0 hl0
      rw [show ((b - a : Nat) : Int) = (b : Int) - a by omega] at hs
      rw [show ((i + 1 : Nat) : Int) - 1 = i by omega]
      repeat' (first | refine Ga ?_ | (refine Gb ?_; intro b) | (refine Gd ?_; intro g cap rest hcap) | (refine Gc ?_; intro ad cap) | (refine St.draw (id := 10) [(0, 0), (1, 0), (2, 0), (3, 0), (4, 0), (5, 0), (6, 0), (7, 0), (8, 0), (9, 0), (10, 0), (11, 1), (12, 0), (13, 0), (14, 0), (15, 1), (16, 0), (17, 3), (18, 0), (19, 3)] [17, 19] mixed (by kernel_rfl) ?_) | (refine Gt hs ?_; rintro _ _ ⟨l1, rfl, hl1, rfl⟩) | (refine Ge ?_ ?_ <;> (intro h; try (exfalso; omega))) | fail)
      all_goals first | (exfalso; omega) | skip
      refine IH ⟨(i, l1), by dsimp only; omega, hl1⟩ (by show i < i + 1; omega) ?_ ?_
      · exact Sub.go
      · exact Ent.go
    | zero =>
      clear IH
      rw [show ((0 : Nat) : Int) - 1 = -1 by omega]
      repeat' (first | refine Ga ?_ | (refine Gb ?_; intro b) | (refine Gd ?_; intro g cap rest hcap) | (refine Gc ?_; intro ad cap) | (refine St.draw (id := 10) [(0, 0), (1, 0), (2, 0), (3, 0), (4, 0), (5, 0), (6, 0), (7, 0), (8, 0), (9, 0), (10, 0), (11, 1), (12, 0), (13, 0), (14, 0), (15, 1), (16, 0), (17, 3), (18, 0), (19, 3)] [17, 19] mixed (by kernel_rfl) ?_) | (refine Ge ?_ ?_ <;> (intro h; try (exfalso; omega))) | fail)
      all_goals first | (exfalso; omega) | skip
      refine St.loopY (Lr := ?Lr2) (ι := { x : Nat × List Value // x.1 ≤ b - a ∧ NumsU n x.2 }) (fun x => x.1.1) (fun x => [(10, .int .i64 ((x.1.1 : Int) - 1))]) (fun x => [bl g 22 x.1.2]) ⟨(b - a, l0), Nat.le_refl _, hl0⟩ ?hE ?hL ?round
      case hE => dsimp only; rw [show ((b - a : Nat) : Int) - 1 = (b : Int) - a - 1 by omega]; exact Sub.go
      case hL => exact Takes.go
      case round =>
        rintro ⟨⟨i, l1⟩, hi, hl1⟩ IH; dsimp only at hi hl1 IH ⊢
        cases i with
        | succ i =>
          have h1 := hl1 (a : Int) (by omega) (by omega)
          have h2 := hl1 ((a : Int) + i) (by omega) (by omega)
          generalize cI l1 (a : Int) = x at h1
          generalize cI l1 ((a : Int) + i) = y at h2
          obtain ⟨l2, l3, t1, t2, hl3⟩ := hl1.swap (a : Int) ((a : Int) + i) (by omega) (by omega) (by omega) (by omega) x y
          have hs := nsift_t g cap n hc hn 0 i a (by omega) (by omega) l3 hl3
          rw [show ((0 : Nat) : Int) = 0 from rfl] at hs
          rw [show ((i + 1 : Nat) : Int) - 1 = i by omega]
          repeat' (first | refine Ga ?_ | (refine Gb ?_; intro b) | (refine Gd ?_; intro g cap rest hcap) | (refine Gc ?_; intro ad cap) | (refine St.draw (id := 10) [(0, 0), (1, 0), (2, 0), (3, 0), (4, 0), (5, 0), (6, 0), (7, 0), (8, 0), (9, 0), (10, 0), (11, 1), (12, 0), (13, 0), (14, 0), (15, 1), (16, 0), (17, 3), (18, 0), (19, 3)] [17, 19] mixed (by kernel_rfl) ?_) | (refine Gt hs ?_; rintro _ _ ⟨l4, rfl, hl4, rfl⟩) | (refine Ge ?_ ?_ <;> (intro h; try (exfalso; omega))) | fail)
          all_goals first | (exfalso; omega) | skip
          refine IH ⟨(i, l4), by dsimp only; omega, hl4⟩ (by show i < i + 1; omega) ?_ ?_
          · exact Sub.go
          · exact Ent.go
        | zero =>
          clear IH
          rw [show ((0 : Nat) : Int) - 1 = -1 by omega]
          repeat' (first | refine Ga ?_ | (refine Gb ?_; intro b) | (refine Gd ?_; intro g cap rest hcap) | (refine Gc ?_; intro ad cap) | (refine St.draw (id := 10) [(0, 0), (1, 0), (2, 0), (3, 0), (4, 0), (5, 0), (6, 0), (7, 0), (8, 0), (9, 0), (10, 0), (11, 1), (12, 0), (13, 0), (14, 0), (15, 1), (16, 0), (17, 3), (18, 0), (19, 3)] [17, 19] mixed (by kernel_rfl) ?_) | (refine Ge ?_ ?_ <;> (intro h; try (exfalso; omega))) | fail)
          all_goals first | (exfalso; omega) | skip
          refine St.f1 Tryz.func296 ⟨_, ⟨l1, rfl, hl1, rfl⟩, Ent.go⟩
end Go.Proofs.YthmbgodcpgkkeaaGreat
