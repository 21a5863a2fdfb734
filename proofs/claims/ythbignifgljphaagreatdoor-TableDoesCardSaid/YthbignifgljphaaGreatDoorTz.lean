/-
  slices.SortFunc of pairs by their keys, of up to 12.
-/
import Derived.Test.YthbignifgljphaaGreatDoorTe
namespace Go.Proofs.YthbignifgljphaaGreatDoor
set_option maxRecDepth 100000
def prV (p : Nat × Nat) : List Value := [.int .u64 (p.1 : Int), .int .u64 (p.2 : Int)]
theorem prV_len (p : Nat × Nat) : (prV p).length = 2 := rfl
def cmpI (a b : Nat) : Int := if a < b then -1 else if b < a then 1 else 0
theorem compare_r (a b : Nat) : RTri Tryz.prog 45 #[.int .u64 (a : Int), .int .u64 (b : Int)] [] (.int .i64 (cmpI a b)) := by
  have hn : ∀ z : Int, RTri Tryz.prog 67 #[.int .u64 z] [] (.bool false) := fun z => by
    apply RTri.of_pure
    refine Tri.of_body (vs := [_]) Tryz.func67 rfl rfl fun w0 F => ?_
    repeat' (first | refine Ga ?_ | (refine Gb ?_; intro b) | (refine Gd ?_; intro g cap rest hcap) | (refine Gc ?_; intro ad cap)  | (refine Ge ?_ ?_ <;> (intro h; try (exfalso; omega))) | fail)
    refine St.d1 Tryz.func67 ⟨_, ⟨?_, rfl⟩, Ent.go⟩
    simp [resV]
  apply RTri.of_pure
  unfold cmpI
  refine Tri.of_body (vs := [_, _]) Tryz.func45 rfl rfl fun w0 F => ?_
  repeat' (first | refine Ga ?_ | (refine Gb ?_; intro b) | (refine Gd ?_; intro g cap rest hcap) | (refine Gc ?_; intro ad cap) | refine Gl (hn _) ?_ | (refine Ge ?_ ?_ <;> (intro h; try (exfalso; omega))) | fail)
  all_goals (refine St.d1 Tryz.func45 ⟨_, ⟨?_, rfl⟩, Ent.go⟩)
  all_goals (simp only [resV])
  all_goals (repeat' split)
  all_goals first | rfl | (exfalso; omega)
theorem cmp3_r (x y : Nat × Nat) : RTri Tryz.prog 44 #[.agg ⟨prV x⟩, .agg ⟨prV y⟩] [] (.int .i64 (cmpI x.1 y.1)) := by
  have hc := compare_r x.1 y.1
  apply RTri.of_pure
  unfold prV
  refine Tri.of_body (vs := [_, _]) Tryz.func44 rfl rfl fun w0 F => ?_
  repeat' (first | refine Ga ?_ | (refine Gb ?_; intro b) | (refine Gd ?_; intro g cap rest hcap) | (refine Gc ?_; intro ad cap) | refine Gl hc ?_ | (refine Ge ?_ ?_ <;> (intro h; try (exfalso; omega))) | fail)
  refine St.d1 Tryz.func44 ⟨_, ⟨rfl, rfl⟩, Ent.go⟩
/-- rising -/
abbrev UpP (l : Prs) := l.Pairwise (fun x y => x.1 ≤ y.1)
theorem upP_in {A B : Prs} {x : Nat × Nat} (h : UpP (A ++ B)) (hB : ∀ y ∈ B, x.1 ≤ y.1) (hA : ∀ y ∈ A, y.1 ≤ x.1) : UpP (A ++ x :: B) := by
  unfold UpP at *
  rw [List.pairwise_append] at h ⊢
  refine ⟨h.1, List.pairwise_cons.2 ⟨hB, h.2.1⟩, fun a ha y hy => ?_⟩
  rcases List.mem_cons.1 hy with rfl | hy
  · exact hA a ha
  · exact h.2.2 a ha y hy
structure InsP (xs : Prs) (i : Nat) (A : Prs) (x : Nat × Nat) (B C : Prs) : Prop where
  perm : (A ++ x :: (B ++ C)).Perm xs
  len : A.length + B.length = i
  up : UpP (A ++ B)
  lt : ∀ y ∈ B, x.1 ≤ y.1
set_option maxHeartbeats 4000000 in
theorem pins_t (g cap : Nat) (xs : Prs) (hl : xs.length ≤ 1000000) (rest : List Value) (hc : xs.length ≤ cap) : Tri Tryz.prog 86 #[.slice (some ⟨g, 0, none⟩) xs.length cap, .int .i64 0, .int .i64 (xs.length : Int), .func (.func 44) ⟨[]⟩ ⟨[]⟩] [bl g 73 (xs.flatMap prV ++ rest)]
    fun r L => ∃ ys : Prs, ys.Perm xs ∧ UpP ys ∧ r = .tuple ⟨[]⟩ ∧ L = [bl g 73 (ys.flatMap prV ++ rest)] := by
  have hless := cmp3_r
  refine Tri.of_body (vs := [_, _, _, _]) Tryz.func86 rfl rfl fun w0 F => ?_
  repeat' (first | refine Ga ?_ | (refine Gb ?_; intro b) | (refine Gd ?_; intro g cap rest hcap) | (refine Gc ?_; intro ad cap) | (refine St.draw (id := 4) [(0, 0), (1, 0), (2, 0), (3, 0), (4, 0), (5, 0), (6, 0), (7, 0), (8, 1), (9, 0), (10, 0), (11, 0), (12, 0), (13, 1), (14, 3), (15, 0), (16, 0)] [14] mixed (by kernel_rfl) ?_) | (refine St.draw (id := 6) [(0, 0), (1, 0), (2, 0), (3, 0), (4, 0), (5, 0), (6, 0), (7, 0), (8, 0), (9, 1), (10, 0), (11, 0), (12, 0), (13, 1), (14, 0), (15, 3), (16, 0), (17, 3)] [15, 17] mixed (by kernel_rfl) ?_) | (refine Ge ?_ ?_ <;> (intro h; try (exfalso; omega))) | fail)
  refine St.loopY (Lr := ?Lr1) (ι := { x : Nat × Prs // 1 ≤ x.1 ∧ x.2.Perm xs ∧ UpP (x.2.take x.1) }) (fun x => xs.length - x.1.1) (fun x => [(8, .int .i64 (x.1.1 : Int))]) (fun x => [bl g 73 (x.1.2.flatMap prV ++ rest)]) ⟨(1, xs), Nat.le_refl _, List.Perm.refl _, ?_⟩ ?hE ?hL ?round
  · cases xs <;> simp [UpP]
  case hE => exact Sub.go
  case hL => exact Takes.go
  case round =>
    rintro ⟨⟨i, ys⟩, hi, hp, hu⟩ IH; dsimp only at hi hp hu ⊢
    have hlen := hp.length_eq
    by_cases hlt : i < xs.length
    · repeat' (first | refine Ga ?_ | (refine Gb ?_; intro b) | (refine Gd ?_; intro g cap rest hcap) | (refine Gc ?_; intro ad cap) | (refine St.draw (id := 4) [(0, 0), (1, 0), (2, 0), (3, 0), (4, 0), (5, 0), (6, 0), (7, 0), (8, 1), (9, 0), (10, 0), (11, 0), (12, 0), (13, 1), (14, 3), (15, 0), (16, 0)] [14] mixed (by kernel_rfl) ?_) | (refine St.draw (id := 6) [(0, 0), (1, 0), (2, 0), (3, 0), (4, 0), (5, 0), (6, 0), (7, 0), (8, 0), (9, 1), (10, 0), (11, 0), (12, 0), (13, 1), (14, 0), (15, 3), (16, 0), (17, 3)] [15, 17] mixed (by kernel_rfl) ?_) | (refine Ge ?_ ?_ <;> (intro h; try (exfalso; omega))) | fail)
      have hi' : i < ys.length := by omega
      have hys : ys = ys.take i ++ ys[i] :: ([] ++ ys.drop (i + 1)) := by simp
      refine St.loopY (Lr := ?Lr2) (ι := { s : Prs × (Nat × Nat) × Prs × Prs // InsP xs i s.1 s.2.1 s.2.2.1 s.2.2.2 }) (fun s => s.1.1.length) (fun s => [(9, .int .i64 (s.1.1.length : Int))]) (fun s => [bl g 73 ((s.1.1 ++ s.1.2.1 :: (s.1.2.2.1 ++ s.1.2.2.2)).flatMap prV ++ rest)]) ⟨(ys.take i, ys[i], [], ys.drop (i + 1)), ?_⟩ ?hE ?hL ?round
      · exact ⟨by dsimp only; rw [← hys]; exact hp, by simp; omega, by simpa using hu, by simp⟩
      case hE =>
        dsimp only
        rw [List.length_take, Nat.min_eq_left (Nat.le_of_lt hi')]
        exact Sub.go
      case hL =>
        dsimp only
        rw [← hys]
        exact Takes.go
      case round =>
        rintro ⟨⟨A, x, B, C⟩, hI⟩ IH2; dsimp only at hI ⊢
        have hleA := hI.len
        have hpl := hI.perm.length_eq
        simp only [List.length_append, List.length_cons] at hpl
        have hout : ∀ A x B, InsP xs i A x B C → (∀ y ∈ A, y.1 ≤ x.1) → 1 ≤ i + 1 ∧ (A ++ x :: (B ++ C)).Perm xs ∧ UpP ((A ++ x :: (B ++ C)).take (i + 1)) := fun A x B h hA => by
          refine ⟨by omega, h.perm, ?_⟩
          have e : A ++ x :: (B ++ C) = (A ++ x :: B) ++ C := by simp
          rw [e, List.take_left' (by have := h.len; simp; omega)]
          exact upP_in h.up h.lt hA
        rcases List.eq_nil_or_concat A with rfl | ⟨A', y, rfl⟩
        · clear IH2
          obtain ⟨l0, hl0⟩ : ∃ l0, l0 = ([] ++ x :: (B ++ C)).flatMap prV ++ rest := ⟨_, rfl⟩
          rw [← hl0]
          repeat' (first | refine Ga ?_ | (refine Gb ?_; intro b) | (refine Gd ?_; intro g cap rest hcap) | (refine Gc ?_; intro ad cap) | (refine St.draw (id := 4) [(0, 0), (1, 0), (2, 0), (3, 0), (4, 0), (5, 0), (6, 0), (7, 0), (8, 1), (9, 0), (10, 0), (11, 0), (12, 0), (13, 1), (14, 1), (15, 0), (16, 0)] [] mixed (by kernel_rfl) ?_) | (refine St.draw (id := 6) [(0, 0), (1, 0), (2, 0), (3, 0), (4, 0), (5, 0), (6, 0), (7, 0), (8, 0), (9, 1), (10, 0), (11, 0), (12, 0), (13, 1), (14, 0), (15, 3), (16, 0), (17, 3)] [15, 17] mixed (by kernel_rfl) ?_) | (refine Ge ?_ ?_ <;> (intro h; try (exfalso; omega))) | fail)
          refine IH ⟨(i + 1, [] ++ x :: (B ++ C)), hout [] x B hI (by simp)⟩ (by show xs.length - (i + 1) < xs.length - i; omega) ?_ ?_
          · exact Sub.go
          · rw [hl0]; exact Ent.go
        · have eA : (A' ++ [y]).length = A'.length + 1 := by simp
          rw [List.concat_eq_append] at hI hleA hpl ⊢
          obtain ⟨j, hj⟩ : ∃ j : Nat, j = (A' ++ [y]).length := ⟨_, rfl⟩
          obtain ⟨L0, hL0⟩ : ∃ L0, L0 = (A' ++ [y]) ++ x :: (B ++ C) := ⟨_, rfl⟩
          simp only [List.length_append, List.length_cons, List.length_nil] at hpl
          have hjl : j < L0.length := by rw [hL0, List.length_append, List.length_cons]; omega
          have hjl' : j - 1 < L0.length := by omega
          have hL0l : L0.length = xs.length := by rw [hL0]; simp only [List.length_append, List.length_cons, List.length_nil]; omega
          have gx : L0[j] = x := by
            have : L0[j]? = some x := by rw [hL0, hj, List.getElem?_append_right (Nat.le_refl _)]; simp
            exact (List.getElem?_eq_some_iff.mp this).2
          have gy : L0[j - 1] = y := by
            have : L0[j - 1]? = some y := by rw [hL0, hj, eA, Nat.add_sub_cancel, List.append_assoc, List.getElem?_append_right (Nat.le_refl _)]; simp
            exact (List.getElem?_eq_some_iff.mp this).2
          have hj1 : j ≤ xs.length - 1 := by omega
          have hj0 : 1 ≤ j := by omega
          have d1 := (DropN.flat prV_len hjl).more rest
          have d2 := (DropN.flat prV_len hjl').more rest
          rw [gx] at d1
          rw [gy] at d2
          have t1 : TakeN 2 (prV x ++ (L0.drop (j + 1)).flatMap prV ++ rest) (prV x) := by rw [List.append_assoc]; exact TakeN.app (prV x) _
          have t2 : TakeN 2 (prV y ++ (L0.drop (j - 1 + 1)).flatMap prV ++ rest) (prV y) := by rw [List.append_assoc]; exact TakeN.app (prV y) _
          have s1 := (SplN.flat prV_len hjl y).more rest
          have hjl2 : j - 1 < (L0.set j y).length := by rw [List.length_set]; exact hjl'
          have s2 := (SplN.flat prV_len hjl2 x).more rest
          have hL2 : (L0.set j y).set (j - 1) x = A' ++ x :: ((y :: B) ++ C) := by
            rw [hL0, hj, eA, Nat.add_sub_cancel]
            rw [show (A' ++ [y]) ++ x :: (B ++ C) = A' ++ (y :: x :: (B ++ C)) by simp]
            rw [List.set_append_right _ _ (by omega), List.set_append_right _ _ (by omega)]
            simp
          rw [hL2] at s2
          rw [show j * 2 = (j : Int).toNat * 2 by omega] at d1 s1
          rw [show (j - 1) * 2 = ((j : Int) - 1).toNat * 2 by omega] at d2 s2
          rw [← hj, ← hL0]
          generalize hl0 : L0.flatMap prV ++ rest = l0 at d1 d2 s1 ⊢
          generalize (L0.set j y).flatMap prV ++ rest = l1 at s1 s2
          generalize prV x ++ (L0.drop (j + 1)).flatMap prV ++ rest = r1 at d1 t1
          generalize prV y ++ (L0.drop (j - 1 + 1)).flatMap prV ++ rest = r2 at d2 t2
          have hl := hless x y
          unfold cmpI at hl
          by_cases hxy : x.1 < y.1
          · rw [if_pos hxy] at hl
            unfold prV at s1 s2 t1 t2 hl
            repeat' (first | refine Ga ?_ | (refine Gb ?_; intro b) | (refine Gd ?_; intro g cap rest hcap) | (refine Gc ?_; intro ad cap) | (refine St.draw (id := 4) [(0, 0), (1, 0), (2, 0), (3, 0), (4, 0), (5, 0), (6, 0), (7, 0), (8, 1), (9, 0), (10, 0), (11, 0), (12, 0), (13, 1), (14, 1), (15, 0), (16, 0)] [] mixed (by kernel_rfl) ?_) | (refine St.draw (id := 6) [(0, 0), (1, 0), (2, 0), (3, 0), (4, 0), (5, 0), (6, 0), (7, 0), (8, 0), (9, 1), (10, 0), (11, 0), (12, 0), (13, 1), (14, 0), (15, 3), (16, 0), (17, 3)] [15, 17] mixed (by kernel_rfl) ?_)| refine Ka (OpC.callv (by rfl) Evs.go) hl Oh ?_ | refine Kb rfl (OpC.callv (by rfl) Evs.go) hl Oi ?_ | refine Kc rfl Oj (OpC.callv (by rfl) Evs.go) hl Oi ?_ | (refine Ge ?_ ?_ <;> (intro h; try (exfalso; omega))) | fail)
            all_goals first | (exfalso; omega) | skip
            refine IH2 ⟨(A', x, y :: B, C), ?_⟩ ?_ ?_ ?_
            · refine ⟨?_, ?_, ?_, ?_⟩
              · refine List.Perm.trans ?_ hI.perm
                simp only [List.append_assoc, List.cons_append, List.nil_append]
                exact List.Perm.append_left _ (List.Perm.swap _ _ _)
              · simp at hleA ⊢; omega
              · have := hI.up; simpa using this
              · intro z hz
                rcases List.mem_cons.1 hz with rfl | hz
                · exact Nat.le_of_lt hxy
                · exact hI.lt z hz
            · show A'.length < (A'.concat y).length; simp
            · dsimp only
              rw [show (A'.length : Int) = (j : Int) - 1 by omega]
              exact Sub.go
            · dsimp only; exact Ent.go
          · clear IH2
            have hl2 : cmpI x.1 y.1 = 0 ∨ cmpI x.1 y.1 = 1 := by
              unfold cmpI
              rw [if_neg hxy]
              split
              · exact .inr rfl
              · exact .inl rfl
            have hl0' : 0 ≤ cmpI x.1 y.1 := by omega
            have hl := hless x y
            generalize cmpI x.1 y.1 = cv at hl hl0'
            unfold prV at s1 s2 t1 t2 hl
            repeat' (first | refine Ga ?_ | (refine Gb ?_; intro b) | (refine Gd ?_; intro g cap rest hcap) | (refine Gc ?_; intro ad cap) | (refine St.draw (id := 4) [(0, 0), (1, 0), (2, 0), (3, 0), (4, 0), (5, 0), (6, 0), (7, 0), (8, 1), (9, 0), (10, 0), (11, 0), (12, 0), (13, 1), (14, 1), (15, 0), (16, 0)] [] mixed (by kernel_rfl) ?_) | (refine St.draw (id := 6) [(0, 0), (1, 0), (2, 0), (3, 0), (4, 0), (5, 0), (6, 0), (7, 0), (8, 0), (9, 1), (10, 0), (11, 0), (12, 0), (13, 1), (14, 0), (15, 3), (16, 0), (17, 3)] [15, 17] mixed (by kernel_rfl) ?_)| refine Ka (OpC.callv (by rfl) Evs.go) hl Oh ?_ | refine Kb rfl (OpC.callv (by rfl) Evs.go) hl Oi ?_ | refine Kc rfl Oj (OpC.callv (by rfl) Evs.go) hl Oi ?_ | (refine Ge ?_ ?_ <;> (intro h; try (exfalso; omega))) | fail)
            all_goals first | (exfalso; omega) | skip
            refine IH ⟨(i + 1, (A' ++ [y]) ++ x :: (B ++ C)), hout (A' ++ [y]) x B hI ?_⟩ (by show xs.length - (i + 1) < xs.length - i; omega) ?_ ?_
            · intro z hz
              have hu' := hI.up
              unfold UpP at hu'
              rw [List.append_assoc, List.pairwise_append] at hu'
              rcases List.mem_append.1 hz with hz | hz
              · have := hu'.2.2 z hz y (by simp); omega
              · simp at hz; subst hz; omega
            · exact Sub.go
            · dsimp only; rw [← hL0, hl0]; exact Ent.go
    · clear IH
      repeat' (first | refine Ga ?_ | (refine Gb ?_; intro b) | (refine Gd ?_; intro g cap rest hcap) | (refine Gc ?_; intro ad cap) | (refine St.draw (id := 4) [(0, 0), (1, 0), (2, 0), (3, 0), (4, 0), (5, 0), (6, 0), (7, 0), (8, 1), (9, 0), (10, 0), (11, 0), (12, 0), (13, 1), (14, 1), (15, 0), (16, 0)] [] mixed (by kernel_rfl) ?_) | (refine St.draw (id := 6) [(0, 0), (1, 0), (2, 0), (3, 0), (4, 0), (5, 0), (6, 0), (7, 0), (8, 0), (9, 1), (10, 0), (11, 0), (12, 0), (13, 1), (14, 0), (15, 3), (16, 0), (17, 3)] [15, 17] mixed (by kernel_rfl) ?_) | (refine Ge ?_ ?_ <;> (intro h; try (exfalso; omega))) | fail)
      refine St.f1 Tryz.func86 ⟨_, ⟨ys, hp, ?_, rfl, rfl⟩, Ent.go⟩
      rw [List.take_of_length_le (by omega)] at hu
      exact hu
def rowP (ad : Option Addr) (cap : Nat) (xs : Prs) : HProp := Row (.slice ad xs.length cap) 73 2 xs.length (xs.flatMap prV)
theorem prs_len (l : Prs) : (l.flatMap prV).length = l.length * 2 := by
  induction l with
  | nil => rfl
  | cons x xs ih => rw [List.flatMap_cons, List.length_append, ih, List.length_cons, prV_len]; omega
theorem plen64_t (n : Nat) (hn : n ≤ 12) : Tri Tryz.prog 95 #[.int .u64 (n : Int)] [] fun r L => ∃ k : Int, r = .int .i64 k ∧ L = [] := by
  refine Tri.of_body (vs := [_]) Tryz.func95 rfl rfl fun w0 F => ?_
  repeat' (first | refine Ga ?_ | (refine Gb ?_; intro b) | (refine Gd ?_; intro g cap rest hcap) | (refine Gc ?_; intro ad cap)  | (refine Ge ?_ ?_ <;> (intro h; try (exfalso; omega))) | fail)
  (apply StL.v; (apply OpV.idxStr; rfl; rfl; omega; (show (n : Int) < ((256 : Nat) : Int); omega)); rfl)
  generalize (Array.getD _ (n : Int).toNat _ : UInt8) = bv
  have hbv := bv.toNat_lt
  repeat' (first | refine Ga ?_ | (refine Gb ?_; intro b) | (refine Gd ?_; intro g cap rest hcap) | (refine Gc ?_; intro ad cap)  | (refine Ge ?_ ?_ <;> (intro h; try (exfalso; omega))) | fail)
  refine St.d1 Tryz.func95 ⟨_, ⟨_, rfl, rfl⟩, Ent.go⟩
theorem plen_t (n : Nat) (hn : n ≤ 12) : Tri Tryz.prog 66 #[.int .u64 (n : Int)] [] fun r L => ∃ k : Int, r = .int .i64 k ∧ L = [] := by
  have h6 := plen64_t n hn
  refine Tri.of_body (vs := [_]) Tryz.func66 rfl rfl fun w0 F => ?_
  repeat' (first | refine Ga ?_ | (refine Gb ?_; intro b) | (refine Gd ?_; intro g cap rest hcap) | (refine Gc ?_; intro ad cap)  | (refine Gt h6 ?_; rintro _ _ ⟨k, rfl, rfl⟩) | (refine Ge ?_ ?_ <;> (intro h; try (exfalso; omega))) | fail)
  refine St.d1 Tryz.func66 ⟨_, ⟨_, rfl, rfl⟩, Ent.go⟩
theorem ppdq_t (g cap : Nat) (k : Int) (xs : Prs) (hl : xs.length ≤ 12) (rest : List Value) (hc : xs.length ≤ cap) : Tri Tryz.prog 65 #[.slice (some ⟨g, 0, none⟩) xs.length cap, .int .i64 0, .int .i64 (xs.length : Int), .int .i64 k, .func (.func 44) ⟨[]⟩ ⟨[]⟩] [bl g 73 (xs.flatMap prV ++ rest)]
    fun r L => ∃ ys : Prs, ys.Perm xs ∧ UpP ys ∧ r = .tuple ⟨[]⟩ ∧ L = [bl g 73 (ys.flatMap prV ++ rest)] := by
  have hi := pins_t g cap xs (by omega) rest hc
  refine Tri.of_body (vs := [_, _, _, _, _]) Tryz.func65 rfl rfl fun w0 F => ?_
  repeat' (first | refine Ga ?_ | (refine Gb ?_; intro b) | (refine Gd ?_; intro g cap rest hcap) | (refine Gc ?_; intro ad cap) | (refine St.draw (id := 17) [(0, 0), (1, 0), (2, 0), (3, 0), (4, 0), (5, 0), (6, 0), (7, 0), (8, 1), (9, 0), (10, 0), (11, 0), (12, 1), (13, 3), (14, 0), (15, 0), (16, 0)] [13] mixed (by kernel_rfl) ?_) | (refine Ge ?_ ?_ <;> (intro h; try (exfalso; omega))) | fail)
  refine St.loop1 ?_
  repeat' (first | refine Ga ?_ | (refine Gb ?_; intro b) | (refine Gd ?_; intro g cap rest hcap) | (refine Gc ?_; intro ad cap) | (refine St.draw (id := 17) [(0, 0), (1, 0), (2, 0), (3, 0), (4, 0), (5, 0), (6, 0), (7, 0), (8, 1), (9, 0), (10, 0), (11, 0), (12, 1), (13, 3), (14, 0), (15, 0), (16, 0)] [13] mixed (by kernel_rfl) ?_) | (refine Gt hi ?_; rintro _ _ ⟨ys, hp, hu, rfl, rfl⟩) | (refine Ge ?_ ?_ <;> (intro h; try (exfalso; omega))) | fail)
  refine St.d1 Tryz.func65 ⟨_, ⟨ys, hp, hu, rfl, rfl⟩, Ent.go⟩
theorem psort_t (ad : Option Addr) (cap : Nat) (xs : Prs) (hl : xs.length ≤ 12) : Tri Tryz.prog 43 #[.slice ad xs.length cap, .func (.func 44) ⟨[]⟩ ⟨[]⟩] [rowP ad cap xs]
    fun r L => ∃ ys : Prs, ys.Perm xs ∧ UpP ys ∧ r = .tuple ⟨[]⟩ ∧ L = [rowP ad cap ys] := by
  have hn := plen_t xs.length hl
  unfold rowP
  refine Tri.of_body (vs := [_, _]) Tryz.func43 rfl rfl fun w0 F => ?_
  refine St.rowC (fun hv h0 hx => ?_) (fun g lcp rst hv hrf => ?_)
  · injection hv with hv1 hv2 hv3
    subst hv1 hv3
    obtain rfl : xs = [] := by cases xs with | nil => rfl | cons _ _ => simp at h0
    have hpq : ∀ k : Int, Tri Tryz.prog 65 #[.slice none 0 0, .int .i64 0, .int .i64 0, .int .i64 k, .func (.func 44) ⟨[]⟩ ⟨[]⟩] [] fun r L => r = .tuple ⟨[]⟩ ∧ L = [] := fun k => by
      have hin : Tri Tryz.prog 86 #[.slice none 0 0, .int .i64 0, .int .i64 0, .func (.func 44) ⟨[]⟩ ⟨[]⟩] [] fun r L => r = .tuple ⟨[]⟩ ∧ L = [] := by
        refine Tri.of_body (vs := [_, _, _, _]) Tryz.func86 rfl rfl fun w0 F => ?_
        repeat' (first | refine Ga ?_ | (refine Gb ?_; intro b) | (refine Gd ?_; intro g cap rest hcap) | (refine Gc ?_; intro ad cap) | (refine St.draw (id := 4) [(0, 0), (1, 0), (2, 0), (3, 0), (4, 0), (5, 0), (6, 0), (7, 0), (8, 1), (9, 0), (10, 0), (11, 0), (12, 0), (13, 1), (14, 3), (15, 0), (16, 0)] [14] mixed (by kernel_rfl) ?_) | (refine St.draw (id := 6) [(0, 0), (1, 0), (2, 0), (3, 0), (4, 0), (5, 0), (6, 0), (7, 0), (8, 0), (9, 1), (10, 0), (11, 0), (12, 0), (13, 1), (14, 0), (15, 3), (16, 0), (17, 3)] [15, 17] mixed (by kernel_rfl) ?_) | (refine Ge ?_ ?_ <;> (intro h; try (exfalso; omega))) | fail)
        refine St.loop1 ?_
        repeat' (first | refine Ga ?_ | (refine Gb ?_; intro b) | (refine Gd ?_; intro g cap rest hcap) | (refine Gc ?_; intro ad cap) | (refine St.draw (id := 4) [(0, 0), (1, 0), (2, 0), (3, 0), (4, 0), (5, 0), (6, 0), (7, 0), (8, 1), (9, 0), (10, 0), (11, 0), (12, 0), (13, 1), (14, 3), (15, 0), (16, 0)] [14] mixed (by kernel_rfl) ?_) | (refine St.draw (id := 6) [(0, 0), (1, 0), (2, 0), (3, 0), (4, 0), (5, 0), (6, 0), (7, 0), (8, 0), (9, 1), (10, 0), (11, 0), (12, 0), (13, 1), (14, 0), (15, 3), (16, 0), (17, 3)] [15, 17] mixed (by kernel_rfl) ?_) | (refine Ge ?_ ?_ <;> (intro h; try (exfalso; omega))) | fail)
        refine St.f1 Tryz.func86 ⟨_, ⟨rfl, rfl⟩, Ent.go⟩
      refine Tri.of_body (vs := [_, _, _, _, _]) Tryz.func65 rfl rfl fun w0 F => ?_
      repeat' (first | refine Ga ?_ | (refine Gb ?_; intro b) | (refine Gd ?_; intro g cap rest hcap) | (refine Gc ?_; intro ad cap) | (refine St.draw (id := 17) [(0, 0), (1, 0), (2, 0), (3, 0), (4, 0), (5, 0), (6, 0), (7, 0), (8, 1), (9, 0), (10, 0), (11, 0), (12, 1), (13, 3), (14, 0), (15, 0), (16, 0)] [13] mixed (by kernel_rfl) ?_) | (refine Ge ?_ ?_ <;> (intro h; try (exfalso; omega))) | fail)
      refine St.loop1 ?_
      repeat' (first | refine Ga ?_ | (refine Gb ?_; intro b) | (refine Gd ?_; intro g cap rest hcap) | (refine Gc ?_; intro ad cap) | (refine St.draw (id := 17) [(0, 0), (1, 0), (2, 0), (3, 0), (4, 0), (5, 0), (6, 0), (7, 0), (8, 1), (9, 0), (10, 0), (11, 0), (12, 1), (13, 3), (14, 0), (15, 0), (16, 0)] [13] mixed (by kernel_rfl) ?_) | (refine Gt hin ?_; rintro _ _ ⟨rfl, rfl⟩) | (refine Ge ?_ ?_ <;> (intro h; try (exfalso; omega))) | fail)
      refine St.d1 Tryz.func65 ⟨_, ⟨rfl, rfl⟩, Ent.go⟩
    repeat' (first | refine Ga ?_ | (refine Gb ?_; intro b) | (refine Gd ?_; intro g cap rest hcap) | (refine Gc ?_; intro ad cap)  | (refine Gt hn ?_; rintro _ _ ⟨k, rfl, rfl⟩) | (refine Gt (hpq _) ?_; rintro _ _ ⟨rfl, rfl⟩) | (refine Ge ?_ ?_ <;> (intro h; try (exfalso; omega))) | fail)
    refine St.f1 Tryz.func43 ⟨_, ⟨[], List.Perm.refl _, List.Pairwise.nil, rfl, rfl⟩, Ent.row_nil 73 2⟩
  · injection hv with hv1 hv2 hv3
    subst hv1 hv3
    have hpq := fun k => ppdq_t g cap k xs hl rst hrf.le
    repeat' (first | refine Ga ?_ | (refine Gb ?_; intro b) | (refine Gd ?_; intro g cap rest hcap) | (refine Gc ?_; intro ad cap)  | (refine Gt hn ?_; rintro _ _ ⟨k, rfl, rfl⟩) | (refine Gt (hpq _) ?_; rintro _ _ ⟨ys, hp, hu, rfl, rfl⟩) | (refine Ge ?_ ?_ <;> (intro h; try (exfalso; omega))) | fail)
    refine St.f1 Tryz.func43 ⟨_, ⟨ys, hp, hu, rfl, rfl⟩, ?_⟩
    have hlen := hp.length_eq
    exact Ent.trans Ent.go (Ent.rowF ⟨by rw [hlen]; exact hrf.le, hrf.max, prs_len ys, by have := hrf.tot; rw [prs_len] at this ⊢; omega⟩)
end Go.Proofs.YthbignifgljphaaGreatDoor
