/-
  slices.SortFunc of pairs, of up to 12.
-/
import Derived.Test.YthbignifgljphaaGreatDoorTz
namespace Go.Proofs.YthbignifgljphaaGreatDoor
set_option maxRecDepth 100000
def rowP (ad : Option Addr) (cap : Nat) (xs : Prs) : HProp := Row (.slice ad xs.length cap) 73 2 xs.length (xs.flatMap prV)
theorem prs_len (l : Prs) : (l.flatMap prV).length = l.length * 2 := by
  induction l with
  | nil => rfl
  | cons x xs ih => rw [List.flatMap_cons, List.length_append, ih, List.length_cons, prV_len]; omega
theorem plen64_t (n : Nat) (hn : n ≤ 12) : Tri Tryz.prog 95 #[.int .u64 (n : Int)] [] fun r L => ∃ k : Int, r = .int .i64 k ∧ L = [] := by
  refine Tri.of_body (vs := [_]) Tryz.func95 rfl rfl fun w0 F => ?_
  repeat' (first | refine Ga ?_ | (refine Gb ?_; intro b) | (refine Gd ?_; intro g cap rest hcap) | (refine Gc ?_; intro ad cap)  | (refine Ge ?_ ?_ <;> (intro h; try (exfalso; omega))) | fail)
  (apply StL.v; (apply OpV.idxStr; rfl; rfl; omega; (show (n : Int) < ((256 : Nat) : Int); omega)); rfl)
  generalize (Array.getD _ (n : Int).toNat _ : UInt8) = bv
  have hbv := bv.toNat_lt
  repeat' (first | refine Ga ?_ | (refine Gb ?_; intro b) | (refine Gd ?_; intro g cap rest hcap) | (refine Gc ?_; intro ad cap)  | (refine Ge ?_ ?_ <;> (intro h; try (exfalso; omega))) | fail)
  refine St.d1 Tryz.func95 ⟨_, ⟨_, rfl, rfl⟩, Ent.go⟩
theorem plen_t (n : Nat) (hn : n ≤ 12) : Tri Tryz.prog 66 #[.int .u64 (n : Int)] [] fun r L => ∃ k : Int, r = .int .i64 k ∧ L = [] := by
  have h6 := plen64_t n hn
  refine Tri.of_body (vs := [_]) Tryz.func66 rfl rfl fun w0 F => ?_
  repeat' (first | refine Ga ?_ | (refine Gb ?_; intro b) | (refine Gd ?_; intro g cap rest hcap) | (refine Gc ?_; intro ad cap)  | (refine Gt h6 ?_; rintro _ _ ⟨k, rfl, rfl⟩) | (refine Ge ?_ ?_ <;> (intro h; try (exfalso; omega))) | fail)
  refine St.d1 Tryz.func66 ⟨_, ⟨_, rfl, rfl⟩, Ent.go⟩
theorem ppdq_t (g cap : Nat) (k : Int) (xs : Prs) (hl : xs.length ≤ 12) (rest : List Value) (hc : xs.length ≤ cap) : Tri Tryz.prog 65 #[.slice (some ⟨g, 0, none⟩) xs.length cap, .int .i64 0, .int .i64 (xs.length : Int), .int .i64 k, .func (.func 44) ⟨[]⟩ ⟨[]⟩] [bl g 73 (xs.flatMap prV ++ rest)]
    fun r L => ∃ ys : Prs, ys.Perm xs ∧ UpP ys ∧ r = .tuple ⟨[]⟩ ∧ L = [bl g 73 (ys.flatMap prV ++ rest)] := by
  have hi := pins_t g cap xs (by omega) rest hc
  refine Tri.of_body (vs := [_, _, _, _, _]) Tryz.func65 rfl rfl fun w0 F => ?_
  repeat' (first | refine Ga ?_ | (refine Gb ?_; intro b) | (refine Gd ?_; intro g cap rest hcap) | (refine Gc ?_; intro ad cap) | (refine St.draw (id := 17) [(0, 0), (1, 0), (2, 0), (3, 0), (4, 0), (5, 0), (6, 0), (7, 0), (8, 1), (9, 0), (10, 0), (11, 0), (12, 1), (13, 3), (14, 0), (15, 0), (16, 0)] [13] mixed (by kernel_rfl) ?_) | (refine Ge ?_ ?_ <;> (intro h; try (exfalso; omega))) | fail)
  refine St.loop1 ?_
  repeat' (first | refine Ga ?_ | (refine Gb ?_; intro b) | (refine Gd ?_; intro g cap rest hcap) | (refine Gc ?_; intro ad cap) | (refine St.draw (id := 17) [(0, 0), (1, 0), (2, 0), (3, 0), (4, 0), (5, 0), (6, 0), (7, 0), (8, 1), (9, 0), (10, 0), (11, 0), (12, 1), (13, 3), (14, 0), (15, 0), (16, 0)] [13] mixed (by kernel_rfl) ?_) | (refine Gt hi ?_; rintro _ _ ⟨ys, hp, hu, rfl, rfl⟩) | (refine Ge ?_ ?_ <;> (intro h; try (exfalso; omega))) | fail)
  refine St.d1 Tryz.func65 ⟨_, ⟨ys, hp, hu, rfl, rfl⟩, Ent.go⟩
theorem psort_t (ad : Option Addr) (cap : Nat) (xs : Prs) (hl : xs.length ≤ 12) : Tri Tryz.prog 43 #[.slice ad xs.length cap, .func (.func 44) ⟨[]⟩ ⟨[]⟩] [rowP ad cap xs]
    fun r L => ∃ ys : Prs, ys.Perm xs ∧ UpP ys ∧ r = .tuple ⟨[]⟩ ∧ L = [rowP ad cap ys] := by
  have hn := plen_t xs.length hl
  unfold rowP
  refine Tri.of_body (vs := [_, _]) Tryz.func43 rfl rfl fun w0 F => ?_
  refine St.rowC (fun hv h0 hx => ?_) (fun g lcp rst hv hrf => ?_)
  · injection hv with hv1 hv2 hv3
    subst hv1 hv3
    obtain rfl : xs = [] := by cases xs with | nil => rfl | cons _ _ => simp at h0
    have hpq : ∀ k : Int, Tri Tryz.prog 65 #[.slice none 0 0, .int .i64 0, .int .i64 0, .int .i64 k, .func (.func 44) ⟨[]⟩ ⟨[]⟩] [] fun r L => r = .tuple ⟨[]⟩ ∧ L = [] := fun k => by
      have hin : Tri Tryz.prog 86 #[.slice none 0 0, .int .i64 0, .int .i64 0, .func (.func 44) ⟨[]⟩ ⟨[]⟩] [] fun r L => r = .tuple ⟨[]⟩ ∧ L = [] := by
        refine Tri.of_body (vs := [_, _, _, _]) Tryz.func86 rfl rfl fun w0 F => ?_
        repeat' (first | refine Ga ?_ | (refine Gb ?_; intro b) | (refine Gd ?_; intro g cap rest hcap) | (refine Gc ?_; intro ad cap) | (refine St.draw (id := 4) [(0, 0), (1, 0), (2, 0), (3, 0), (4, 0), (5, 0), (6, 0), (7, 0), (8, 1), (9, 0), (10, 0), (11, 0), (12, 0), (13, 1), (14, 3), (15, 0), (16, 0)] [14] mixed (by kernel_rfl) ?_) | (refine St.draw (id := 6) [(0, 0), (1, 0), (2, 0), (3, 0), (4, 0), (5, 0), (6, 0), (7, 0), (8, 0), (9, 1), (10, 0), (11, 0), (12, 0), (13, 1), (14, 0), (15, 3), (16, 0), (17, 3)] [15, 17] mixed (by kernel_rfl) ?_) | (refine Ge ?_ ?_ <;> (intro h; try (exfalso; omega))) | fail)
        refine St.loop1 ?_
        repeat' (first | refine Ga ?_ | (refine Gb ?_; intro b) | (refine Gd ?_; intro g cap rest hcap) | (refine Gc ?_; intro ad cap) | (refine St.draw (id := 4) [(0, 0), (1, 0), (2, 0), (3, 0), (4, 0), (5, 0), (6, 0), (7, 0), (8, 1), (9, 0), (10, 0), (11, 0), (12, 0), (13, 1), (14, 3), (15, 0), (16, 0)] [14] mixed (by kernel_rfl) ?_) | (refine St.draw (id := 6) [(0, 0), (1, 0), (2, 0), (3, 0), (4, 0), (5, 0), (6, 0), (7, 0), (8, 0), (9, 1), (10, 0), (11, 0), (12, 0), (13, 1), (14, 0), (15, 3), (16, 0), (17, 3)] [15, 17] mixed (by kernel_rfl) ?_) | (refine Ge ?_ ?_ <;> (intro h; try (exfalso; omega))) | fail)
        refine St.f1 Tryz.func86 ⟨_, ⟨rfl, rfl⟩, Ent.go⟩
      refine Tri.of_body (vs := [_, _, _, _, _]) Tryz.func65 rfl rfl fun w0 F => ?_
      repeat' (first | refine Ga ?_ | (refine Gb ?_; intro b) | (refine Gd ?_; intro g cap rest hcap) | (refine Gc ?_; intro ad cap) | (refine St.draw (id := 17) [(0, 0), (1, 0), (2, 0), (3, 0), (4, 0), (5, 0), (6, 0), (7, 0), (8, 1), (9, 0), (10, 0), (11, 0), (12, 1), (13, 3), (14, 0), (15, 0), (16, 0)] [13] mixed (by kernel_rfl) ?_) | (refine Ge ?_ ?_ <;> (intro h; try (exfalso; omega))) | fail)
      refine St.loop1 ?_
      repeat' (first | refine Ga ?_ | (refine Gb ?_; intro b) | (refine Gd ?_; intro g cap rest hcap) | (refine Gc ?_; intro ad cap) | (refine St.draw (id := 17) [(0, 0), (1, 0), (2, 0), (3, 0), (4, 0), (5, 0), (6, 0), (7, 0), (8, 1), (9, 0), (10, 0), (11, 0), (12, 1), (13, 3), (14, 0), (15, 0), (16, 0)] [13] mixed (by kernel_rfl) ?_) | (refine Gt hin ?_; rintro _ _ ⟨rfl, rfl⟩) | (refine Ge ?_ ?_ <;> (intro h; try (exfalso; omega))) | fail)
      refine St.d1 Tryz.func65 ⟨_, ⟨rfl, rfl⟩, Ent.go⟩
    repeat' (first | refine Ga ?_ | (refine Gb ?_; intro b) | (refine Gd ?_; intro g cap rest hcap) | (refine Gc ?_; intro ad cap)  | (refine Gt hn ?_; rintro _ _ ⟨k, rfl, rfl⟩) | (refine Gt (hpq _) ?_; rintro _ _ ⟨rfl, rfl⟩) | (refine Ge ?_ ?_ <;> (intro h; try (exfalso; omega))) | fail)
    refine St.f1 Tryz.func43 ⟨_, ⟨[], List.Perm.refl _, List.Pairwise.nil, rfl, rfl⟩, Ent.row_nil 73 2⟩
  · injection hv with hv1 hv2 hv3
    subst hv1 hv3
    have hpq := fun k => ppdq_t g cap k xs hl rst hrf.le
    repeat' (first | refine Ga ?_ | (refine Gb ?_; intro b) | (refine Gd ?_; intro g cap rest hcap) | (refine Gc ?_; intro ad cap)  | (refine Gt hn ?_; rintro _ _ ⟨k, rfl, rfl⟩) | (refine Gt (hpq _) ?_; rintro _ _ ⟨ys, hp, hu, rfl, rfl⟩) | (refine Ge ?_ ?_ <;> (intro h; try (exfalso; omega))) | fail)
    refine St.f1 Tryz.func43 ⟨_, ⟨ys, hp, hu, rfl, rfl⟩, ?_⟩
    have hlen := hp.length_eq
    exact Ent.trans Ent.go (Ent.rowF ⟨by rw [hlen]; exact hrf.le, hrf.max, prs_len ys, by have := hrf.tot; rw [prs_len] at this ⊢; omega⟩)
end Go.Proofs.YthbignifgljphaaGreatDoor
