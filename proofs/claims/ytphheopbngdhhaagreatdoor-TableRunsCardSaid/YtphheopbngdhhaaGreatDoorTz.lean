/-
  Pairs, compared by their keys.
-/
import Derived.Test.YtphheopbngdhhaaGreatDoorTe
namespace Go.Proofs.YtphheopbngdhhaaGreatDoor
set_option maxRecDepth 100000
def prV (p : Nat × Nat) : List Value := [.int .u64 (p.1 : Int), .int .u64 (p.2 : Int)]
theorem prV_len (p : Nat × Nat) : (prV p).length = 2 := rfl
def cmpI (a b : Nat) : Int := if a < b then -1 else if b < a then 1 else 0
theorem compare_r (a b : Nat) : RTri Tryz.prog 45 #[.int .u64 (a : Int), .int .u64 (b : Int)] [] (.int .i64 (cmpI a b)) := by
  have hn : ∀ z : Int, RTri Tryz.prog 73 #[.int .u64 z] [] (.bool false) := fun z => by
    apply RTri.of_pure
    refine Tri.of_body (vs := [_]) Tryz.func73 rfl rfl fun w0 F => ?_
    repeat' (first | refine Ga ?_ | (refine Gb ?_; intro b) | (refine Gd ?_; intro g cap rest hcap) | (refine Gc ?_; intro ad cap)  | (refine Ge ?_ ?_ <;> (intro h; try (exfalso; omega))) | fail)
    refine St.d1 Tryz.func73 ⟨_, ⟨?_, rfl⟩, Ent.go⟩
    simp [resV]
  apply RTri.of_pure
  unfold cmpI
  refine Tri.of_body (vs := [_, _]) Tryz.func45 rfl rfl fun w0 F => ?_
  repeat' (first | refine Ga ?_ | (refine Gb ?_; intro b) | (refine Gd ?_; intro g cap rest hcap) | (refine Gc ?_; intro ad cap) | refine Gl (hn _) ?_ | (refine Ge ?_ ?_ <;> (intro h; try (exfalso; omega))) | fail)
  all_goals (refine St.d1 Tryz.func45 ⟨_, ⟨?_, rfl⟩, Ent.go⟩)
  all_goals (simp only [resV])
  all_goals (repeat' split)
  all_goals first | rfl | (exfalso; omega)
theorem cmp3_r (x y : Nat × Nat) : RTri Tryz.prog 44 #[.agg ⟨prV x⟩, .agg ⟨prV y⟩] [] (.int .i64 (cmpI x.1 y.1)) := by
  have hc := compare_r x.1 y.1
  apply RTri.of_pure
  unfold prV
  refine Tri.of_body (vs := [_, _]) Tryz.func44 rfl rfl fun w0 F => ?_
  repeat' (first | refine Ga ?_ | (refine Gb ?_; intro b) | (refine Gd ?_; intro g cap rest hcap) | (refine Gc ?_; intro ad cap) | refine Gl hc ?_ | (refine Ge ?_ ?_ <;> (intro h; try (exfalso; omega))) | fail)
  refine St.d1 Tryz.func44 ⟨_, ⟨rfl, rfl⟩, Ent.go⟩
/-- rising -/
abbrev UpP (l : Prs) := l.Pairwise (fun x y => x.1 ≤ y.1)
def rowP (ad : Option Addr) (cap : Nat) (xs : Prs) : HProp := Row (.slice ad xs.length cap) 88 2 xs.length (xs.flatMap prV)
theorem prs_len (l : Prs) : (l.flatMap prV).length = l.length * 2 := by
  induction l with
  | nil => rfl
  | cons x xs ih => rw [List.flatMap_cons, List.length_append, ih, List.length_cons, prV_len]; omega
theorem plen64_t (n : Nat) (hn : n ≤ 12) : Tri Tryz.prog 112 #[.int .u64 (n : Int)] [] fun r L => ∃ k : Int, r = .int .i64 k ∧ L = [] := by
  refine Tri.of_body (vs := [_]) Tryz.func112 rfl rfl fun w0 F => ?_
  repeat' (first | refine Ga ?_ | (refine Gb ?_; intro b) | (refine Gd ?_; intro g cap rest hcap) | (refine Gc ?_; intro ad cap)  | (refine Ge ?_ ?_ <;> (intro h; try (exfalso; omega))) | fail)
  (apply StL.v; (apply OpV.idxStr; rfl; rfl; omega; (show (n : Int) < ((256 : Nat) : Int); omega)); rfl)
  generalize (Array.getD _ (n : Int).toNat _ : UInt8) = bv
  have hbv := bv.toNat_lt
  repeat' (first | refine Ga ?_ | (refine Gb ?_; intro b) | (refine Gd ?_; intro g cap rest hcap) | (refine Gc ?_; intro ad cap)  | (refine Ge ?_ ?_ <;> (intro h; try (exfalso; omega))) | fail)
  refine St.d1 Tryz.func112 ⟨_, ⟨_, rfl, rfl⟩, Ent.go⟩
theorem plen_t (n : Nat) (hn : n ≤ 12) : Tri Tryz.prog 72 #[.int .u64 (n : Int)] [] fun r L => ∃ k : Int, r = .int .i64 k ∧ L = [] := by
  have h6 := plen64_t n hn
  refine Tri.of_body (vs := [_]) Tryz.func72 rfl rfl fun w0 F => ?_
  repeat' (first | refine Ga ?_ | (refine Gb ?_; intro b) | (refine Gd ?_; intro g cap rest hcap) | (refine Gc ?_; intro ad cap)  | (refine Gt h6 ?_; rintro _ _ ⟨k, rfl, rfl⟩) | (refine Ge ?_ ?_ <;> (intro h; try (exfalso; omega))) | fail)
  refine St.d1 Tryz.func72 ⟨_, ⟨_, rfl, rfl⟩, Ent.go⟩
end Go.Proofs.YtphheopbngdhhaaGreatDoor
