/-
  Packages queue, tumblerlaw20: names, texts, programs, spare handles, runs.
-/
import Derived.Test.YtphheopbngdhhaaGreatDoorQt
import Derived.Test.YtphheopbngdhhaaGreatDoorMt
namespace Go.Proofs.YtphheopbngdhhaaGreatDoor
set_option maxRecDepth 100000
def nmB : Nat → List UInt8
  | 0 => [110, 101, 119]
  | 1 => [112, 117, 116]
  | 2 => [116, 97, 107, 101]
  | 3 => [112, 101, 101, 107]
  | 4 => [115, 105, 122, 101]
  | 5 => [100, 114, 111, 112]
  | _ => [110, 111]
def qtx : Nat → List UInt8
  | 0 => q_tx_new
  | 1 => q_tx_put
  | 2 => q_tx_take
  | 3 => q_tx_peek
  | 4 => q_tx_size
  | 5 => q_tx_drop
  | _ => []
def qcd : Nat → List Ins
  | 0 => q_cd_new
  | 1 => q_cd_put
  | 2 => q_cd_take
  | 3 => q_cd_peek
  | 4 => q_cd_size
  | 5 => q_cd_drop
  | _ => []
/-- which name it is; 6: none -/
def nmOf (s : List UInt8) : Nat := if s = nmB 0 then 0 else if s = nmB 1 then 1 else if s = nmB 2 then 2 else if s = nmB 3 then 3 else if s = nmB 4 then 4 else if s = nmB 5 then 5 else 6
theorem nmOf_le (s : List UInt8) : nmOf s ≤ 6 := by
  unfold nmOf
  repeat' split
  all_goals omega
theorem qasm (k : Nat) (h : k ≤ 6) : asmM ⟨⟨qtx k⟩⟩ = some (qcd k) := by
  rcases (by omega : k = 0 ∨ k = 1 ∨ k = 2 ∨ k = 3 ∨ k = 4 ∨ k = 5 ∨ k = 6) with rfl | rfl | rfl | rfl | rfl | rfl | rfl
  · exact q_as_new
  · exact q_as_put
  · exact q_as_take
  · exact q_as_peek
  · exact q_as_size
  · exact q_as_drop
  · kernel_rfl
theorem qtext_r (s : ByteArray) : RTri Tryz.prog 50 #[.string s] [] (.tuple ⟨[bs (qtx (nmOf s.data.toList)), .bool (decide (nmOf s.data.toList < 6))]⟩) := by
  apply RTri.of_pure
  generalize hk : nmOf s.data.toList = k
  unfold nmOf at hk
  by_cases h0 : s.data.toList = nmB 0
  · rw [if_pos h0] at hk
    subst hk
    unfold nmB at *
    refine Tri.of_body (vs := [_]) Tryz.func50 rfl rfl fun w0 F => ?_
    repeat' (first | refine Ga ?_ | (refine Gb ?_; intro b) | (refine Gd ?_; intro g cap rest hcap) | (refine Gc ?_; intro ad cap)  | (refine Ge ?_ ?_ <;> (intro h; try (exfalso; omega))) | fail)
    all_goals first | (exfalso; simp_all; done) | skip
    (first | refine St.dn Tryz.func50 ⟨?_, rfl⟩ Ent.go | refine St.fl Tryz.func50 ⟨?_, rfl⟩ Ent.go)
    kernel_rfl
  rw [if_neg h0] at hk
  by_cases h1 : s.data.toList = nmB 1
  · rw [if_pos h1] at hk
    subst hk
    unfold nmB at *
    refine Tri.of_body (vs := [_]) Tryz.func50 rfl rfl fun w0 F => ?_
    repeat' (first | refine Ga ?_ | (refine Gb ?_; intro b) | (refine Gd ?_; intro g cap rest hcap) | (refine Gc ?_; intro ad cap)  | (refine Ge ?_ ?_ <;> (intro h; try (exfalso; omega))) | fail)
    all_goals first | (exfalso; simp_all; done) | skip
    (first | refine St.dn Tryz.func50 ⟨?_, rfl⟩ Ent.go | refine St.fl Tryz.func50 ⟨?_, rfl⟩ Ent.go)
    kernel_rfl
  rw [if_neg h1] at hk
  by_cases h2 : s.data.toList = nmB 2
  · rw [if_pos h2] at hk
    subst hk
    unfold nmB at *
    refine Tri.of_body (vs := [_]) Tryz.func50 rfl rfl fun w0 F => ?_
    repeat' (first | refine Ga ?_ | (refine Gb ?_; intro b) | (refine Gd ?_; intro g cap rest hcap) | (refine Gc ?_; intro ad cap)  | (refine Ge ?_ ?_ <;> (intro h; try (exfalso; omega))) | fail)
    all_goals first | (exfalso; simp_all; done) | skip
    (first | refine St.dn Tryz.func50 ⟨?_, rfl⟩ Ent.go | refine St.fl Tryz.func50 ⟨?_, rfl⟩ Ent.go)
    kernel_rfl
  rw [if_neg h2] at hk
  by_cases h3 : s.data.toList = nmB 3
  · rw [if_pos h3] at hk
    subst hk
    unfold nmB at *
    refine Tri.of_body (vs := [_]) Tryz.func50 rfl rfl fun w0 F => ?_
    repeat' (first | refine Ga ?_ | (refine Gb ?_; intro b) | (refine Gd ?_; intro g cap rest hcap) | (refine Gc ?_; intro ad cap)  | (refine Ge ?_ ?_ <;> (intro h; try (exfalso; omega))) | fail)
    all_goals first | (exfalso; simp_all; done) | skip
    (first | refine St.dn Tryz.func50 ⟨?_, rfl⟩ Ent.go | refine St.fl Tryz.func50 ⟨?_, rfl⟩ Ent.go)
    kernel_rfl
  rw [if_neg h3] at hk
  by_cases h4 : s.data.toList = nmB 4
  · rw [if_pos h4] at hk
    subst hk
    unfold nmB at *
    refine Tri.of_body (vs := [_]) Tryz.func50 rfl rfl fun w0 F => ?_
    repeat' (first | refine Ga ?_ | (refine Gb ?_; intro b) | (refine Gd ?_; intro g cap rest hcap) | (refine Gc ?_; intro ad cap)  | (refine Ge ?_ ?_ <;> (intro h; try (exfalso; omega))) | fail)
    all_goals first | (exfalso; simp_all; done) | skip
    (first | refine St.dn Tryz.func50 ⟨?_, rfl⟩ Ent.go | refine St.fl Tryz.func50 ⟨?_, rfl⟩ Ent.go)
    kernel_rfl
  rw [if_neg h4] at hk
  by_cases h5 : s.data.toList = nmB 5
  · rw [if_pos h5] at hk
    subst hk
    unfold nmB at *
    refine Tri.of_body (vs := [_]) Tryz.func50 rfl rfl fun w0 F => ?_
    repeat' (first | refine Ga ?_ | (refine Gb ?_; intro b) | (refine Gd ?_; intro g cap rest hcap) | (refine Gc ?_; intro ad cap)  | (refine Ge ?_ ?_ <;> (intro h; try (exfalso; omega))) | fail)
    all_goals first | (exfalso; simp_all; done) | skip
    (first | refine St.dn Tryz.func50 ⟨?_, rfl⟩ Ent.go | refine St.fl Tryz.func50 ⟨?_, rfl⟩ Ent.go)
    kernel_rfl
  rw [if_neg h5] at hk
  subst hk
  unfold nmB at *
  refine Tri.of_body (vs := [_]) Tryz.func50 rfl rfl fun w0 F => ?_
  repeat' (first | refine Ga ?_ | (refine Gb ?_; intro b) | (refine Gd ?_; intro g cap rest hcap) | (refine Gc ?_; intro ad cap)  | (refine Ge ?_ ?_ <;> (intro h; try (exfalso; omega))) | fail)
  all_goals first | (exfalso; simp_all; done) | skip
  (first | refine St.dn Tryz.func50 ⟨?_, rfl⟩ Ent.go | refine St.fl Tryz.func50 ⟨?_, rfl⟩ Ent.go)
  rfl
theorem qsize (k : Nat) (h : k ≤ 6) : (⟨⟨qtx k⟩⟩ : ByteArray).data.size ≤ 65536 := by
  rcases (by omega : k = 0 ∨ k = 1 ∨ k = 2 ∨ k = 3 ∨ k = 4 ∨ k = 5 ∨ k = 6) with rfl | rfl | rfl | rfl | rfl | rfl | rfl <;> (apply Nat.le_of_ble_eq_true; kernel_rfl)
theorem qprog_t (s : ByteArray) : Tri Tryz.prog 61 #[.string s] [] fun v L => ∃ ad cap, v = .tuple ⟨[.slice ad (qcd (nmOf s.data.toList)).length cap, .bool (decide (nmOf s.data.toList < 6))]⟩ ∧ L = [Row (.slice ad (qcd (nmOf s.data.toList)).length cap) 129 5 (qcd (nmOf s.data.toList)).length ((qcd (nmOf s.data.toList)).flatMap Ins.v)] := by
  have ht := qtext_r s
  have hl := nmOf_le s.data.toList
  generalize nmOf s.data.toList = k at ht hl ⊢
  have ha := assemble_t ⟨⟨qtx k⟩⟩ (qsize k hl) (qcd k) (qasm k hl)
  refine Tri.of_body (vs := [_]) Tryz.func61 rfl rfl fun w0 F => ?_
  repeat' (first | refine Ga ?_ | (refine Gb ?_; intro b) | (refine Gd ?_; intro g cap rest hcap) | (refine Gc ?_; intro ad cap) | refine Gl ht ?_ | (refine Gt ha ?_; rintro _ _ ⟨ad, cap, rfl, rfl⟩) | (refine Ge ?_ ?_ <;> (intro h; try (exfalso; omega))) | fail)
  refine St.d1 Tryz.func61 ⟨_, ⟨ad, cap, rfl, rfl⟩, ?_⟩
  exact Ent.go
end Go.Proofs.YtphheopbngdhhaaGreatDoor
