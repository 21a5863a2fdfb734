/-
  Package table: Decode, of a map as it lies.
-/
import Derived.Test.YthbignifgljphaaGreatDoorTy2
namespace Go.Proofs.YthbignifgljphaaGreatDoor
set_option maxRecDepth 100000
/-- a map's value, in the heap -/
def TaR (H : HProp) (pv : Value) : Option Tb → Prop
  | none => pv = .pointer none
  | some t => ∃ b lv, pv = .pointer (some ⟨b, 0, none⟩) ∧ RdC H b [.int .u64 (t.cap : Int), lv] ∧ ListR prV H lv t.pairs
theorem d1_r (Bb key w0 w1 w2 w3 w4 w5 w6 w7 : Nat) (h : w3 = 0 ∨ (0 < w4 ∧ key % w4 < w5)) : RTri Tryz.prog 41 #[.int .u64 (key : Int), .pointer (some ⟨Bb, 0, none⟩)] [bl Bb 49 [.int .u64 (w0 : Int), .int .u64 (w1 : Int), .int .u64 (w2 : Int), .int .u64 (w3 : Int), .int .u64 (w4 : Int), .int .u64 (w5 : Int), .int .u64 (w6 : Int), .int .u64 (w7 : Int)]] (.bool true) := by
  refine RTri.of_reads fun p hp => ?_
  have r1 : RdC p Bb [.int .u64 (w0 : Int), .int .u64 (w1 : Int), .int .u64 (w2 : Int), .int .u64 (w3 : Int), .int .u64 (w4 : Int), .int .u64 (w5 : Int), .int .u64 (w6 : Int), .int .u64 (w7 : Int)] := RdC.of_sat hp (.here RdC.bl)
  by_cases h3 : w3 = 0
  · subst h3
    rw [show (((0 : Nat) : Nat) : Int) = 0 from rfl] at r1
    refine Tri.of_body (vs := [_, _]) Tryz.func41 rfl rfl fun w0 F => ?_
    repeat' (first | refine Ga ?_ | (refine Gb ?_; intro b) | (refine Gd ?_; intro g cap rest hcap) | (refine Gc ?_; intro ad cap) | (refine St.draw (id := 1) [(0, 0), (1, 1), (2, 0), (3, 0), (4, 0), (5, 0), (6, 1), (7, 0), (8, 0), (9, 1), (10, 0), (11, 0), (12, 0)] [] mixed (by kernel_rfl) ?_) | (refine Ge ?_ ?_ <;> (intro h; try (exfalso; omega))) | fail)
    all_goals first | (exfalso; omega) | skip
    all_goals refine St.d1 Tryz.func41 ⟨_, ⟨rfl, rfl⟩, Ent.go⟩
  · obtain ⟨h4, h5⟩ := h.resolve_left h3
    have h5' : (key : Int) % (w4 : Int) < (w5 : Int) := by rw [← Int.natCast_emod]; omega
    refine Tri.of_body (vs := [_, _]) Tryz.func41 rfl rfl fun w0 F => ?_
    repeat' (first | refine Ga ?_ | (refine Gb ?_; intro b) | (refine Gd ?_; intro g cap rest hcap) | (refine Gc ?_; intro ad cap) | (refine St.draw (id := 1) [(0, 0), (1, 1), (2, 0), (3, 0), (4, 0), (5, 0), (6, 1), (7, 0), (8, 0), (9, 1), (10, 0), (11, 0), (12, 0)] [] mixed (by kernel_rfl) ?_) | (refine Ge ?_ ?_ <;> (intro h; try (exfalso; omega))) | fail)
    all_goals first | (exfalso; omega) | skip
    all_goals (refine St.d1 Tryz.func41 ⟨_, ⟨?_, rfl⟩, Ent.go⟩; simp only [resV]; first | rfl | exact congrArg Value.bool (decide_eq_true (by omega)))
theorem d2_r (key : Nat) : RTri Tryz.prog 42 #[.int .u64 (key : Int)] [] (.bool true) := by
  apply RTri.of_pure
  refine Tri.of_body (vs := [_]) Tryz.func42 rfl rfl fun w0 F => ?_
  repeat' (first | refine Ga ?_ | (refine Gb ?_; intro b) | (refine Gd ?_; intro g cap rest hcap) | (refine Gc ?_; intro ad cap)  | (refine Ge ?_ ?_ <;> (intro h; try (exfalso; omega))) | fail)
  refine St.d1 Tryz.func42 ⟨_, ⟨rfl, rfl⟩, Ent.go⟩
set_option maxHeartbeats 1000000 in
theorem right_rd (S X mb v0 v1 v2 v3 v4 v5 v6 v7 : Nat) (h : stageOk v2 v4 v5 v3) : RTri Tryz.prog 39 #[.pointer (some ⟨X, 0, none⟩)] [bl X 98 [.pointer (some ⟨S, 0, none⟩), .int .u64 (v0 : Int), .int .u64 (v1 : Int), .int .u64 (v2 : Int), .int .u64 (v3 : Int), .int .u64 (v4 : Int), .int .u64 (v5 : Int), .int .u64 (v6 : Int), .int .u64 (v7 : Int), .map (some mb)]] (.bool true) := by
  refine RTri.of_reads fun p hp => ?_
  have r1 : RdC p X [.pointer (some ⟨S, 0, none⟩), .int .u64 (v0 : Int), .int .u64 (v1 : Int), .int .u64 (v2 : Int), .int .u64 (v3 : Int), .int .u64 (v4 : Int), .int .u64 (v5 : Int), .int .u64 (v6 : Int), .int .u64 (v7 : Int), .map (some mb)] := RdC.of_sat hp (.here RdC.bl)
  have hd : (v2 : Int).tdiv 2 = v2 / 2 := rfl
  have h2 : v2 = 2 ∨ v2 = 4 ∨ v2 = 8 := by rcases h with ⟨_, _, _, h⟩ | ⟨_, h, _, _⟩ <;> omega
  have h3 : v3 = 0 → v4 = 0 ∧ v5 = 0 := fun e => by rcases h with ⟨_, h, h', _⟩ | ⟨h, _⟩ <;> omega
  have h4 : v3 ≠ 0 → 2 < v2 ∧ v4 = v2 / 2 ∧ v5 < v4 := fun e => by rcases h with ⟨h, _⟩ | ⟨_, h, h', h2⟩ <;> omega
  refine Tri.of_body (vs := [_]) Tryz.func39 rfl rfl fun w0 F => ?_
  repeat' (first | refine Ga ?_ | (refine Gb ?_; intro b) | (refine Gd ?_; intro g cap rest hcap) | (refine Gc ?_; intro ad cap) | (refine St.draw (id := 1) [(0, 0), (1, 0), (2, 0), (3, 0), (4, 1), (5, 0), (6, 0), (7, 0), (8, 0), (9, 1), (10, 0), (11, 0), (12, 0), (13, 0), (14, 1), (15, 0), (16, 0), (17, 0), (18, 0), (19, 1), (20, 0), (21, 0), (22, 0), (23, 0)] [] mixed (by kernel_rfl) ?_) | (refine Ge ?_ ?_ <;> (intro h; try (exfalso; omega))) | fail)
  all_goals first | (exfalso; omega) | skip
  all_goals (refine St.d1 Tryz.func39 ⟨_, ⟨?_, rfl⟩, Ent.go⟩; simp only [resV]; first | rfl | exact congrArg Value.bool (decide_eq_true (by omega)))
end Go.Proofs.YthbignifgljphaaGreatDoor
