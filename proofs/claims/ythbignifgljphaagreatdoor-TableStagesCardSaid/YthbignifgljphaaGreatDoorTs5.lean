/-
  Package tumblerlaw22: grown, TableStages.
-/
import Derived.Test.YthbignifgljphaaGreatDoorTs4
namespace Go.Proofs.YthbignifgljphaaGreatDoor
set_option maxRecDepth 100000
def growV (r : Nat × Nat × Nat) : Value := .tuple ⟨[.int .u64 (r.1 : Int), .int .u64 (r.2.1 : Int), .int .u64 (r.2.2 : Int)]⟩
set_option maxHeartbeats 1000000 in
theorem grown_r (n od at_ count : Nat) (fresh : Bool) (hn : n ≤ 8) (ha : at_ ≤ 1000) (hc : count ≤ 1000) : RTri Tryz.prog 16 #[.int .u64 (n : Int), .int .u64 (od : Int), .int .u64 (at_ : Int), .bool fresh, .int .i64 (count : Int)] [] (growV (growM (n, od, at_) fresh count)) := by
  apply RTri.of_pure
  unfold growV growM mvStage
  dsimp only
  by_cases h1 : 0 < od
  · by_cases h2 : at_ + 1 = od
    · rw [if_pos h1, if_pos h2]
      cases fresh
      · rw [if_neg (fun h => absurd h.1 (by decide))]
        refine Tri.of_body (vs := [_, _, _, _, _]) Tryz.func16 rfl rfl fun w0 F => ?_
        repeat' (first | refine Ga ?_ | (refine Gb ?_; intro b) | (refine Gd ?_; intro g cap rest hcap) | (refine Gc ?_; intro ad cap)  | (refine Ge ?_ ?_ <;> (intro h; try (exfalso; omega))) | fail)
        all_goals first | (exfalso; omega) | skip
        refine St.d1 Tryz.func16 ⟨_, ⟨rfl, rfl⟩, Ent.go⟩
      · by_cases h3 : n < 8 ∧ 2 * n < count
        · rw [if_pos ⟨rfl, rfl, h3.1, h3.2⟩]
          obtain ⟨h3, h4⟩ := h3
          have e : ((2 * n : Nat) : Int) = 2 * (n : Int) := by omega
          dsimp only
          rw [e]
          refine Tri.of_body (vs := [_, _, _, _, _]) Tryz.func16 rfl rfl fun w0 F => ?_
          repeat' (first | refine Ga ?_ | (refine Gb ?_; intro b) | (refine Gd ?_; intro g cap rest hcap) | (refine Gc ?_; intro ad cap)  | (refine Ge ?_ ?_ <;> (intro h; try (exfalso; omega))) | fail)
          all_goals first | (exfalso; omega) | skip
          refine St.d1 Tryz.func16 ⟨_, ⟨rfl, rfl⟩, Ent.go⟩
        · rw [if_neg (fun h => h3 ⟨h.2.2.1, h.2.2.2⟩)]
          refine Tri.of_body (vs := [_, _, _, _, _]) Tryz.func16 rfl rfl fun w0 F => ?_
          repeat' (first | refine Ga ?_ | (refine Gb ?_; intro b) | (refine Gd ?_; intro g cap rest hcap) | (refine Gc ?_; intro ad cap)  | (refine Ge ?_ ?_ <;> (intro h; try (exfalso; omega))) | fail)
          all_goals first | (exfalso; omega) | skip
          all_goals refine St.d1 Tryz.func16 ⟨_, ⟨rfl, rfl⟩, Ent.go⟩
    · rw [if_pos h1, if_neg h2]
      rw [if_neg (fun h => by have := h.2.1; dsimp only at this; omega)]
      dsimp only
      have e : ((at_ + 1 : Nat) : Int) = (at_ : Int) + 1 := by omega
      rw [e]
      cases fresh
      · refine Tri.of_body (vs := [_, _, _, _, _]) Tryz.func16 rfl rfl fun w0 F => ?_
        repeat' (first | refine Ga ?_ | (refine Gb ?_; intro b) | (refine Gd ?_; intro g cap rest hcap) | (refine Gc ?_; intro ad cap)  | (refine Ge ?_ ?_ <;> (intro h; try (exfalso; omega))) | fail)
        all_goals first | (exfalso; omega) | skip
        refine St.d1 Tryz.func16 ⟨_, ⟨rfl, rfl⟩, Ent.go⟩
      · refine Tri.of_body (vs := [_, _, _, _, _]) Tryz.func16 rfl rfl fun w0 F => ?_
        repeat' (first | refine Ga ?_ | (refine Gb ?_; intro b) | (refine Gd ?_; intro g cap rest hcap) | (refine Gc ?_; intro ad cap)  | (refine Ge ?_ ?_ <;> (intro h; try (exfalso; omega))) | fail)
        all_goals first | (exfalso; omega) | skip
        all_goals refine St.d1 Tryz.func16 ⟨_, ⟨rfl, rfl⟩, Ent.go⟩
  · rw [if_neg h1]
    have hod : od = 0 := by omega
    subst hod
    dsimp only
    rw [show ((0 : Nat) : Int) = 0 from rfl]
    cases fresh
    · rw [if_neg (fun h => absurd h.1 (by decide))]
      refine Tri.of_body (vs := [_, _, _, _, _]) Tryz.func16 rfl rfl fun w0 F => ?_
      repeat' (first | refine Ga ?_ | (refine Gb ?_; intro b) | (refine Gd ?_; intro g cap rest hcap) | (refine Gc ?_; intro ad cap)  | (refine Ge ?_ ?_ <;> (intro h; try (exfalso; omega))) | fail)
      all_goals first | (exfalso; omega) | skip
      refine St.d1 Tryz.func16 ⟨_, ⟨rfl, rfl⟩, Ent.go⟩
    · by_cases h3 : n < 8 ∧ 2 * n < count
      · rw [if_pos ⟨rfl, rfl, h3.1, h3.2⟩]
        obtain ⟨h3, h4⟩ := h3
        have e : ((2 * n : Nat) : Int) = 2 * (n : Int) := by omega
        dsimp only
        rw [e]
        refine Tri.of_body (vs := [_, _, _, _, _]) Tryz.func16 rfl rfl fun w0 F => ?_
        repeat' (first | refine Ga ?_ | (refine Gb ?_; intro b) | (refine Gd ?_; intro g cap rest hcap) | (refine Gc ?_; intro ad cap)  | (refine Ge ?_ ?_ <;> (intro h; try (exfalso; omega))) | fail)
        all_goals first | (exfalso; omega) | skip
        refine St.d1 Tryz.func16 ⟨_, ⟨rfl, rfl⟩, Ent.go⟩
      · rw [if_neg (fun h => h3 ⟨h.2.2.1, h.2.2.2⟩)]
        refine Tri.of_body (vs := [_, _, _, _, _]) Tryz.func16 rfl rfl fun w0 F => ?_
        repeat' (first | refine Ga ?_ | (refine Gb ?_; intro b) | (refine Gd ?_; intro g cap rest hcap) | (refine Gc ?_; intro ad cap)  | (refine Ge ?_ ?_ <;> (intro h; try (exfalso; omega))) | fail)
        all_goals first | (exfalso; omega) | skip
        all_goals refine St.d1 Tryz.func16 ⟨_, ⟨rfl, rfl⟩, Ent.go⟩
theorem Rep.bd {R : List Nat} {B : Bks} {root own : Nat} {s : Nat × Nat × Nat} {x : Option Tb} (h : Rep R B root own s x) : s.1 ≤ 8 ∧ s.2.2 ≤ 1000 := by
  cases x with
  | none => obtain ⟨_, _, rfl⟩ := h; exact ⟨by decide, by decide⟩
  | some t =>
    obtain ⟨S, hp, _, _, _, _, rfl⟩ := h
    rcases hp.st with ⟨_, _, h3, h4⟩ | ⟨_, h2, h3, h4⟩
    · exact ⟨by show S.n ≤ 8; omega, by show S.at_ ≤ 1000; omega⟩
    · exact ⟨by show S.n ≤ 8; omega, by show S.at_ ≤ 1000; omega⟩
end Go.Proofs.YthbignifgljphaaGreatDoor
