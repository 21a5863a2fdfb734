/-
  Package tumblerref06: Reckon, for all instructions without roots and blocks. Package tumblerref11: a Run's cells. Package tumblerref11: fails, ends, pay, put, fetch.
-/
import Derived.Test.YthmbgodcpgkkeaaGreatMa
import Derived.Test.YthmbgodcpgkkeaaGreatKc
import Derived.Test.YthmbgodcpgkkeaaGreatVr
section
namespace Go.Proofs.YthmbgodcpgkkeaaGreat
set_option maxRecDepth 100000
theorem mod_lt64 {b c : Nat} (hb : b < 18446744073709551616) (_hc : 0 < c) : IntKind.u64.wrap ((b : Int) - IntKind.u64.wrap ((c : Int) * ((b : Int) / (c : Int)))) = ((b % c : Nat) : Int) := by
  have h1 : (c : Int) * ((b : Int) / (c : Int)) + (b : Int) % (c : Int) = b := Int.mul_ediv_add_emod ..
  have h2 : ((b % c : Nat) : Int) = (b : Int) % (c : Int) := by omega
  have h3 : (b : Int) % (c : Int) ≤ b := by rw [← h2]; have := Nat.mod_le b c; omega
  have h4 : 0 ≤ (b : Int) % (c : Int) := by rw [← h2]; omega
  have hw : ∀ n : Int, IntKind.u64.wrap n = n % 18446744073709551616 := fun n => by simp [IntKind.wrap, IntKind.bits, IntKind.signed]
  rw [h2, hw, hw]
  generalize (c : Int) * ((b : Int) / (c : Int)) = m at h1
  generalize (b : Int) % (c : Int) = r at h1 h3 h4
  omega
section
theorem reckon6_0 (a b c : Int) (imm : Nat) (regs args : List Nat) (_hb0 : 0 ≤ b) (_hb1 : b < 16) (_hc0 : 0 ≤ c) (_hc1 : c < 16) (_hrl : regs.length = 16) (_hal : args.length = 4) (_hrv : ∀ x ∈ regs, x < 18446744073709551616) : RTri Tryz.prog 197 #[.agg ⟨[.int .i64 0, .int .i64 a, .int .i64 b, .int .i64 c, .int .u64 (imm : Int)]⟩, .agg ⟨u64s regs⟩, .agg ⟨u64s args⟩] [] (.int .u64 (reckon ⟨0, a, b, c, imm⟩ regs args : Int)) := by
  apply RTri.of_pure
  have hnb : NthN (0 + b.toNat * 1) (u64s regs) (.int .u64 ((regs.getD b.toNat 0 : Nat) : Int)) := by
    rw [Nat.zero_add, Nat.mul_one]; exact NthN.u64s (by omega)
  have hnc : NthN (0 + c.toNat * 1) (u64s regs) (.int .u64 ((regs.getD c.toNat 0 : Nat) : Int)) := by
    rw [Nat.zero_add, Nat.mul_one]; exact NthN.u64s (by omega)
  unfold reckon
  dsimp only
  generalize regs.getD b.toNat 0 = rb at hnb ⊢
  generalize regs.getD c.toNat 0 = rc at hnc ⊢
  refine Tri.of_body (vs := [_, _, _]) Tryz.func197 rfl rfl fun w0 F => ?_
  repeat' (first | refine Ga ?_ | (refine Gb ?_; intro b) | (refine Gd ?_; intro g cap rest hcap) | (refine Gc ?_; intro ad cap) | refine Gl (bit6_r _) ?_ | (refine Ge ?_ ?_ <;> (intro h; try (exfalso; omega))) | fail)
  all_goals first | (exfalso; omega) | skip
  all_goals (first | refine St.dn Tryz.func197 ⟨?_, rfl⟩ Ent.go | refine St.fl Tryz.func197 ⟨?_, rfl⟩ Ent.go)
  all_goals (repeat (first | rw [if_pos (by omega)] | rw [if_neg (by omega)]))
  all_goals first | rfl | (rw [nat64_eq]; rfl) | (rw [beq_cast']; rfl) | (simp only [← Int.ofNat_lt]; rfl)
theorem reckon6_1 (a b c : Int) (imm : Nat) (regs args : List Nat) (_hb0 : 0 ≤ b) (_hb1 : b < 16) (_hc0 : 0 ≤ c) (_hc1 : c < 16) (_hrl : regs.length = 16) (_hal : args.length = 4) (_hrv : ∀ x ∈ regs, x < 18446744073709551616) : RTri Tryz.prog 197 #[.agg ⟨[.int .i64 1, .int .i64 a, .int .i64 b, .int .i64 c, .int .u64 (imm : Int)]⟩, .agg ⟨u64s regs⟩, .agg ⟨u64s args⟩] [] (.int .u64 (reckon ⟨1, a, b, c, imm⟩ regs args : Int)) := by
  apply RTri.of_pure
  have hnb : NthN (0 + b.toNat * 1) (u64s regs) (.int .u64 ((regs.getD b.toNat 0 : Nat) : Int)) := by
    rw [Nat.zero_add, Nat.mul_one]; exact NthN.u64s (by omega)
  have hnc : NthN (0 + c.toNat * 1) (u64s regs) (.int .u64 ((regs.getD c.toNat 0 : Nat) : Int)) := by
    rw [Nat.zero_add, Nat.mul_one]; exact NthN.u64s (by omega)
  unfold reckon
  dsimp only
  generalize regs.getD b.toNat 0 = rb at hnb ⊢
  generalize regs.getD c.toNat 0 = rc at hnc ⊢
  refine Tri.of_body (vs := [_, _, _]) Tryz.func197 rfl rfl fun w0 F => ?_
  repeat' (first | refine Ga ?_ | (refine Gb ?_; intro b) | (refine Gd ?_; intro g cap rest hcap) | (refine Gc ?_; intro ad cap) | refine Gl (bit6_r _) ?_ | (refine Ge ?_ ?_ <;> (intro h; try (exfalso; omega))) | fail)
  all_goals first | (exfalso; omega) | skip
  all_goals (first | refine St.dn Tryz.func197 ⟨?_, rfl⟩ Ent.go | refine St.fl Tryz.func197 ⟨?_, rfl⟩ Ent.go)
  all_goals (repeat (first | rw [if_pos (by omega)] | rw [if_neg (by omega)]))
  all_goals first | rfl | (rw [nat64_eq]; rfl) | (rw [beq_cast']; rfl) | (simp only [← Int.ofNat_lt]; rfl)
theorem reckon6_2 (a b c : Int) (imm : Nat) (regs args : List Nat) (_hb0 : 0 ≤ b) (_hb1 : b < 16) (_hc0 : 0 ≤ c) (_hc1 : c < 16) (_hrl : regs.length = 16) (_hal : args.length = 4) (_hrv : ∀ x ∈ regs, x < 18446744073709551616) : RTri Tryz.prog 197 #[.agg ⟨[.int .i64 2, .int .i64 a, .int .i64 b, .int .i64 c, .int .u64 (imm : Int)]⟩, .agg ⟨u64s regs⟩, .agg ⟨u64s args⟩] [] (.int .u64 (reckon ⟨2, a, b, c, imm⟩ regs args : Int)) := by
  apply RTri.of_pure
  have hnb : NthN (0 + b.toNat * 1) (u64s regs) (.int .u64 ((regs.getD b.toNat 0 : Nat) : Int)) := by
    rw [Nat.zero_add, Nat.mul_one]; exact NthN.u64s (by omega)
  have hnc : NthN (0 + c.toNat * 1) (u64s regs) (.int .u64 ((regs.getD c.toNat 0 : Nat) : Int)) := by
    rw [Nat.zero_add, Nat.mul_one]; exact NthN.u64s (by omega)
  unfold reckon
  dsimp only
  generalize regs.getD b.toNat 0 = rb at hnb ⊢
  generalize regs.getD c.toNat 0 = rc at hnc ⊢
  refine Tri.of_body (vs := [_, _, _]) Tryz.func197 rfl rfl fun w0 F => ?_
  repeat' (first | refine Ga ?_ | (refine Gb ?_; intro b) | (refine Gd ?_; intro g cap rest hcap) | (refine Gc ?_; intro ad cap) | refine Gl (bit6_r _) ?_ | (refine Ge ?_ ?_ <;> (intro h; try (exfalso; omega))) | fail)
  all_goals first | (exfalso; omega) | skip
  all_goals (first | refine St.dn Tryz.func197 ⟨?_, rfl⟩ Ent.go | refine St.fl Tryz.func197 ⟨?_, rfl⟩ Ent.go)
  all_goals (repeat (first | rw [if_pos (by omega)] | rw [if_neg (by omega)]))
  all_goals first | rfl | (rw [nat64_eq]; rfl) | (rw [beq_cast']; rfl) | (simp only [← Int.ofNat_lt]; rfl)
theorem reckon6_3 (a b c : Int) (imm : Nat) (regs args : List Nat) (_hb0 : 0 ≤ b) (_hb1 : b < 16) (_hc0 : 0 ≤ c) (_hc1 : c < 16) (_hrl : regs.length = 16) (_hal : args.length = 4) (_hrv : ∀ x ∈ regs, x < 18446744073709551616) : RTri Tryz.prog 197 #[.agg ⟨[.int .i64 3, .int .i64 a, .int .i64 b, .int .i64 c, .int .u64 (imm : Int)]⟩, .agg ⟨u64s regs⟩, .agg ⟨u64s args⟩] [] (.int .u64 (reckon ⟨3, a, b, c, imm⟩ regs args : Int)) := by
  apply RTri.of_pure
  have hnb : NthN (0 + b.toNat * 1) (u64s regs) (.int .u64 ((regs.getD b.toNat 0 : Nat) : Int)) := by
    rw [Nat.zero_add, Nat.mul_one]; exact NthN.u64s (by omega)
  have hnc : NthN (0 + c.toNat * 1) (u64s regs) (.int .u64 ((regs.getD c.toNat 0 : Nat) : Int)) := by
    rw [Nat.zero_add, Nat.mul_one]; exact NthN.u64s (by omega)
  unfold reckon
  dsimp only
  generalize regs.getD b.toNat 0 = rb at hnb ⊢
  generalize regs.getD c.toNat 0 = rc at hnc ⊢
  refine Tri.of_body (vs := [_, _, _]) Tryz.func197 rfl rfl fun w0 F => ?_
  repeat' (first | refine Ga ?_ | (refine Gb ?_; intro b) | (refine Gd ?_; intro g cap rest hcap) | (refine Gc ?_; intro ad cap) | refine Gl (bit6_r _) ?_ | (refine Ge ?_ ?_ <;> (intro h; try (exfalso; omega))) | fail)
  all_goals first | (exfalso; omega) | skip
  all_goals (first | refine St.dn Tryz.func197 ⟨?_, rfl⟩ Ent.go | refine St.fl Tryz.func197 ⟨?_, rfl⟩ Ent.go)
  all_goals (repeat (first | rw [if_pos (by omega)] | rw [if_neg (by omega)]))
  all_goals first | rfl | (rw [nat64_eq]; rfl) | (rw [beq_cast']; rfl) | (simp only [← Int.ofNat_lt]; rfl)
theorem reckon6_4 (a b c : Int) (imm : Nat) (regs args : List Nat) (_hb0 : 0 ≤ b) (_hb1 : b < 16) (_hc0 : 0 ≤ c) (_hc1 : c < 16) (_hrl : regs.length = 16) (_hal : args.length = 4) (_hrv : ∀ x ∈ regs, x < 18446744073709551616) : RTri Tryz.prog 197 #[.agg ⟨[.int .i64 4, .int .i64 a, .int .i64 b, .int .i64 c, .int .u64 (imm : Int)]⟩, .agg ⟨u64s regs⟩, .agg ⟨u64s args⟩] [] (.int .u64 (reckon ⟨4, a, b, c, imm⟩ regs args : Int)) := by
  apply RTri.of_pure
  have hnb : NthN (0 + b.toNat * 1) (u64s regs) (.int .u64 ((regs.getD b.toNat 0 : Nat) : Int)) := by
    rw [Nat.zero_add, Nat.mul_one]; exact NthN.u64s (by omega)
  have hnc : NthN (0 + c.toNat * 1) (u64s regs) (.int .u64 ((regs.getD c.toNat 0 : Nat) : Int)) := by
    rw [Nat.zero_add, Nat.mul_one]; exact NthN.u64s (by omega)
  unfold reckon
  dsimp only
  generalize regs.getD b.toNat 0 = rb at hnb ⊢
  generalize regs.getD c.toNat 0 = rc at hnc ⊢
  refine Tri.of_body (vs := [_, _, _]) Tryz.func197 rfl rfl fun w0 F => ?_
  repeat' (first | refine Ga ?_ | (refine Gb ?_; intro b) | (refine Gd ?_; intro g cap rest hcap) | (refine Gc ?_; intro ad cap) | refine Gl (bit6_r _) ?_ | (refine Ge ?_ ?_ <;> (intro h; try (exfalso; omega))) | fail)
  all_goals first | (exfalso; omega) | skip
  all_goals (first | refine St.dn Tryz.func197 ⟨?_, rfl⟩ Ent.go | refine St.fl Tryz.func197 ⟨?_, rfl⟩ Ent.go)
  all_goals (repeat (first | rw [if_pos (by omega)] | rw [if_neg (by omega)]))
  all_goals first | rfl | (rw [nat64_eq]; rfl) | (rw [beq_cast']; rfl) | (simp only [← Int.ofNat_lt]; rfl)
theorem reckon6_6 (a b c : Int) (imm : Nat) (regs args : List Nat) (_hb0 : 0 ≤ b) (_hb1 : b < 16) (_hc0 : 0 ≤ c) (_hc1 : c < 16) (_hrl : regs.length = 16) (_hal : args.length = 4) (_hrv : ∀ x ∈ regs, x < 18446744073709551616) : RTri Tryz.prog 197 #[.agg ⟨[.int .i64 6, .int .i64 a, .int .i64 b, .int .i64 c, .int .u64 (imm : Int)]⟩, .agg ⟨u64s regs⟩, .agg ⟨u64s args⟩] [] (.int .u64 (reckon ⟨6, a, b, c, imm⟩ regs args : Int)) := by
  apply RTri.of_pure
  have hnb : NthN (0 + b.toNat * 1) (u64s regs) (.int .u64 ((regs.getD b.toNat 0 : Nat) : Int)) := by
    rw [Nat.zero_add, Nat.mul_one]; exact NthN.u64s (by omega)
  have hnc : NthN (0 + c.toNat * 1) (u64s regs) (.int .u64 ((regs.getD c.toNat 0 : Nat) : Int)) := by
    rw [Nat.zero_add, Nat.mul_one]; exact NthN.u64s (by omega)
  unfold reckon
  dsimp only
  generalize regs.getD b.toNat 0 = rb at hnb ⊢
  generalize regs.getD c.toNat 0 = rc at hnc ⊢
  refine Tri.of_body (vs := [_, _, _]) Tryz.func197 rfl rfl fun w0 F => ?_
  repeat' (first | refine Ga ?_ | (refine Gb ?_; intro b) | (refine Gd ?_; intro g cap rest hcap) | (refine Gc ?_; intro ad cap) | refine Gl (bit6_r _) ?_ | (refine Ge ?_ ?_ <;> (intro h; try (exfalso; omega))) | fail)
  all_goals first | (exfalso; omega) | skip
  all_goals (first | refine St.dn Tryz.func197 ⟨?_, rfl⟩ Ent.go | refine St.fl Tryz.func197 ⟨?_, rfl⟩ Ent.go)
  all_goals (repeat (first | rw [if_pos (by omega)] | rw [if_neg (by omega)]))
  all_goals first | rfl | (rw [nat64_eq]; rfl) | (rw [beq_cast']; rfl) | (simp only [← Int.ofNat_lt]; rfl)
theorem reckon6_7 (a b c : Int) (imm : Nat) (regs args : List Nat) (_hb0 : 0 ≤ b) (_hb1 : b < 16) (_hc0 : 0 ≤ c) (_hc1 : c < 16) (_hrl : regs.length = 16) (_hal : args.length = 4) (_hrv : ∀ x ∈ regs, x < 18446744073709551616) : RTri Tryz.prog 197 #[.agg ⟨[.int .i64 7, .int .i64 a, .int .i64 b, .int .i64 c, .int .u64 (imm : Int)]⟩, .agg ⟨u64s regs⟩, .agg ⟨u64s args⟩] [] (.int .u64 (reckon ⟨7, a, b, c, imm⟩ regs args : Int)) := by
  apply RTri.of_pure
  have hnb : NthN (0 + b.toNat * 1) (u64s regs) (.int .u64 ((regs.getD b.toNat 0 : Nat) : Int)) := by
    rw [Nat.zero_add, Nat.mul_one]; exact NthN.u64s (by omega)
  have hnc : NthN (0 + c.toNat * 1) (u64s regs) (.int .u64 ((regs.getD c.toNat 0 : Nat) : Int)) := by
    rw [Nat.zero_add, Nat.mul_one]; exact NthN.u64s (by omega)
  unfold reckon
  dsimp only
  generalize regs.getD b.toNat 0 = rb at hnb ⊢
  generalize regs.getD c.toNat 0 = rc at hnc ⊢
  refine Tri.of_body (vs := [_, _, _]) Tryz.func197 rfl rfl fun w0 F => ?_
  repeat' (first | refine Ga ?_ | (refine Gb ?_; intro b) | (refine Gd ?_; intro g cap rest hcap) | (refine Gc ?_; intro ad cap) | refine Gl (bit6_r _) ?_ | (refine Ge ?_ ?_ <;> (intro h; try (exfalso; omega))) | fail)
  all_goals first | (exfalso; omega) | skip
  all_goals (first | refine St.dn Tryz.func197 ⟨?_, rfl⟩ Ent.go | refine St.fl Tryz.func197 ⟨?_, rfl⟩ Ent.go)
  all_goals (repeat (first | rw [if_pos (by omega)] | rw [if_neg (by omega)]))
  all_goals first | rfl | (rw [nat64_eq]; rfl) | (rw [beq_cast']; rfl) | (simp only [← Int.ofNat_lt]; rfl)
theorem reckon6_5 (a b c : Int) (imm : Nat) (regs args : List Nat) (_hb0 : 0 ≤ b) (_hb1 : b < 16) (_hc0 : 0 ≤ c) (_hc1 : c < 16) (_hrl : regs.length = 16) (_hal : args.length = 4) (hrv : ∀ x ∈ regs, x < 18446744073709551616) : RTri Tryz.prog 197 #[.agg ⟨[.int .i64 5, .int .i64 a, .int .i64 b, .int .i64 c, .int .u64 (imm : Int)]⟩, .agg ⟨u64s regs⟩, .agg ⟨u64s args⟩] [] (.int .u64 (reckon ⟨5, a, b, c, imm⟩ regs args : Int)) := by
  apply RTri.of_pure
  have hnb : NthN (0 + b.toNat * 1) (u64s regs) (.int .u64 ((regs.getD b.toNat 0 : Nat) : Int)) := by
    rw [Nat.zero_add, Nat.mul_one]; exact NthN.u64s (by omega)
  have hnc : NthN (0 + c.toNat * 1) (u64s regs) (.int .u64 ((regs.getD c.toNat 0 : Nat) : Int)) := by
    rw [Nat.zero_add, Nat.mul_one]; exact NthN.u64s (by omega)
  have hbv : regs.getD b.toNat 0 < 18446744073709551616 := by
    rw [List.getD_eq_getElem?_getD, List.getElem?_eq_getElem (by omega)]
    exact hrv _ (List.getElem_mem _)
  unfold reckon
  dsimp only
  generalize regs.getD b.toNat 0 = rb at hnb hbv ⊢
  generalize regs.getD c.toNat 0 = rc at hnc ⊢
  have hmod := fun h => mod_lt64 (c := rc) hbv h
  have hdiv : (rb : Int) / (rc : Int) ≤ (rb : Int) := Int.ediv_le_self _ (by omega)
  have hdv0 : 0 ≤ (rb : Int) / (rc : Int) := Int.ediv_nonneg (by omega) (by omega)
  refine Tri.of_body (vs := [_, _, _]) Tryz.func197 rfl rfl fun w0 F => ?_
  repeat' (first | refine Ga ?_ | (refine Gb ?_; intro b) | (refine Gd ?_; intro g cap rest hcap) | (refine Gc ?_; intro ad cap) | refine Gl (bit6_r _) ?_ | (refine Ge ?_ ?_ <;> (intro h; try (exfalso; omega))) | fail)
  all_goals first | (exfalso; omega) | skip
  all_goals (first | refine St.dn Tryz.func197 ⟨?_, rfl⟩ Ent.go | refine St.fl Tryz.func197 ⟨?_, rfl⟩ Ent.go)
  all_goals (repeat (first | rw [if_pos (by omega)] | rw [if_neg (by omega)]))
  all_goals first | rfl | (refine congrArg (Value.int .u64) ?_; exact hmod (by omega))
theorem reckon6_8 (a b c : Int) (imm : Nat) (regs args : List Nat) (_hb0 : 0 ≤ b) (_hb1 : b < 16) (_hc0 : 0 ≤ c) (_hc1 : c < 16) (_hrl : regs.length = 16) (_hal : args.length = 4) (_hrv : ∀ x ∈ regs, x < 18446744073709551616) (hi : imm < 4) : RTri Tryz.prog 197 #[.agg ⟨[.int .i64 8, .int .i64 a, .int .i64 b, .int .i64 c, .int .u64 (imm : Int)]⟩, .agg ⟨u64s regs⟩, .agg ⟨u64s args⟩] [] (.int .u64 (reckon ⟨8, a, b, c, imm⟩ regs args : Int)) := by
  apply RTri.of_pure
  have hnb : NthN (0 + b.toNat * 1) (u64s regs) (.int .u64 ((regs.getD b.toNat 0 : Nat) : Int)) := by
    rw [Nat.zero_add, Nat.mul_one]; exact NthN.u64s (by omega)
  have hnc : NthN (0 + c.toNat * 1) (u64s regs) (.int .u64 ((regs.getD c.toNat 0 : Nat) : Int)) := by
    rw [Nat.zero_add, Nat.mul_one]; exact NthN.u64s (by omega)
  have hni : NthN (0 + (imm : Int).toNat * 1) (u64s args) (.int .u64 ((args.getD imm 0 : Nat) : Int)) := by
    rw [Nat.zero_add, Nat.mul_one, Int.toNat_natCast]; exact NthN.u64s (by omega)
  have e : imm % 4 = imm := by omega
  unfold reckon
  dsimp only
  rw [e]
  refine Tri.of_body (vs := [_, _, _]) Tryz.func197 rfl rfl fun w0 F => ?_
  repeat' (first | refine Ga ?_ | (refine Gb ?_; intro b) | (refine Gd ?_; intro g cap rest hcap) | (refine Gc ?_; intro ad cap)  | (refine Ge ?_ ?_ <;> (intro h; try (exfalso; omega))) | fail)
  all_goals first | (exfalso; omega) | skip
  all_goals (first | refine St.dn Tryz.func197 ⟨?_, rfl⟩ Ent.go | refine St.fl Tryz.func197 ⟨?_, rfl⟩ Ent.go)
  all_goals rfl
end
theorem reckon6_r (i : Ins) (regs args : List Nat) (h : Regs4 i regs args) (h0 : 0 ≤ i.op) (h1 : i.op ≤ 8) (h8 : i.op = 8 → i.imm < 4) (hrv : ∀ x ∈ regs, x < 18446744073709551616) : RTri Tryz.prog 197 #[.agg ⟨i.v⟩, .agg ⟨u64s regs⟩, .agg ⟨u64s args⟩] [] (.int .u64 (reckon i regs args : Int)) := by
  obtain ⟨op, a, b, c, imm⟩ := i
  obtain ⟨hb0, hb1, hc0, hc1, hrl, hal, _⟩ := h
  dsimp only at *
  have hk : op = 0 ∨ op = 1 ∨ op = 2 ∨ op = 3 ∨ op = 4 ∨ op = 5 ∨ op = 6 ∨ op = 7 ∨ op = 8 := by omega
  rcases hk with rfl | rfl | rfl | rfl | rfl | rfl | rfl | rfl | rfl
  · exact reckon6_0 a b c imm regs args hb0 hb1 hc0 hc1 hrl hal hrv
  · exact reckon6_1 a b c imm regs args hb0 hb1 hc0 hc1 hrl hal hrv
  · exact reckon6_2 a b c imm regs args hb0 hb1 hc0 hc1 hrl hal hrv
  · exact reckon6_3 a b c imm regs args hb0 hb1 hc0 hc1 hrl hal hrv
  · exact reckon6_4 a b c imm regs args hb0 hb1 hc0 hc1 hrl hal hrv
  · exact reckon6_5 a b c imm regs args hb0 hb1 hc0 hc1 hrl hal hrv
  · exact reckon6_6 a b c imm regs args hb0 hb1 hc0 hc1 hrl hal hrv
  · exact reckon6_7 a b c imm regs args hb0 hb1 hc0 hc1 hrl hal hrv
  · exact reckon6_8 a b c imm regs args hb0 hb1 hc0 hc1 hrl hal hrv (h8 rfl)
end Go.Proofs.YthmbgodcpgkkeaaGreat
end
section
namespace Go.Proofs.YthmbgodcpgkkeaaGreat
set_option maxRecDepth 100000
/-- a pool, a set: where their slices lie, and the numbers -/
structure Px where
  na : Option Addr
  nn : Nat
  nc : Nat
  ma : Option Addr
  mn : Nat
  mc : Nat
  wt : Int
  wl : Int
  nt : Int
  nl : Int
  room : Nat
  sa : Option Addr
  sn : Nat
  sc : Nat
/-- an Env's cells -/
def evV (c : Cfg) (v : Rv) (x : Px) : List Value := rvV c v ++ (plV c x.na x.nn x.nc x.ma x.mn x.mc x.wt x.wl x.nt x.nl ++ [.int .i64 (x.room : Int), .slice x.sa x.sn x.sc])
/-- a Run's cells -/
def rnV (c : Cfg) (ov : Value) (x : Px) (nv : Value) (t : Tp) (r : Rr) : List Value :=
  .int .i64 c.threads :: .int .i64 c.blocks :: .int .i64 c.writes :: .int .i64 c.fuel :: .int .u64 (c.first : Int) :: .int .u64 (c.last : Int) :: .int .i64 r.v.who :: .int .u64 (r.v.seq : Int) :: .int .i64 r.v.held :: .bool r.v.stale ::
  .int .i64 c.threads :: .int .i64 c.blocks :: .int .i64 c.writes :: .int .i64 c.fuel :: .int .u64 (c.first : Int) :: .int .u64 (c.last : Int) :: .slice x.na x.nn x.nc :: .slice x.ma x.mn x.mc :: .int .i64 x.wt :: .int .i64 x.wl :: .int .i64 r.nt :: .int .i64 r.nl ::
  .int .i64 (x.room : Int) :: .slice x.sa x.sn x.sc ::
  ov :: .int .i64 (t.at_ : Int) :: .int .i64 t.ask.kind :: .int .i64 t.ask.at_ :: .int .u64 (t.ask.old.val : Int) :: .int .u64 (t.ask.old.seq : Int) :: .int .u64 (t.ask.new.val : Int) :: .int .u64 (t.ask.new.seq : Int) :: .bool t.need ::
  (g16 r.regs ++ [.int .i64 r.pc, .int .i64 r.steps, .int .i64 r.writes, nv, .int .i64 r.s, .int .i64 r.er, .int .u64 (r.val : Int)])
/-- a Run of nothing -/
abbrev rn0 : List Value := [.int .i64 0, .int .i64 0, .int .i64 0, .int .i64 0, .int .u64 0, .int .u64 0, .int .i64 0, .int .u64 0, .int .i64 0, .bool false, .int .i64 0, .int .i64 0, .int .i64 0, .int .i64 0, .int .u64 0, .int .u64 0, .slice none 0 0, .slice none 0 0, .int .i64 0, .int .i64 0, .int .i64 0, .int .i64 0, .int .i64 0, .slice none 0 0, .slice none 0 0, .int .i64 0, .int .i64 0, .int .i64 0, .int .u64 0, .int .u64 0, .int .u64 0, .int .u64 0, .bool false, .int .u64 0, .int .u64 0, .int .u64 0, .int .u64 0, .int .u64 0, .int .u64 0, .int .u64 0, .int .u64 0, .int .u64 0, .int .u64 0, .int .u64 0, .int .u64 0, .int .u64 0, .int .u64 0, .int .u64 0, .int .u64 0, .int .i64 0, .int .i64 0, .int .i64 0, .slice none 0 0, .int .i64 0, .int .i64 0, .int .u64 0]
section
variable (c : Cfg) (ov : Value) (x : Px) (nv : Value) (t : Tp) (r : Rr)
theorem rn_reg {a : Int} (h0 : 0 ≤ a) (h1 : a < 16) : NthN (0 + 33 + a.toNat * 1) (rnV c ov x nv t r) (.int .u64 ((rreg r.regs a : Nat) : Int)) := by
  have h : a = 0 ∨ a = 1 ∨ a = 2 ∨ a = 3 ∨ a = 4 ∨ a = 5 ∨ a = 6 ∨ a = 7 ∨ a = 8 ∨ a = 9 ∨ a = 10 ∨ a = 11 ∨ a = 12 ∨ a = 13 ∨ a = 14 ∨ a = 15 := by omega
  rcases h with rfl | rfl | rfl | rfl | rfl | rfl | rfl | rfl | rfl | rfl | rfl | rfl | rfl | rfl | rfl | rfl <;> exact NthN.of rfl
theorem rn_set (hl : r.regs.length = 16) {a : Int} (h0 : 0 ≤ a) (h1 : a < 16) (n : Nat) : SetN (.int .u64 (n : Int)) (0 + 33 + a.toNat * 1) (rnV c ov x nv t r) (rnV c ov x nv t { r with regs := r.regs.set a.toNat n }) := by
  have h : a = 0 ∨ a = 1 ∨ a = 2 ∨ a = 3 ∨ a = 4 ∨ a = 5 ∨ a = 6 ∨ a = 7 ∨ a = 8 ∨ a = 9 ∨ a = 10 ∨ a = 11 ∨ a = 12 ∨ a = 13 ∨ a = 14 ∨ a = 15 := by omega
  obtain ⟨v, nt, nl, puts, regs, pc, steps, writes, news, s, er, val⟩ := r
  obtain ⟨a0, a1, a2, a3, a4, a5, a6, a7, a8, a9, a10, a11, a12, a13, a14, a15, rfl⟩ := len16 hl
  have key : ∀ (k : Nat) (l l' : List Value), k < l.length → l.set k (.int .u64 (n : Int)) = l' → SetN (.int .u64 (n : Int)) k l l' := fun k l l' hk e => e ▸ SetN.of hk
  rcases h with rfl | rfl | rfl | rfl | rfl | rfl | rfl | rfl | rfl | rfl | rfl | rfl | rfl | rfl | rfl | rfl <;> exact key _ _ _ (by simp [rnV, g16]) rfl
end
/-- behind a function of package tumblerref11: what it gives back, over a heap that holds more -/
abbrev RunO (c : Cfg) (q : HProp) (ov : Value) (x : Px) (t : Tp) (r : Rr) (g : Value → Value) (v : Value) (L : List HProp) : Prop :=
  ∃ q' sa sc wa wc, Gr q q' ∧ ListR entV q' (.slice sa r.puts.length sc) r.puts ∧ ListR u1V q' (.slice wa r.news.length wc) r.news ∧ v = g (.agg ⟨rnV c ov { x with sa := sa, sn := r.puts.length, sc := sc } (.slice wa r.news.length wc) t r⟩) ∧ L = [q']
end Go.Proofs.YthmbgodcpgkkeaaGreat
end
section
namespace Go.Proofs.YthmbgodcpgkkeaaGreat
set_option maxRecDepth 100000
section
variable (c : Cfg) (oad : Option Addr) (oln ocp : Nat) (x : Px) (wad : Option Addr) (wln wcp : Nat) (t : Tp) (r : Rr)
theorem rfails_r (e : Int) : RTri Tryz.prog 118 #[.agg ⟨rnV c (.slice oad oln ocp) x (.slice wad wln wcp) t r⟩, .int .i64 e] [] (.agg ⟨rnV c (.slice oad oln ocp) x (.slice wad wln wcp) t (r.fails e)⟩) := by
  apply RTri.of_pure
  refine Tri.of_body (vs := [_, _]) Tryz.func118 rfl rfl fun w0 F => ?_
  repeat' (first | refine Ga ?_ | (refine Gb ?_; intro b) | (refine Gd ?_; intro g cap rest hcap) | (refine Gc ?_; intro ad cap)  | (refine Ge ?_ ?_ <;> (intro h; try (exfalso; omega))) | fail)
  all_goals exact St.d1 Tryz.func118 ⟨_, ⟨rfl, rfl⟩, Ent.go⟩
theorem rends_r (s : Int) : RTri Tryz.prog 263 #[.agg ⟨rnV c (.slice oad oln ocp) x (.slice wad wln wcp) t r⟩, .int .i64 s] [] (.agg ⟨rnV c (.slice oad oln ocp) x (.slice wad wln wcp) t (r.ends s)⟩) := by
  apply RTri.of_pure
  have hf := rfails_r c oad oln ocp x wad wln wcp t r 44
  unfold Rr.ends
  by_cases h3 : s = 3
  · rw [if_pos h3]
    refine Tri.of_body (vs := [_, _]) Tryz.func263 rfl rfl fun w0 F => ?_
    repeat' (first | refine Ga ?_ | (refine Gb ?_; intro b) | (refine Gd ?_; intro g cap rest hcap) | (refine Gc ?_; intro ad cap) | refine Gl hf ?_ | (refine Ge ?_ ?_ <;> (intro h; try (exfalso; omega))) | fail)
    all_goals first | (exfalso; omega) | exact St.d1 Tryz.func263 ⟨_, ⟨rfl, rfl⟩, Ent.go⟩
  · rw [if_neg h3]
    refine Tri.of_body (vs := [_, _]) Tryz.func263 rfl rfl fun w0 F => ?_
    repeat' (first | refine Ga ?_ | (refine Gb ?_; intro b) | (refine Gd ?_; intro g cap rest hcap) | (refine Gc ?_; intro ad cap) | refine Gl hf ?_ | (refine Ge ?_ ?_ <;> (intro h; try (exfalso; omega))) | fail)
    all_goals first | (exfalso; omega) | exact St.d1 Tryz.func263 ⟨_, ⟨rfl, rfl⟩, Ent.go⟩
theorem rpay_r (hc : Small c) (hw : 0 ≤ r.writes ∧ r.writes ≤ 1000000) (op : Int) : RTri Tryz.prog 255 #[.agg ⟨rnV c (.slice oad oln ocp) x (.slice wad wln wcp) t r⟩, .int .i64 op] [] (.tuple ⟨[.agg ⟨rnV c (.slice oad oln ocp) x (.slice wad wln wcp) t (r.pay c op).1⟩, .bool (r.pay c op).2]⟩) := by
  apply RTri.of_pure
  have hcw := hc.w0
  have hcw1 := hc.w1
  have hco := costs_le op
  have hf := rfails_r c oad oln ocp x wad wln wcp t r 42
  have hwr := writes5_r op
  unfold Rr.pay
  by_cases h : c.writes - r.writes < costs op
  · rw [if_pos h]
    refine Tri.of_body (vs := [_, _]) Tryz.func255 rfl rfl fun w0 F => ?_
    repeat' (first | refine Ga ?_ | (refine Gb ?_; intro b) | (refine Gd ?_; intro g cap rest hcap) | (refine Gc ?_; intro ad cap) | refine Gl hf ?_ | refine Gl hwr ?_ | (refine StD.ok3 rfl (OpOk.ofW OpV.go) rfl ?_; rintro _ _ ⟨rfl, rfl⟩) | (refine Ge ?_ ?_ <;> (intro h; try (exfalso; omega))) | fail)
    all_goals first | (exfalso; omega) | exact St.d1 Tryz.func255 ⟨_, ⟨rfl, rfl⟩, Ent.go⟩
  · rw [if_neg h]
    refine Tri.of_body (vs := [_, _]) Tryz.func255 rfl rfl fun w0 F => ?_
    repeat' (first | refine Ga ?_ | (refine Gb ?_; intro b) | (refine Gd ?_; intro g cap rest hcap) | (refine Gc ?_; intro ad cap) | refine Gl hf ?_ | refine Gl hwr ?_ | (refine StD.ok3 rfl (OpOk.ofW OpV.go) rfl ?_; rintro _ _ ⟨rfl, rfl⟩) | (refine Ge ?_ ?_ <;> (intro h; try (exfalso; omega))) | fail)
    all_goals first | (exfalso; omega) | exact St.d1 Tryz.func255 ⟨_, ⟨rfl, rfl⟩, Ent.go⟩
end
/-- a cell is fetched -/
def rfet (c : Cfg) (os : List Out) (r : Rr) (a : Int) (t : Tp) : Tp × (Rr × Nat × Bool) := match mget (allP r.puts) a with
  | some val => (t, (r, val, true))
  | none => ((rcell c os r.v a t).1, if (rcell c os r.v a t).2.2.2 = 1 then ({ r with v := (rcell c os r.v a t).2.1 }, (rcell c os r.v a t).2.2.1, true) else (Rr.ends { r with v := (rcell c os r.v a t).2.1 } (rcell c os r.v a t).2.2.2, 0, false))
section
set_option maxHeartbeats 1000000 in
theorem rfet_r {q : HProp} {ov : Value} {os : List Out} (hov : ListR Out.v q ov os) (hos : os.length ≤ 100000) {c : Cfg} (hc : Small c) (x : Px) (wad : Option Addr) (wln wcp : Nat) (t : Tp) (ht : t.at_ ≤ 100000) (r : Rr) (hl : ListR entV q (.slice x.sa x.sn x.sc) r.puts) (hll : r.puts.length ≤ 1000000) (a : Int) : RTri Tryz.prog 257 #[.agg ⟨rnV c ov x (.slice wad wln wcp) t r⟩, .int .i64 a] [q]
    (.tuple ⟨[.agg ⟨rnV c ov x (.slice wad wln wcp) (rfet c os r a t).1 (rfet c os r a t).2.1⟩, .int .u64 ((rfet c os r a t).2.2.1 : Int), .bool (rfet c os r a t).2.2.2]⟩) := by
  have hget := rget_r hl hll (x.room : Int) a
  have hce := rvcell_r hov hos hc r.v t ht a
  refine RTri.of_reads fun p1 hp => ?_
  replace hget := hget.of_read hp
  replace hce := hce.of_read hp
  obtain ⟨oad, ocp, rfl, _⟩ := id hov
  unfold rfet
  cases hm : mget (allP r.puts) a with
  | some y =>
    rw [hm] at hget
    dsimp only [Option.isSome, Option.getD] at hget ⊢
    refine Tri.of_body (vs := [_, _]) Tryz.func257 rfl rfl fun w0 F => ?_
    repeat' (first | refine Ga ?_ | (refine Gb ?_; intro b) | (refine Gd ?_; intro g cap rest hcap) | (refine Gc ?_; intro ad cap) | refine Gl hget ?_ | (refine StD.ok3 rfl (OpOk.ofW OpV.go) rfl ?_; rintro _ _ ⟨rfl, rfl⟩) | (refine Ge ?_ ?_ <;> (intro h; try (exfalso; omega))) | fail)
    all_goals first | (exfalso; omega) | exact St.d1 Tryz.func257 ⟨_, ⟨rfl, rfl⟩, Ent.go⟩
  | none =>
    rw [hm] at hget
    dsimp only [Option.isSome, Option.getD] at hget ⊢
    generalize rcell c os r.v a t = y at hce ⊢
    obtain ⟨t2, v2, val, s⟩ := y
    obtain ⟨who, seq, held, stale⟩ := v2
    obtain ⟨ta2, ⟨ak2, oa2, ⟨ov2a, os2a⟩, ⟨nv2b, ns2b⟩⟩, tn2⟩ := t2
    obtain ⟨v, nt, nl, puts, regs, pc, steps, writes, news, s0, er, vl⟩ := r
    obtain ⟨who0, seq0, held0, stale0⟩ := v
    obtain ⟨ta, ⟨ak, oa, ⟨ova, osa⟩, ⟨nvb, nsb⟩⟩, tn⟩ := t
    obtain ⟨xna, xnn, xnc, xma, xmn, xmc, xwt, xwl, xnt, xnl, xroom, xsa, xsn, xsc⟩ := x
    unfold rvV tpV Cfg.v at hce
    dsimp only [List.cons_append, List.nil_append] at hce hget ⊢
    by_cases h1 : s = 1
    · rw [if_pos h1]
      refine Tri.of_body (vs := [_, _]) Tryz.func257 rfl rfl fun w0 F => ?_
      repeat' (first | refine Ga ?_ | (refine Gb ?_; intro b) | (refine Gd ?_; intro g cap rest hcap) | (refine Gc ?_; intro ad cap) | refine Gl hget ?_ | refine Gl hce ?_ | (refine StD.ok3 rfl (OpOk.ofW OpV.go) rfl ?_; rintro _ _ ⟨rfl, rfl⟩) | (refine Ge ?_ ?_ <;> (intro h; try (exfalso; omega))) | fail)
      all_goals first | (exfalso; omega) | exact St.d1 Tryz.func257 ⟨_, ⟨rfl, rfl⟩, Ent.go⟩
    · rw [if_neg h1]
      have hen := rends_r c oad os.length ocp ⟨xna, xnn, xnc, xma, xmn, xmc, xwt, xwl, xnt, xnl, xroom, xsa, xsn, xsc⟩ wad wln wcp ⟨ta2, ⟨ak2, oa2, ⟨ov2a, os2a⟩, ⟨nv2b, ns2b⟩⟩, tn2⟩ ⟨⟨who, seq, held, stale⟩, nt, nl, puts, regs, pc, steps, writes, news, s0, er, vl⟩ s
      refine Tri.of_body (vs := [_, _]) Tryz.func257 rfl rfl fun w0 F => ?_
      repeat' (first | refine Ga ?_ | (refine Gb ?_; intro b) | (refine Gd ?_; intro g cap rest hcap) | (refine Gc ?_; intro ad cap) | refine Gl hget ?_ | refine Gl hce ?_ | refine Gl hen ?_ | (refine StD.ok3 rfl (OpOk.ofW OpV.go) rfl ?_; rintro _ _ ⟨rfl, rfl⟩) | (refine Ge ?_ ?_ <;> (intro h; try (exfalso; omega))) | fail)
      all_goals first | (exfalso; omega) | exact St.d1 Tryz.func257 ⟨_, ⟨rfl, rfl⟩, Ent.go⟩
end
set_option maxHeartbeats 1000000 in
theorem rput11_t {q : HProp} {c : Cfg} (oad : Option Addr) (oln ocp : Nat) (x : Px) (wad : Option Addr) (wcp : Nat) (t : Tp) (r : Rr) (hl : ListR entV q (.slice x.sa x.sn x.sc) r.puts) (hn : ListR u1V q (.slice wad r.news.length wcp) r.news) (hll : r.puts.length ≤ 1000000) (hroom : x.room ≤ 1000000) (a : Int) (v : Nat) :
    Tri Tryz.prog 256 #[.agg ⟨rnV c (.slice oad oln ocp) x (.slice wad r.news.length wcp) t r⟩, .int .i64 a, .int .u64 (v : Int)] [q] (RunO c q (.slice oad oln ocp) x t { r with puts := putP x.room r.puts a v } id) := by
  have hp := rputS_t hl hll x.room hroom a v
  obtain ⟨rv, nt, nl, puts, regs, pc, steps, writes, news, s0, er, vl⟩ := r
  obtain ⟨xna, xnn, xnc, xma, xmn, xmc, xwt, xwl, xnt, xnl, xroom, xsa, xsn, xsc⟩ := x
  dsimp only at hl hn hll hroom hp ⊢
  refine Tri.of_body (vs := [_, _, _]) Tryz.func256 rfl rfl fun w0 F => ?_
  repeat' (first | refine Ga ?_ | (refine Gb ?_; intro b) | (refine Gd ?_; intro g cap rest hcap) | (refine Gc ?_; intro ad cap)  | (refine Gt hp ?_; rintro _ _ ⟨q', ad', n', cap', hg, hl', rfl, rfl⟩) | (refine StD.ok3 rfl (OpOk.ofW OpV.go) rfl ?_; rintro _ _ ⟨rfl, rfl⟩) | (refine Ge ?_ ?_ <;> (intro h; try (exfalso; omega))) | fail)
  all_goals first | (exfalso; omega) | skip
  obtain ⟨ad2, cap2, e2, _⟩ := id hl'
  injection e2 with e2a e2b e2c
  subst e2b
  all_goals exact St.d1 Tryz.func256 ⟨_, ⟨q', ad', cap', wad, wcp, hg, hl', hn.gr hg, rfl, rfl⟩, Ent.go⟩
end Go.Proofs.YthmbgodcpgkkeaaGreat
end
