/-
  Package tumblerref06: Reckon, for all instructions without roots and blocks. Package tumblerref11: a Run's cells. Packages tumblerref10, tumblerref14, in plain terms: a transaction, as far as replies go.
-/
import Derived.Test.YthmbgodcpgkkeaaGreatMa
import Derived.Test.YthmbgodcpgkkeaaGreatKc
import Derived.Test.YthmbgodcpgkkeaaGreatNa
section
namespace Go.Proofs.YthmbgodcpgkkeaaGreat
set_option maxRecDepth 100000
theorem mod_lt64 {b c : Nat} (hb : b < 18446744073709551616) (_hc : 0 < c) : IntKind.u64.wrap ((b : Int) - IntKind.u64.wrap ((c : Int) * ((b : Int) / (c : Int)))) = ((b % c : Nat) : Int) := by
  have h1 : (c : Int) * ((b : Int) / (c : Int)) + (b : Int) % (c : Int) = b := Int.mul_ediv_add_emod ..
  have h2 : ((b % c : Nat) : Int) = (b : Int) % (c : Int) := by omega
  have h3 : (b : Int) % (c : Int) ≤ b := by rw [← h2]; have := Nat.mod_le b c; omega
  have h4 : 0 ≤ (b : Int) % (c : Int) := by rw [← h2]; omega
  have hw : ∀ n : Int, IntKind.u64.wrap n = n % 18446744073709551616 := fun n => by simp [IntKind.wrap, IntKind.bits, IntKind.signed]
  rw [h2, hw, hw]
  generalize (c : Int) * ((b : Int) / (c : Int)) = m at h1
  generalize (b : Int) % (c : Int) = r at h1 h3 h4
  omega
section
theorem reckon6_0 (a b c : Int) (imm : Nat) (regs args : List Nat) (_hb0 : 0 ≤ b) (_hb1 : b < 16) (_hc0 : 0 ≤ c) (_hc1 : c < 16) (_hrl : regs.length = 16) (_hal : args.length = 4) (_hrv : ∀ x ∈ regs, x < 18446744073709551616) : RTri Tryz.prog 197 #[.agg ⟨[.int .i64 0, .int .i64 a, .int .i64 b, .int .i64 c, .int .u64 (imm : Int)]⟩, .agg ⟨u64s regs⟩, .agg ⟨u64s args⟩] [] (.int .u64 (reckon ⟨0, a, b, c, imm⟩ regs args : Int)) := by
  apply RTri.of_pure
  have hnb : NthN (0 + b.toNat * 1) (u64s regs) (.int .u64 ((regs.getD b.toNat 0 : Nat) : Int)) := by
    rw [Nat.zero_add, Nat.mul_one]; exact NthN.u64s (by omega)
  have hnc : NthN (0 + c.toNat * 1) (u64s regs) (.int .u64 ((regs.getD c.toNat 0 : Nat) : Int)) := by
    rw [Nat.zero_add, Nat.mul_one]; exact NthN.u64s (by omega)
  unfold reckon
  dsimp only
  generalize regs.getD b.toNat 0 = rb at hnb ⊢
  generalize regs.getD c.toNat 0 = rc at hnc ⊢
  refine Tri.of_body (vs := [_, _, _]) Tryz.func197 rfl rfl fun w0 F => ?_
  repeat' (first | refine Ga ?_ | (refine Gb ?_; intro b) | (refine Gd ?_; intro g cap rest hcap) | (refine Gc ?_; intro ad cap) | refine Gl (bit6_r _) ?_ | (refine Ge ?_ ?_ <;> (intro h; try (exfalso; omega))) | fail)
  all_goals first | (exfalso; omega) | skip
  all_goals (first | refine St.dn Tryz.func197 ⟨?_, rfl⟩ Ent.go | refine St.fl Tryz.func197 ⟨?_, rfl⟩ Ent.go)
  all_goals (repeat (first | rw [if_pos (by omega)] | rw [if_neg (by omega)]))
  all_goals first | rfl | (rw [nat64_eq]; rfl) | (rw [beq_cast']; rfl) | (simp only [← Int.ofNat_lt]; rfl)
theorem reckon6_1 (a b c : Int) (imm : Nat) (regs args : List Nat) (_hb0 : 0 ≤ b) (_hb1 : b < 16) (_hc0 : 0 ≤ c) (_hc1 : c < 16) (_hrl : regs.length = 16) (_hal : args.length = 4) (_hrv : ∀ x ∈ regs, x < 18446744073709551616) : RTri Tryz.prog 197 #[.agg ⟨[.int .i64 1, .int .i64 a, .int .i64 b, .int .i64 c, .int .u64 (imm : Int)]⟩, .agg ⟨u64s regs⟩, .agg ⟨u64s args⟩] [] (.int .u64 (reckon ⟨1, a, b, c, imm⟩ regs args : Int)) := by
  apply RTri.of_pure
  have hnb : NthN (0 + b.toNat * 1) (u64s regs) (.int .u64 ((regs.getD b.toNat 0 : Nat) : Int)) := by
    rw [Nat.zero_add, Nat.mul_one]; exact NthN.u64s (by omega)
  have hnc : NthN (0 + c.toNat * 1) (u64s regs) (.int .u64 ((regs.getD c.toNat 0 : Nat) : Int)) := by
    rw [Nat.zero_add, Nat.mul_one]; exact NthN.u64s (by omega)
  unfold reckon
  dsimp only
  generalize regs.getD b.toNat 0 = rb at hnb ⊢
  generalize regs.getD c.toNat 0 = rc at hnc ⊢
  refine Tri.of_body (vs := [_, _, _]) Tryz.func197 rfl rfl fun w0 F => ?_
  repeat' (first | refine Ga ?_ | (refine Gb ?_; intro b) | (refine Gd ?_; intro g cap rest hcap) | (refine Gc ?_; intro ad cap) | refine Gl (bit6_r _) ?_ | (refine Ge ?_ ?_ <;> (intro h; try (exfalso; omega))) | fail)
  all_goals first | (exfalso; omega) | skip
  all_goals (first | refine St.dn Tryz.func197 ⟨?_, rfl⟩ Ent.go | refine St.fl Tryz.func197 ⟨?_, rfl⟩ Ent.go)
  all_goals (repeat (first | rw [if_pos (by omega)] | rw [if_neg (by omega)]))
  all_goals first | rfl | (rw [nat64_eq]; rfl) | (rw [beq_cast']; rfl) | (simp only [← Int.ofNat_lt]; rfl)
theorem reckon6_2 (a b c : Int) (imm : Nat) (regs args : List Nat) (_hb0 : 0 ≤ b) (_hb1 : b < 16) (_hc0 : 0 ≤ c) (_hc1 : c < 16) (_hrl : regs.length = 16) (_hal : args.length = 4) (_hrv : ∀ x ∈ regs, x < 18446744073709551616) : RTri Tryz.prog 197 #[.agg ⟨[.int .i64 2, .int .i64 a, .int .i64 b, .int .i64 c, .int .u64 (imm : Int)]⟩, .agg ⟨u64s regs⟩, .agg ⟨u64s args⟩] [] (.int .u64 (reckon ⟨2, a, b, c, imm⟩ regs args : Int)) := by
  apply RTri.of_pure
  have hnb : NthN (0 + b.toNat * 1) (u64s regs) (.int .u64 ((regs.getD b.toNat 0 : Nat) : Int)) := by
    rw [Nat.zero_add, Nat.mul_one]; exact NthN.u64s (by omega)
  have hnc : NthN (0 + c.toNat * 1) (u64s regs) (.int .u64 ((regs.getD c.toNat 0 : Nat) : Int)) := by
    rw [Nat.zero_add, Nat.mul_one]; exact NthN.u64s (by omega)
  unfold reckon
  dsimp only
  generalize regs.getD b.toNat 0 = rb at hnb ⊢
  generalize regs.getD c.toNat 0 = rc at hnc ⊢
  refine Tri.of_body (vs := [_, _, _]) Tryz.func197 rfl rfl fun w0 F => ?_
  repeat' (first | refine Ga ?_ | (refine Gb ?_; intro b) | (refine Gd ?_; intro g cap rest hcap) | (refine Gc ?_; intro ad cap) | refine Gl (bit6_r _) ?_ | (refine Ge ?_ ?_ <;> (intro h; try (exfalso; omega))) | fail)
  all_goals first | (exfalso; omega) | skip
  all_goals (first | refine St.dn Tryz.func197 ⟨?_, rfl⟩ Ent.go | refine St.fl Tryz.func197 ⟨?_, rfl⟩ Ent.go)
  all_goals (repeat (first | rw [if_pos (by omega)] | rw [if_neg (by omega)]))
  all_goals first | rfl | (rw [nat64_eq]; rfl) | (rw [beq_cast']; rfl) | (simp only [← Int.ofNat_lt]; rfl)
theorem reckon6_3 (a b c : Int) (imm : Nat) (regs args : List Nat) (_hb0 : 0 ≤ b) (_hb1 : b < 16) (_hc0 : 0 ≤ c) (_hc1 : c < 16) (_hrl : regs.length = 16) (_hal : args.length = 4) (_hrv : ∀ x ∈ regs, x < 18446744073709551616) : RTri Tryz.prog 197 #[.agg ⟨[.int .i64 3, .int .i64 a, .int .i64 b, .int .i64 c, .int .u64 (imm : Int)]⟩, .agg ⟨u64s regs⟩, .agg ⟨u64s args⟩] [] (.int .u64 (reckon ⟨3, a, b, c, imm⟩ regs args : Int)) := by
  apply RTri.of_pure
  have hnb : NthN (0 + b.toNat * 1) (u64s regs) (.int .u64 ((regs.getD b.toNat 0 : Nat) : Int)) := by
    rw [Nat.zero_add, Nat.mul_one]; exact NthN.u64s (by omega)
  have hnc : NthN (0 + c.toNat * 1) (u64s regs) (.int .u64 ((regs.getD c.toNat 0 : Nat) : Int)) := by
    rw [Nat.zero_add, Nat.mul_one]; exact NthN.u64s (by omega)
  unfold reckon
  dsimp only
  generalize regs.getD b.toNat 0 = rb at hnb ⊢
  generalize regs.getD c.toNat 0 = rc at hnc ⊢
  refine Tri.of_body (vs := [_, _, _]) Tryz.func197 rfl rfl fun w0 F => ?_
  repeat' (first | refine Ga ?_ | (refine Gb ?_; intro b) | (refine Gd ?_; intro g cap rest hcap) | (refine Gc ?_; intro ad cap) | refine Gl (bit6_r _) ?_ | (refine Ge ?_ ?_ <;> (intro h; try (exfalso; omega))) | fail)
  all_goals first | (exfalso; omega) | skip
  all_goals (first | refine St.dn Tryz.func197 ⟨?_, rfl⟩ Ent.go | refine St.fl Tryz.func197 ⟨?_, rfl⟩ Ent.go)
  all_goals (repeat (first | rw [if_pos (by omega)] | rw [if_neg (by omega)]))
  all_goals first | rfl | (rw [nat64_eq]; rfl) | (rw [beq_cast']; rfl) | (simp only [← Int.ofNat_lt]; rfl)
theorem reckon6_4 (a b c : Int) (imm : Nat) (regs args : List Nat) (_hb0 : 0 ≤ b) (_hb1 : b < 16) (_hc0 : 0 ≤ c) (_hc1 : c < 16) (_hrl : regs.length = 16) (_hal : args.length = 4) (_hrv : ∀ x ∈ regs, x < 18446744073709551616) : RTri Tryz.prog 197 #[.agg ⟨[.int .i64 4, .int .i64 a, .int .i64 b, .int .i64 c, .int .u64 (imm : Int)]⟩, .agg ⟨u64s regs⟩, .agg ⟨u64s args⟩] [] (.int .u64 (reckon ⟨4, a, b, c, imm⟩ regs args : Int)) := by
  apply RTri.of_pure
  have hnb : NthN (0 + b.toNat * 1) (u64s regs) (.int .u64 ((regs.getD b.toNat 0 : Nat) : Int)) := by
    rw [Nat.zero_add, Nat.mul_one]; exact NthN.u64s (by omega)
  have hnc : NthN (0 + c.toNat * 1) (u64s regs) (.int .u64 ((regs.getD c.toNat 0 : Nat) : Int)) := by
    rw [Nat.zero_add, Nat.mul_one]; exact NthN.u64s (by omega)
  unfold reckon
  dsimp only
  generalize regs.getD b.toNat 0 = rb at hnb ⊢
  generalize regs.getD c.toNat 0 = rc at hnc ⊢
  refine Tri.of_body (vs := [_, _, _]) Tryz.func197 rfl rfl fun w0 F => ?_
  repeat' (first | refine Ga ?_ | (refine Gb ?_; intro b) | (refine Gd ?_; intro g cap rest hcap) | (refine Gc ?_; intro ad cap) | refine Gl (bit6_r _) ?_ | (refine Ge ?_ ?_ <;> (intro h; try (exfalso; omega))) | fail)
  all_goals first | (exfalso; omega) | skip
  all_goals (first | refine St.dn Tryz.func197 ⟨?_, rfl⟩ Ent.go | refine St.fl Tryz.func197 ⟨?_, rfl⟩ Ent.go)
  all_goals (repeat (first | rw [if_pos (by omega)] | rw [if_neg (by omega)]))
  all_goals first | rfl | (rw [nat64_eq]; rfl) | (rw [beq_cast']; rfl) | (simp only [← Int.ofNat_lt]; rfl)
theorem reckon6_6 (a b c : Int) (imm : Nat) (regs args : List Nat) (_hb0 : 0 ≤ b) (_hb1 : b < 16) (_hc0 : 0 ≤ c) (_hc1 : c < 16) (_hrl : regs.length = 16) (_hal : args.length = 4) (_hrv : ∀ x ∈ regs, x < 18446744073709551616) : RTri Tryz.prog 197 #[.agg ⟨[.int .i64 6, .int .i64 a, .int .i64 b, .int .i64 c, .int .u64 (imm : Int)]⟩, .agg ⟨u64s regs⟩, .agg ⟨u64s args⟩] [] (.int .u64 (reckon ⟨6, a, b, c, imm⟩ regs args : Int)) := by
  apply RTri.of_pure
  have hnb : NthN (0 + b.toNat * 1) (u64s regs) (.int .u64 ((regs.getD b.toNat 0 : Nat) : Int)) := by
    rw [Nat.zero_add, Nat.mul_one]; exact NthN.u64s (by omega)
  have hnc : NthN (0 + c.toNat * 1) (u64s regs) (.int .u64 ((regs.getD c.toNat 0 : Nat) : Int)) := by
    rw [Nat.zero_add, Nat.mul_one]; exact NthN.u64s (by omega)
  unfold reckon
  dsimp only
  generalize regs.getD b.toNat 0 = rb at hnb ⊢
  generalize regs.getD c.toNat 0 = rc at hnc ⊢
  refine Tri.of_body (vs := [_, _, _]) Tryz.func197 rfl rfl fun w0 F => ?_
  repeat' (first | refine Ga ?_ | (refine Gb ?_; intro b) | (refine Gd ?_; intro g cap rest hcap) | (refine Gc ?_; intro ad cap) | refine Gl (bit6_r _) ?_ | (refine Ge ?_ ?_ <;> (intro h; try (exfalso; omega))) | fail)
  all_goals first | (exfalso; omega) | skip
  all_goals (first | refine St.dn Tryz.func197 ⟨?_, rfl⟩ Ent.go | refine St.fl Tryz.func197 ⟨?_, rfl⟩ Ent.go)
  all_goals (repeat (first | rw [if_pos (by omega)] | rw [if_neg (by omega)]))
  all_goals first | rfl | (rw [nat64_eq]; rfl) | (rw [beq_cast']; rfl) | (simp only [← Int.ofNat_lt]; rfl)
theorem reckon6_7 (a b c : Int) (imm : Nat) (regs args : List Nat) (_hb0 : 0 ≤ b) (_hb1 : b < 16) (_hc0 : 0 ≤ c) (_hc1 : c < 16) (_hrl : regs.length = 16) (_hal : args.length = 4) (_hrv : ∀ x ∈ regs, x < 18446744073709551616) : RTri Tryz.prog 197 #[.agg ⟨[.int .i64 7, .int .i64 a, .int .i64 b, .int .i64 c, .int .u64 (imm : Int)]⟩, .agg ⟨u64s regs⟩, .agg ⟨u64s args⟩] [] (.int .u64 (reckon ⟨7, a, b, c, imm⟩ regs args : Int)) := by
  apply RTri.of_pure
  have hnb : NthN (0 + b.toNat * 1) (u64s regs) (.int .u64 ((regs.getD b.toNat 0 : Nat) : Int)) := by
    rw [Nat.zero_add, Nat.mul_one]; exact NthN.u64s (by omega)
  have hnc : NthN (0 + c.toNat * 1) (u64s regs) (.int .u64 ((regs.getD c.toNat 0 : Nat) : Int)) := by
    rw [Nat.zero_add, Nat.mul_one]; exact NthN.u64s (by omega)
  unfold reckon
  dsimp only
  generalize regs.getD b.toNat 0 = rb at hnb ⊢
  generalize regs.getD c.toNat 0 = rc at hnc ⊢
  refine Tri.of_body (vs := [_, _, _]) Tryz.func197 rfl rfl fun w0 F => ?_
  repeat' (first | refine Ga ?_ | (refine Gb ?_; intro b) | (refine Gd ?_; intro g cap rest hcap) | (refine Gc ?_; intro ad cap) | refine Gl (bit6_r _) ?_ | (refine Ge ?_ ?_ <;> (intro h; try (exfalso; omega))) | fail)
  all_goals first | (exfalso; omega) | skip
  all_goals (first | refine St.dn Tryz.func197 ⟨?_, rfl⟩ Ent.go | refine St.fl Tryz.func197 ⟨?_, rfl⟩ Ent.go)
  all_goals (repeat (first | rw [if_pos (by omega)] | rw [if_neg (by omega)]))
  all_goals first | rfl | (rw [nat64_eq]; rfl) | (rw [beq_cast']; rfl) | (simp only [← Int.ofNat_lt]; rfl)
theorem reckon6_5 (a b c : Int) (imm : Nat) (regs args : List Nat) (_hb0 : 0 ≤ b) (_hb1 : b < 16) (_hc0 : 0 ≤ c) (_hc1 : c < 16) (_hrl : regs.length = 16) (_hal : args.length = 4) (hrv : ∀ x ∈ regs, x < 18446744073709551616) : RTri Tryz.prog 197 #[.agg ⟨[.int .i64 5, .int .i64 a, .int .i64 b, .int .i64 c, .int .u64 (imm : Int)]⟩, .agg ⟨u64s regs⟩, .agg ⟨u64s args⟩] [] (.int .u64 (reckon ⟨5, a, b, c, imm⟩ regs args : Int)) := by
  apply RTri.of_pure
  have hnb : NthN (0 + b.toNat * 1) (u64s regs) (.int .u64 ((regs.getD b.toNat 0 : Nat) : Int)) := by
    rw [Nat.zero_add, Nat.mul_one]; exact NthN.u64s (by omega)
  have hnc : NthN (0 + c.toNat * 1) (u64s regs) (.int .u64 ((regs.getD c.toNat 0 : Nat) : Int)) := by
    rw [Nat.zero_add, Nat.mul_one]; exact NthN.u64s (by omega)
  have hbv : regs.getD b.toNat 0 < 18446744073709551616 := by
    rw [List.getD_eq_getElem?_getD, List.getElem?_eq_getElem (by omega)]
    exact hrv _ (List.getElem_mem _)
  unfold reckon
  dsimp only
  generalize regs.getD b.toNat 0 = rb at hnb hbv ⊢
  generalize regs.getD c.toNat 0 = rc at hnc ⊢
  have hmod := fun h => mod_lt64 (c := rc) hbv h
  have hdiv : (rb : Int) / (rc : Int) ≤ (rb : Int) := Int.ediv_le_self _ (by omega)
  have hdv0 : 0 ≤ (rb : Int) / (rc : Int) := Int.ediv_nonneg (by omega) (by omega)
  refine Tri.of_body (vs := [_, _, _]) Tryz.func197 rfl rfl fun w0 F => ?_
  repeat' (first | refine Ga ?_ | (refine Gb ?_; intro b) | (refine Gd ?_; intro g cap rest hcap) | (refine Gc ?_; intro ad cap) | refine Gl (bit6_r _) ?_ | (refine Ge ?_ ?_ <;> (intro h; try (exfalso; omega))) | fail)
  all_goals first | (exfalso; omega) | skip
  all_goals (first | refine St.dn Tryz.func197 ⟨?_, rfl⟩ Ent.go | refine St.fl Tryz.func197 ⟨?_, rfl⟩ Ent.go)
  all_goals (repeat (first | rw [if_pos (by omega)] | rw [if_neg (by omega)]))
  all_goals first | rfl | (refine congrArg (Value.int .u64) ?_; exact hmod (by omega))
theorem reckon6_8 (a b c : Int) (imm : Nat) (regs args : List Nat) (_hb0 : 0 ≤ b) (_hb1 : b < 16) (_hc0 : 0 ≤ c) (_hc1 : c < 16) (_hrl : regs.length = 16) (_hal : args.length = 4) (_hrv : ∀ x ∈ regs, x < 18446744073709551616) (hi : imm < 4) : RTri Tryz.prog 197 #[.agg ⟨[.int .i64 8, .int .i64 a, .int .i64 b, .int .i64 c, .int .u64 (imm : Int)]⟩, .agg ⟨u64s regs⟩, .agg ⟨u64s args⟩] [] (.int .u64 (reckon ⟨8, a, b, c, imm⟩ regs args : Int)) := by
  apply RTri.of_pure
  have hnb : NthN (0 + b.toNat * 1) (u64s regs) (.int .u64 ((regs.getD b.toNat 0 : Nat) : Int)) := by
    rw [Nat.zero_add, Nat.mul_one]; exact NthN.u64s (by omega)
  have hnc : NthN (0 + c.toNat * 1) (u64s regs) (.int .u64 ((regs.getD c.toNat 0 : Nat) : Int)) := by
    rw [Nat.zero_add, Nat.mul_one]; exact NthN.u64s (by omega)
  have hni : NthN (0 + (imm : Int).toNat * 1) (u64s args) (.int .u64 ((args.getD imm 0 : Nat) : Int)) := by
    rw [Nat.zero_add, Nat.mul_one, Int.toNat_natCast]; exact NthN.u64s (by omega)
  have e : imm % 4 = imm := by omega
  unfold reckon
  dsimp only
  rw [e]
  refine Tri.of_body (vs := [_, _, _]) Tryz.func197 rfl rfl fun w0 F => ?_
  repeat' (first | refine Ga ?_ | (refine Gb ?_; intro b) | (refine Gd ?_; intro g cap rest hcap) | (refine Gc ?_; intro ad cap)  | (refine Ge ?_ ?_ <;> (intro h; try (exfalso; omega))) | fail)
  all_goals first | (exfalso; omega) | skip
  all_goals (first | refine St.dn Tryz.func197 ⟨?_, rfl⟩ Ent.go | refine St.fl Tryz.func197 ⟨?_, rfl⟩ Ent.go)
  all_goals rfl
end
theorem reckon6_r (i : Ins) (regs args : List Nat) (h : Regs4 i regs args) (h0 : 0 ≤ i.op) (h1 : i.op ≤ 8) (h8 : i.op = 8 → i.imm < 4) (hrv : ∀ x ∈ regs, x < 18446744073709551616) : RTri Tryz.prog 197 #[.agg ⟨i.v⟩, .agg ⟨u64s regs⟩, .agg ⟨u64s args⟩] [] (.int .u64 (reckon i regs args : Int)) := by
  obtain ⟨op, a, b, c, imm⟩ := i
  obtain ⟨hb0, hb1, hc0, hc1, hrl, hal, _⟩ := h
  dsimp only at *
  have hk : op = 0 ∨ op = 1 ∨ op = 2 ∨ op = 3 ∨ op = 4 ∨ op = 5 ∨ op = 6 ∨ op = 7 ∨ op = 8 := by omega
  rcases hk with rfl | rfl | rfl | rfl | rfl | rfl | rfl | rfl | rfl
  · exact reckon6_0 a b c imm regs args hb0 hb1 hc0 hc1 hrl hal hrv
  · exact reckon6_1 a b c imm regs args hb0 hb1 hc0 hc1 hrl hal hrv
  · exact reckon6_2 a b c imm regs args hb0 hb1 hc0 hc1 hrl hal hrv
  · exact reckon6_3 a b c imm regs args hb0 hb1 hc0 hc1 hrl hal hrv
  · exact reckon6_4 a b c imm regs args hb0 hb1 hc0 hc1 hrl hal hrv
  · exact reckon6_5 a b c imm regs args hb0 hb1 hc0 hc1 hrl hal hrv
  · exact reckon6_6 a b c imm regs args hb0 hb1 hc0 hc1 hrl hal hrv
  · exact reckon6_7 a b c imm regs args hb0 hb1 hc0 hc1 hrl hal hrv
  · exact reckon6_8 a b c imm regs args hb0 hb1 hc0 hc1 hrl hal hrv (h8 rfl)
end Go.Proofs.YthmbgodcpgkkeaaGreat
end
section
namespace Go.Proofs.YthmbgodcpgkkeaaGreat
set_option maxRecDepth 100000
/-- a pool, a set: where their slices lie, and the numbers -/
structure Px where
  na : Option Addr
  nn : Nat
  nc : Nat
  ma : Option Addr
  mn : Nat
  mc : Nat
  wt : Int
  wl : Int
  nt : Int
  nl : Int
  room : Nat
  sa : Option Addr
  sn : Nat
  sc : Nat
/-- an Env's cells -/
def evV (c : Cfg) (v : Rv) (x : Px) : List Value := rvV c v ++ (plV c x.na x.nn x.nc x.ma x.mn x.mc x.wt x.wl x.nt x.nl ++ [.int .i64 (x.room : Int), .slice x.sa x.sn x.sc])
/-- a Run's cells -/
def rnV (c : Cfg) (ov : Value) (x : Px) (nv : Value) (t : Tp) (r : Rr) : List Value :=
  .int .i64 c.threads :: .int .i64 c.blocks :: .int .i64 c.writes :: .int .i64 c.fuel :: .int .u64 (c.first : Int) :: .int .u64 (c.last : Int) :: .int .i64 r.v.who :: .int .u64 (r.v.seq : Int) :: .int .i64 r.v.held :: .bool r.v.stale ::
  .int .i64 c.threads :: .int .i64 c.blocks :: .int .i64 c.writes :: .int .i64 c.fuel :: .int .u64 (c.first : Int) :: .int .u64 (c.last : Int) :: .slice x.na x.nn x.nc :: .slice x.ma x.mn x.mc :: .int .i64 x.wt :: .int .i64 x.wl :: .int .i64 r.nt :: .int .i64 r.nl ::
  .int .i64 (x.room : Int) :: .slice x.sa x.sn x.sc ::
  ov :: .int .i64 (t.at_ : Int) :: .int .i64 t.ask.kind :: .int .i64 t.ask.at_ :: .int .u64 (t.ask.old.val : Int) :: .int .u64 (t.ask.old.seq : Int) :: .int .u64 (t.ask.new.val : Int) :: .int .u64 (t.ask.new.seq : Int) :: .bool t.need ::
  (g16 r.regs ++ [.int .i64 r.pc, .int .i64 r.steps, .int .i64 r.writes, nv, .int .i64 r.s, .int .i64 r.er, .int .u64 (r.val : Int)])
/-- a Run of nothing -/
abbrev rn0 : List Value := [.int .i64 0, .int .i64 0, .int .i64 0, .int .i64 0, .int .u64 0, .int .u64 0, .int .i64 0, .int .u64 0, .int .i64 0, .bool false, .int .i64 0, .int .i64 0, .int .i64 0, .int .i64 0, .int .u64 0, .int .u64 0, .slice none 0 0, .slice none 0 0, .int .i64 0, .int .i64 0, .int .i64 0, .int .i64 0, .int .i64 0, .slice none 0 0, .slice none 0 0, .int .i64 0, .int .i64 0, .int .i64 0, .int .u64 0, .int .u64 0, .int .u64 0, .int .u64 0, .bool false, .int .u64 0, .int .u64 0, .int .u64 0, .int .u64 0, .int .u64 0, .int .u64 0, .int .u64 0, .int .u64 0, .int .u64 0, .int .u64 0, .int .u64 0, .int .u64 0, .int .u64 0, .int .u64 0, .int .u64 0, .int .u64 0, .int .i64 0, .int .i64 0, .int .i64 0, .slice none 0 0, .int .i64 0, .int .i64 0, .int .u64 0]
section
variable (c : Cfg) (ov : Value) (x : Px) (nv : Value) (t : Tp) (r : Rr)
theorem rn_reg {a : Int} (h0 : 0 ≤ a) (h1 : a < 16) : NthN (0 + 33 + a.toNat * 1) (rnV c ov x nv t r) (.int .u64 ((rreg r.regs a : Nat) : Int)) := by
  have h : a = 0 ∨ a = 1 ∨ a = 2 ∨ a = 3 ∨ a = 4 ∨ a = 5 ∨ a = 6 ∨ a = 7 ∨ a = 8 ∨ a = 9 ∨ a = 10 ∨ a = 11 ∨ a = 12 ∨ a = 13 ∨ a = 14 ∨ a = 15 := by omega
  rcases h with rfl | rfl | rfl | rfl | rfl | rfl | rfl | rfl | rfl | rfl | rfl | rfl | rfl | rfl | rfl | rfl <;> exact NthN.of rfl
theorem rn_set (hl : r.regs.length = 16) {a : Int} (h0 : 0 ≤ a) (h1 : a < 16) (n : Nat) : SetN (.int .u64 (n : Int)) (0 + 33 + a.toNat * 1) (rnV c ov x nv t r) (rnV c ov x nv t { r with regs := r.regs.set a.toNat n }) := by
  have h : a = 0 ∨ a = 1 ∨ a = 2 ∨ a = 3 ∨ a = 4 ∨ a = 5 ∨ a = 6 ∨ a = 7 ∨ a = 8 ∨ a = 9 ∨ a = 10 ∨ a = 11 ∨ a = 12 ∨ a = 13 ∨ a = 14 ∨ a = 15 := by omega
  obtain ⟨v, nt, nl, puts, regs, pc, steps, writes, news, s, er, val⟩ := r
  obtain ⟨a0, a1, a2, a3, a4, a5, a6, a7, a8, a9, a10, a11, a12, a13, a14, a15, rfl⟩ := len16 hl
  have key : ∀ (k : Nat) (l l' : List Value), k < l.length → l.set k (.int .u64 (n : Int)) = l' → SetN (.int .u64 (n : Int)) k l l' := fun k l l' hk e => e ▸ SetN.of hk
  rcases h with rfl | rfl | rfl | rfl | rfl | rfl | rfl | rfl | rfl | rfl | rfl | rfl | rfl | rfl | rfl | rfl <;> exact key _ _ _ (by simp [rnV, g16]) rfl
end
/-- behind a function of package tumblerref11: what it gives back, over a heap that holds more -/
abbrev RunO (c : Cfg) (q : HProp) (ov : Value) (x : Px) (t : Tp) (r : Rr) (g : Value → Value) (v : Value) (L : List HProp) : Prop :=
  ∃ q' sa sc wa wc, Gr q q' ∧ ListR entV q' (.slice sa r.puts.length sc) r.puts ∧ ListR u1V q' (.slice wa r.news.length wc) r.news ∧ v = g (.agg ⟨rnV c ov { x with sa := sa, sn := r.puts.length, sc := sc } (.slice wa r.news.length wc) t r⟩) ∧ L = [q']
end Go.Proofs.YthmbgodcpgkkeaaGreat
end
section
namespace Go.Proofs.YthmbgodcpgkkeaaGreat
set_option maxRecDepth 100000
/-- a pool that was read -/
structure Rp where
  named : List Nat
  limbo : List Nat
  wt : Int
  wl : Int
def rnamed (c : Cfg) (os : List Out) : Nat → Nat → List Nat → Tp → Tp × List Nat
  | 0, _, l, t => (t, l)
  | k + 1, u, l, t => rnamed c os k (u + 1) (l ++ [(tdo os t (mop 0 (c.at 3 u 0) 0)).2.was.val]) (tdo os t (mop 0 (c.at 3 u 0) 0)).1
def rlimbo (c : Cfg) (os : List Out) (seq : Nat) : Nat → Nat → List Nat → Tp → Tp × (List Nat × Int)
  | 0, _, l, t => (t, (l, 1))
  | n + 1, k, l, t => if (tdo os t (mop 0 (c.at 15 k 0) 0)).1.need = true then ((tdo os t (mop 0 (c.at 15 k 0) 0)).1, (l, 0)) else if seq < (tdo os t (mop 0 (c.at 15 k 0) 0)).2.was.seq then ((tdo os t (mop 0 (c.at 15 k 0) 0)).1, (l, 2)) else rlimbo c os seq n (k + 1) (l ++ [(tdo os t (mop 0 (c.at 15 k 0) 0)).2.was.val]) (tdo os t (mop 0 (c.at 15 k 0) 0)).1
def rread3 (c : Cfg) (os : List Out) (seq : Nat) (l : List Nat) (top lim : Nat) (t : Tp) : Tp × (Rp × Int) :=
  ((rlimbo c os seq (minI lim c.limit).toNat 0 [] t).1, (⟨l, (rlimbo c os seq (minI lim c.limit).toNat 0 [] t).2.1, minI top c.blocks, minI lim c.limit⟩, (rlimbo c os seq (minI lim c.limit).toNat 0 [] t).2.2))
def rread2 (c : Cfg) (os : List Out) (seq : Nat) (l : List Nat) (top : Nat) (t : Tp) : Tp × (Rp × Int) :=
  if (tdo os t (mop 0 (c.at 14 0 0) 0)).1.need = true then ((tdo os t (mop 0 (c.at 14 0 0) 0)).1, (⟨l, [], 0, 0⟩, 0)) else if seq < (tdo os t (mop 0 (c.at 14 0 0) 0)).2.was.seq then ((tdo os t (mop 0 (c.at 14 0 0) 0)).1, (⟨l, [], 0, 0⟩, 2)) else rread3 c os seq l top (tdo os t (mop 0 (c.at 14 0 0) 0)).2.was.val (tdo os t (mop 0 (c.at 14 0 0) 0)).1
def rread1 (c : Cfg) (os : List Out) (seq : Nat) (l : List Nat) (t : Tp) : Tp × (Rp × Int) :=
  if (tdo os t (mop 0 (c.at 12 0 0) 0)).1.need = true then ((tdo os t (mop 0 (c.at 12 0 0) 0)).1, (⟨l, [], 0, 0⟩, 0)) else if seq < (tdo os t (mop 0 (c.at 12 0 0) 0)).2.was.seq then ((tdo os t (mop 0 (c.at 12 0 0) 0)).1, (⟨l, [], 0, 0⟩, 2)) else rread2 c os seq l (tdo os t (mop 0 (c.at 12 0 0) 0)).2.was.val (tdo os t (mop 0 (c.at 12 0 0) 0)).1
def rread (c : Cfg) (os : List Out) (seq : Nat) (t : Tp) : Tp × (Rp × Int) := rread1 c os seq (rnamed c os c.threads.toNat 0 [] t).2 (rnamed c os c.threads.toNat 0 [] t).1
theorem rnamed_dead {os : List Out} {t : Tp} (h : t.need = true) (c : Cfg) : ∀ (k u : Nat) (l : List Nat), (rnamed c os k u l t).1 = t
  | 0, _, _ => rfl
  | k + 1, u, l => by unfold rnamed; rw [tdo_dead h]; exact rnamed_dead h c k _ _
theorem rread1_dead {os : List Out} {t : Tp} (h : t.need = true) (c : Cfg) (seq : Nat) (l : List Nat) : rread1 c os seq l t = (t, (⟨l, [], 0, 0⟩, 0)) := by unfold rread1; rw [tdo_dead h, if_pos h]
def XPo (c : Cfg) : Mch Po := ⟨Po.ask c, Po.tell c⟩
theorem XPo_ask (c : Cfg) (p : Po) : (XPo c).ask p = p.ask c := rfl
theorem XPo_tell (c : Cfg) (p : Po) (o : Out) : (XPo c).tell p o = p.tell c o := rfl
/-- a pool that reads slots -/
def Po.nm (seq u : Nat) (l : List Nat) : Po := ⟨seq, u, l, 0, 0, 0, 0, [], 0⟩
/-- a pool that was read, as the document's -/
structure PR (c : Cfg) (x : Rp × Int) (p : Po) : Prop where
  s : p.s = x.2
  s2 : x.2 = 1 ∨ x.2 = 2
  ok : x.2 = 1 → p.names = x.1.named ∧ p.limbo = x.1.limbo ∧ p.wt = x.1.wt ∧ p.wl = x.1.wl ∧ p.nt = x.1.wt ∧ p.nl = x.1.wl
theorem minI_nn (a : Nat) {b : Int} (h : 0 ≤ b) : 0 ≤ minI (a : Int) b := by unfold minI; split <;> omega
section
variable {c : Cfg} {os : List Out}
theorem rnamed_sim (hc : Small c) (seq : Nat) : ∀ (k u : Nat) (l : List Nat) {n : Nat}, n ≤ os.length → u + k = c.threads.toNat → Sim (XPo c) os (rnamed c os k u l) (fun l' p' _ => p' = Po.nm seq c.threads.toNat l') (fun _ _ => True) (Po.nm seq u l) n
  | 0, u, l, n, hn, hu => by
    have e : u = c.threads.toNat := by omega
    subst e
    exact Sim.ret (a := l) rfl
  | k + 1, u, l, n, hn, hu => by
    have ht := hc.t0
    have hask : (XPo c).ask (Po.nm seq u l) = (mop 0 (c.at 3 u 0) 0, true) := by
      rw [XPo_ask]
      unfold Po.ask Po.nm
      rw [if_neg (fun e => e rfl), if_pos (by dsimp only; omega)]
    refine ((Sim.do hask hn).bind hn (S := fun o t => rnamed c os k (u + 1) (l ++ [o.was.val]) t) (fun o t h => rnamed_dead h c _ _ _) (fun _ _ _ _ _ => trivial) (fun o p' j hj hjn e => ?_)).eq rfl
    obtain ⟨rfl, rfl, hk2, ho⟩ := e
    have e : (XPo c).tell (Po.nm seq u l) o = Po.nm seq (u + 1) (l ++ [o.was.val]) := by
      rw [XPo_tell]
      unfold Po.tell Po.nm Po.fin
      rw [if_neg (fun e => e rfl), if_pos (by dsimp only; omega), if_neg (by dsimp only; omega)]
      rfl
    rw [e]
    exact rnamed_sim hc seq k (u + 1) _ hk2 (by omega)
theorem rlimbo_sim (hc : Small c) (seq : Nat) (nm : List Nat) (wt wl : Int) (hwl : 0 ≤ wl) : ∀ (k i : Nat) (l : List Nat) {p : Po} {n : Nat}, n ≤ os.length → l.length = i → ((i : Int) + k = wl) → (k = 0 → p = ⟨seq, c.threads + 2 + i, nm, wt, wl, wt, wl, l, 1⟩) → (k ≠ 0 → p = ⟨seq, c.threads + 2 + i, nm, wt, wl, 0, 0, l, 0⟩) →
    Sim (XPo c) os (rlimbo c os seq k i l) (fun x p' _ => PR c (⟨nm, x.1, wt, wl⟩, x.2) p') (fun x _ => x.2 = 0) p n
  | 0, i, l, p, n, hn, hl, hk, h0, _ => by
    rw [h0 rfl]
    exact Sim.ret (a := (l, 1)) ⟨rfl, .inl rfl, fun _ => ⟨rfl, rfl, rfl, rfl, rfl, rfl⟩⟩
  | k + 1, i, l, p, n, hn, hl, hk, _, h1 => by
    have ht := hc.t0
    rw [h1 (by omega)]
    have hask : (XPo c).ask ⟨seq, c.threads + 2 + i, nm, wt, wl, 0, 0, l, 0⟩ = (mop 0 (c.at 15 i 0) 0, true) := by
      rw [XPo_ask]
      unfold Po.ask
      dsimp only
      rw [if_neg (fun e => e rfl), if_neg (by omega), if_neg (by omega), if_neg (by omega), show c.threads + 2 + (i : Int) - c.threads - 2 = i by omega]
    refine ((Sim.do hask hn).bind hn (S := fun o t => if t.need = true then (t, (l, 0)) else if seq < o.was.seq then (t, (l, 2)) else rlimbo c os seq k (i + 1) (l ++ [o.was.val]) t) (fun o t h => by rw [if_pos h]) (fun _ _ t h _ => by rw [if_pos h]) (fun o p' j hj hjn e => ?_)).eq rfl
    obtain ⟨rfl, rfl, hk2, ho⟩ := e
    rw [XPo_tell]
    unfold Po.tell
    dsimp only
    have t1 : ¬ (c.threads + 2 + (i : Int) < c.threads) := by omega
    have t2 : ¬ (c.threads + 2 + (i : Int) = c.threads) := by omega
    have t3 : ¬ (c.threads + 2 + (i : Int) = c.threads + 1) := by omega
    have hnd : ¬ (Tp.live (n + 1)).need = true := Bool.false_ne_true
    rw [if_neg (fun e => e rfl), if_neg t1]
    by_cases hs : seq < o.was.seq
    · rw [if_pos hs]
      refine (Sim.ret (a := (l, 2)) ⟨rfl, .inr rfl, fun e => absurd (show (2 : Int) = 1 from e) (by decide)⟩).eq ?_
      rw [if_neg hnd, if_pos hs]
    · rw [if_neg hs, if_neg t2, if_neg t3]
      refine (rlimbo_sim hc seq nm wt wl hwl k (i + 1) (l ++ [o.was.val]) hk2 (by rw [List.length_append, hl]; rfl) (by omega) (fun hz => ?_) (fun hz => ?_)).eq ?_
      · unfold Po.fin
        dsimp only
        rw [if_pos ⟨by omega, by rw [List.length_append, hl, List.length_singleton]; omega⟩, Int.natCast_add, show c.threads + 2 + (i : Int) + 1 = c.threads + 2 + ((i : Int) + (1 : Nat)) by omega]
      · unfold Po.fin
        dsimp only
        rw [if_neg (fun e => by have e := e.2; rw [List.length_append, hl, List.length_singleton] at e; omega), Int.natCast_add, show c.threads + 2 + (i : Int) + 1 = c.threads + 2 + ((i : Int) + (1 : Nat)) by omega]
      · rw [if_neg hnd, if_neg hs]
theorem rread_sim (hc : Small c) (seq : Nat) {n : Nat} (hn : n ≤ os.length) : Sim (XPo c) os (rread c os seq) (fun x p' _ => PR c x p') (fun x _ => x.2 = 0) (Po.new seq) n := by
  have ht := hc.t0
  have hlm := hc.limit
  refine ((rnamed_sim hc seq c.threads.toNat 0 [] hn (by omega)).bind hn (S := fun l t => rread1 c os seq l t) (fun l t h => by rw [rread1_dead h]) (fun l _ t h _ => by rw [rread1_dead h]) (fun l p' j hj hjn e => ?_)).eq rfl
  subst e
  have hask : (XPo c).ask (Po.nm seq c.threads.toNat l) = (mop 0 (c.at 12 0 0) 0, true) := by
    rw [XPo_ask]
    unfold Po.ask Po.nm
    dsimp only
    rw [if_neg (fun e => e rfl), if_neg (by omega), if_pos (by omega)]
  refine ((Sim.do hask hjn).bind hjn (S := fun o t => if t.need = true then (t, ((⟨l, [], 0, 0⟩ : Rp), (0 : Int))) else if seq < o.was.seq then (t, (⟨l, [], 0, 0⟩, 2)) else rread2 c os seq l o.was.val t) (fun o t h => by rw [if_pos h]) (fun _ _ t h _ => by rw [if_pos h]) (fun o p' i hi hin e => ?_)).eq rfl
  obtain ⟨rfl, rfl, hi2, ho⟩ := e
  have hnd : ¬ (Tp.live (j + 1)).need = true := Bool.false_ne_true
  rw [XPo_tell]
  unfold Po.tell Po.nm
  dsimp only
  have t1 : ¬ ((c.threads.toNat : Int) < c.threads) := by omega
  have t2 : (c.threads.toNat : Int) = c.threads := by omega
  rw [if_neg (fun e => e rfl), if_neg t1]
  by_cases hs : seq < o.was.seq
  · rw [if_pos hs]
    refine (Sim.ret (a := (⟨l, [], 0, 0⟩, 2)) ⟨rfl, .inr rfl, fun e => absurd (show (2 : Int) = 1 from e) (by decide)⟩).eq ?_
    rw [if_neg hnd, if_pos hs]
  rw [if_neg hs, if_pos t2]
  have ef : Po.fin c ⟨seq, (c.threads.toNat : Int) + 1, l, minI o.was.val c.blocks, 0, 0, 0, [], 0⟩ = ⟨seq, c.threads + 1, l, minI o.was.val c.blocks, 0, 0, 0, [], 0⟩ := by
    unfold Po.fin
    dsimp only
    rw [if_neg (by omega), t2]
  rw [ef]
  have hask : (XPo c).ask ⟨seq, c.threads + 1, l, minI o.was.val c.blocks, 0, 0, 0, [], 0⟩ = (mop 0 (c.at 14 0 0) 0, true) := by
    rw [XPo_ask]
    unfold Po.ask
    dsimp only
    rw [if_neg (fun e => e rfl), if_neg (by omega), if_neg (by omega), if_pos rfl]
  have hnd2 : ¬ (Tp.live (j + 1 + 1)).need = true := Bool.false_ne_true
  refine ((Sim.do hask hi2).bind hi2 (S := fun o2 t => if t.need = true then (t, ((⟨l, [], 0, 0⟩ : Rp), (0 : Int))) else if seq < o2.was.seq then (t, (⟨l, [], 0, 0⟩, 2)) else rread3 c os seq l o.was.val o2.was.val t) (fun o t h => by rw [if_pos h]) (fun _ _ t h _ => by rw [if_pos h]) (fun o2 p' i hi hin e => ?_)).eq (by rw [if_neg hnd, if_neg hs]; rfl)
  obtain ⟨rfl, rfl, hi3, ho2⟩ := e
  rw [XPo_tell]
  unfold Po.tell
  dsimp only
  rw [if_neg (fun e => e rfl), if_neg (by omega)]
  by_cases hs2 : seq < o2.was.seq
  · rw [if_pos hs2]
    refine (Sim.ret (a := (⟨l, [], 0, 0⟩, 2)) ⟨rfl, .inr rfl, fun e => absurd (show (2 : Int) = 1 from e) (by decide)⟩).eq ?_
    rw [if_neg hnd2, if_pos hs2]
  rw [if_neg hs2, if_neg (by omega), if_pos rfl]
  have hw := minI_nn o2.was.val hlm.1
  refine (((rlimbo_sim (os := os) hc seq l (minI o.was.val c.blocks) (minI o2.was.val c.limit) hw (minI o2.was.val c.limit).toNat 0 [] (p := Po.fin c ⟨seq, c.threads + 1 + 1, l, minI o.was.val c.blocks, minI o2.was.val c.limit, 0, 0, [], 0⟩) hi3 rfl (by omega) (fun hz => ?_) (fun hz => ?_)).bind hi3 (S := fun x t => (t, (⟨l, x.1, minI o.was.val c.blocks, minI o2.was.val c.limit⟩, x.2))) (fun _ _ _ => rfl) (fun _ _ _ _ e => e) (fun x p' i hi hin e => Sim.ret e))).eq (by rw [if_neg hnd2, if_neg hs2]; rfl)
  · unfold Po.fin
    dsimp only
    rw [if_pos ⟨by omega, by rw [List.length_nil]; omega⟩]
    rw [show c.threads + 1 + 1 = c.threads + 2 + ((0 : Nat) : Int) by omega]
  · unfold Po.fin
    dsimp only
    rw [if_neg (fun e => by have e := e.2; rw [List.length_nil] at e; omega)]
    rw [show c.threads + 1 + 1 = c.threads + 2 + ((0 : Nat) : Int) by omega]
end
end Go.Proofs.YthmbgodcpgkkeaaGreat
end
