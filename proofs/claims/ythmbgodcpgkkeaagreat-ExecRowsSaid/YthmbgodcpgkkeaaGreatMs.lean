/-
  Package model: step.
-/
import Derived.Test.YthmbgodcpgkkeaaGreatMr
namespace Go.Proofs.YthmbgodcpgkkeaaGreat
set_option maxRecDepth 100000
def Rm.tick (m : Rm) : Rm := { m with pc := m.pc + 1 }
def Rm.step (i : Ins) (m0 : Rm) : Rm × Int :=
  if i.op = 17 then ({ m0.tick with pc := i.imm }, 0) else
  if i.op = 18 then (if m0.reg i.a = 0 then ({ m0.tick with pc := i.imm }, 0) else (m0.tick, 0)) else
  if i.op = 19 then (if m0.reg i.a = 0 then (m0.tick, 0) else ({ m0.tick with pc := i.imm }, 0)) else
  if i.op = 20 then ({ m0.tick with val := m0.reg i.a, ended := true }, 0) else
  if i.op = 21 then ({ m0.tick with val := i.imm }, 40) else
  if i.op = 9 ∨ i.op = 10 then m0.tick.root i else
  if 11 ≤ i.op ∧ i.op ≤ 14 then m0.tick.word i else
  if i.op = 15 then m0.tick.fresh i else
  if i.op = 16 then m0.tick.free i else
  (m0.tick.setR i.a (reckon i m0.regs m0.args), 0)
structure StepOk (i : Ins) (m : Rm) : Prop where
  io : InsOk i
  mo : RmOk m
  p0 : 0 ≤ m.pc
  p1 : m.pc ≤ 1000000
  j : i.op = 17 ∨ i.op = 18 ∨ i.op = 19 → i.imm ≤ 1000000
  k : i.imm < 9223372036854775808 ∨ i.op ≠ 8
theorem RmOk.tick {m : Rm} (h : RmOk m) : RmOk m.tick := ⟨h.a, h.r, h.o, h.b, h.w0, h.w1, h.d0, h.d1, h.n⟩
set_option maxHeartbeats 2000000 in
theorem mstep_t (X S : Nat) (q : HProp) (w : At) (m : Rm) (i : Ins) (hk : StepOk i m) (hp : PickR q w m) : Tri Tryz.prog 145 #[.pointer (some ⟨X, 0, none⟩), .agg ⟨i.v⟩] (rmL X S q w m) (rmQ X S q (m.step i)) := by
  have hm := hk.mo
  have hmt := hm.tick
  have hp' : PickR q w m.tick := hp
  have hp0 := hk.p0
  have hp1 := hk.p1
  have hj := hk.j
  have hi := hk.io
  have ha0 := hi.a0
  have ha1 := hi.a1
  have hna := rm_reg S (.slice w.pad m.pick.length w.pcap) (.slice w.nad m.news.length w.ncap) m.tick hi.a0 hi.a1
  rw [show m.tick.reg i.a = m.reg i.a from rfl] at hna
  unfold Rm.step
  have hroot := mrunroot_t X S q w m.tick hmt hp' i hi
  have hfresh := mfresh_t X S q w m.tick hmt hp' i hi
  have hfree := mfree_t X S q w m.tick hmt hp' i hi
  have hword := fun h => mword_t X S q w m.tick hmt hp' i hi h
  unfold Ins.v at hroot hfresh hfree hword ⊢
  unfold rmL at hroot hfresh hfree hword ⊢
  by_cases h17 : i.op = 17
  · rw [if_pos h17]
    have := hj (.inl h17)
    refine Tri.of_body (vs := [_, _]) Tryz.func145 rfl rfl fun w0 F => ?_
    repeat' (first | refine Ga ?_ | (refine Gb ?_; intro b) | (refine Gd ?_; intro g cap rest hcap) | (refine Gc ?_; intro ad cap) | (refine St.draw (id := 7) [(0, 0), (1, 0), (2, 1), (3, 0), (4, 0), (5, 0), (6, 1), (7, 0)] [] mixed (by kernel_rfl) ?_) | (refine St.draw (id := 10) [(0, 0), (1, 0), (2, 1), (3, 0), (4, 0), (5, 0), (6, 1), (7, 0)] [] mixed (by kernel_rfl) ?_) | (refine St.draw (id := 13) [(0, 0), (1, 0), (2, 0), (3, 0), (4, 1), (5, 0), (6, 0), (7, 0), (8, 1), (9, 0), (10, 0), (11, 0), (12, 0), (13, 3), (14, 0), (15, 0), (16, 3)] [13, 16] mixed (by kernel_rfl) ?_) | (refine St.draw (id := 3) [(0, 0), (1, 0), (2, 1), (3, 1), (4, 0), (5, 0), (6, 0), (7, 1), (8, 0), (9, 0), (10, 0), (11, 1), (12, 1), (13, 0), (14, 0), (15, 0), (16, 3)] [16] mixed (by kernel_rfl) ?_) | (refine Ge ?_ ?_ <;> (intro h; try (exfalso; omega))) | fail)
    refine St.d1 Tryz.func145 ⟨_, ⟨w, rfl, hp, rfl⟩, ?_⟩
    exact Ent.go
  rw [if_neg h17]
  by_cases h18 : i.op = 18
  · rw [if_pos h18]
    have := hj (.inr (.inl h18))
    by_cases hz : m.reg i.a = 0
    · rw [if_pos hz]
      refine Tri.of_body (vs := [_, _]) Tryz.func145 rfl rfl fun w0 F => ?_
      repeat' (first | refine Ga ?_ | (refine Gb ?_; intro b) | (refine Gd ?_; intro g cap rest hcap) | (refine Gc ?_; intro ad cap) | (refine St.draw (id := 7) [(0, 0), (1, 0), (2, 1), (3, 0), (4, 0), (5, 0), (6, 1), (7, 0)] [] mixed (by kernel_rfl) ?_) | (refine St.draw (id := 10) [(0, 0), (1, 0), (2, 1), (3, 0), (4, 0), (5, 0), (6, 1), (7, 0)] [] mixed (by kernel_rfl) ?_) | (refine St.draw (id := 13) [(0, 0), (1, 0), (2, 0), (3, 0), (4, 1), (5, 0), (6, 0), (7, 0), (8, 1), (9, 0), (10, 0), (11, 0), (12, 0), (13, 3), (14, 0), (15, 0), (16, 3)] [13, 16] mixed (by kernel_rfl) ?_) | (refine St.draw (id := 3) [(0, 0), (1, 0), (2, 1), (3, 1), (4, 0), (5, 0), (6, 0), (7, 1), (8, 0), (9, 0), (10, 0), (11, 1), (12, 1), (13, 0), (14, 0), (15, 0), (16, 3)] [16] mixed (by kernel_rfl) ?_) | (refine Ge ?_ ?_ <;> (intro h; try (exfalso; omega))) | fail)
      refine St.d1 Tryz.func145 ⟨_, ⟨w, rfl, hp, rfl⟩, ?_⟩
      exact Ent.go
    · rw [if_neg hz]
      refine Tri.of_body (vs := [_, _]) Tryz.func145 rfl rfl fun w0 F => ?_
      repeat' (first | refine Ga ?_ | (refine Gb ?_; intro b) | (refine Gd ?_; intro g cap rest hcap) | (refine Gc ?_; intro ad cap) | (refine St.draw (id := 7) [(0, 0), (1, 0), (2, 1), (3, 0), (4, 0), (5, 0), (6, 1), (7, 0)] [] mixed (by kernel_rfl) ?_) | (refine St.draw (id := 10) [(0, 0), (1, 0), (2, 1), (3, 0), (4, 0), (5, 0), (6, 1), (7, 0)] [] mixed (by kernel_rfl) ?_) | (refine St.draw (id := 13) [(0, 0), (1, 0), (2, 0), (3, 0), (4, 1), (5, 0), (6, 0), (7, 0), (8, 1), (9, 0), (10, 0), (11, 0), (12, 0), (13, 3), (14, 0), (15, 0), (16, 3)] [13, 16] mixed (by kernel_rfl) ?_) | (refine St.draw (id := 3) [(0, 0), (1, 0), (2, 1), (3, 1), (4, 0), (5, 0), (6, 0), (7, 1), (8, 0), (9, 0), (10, 0), (11, 1), (12, 1), (13, 0), (14, 0), (15, 0), (16, 3)] [16] mixed (by kernel_rfl) ?_) | (refine Ge ?_ ?_ <;> (intro h; try (exfalso; omega))) | fail)
      refine St.d1 Tryz.func145 ⟨_, ⟨w, rfl, hp, rfl⟩, ?_⟩
      exact Ent.go
  rw [if_neg h18]
  by_cases h19 : i.op = 19
  · rw [if_pos h19]
    have := hj (.inr (.inr h19))
    by_cases hz : m.reg i.a = 0
    · rw [if_pos hz]
      refine Tri.of_body (vs := [_, _]) Tryz.func145 rfl rfl fun w0 F => ?_
      repeat' (first | refine Ga ?_ | (refine Gb ?_; intro b) | (refine Gd ?_; intro g cap rest hcap) | (refine Gc ?_; intro ad cap) | (refine St.draw (id := 7) [(0, 0), (1, 0), (2, 1), (3, 0), (4, 0), (5, 0), (6, 1), (7, 0)] [] mixed (by kernel_rfl) ?_) | (refine St.draw (id := 10) [(0, 0), (1, 0), (2, 1), (3, 0), (4, 0), (5, 0), (6, 1), (7, 0)] [] mixed (by kernel_rfl) ?_) | (refine St.draw (id := 13) [(0, 0), (1, 0), (2, 0), (3, 0), (4, 1), (5, 0), (6, 0), (7, 0), (8, 1), (9, 0), (10, 0), (11, 0), (12, 0), (13, 3), (14, 0), (15, 0), (16, 3)] [13, 16] mixed (by kernel_rfl) ?_) | (refine St.draw (id := 3) [(0, 0), (1, 0), (2, 1), (3, 1), (4, 0), (5, 0), (6, 0), (7, 1), (8, 0), (9, 0), (10, 0), (11, 1), (12, 1), (13, 0), (14, 0), (15, 0), (16, 3)] [16] mixed (by kernel_rfl) ?_) | (refine Ge ?_ ?_ <;> (intro h; try (exfalso; omega))) | fail)
      refine St.d1 Tryz.func145 ⟨_, ⟨w, rfl, hp, rfl⟩, ?_⟩
      exact Ent.go
    · rw [if_neg hz]
      refine Tri.of_body (vs := [_, _]) Tryz.func145 rfl rfl fun w0 F => ?_
      repeat' (first | refine Ga ?_ | (refine Gb ?_; intro b) | (refine Gd ?_; intro g cap rest hcap) | (refine Gc ?_; intro ad cap) | (refine St.draw (id := 7) [(0, 0), (1, 0), (2, 1), (3, 0), (4, 0), (5, 0), (6, 1), (7, 0)] [] mixed (by kernel_rfl) ?_) | (refine St.draw (id := 10) [(0, 0), (1, 0), (2, 1), (3, 0), (4, 0), (5, 0), (6, 1), (7, 0)] [] mixed (by kernel_rfl) ?_) | (refine St.draw (id := 13) [(0, 0), (1, 0), (2, 0), (3, 0), (4, 1), (5, 0), (6, 0), (7, 0), (8, 1), (9, 0), (10, 0), (11, 0), (12, 0), (13, 3), (14, 0), (15, 0), (16, 3)] [13, 16] mixed (by kernel_rfl) ?_) | (refine St.draw (id := 3) [(0, 0), (1, 0), (2, 1), (3, 1), (4, 0), (5, 0), (6, 0), (7, 1), (8, 0), (9, 0), (10, 0), (11, 1), (12, 1), (13, 0), (14, 0), (15, 0), (16, 3)] [16] mixed (by kernel_rfl) ?_) | (refine Ge ?_ ?_ <;> (intro h; try (exfalso; omega))) | fail)
      refine St.d1 Tryz.func145 ⟨_, ⟨w, rfl, hp, rfl⟩, ?_⟩
      exact Ent.go
  rw [if_neg h19]
  by_cases h20 : i.op = 20
  · rw [if_pos h20]
    refine Tri.of_body (vs := [_, _]) Tryz.func145 rfl rfl fun w0 F => ?_
    repeat' (first | refine Ga ?_ | (refine Gb ?_; intro b) | (refine Gd ?_; intro g cap rest hcap) | (refine Gc ?_; intro ad cap) | (refine St.draw (id := 7) [(0, 0), (1, 0), (2, 1), (3, 0), (4, 0), (5, 0), (6, 1), (7, 0)] [] mixed (by kernel_rfl) ?_) | (refine St.draw (id := 10) [(0, 0), (1, 0), (2, 1), (3, 0), (4, 0), (5, 0), (6, 1), (7, 0)] [] mixed (by kernel_rfl) ?_) | (refine St.draw (id := 13) [(0, 0), (1, 0), (2, 0), (3, 0), (4, 1), (5, 0), (6, 0), (7, 0), (8, 1), (9, 0), (10, 0), (11, 0), (12, 0), (13, 3), (14, 0), (15, 0), (16, 3)] [13, 16] mixed (by kernel_rfl) ?_) | (refine St.draw (id := 3) [(0, 0), (1, 0), (2, 1), (3, 1), (4, 0), (5, 0), (6, 0), (7, 1), (8, 0), (9, 0), (10, 0), (11, 1), (12, 1), (13, 0), (14, 0), (15, 0), (16, 3)] [16] mixed (by kernel_rfl) ?_) | (refine Ge ?_ ?_ <;> (intro h; try (exfalso; omega))) | fail)
    refine St.d1 Tryz.func145 ⟨_, ⟨w, rfl, hp, rfl⟩, ?_⟩
    exact Ent.go
  rw [if_neg h20]
  by_cases h21 : i.op = 21
  · rw [if_pos h21]
    refine Tri.of_body (vs := [_, _]) Tryz.func145 rfl rfl fun w0 F => ?_
    repeat' (first | refine Ga ?_ | (refine Gb ?_; intro b) | (refine Gd ?_; intro g cap rest hcap) | (refine Gc ?_; intro ad cap) | (refine St.draw (id := 7) [(0, 0), (1, 0), (2, 1), (3, 0), (4, 0), (5, 0), (6, 1), (7, 0)] [] mixed (by kernel_rfl) ?_) | (refine St.draw (id := 10) [(0, 0), (1, 0), (2, 1), (3, 0), (4, 0), (5, 0), (6, 1), (7, 0)] [] mixed (by kernel_rfl) ?_) | (refine St.draw (id := 13) [(0, 0), (1, 0), (2, 0), (3, 0), (4, 1), (5, 0), (6, 0), (7, 0), (8, 1), (9, 0), (10, 0), (11, 0), (12, 0), (13, 3), (14, 0), (15, 0), (16, 3)] [13, 16] mixed (by kernel_rfl) ?_) | (refine St.draw (id := 3) [(0, 0), (1, 0), (2, 1), (3, 1), (4, 0), (5, 0), (6, 0), (7, 1), (8, 0), (9, 0), (10, 0), (11, 1), (12, 1), (13, 0), (14, 0), (15, 0), (16, 3)] [16] mixed (by kernel_rfl) ?_) | (refine Ge ?_ ?_ <;> (intro h; try (exfalso; omega))) | fail)
    refine St.d1 Tryz.func145 ⟨_, ⟨w, rfl, hp, rfl⟩, ?_⟩
    exact Ent.go
  rw [if_neg h21]
  by_cases h9 : i.op = 9 ∨ i.op = 10
  · rw [if_pos h9]
    generalize m.tick.root i = r at hroot ⊢
    unfold rmQ at hroot
    refine Tri.of_body (vs := [_, _]) Tryz.func145 rfl rfl fun w0 F => ?_
    repeat' (first | refine Ga ?_ | (refine Gb ?_; intro b) | (refine Gd ?_; intro g cap rest hcap) | (refine Gc ?_; intro ad cap) | (refine St.draw (id := 7) [(0, 0), (1, 0), (2, 1), (3, 0), (4, 0), (5, 0), (6, 1), (7, 0)] [] mixed (by kernel_rfl) ?_) | (refine St.draw (id := 10) [(0, 0), (1, 0), (2, 1), (3, 0), (4, 0), (5, 0), (6, 1), (7, 0)] [] mixed (by kernel_rfl) ?_) | (refine St.draw (id := 13) [(0, 0), (1, 0), (2, 0), (3, 0), (4, 1), (5, 0), (6, 0), (7, 0), (8, 1), (9, 0), (10, 0), (11, 0), (12, 0), (13, 3), (14, 0), (15, 0), (16, 3)] [13, 16] mixed (by kernel_rfl) ?_) | (refine St.draw (id := 3) [(0, 0), (1, 0), (2, 1), (3, 1), (4, 0), (5, 0), (6, 0), (7, 1), (8, 0), (9, 0), (10, 0), (11, 1), (12, 1), (13, 0), (14, 0), (15, 0), (16, 3)] [16] mixed (by kernel_rfl) ?_) | (refine Gt hroot ?_; rintro _ _ ⟨w', rfl, hpk, rfl⟩) | (refine Ge ?_ ?_ <;> (intro h; try (exfalso; omega))) | fail)
    all_goals first | (exfalso; omega) | skip
    all_goals refine St.d1 Tryz.func145 ⟨_, ⟨w', rfl, hpk, rfl⟩, ?_⟩
    all_goals exact Ent.go
  rw [if_neg h9]
  by_cases h11 : 11 ≤ i.op ∧ i.op ≤ 14
  · rw [if_pos h11]
    have hword := hword (by omega)
    generalize m.tick.word i = r at hword ⊢
    unfold rmQ at hword
    refine Tri.of_body (vs := [_, _]) Tryz.func145 rfl rfl fun w0 F => ?_
    repeat' (first | refine Ga ?_ | (refine Gb ?_; intro b) | (refine Gd ?_; intro g cap rest hcap) | (refine Gc ?_; intro ad cap) | (refine St.draw (id := 7) [(0, 0), (1, 0), (2, 1), (3, 0), (4, 0), (5, 0), (6, 1), (7, 0)] [] mixed (by kernel_rfl) ?_) | (refine St.draw (id := 10) [(0, 0), (1, 0), (2, 1), (3, 0), (4, 0), (5, 0), (6, 1), (7, 0)] [] mixed (by kernel_rfl) ?_) | (refine St.draw (id := 13) [(0, 0), (1, 0), (2, 0), (3, 0), (4, 1), (5, 0), (6, 0), (7, 0), (8, 1), (9, 0), (10, 0), (11, 0), (12, 0), (13, 3), (14, 0), (15, 0), (16, 3)] [13, 16] mixed (by kernel_rfl) ?_) | (refine St.draw (id := 3) [(0, 0), (1, 0), (2, 1), (3, 1), (4, 0), (5, 0), (6, 0), (7, 1), (8, 0), (9, 0), (10, 0), (11, 1), (12, 1), (13, 0), (14, 0), (15, 0), (16, 3)] [16] mixed (by kernel_rfl) ?_) | (refine Gt hword ?_; rintro _ _ ⟨w', rfl, hpk, rfl⟩) | (refine Ge ?_ ?_ <;> (intro h; try (exfalso; omega))) | fail)
    all_goals first | (exfalso; omega) | skip
    all_goals refine St.d1 Tryz.func145 ⟨_, ⟨w', rfl, hpk, rfl⟩, ?_⟩
    all_goals exact Ent.go
  rw [if_neg h11]
  by_cases h15 : i.op = 15
  · rw [if_pos h15]
    generalize m.tick.fresh i = r at hfresh ⊢
    unfold rmQ at hfresh
    refine Tri.of_body (vs := [_, _]) Tryz.func145 rfl rfl fun w0 F => ?_
    repeat' (first | refine Ga ?_ | (refine Gb ?_; intro b) | (refine Gd ?_; intro g cap rest hcap) | (refine Gc ?_; intro ad cap) | (refine St.draw (id := 7) [(0, 0), (1, 0), (2, 1), (3, 0), (4, 0), (5, 0), (6, 1), (7, 0)] [] mixed (by kernel_rfl) ?_) | (refine St.draw (id := 10) [(0, 0), (1, 0), (2, 1), (3, 0), (4, 0), (5, 0), (6, 1), (7, 0)] [] mixed (by kernel_rfl) ?_) | (refine St.draw (id := 13) [(0, 0), (1, 0), (2, 0), (3, 0), (4, 1), (5, 0), (6, 0), (7, 0), (8, 1), (9, 0), (10, 0), (11, 0), (12, 0), (13, 3), (14, 0), (15, 0), (16, 3)] [13, 16] mixed (by kernel_rfl) ?_) | (refine St.draw (id := 3) [(0, 0), (1, 0), (2, 1), (3, 1), (4, 0), (5, 0), (6, 0), (7, 1), (8, 0), (9, 0), (10, 0), (11, 1), (12, 1), (13, 0), (14, 0), (15, 0), (16, 3)] [16] mixed (by kernel_rfl) ?_) | (refine Gt hfresh ?_; rintro _ _ ⟨w', rfl, hpk, rfl⟩) | (refine Ge ?_ ?_ <;> (intro h; try (exfalso; omega))) | fail)
    all_goals first | (exfalso; omega) | skip
    all_goals refine St.d1 Tryz.func145 ⟨_, ⟨w', rfl, hpk, rfl⟩, ?_⟩
    all_goals exact Ent.go
  rw [if_neg h15]
  by_cases h16 : i.op = 16
  · rw [if_pos h16]
    generalize m.tick.free i = r at hfree ⊢
    unfold rmQ at hfree
    refine Tri.of_body (vs := [_, _]) Tryz.func145 rfl rfl fun w0 F => ?_
    repeat' (first | refine Ga ?_ | (refine Gb ?_; intro b) | (refine Gd ?_; intro g cap rest hcap) | (refine Gc ?_; intro ad cap) | (refine St.draw (id := 7) [(0, 0), (1, 0), (2, 1), (3, 0), (4, 0), (5, 0), (6, 1), (7, 0)] [] mixed (by kernel_rfl) ?_) | (refine St.draw (id := 10) [(0, 0), (1, 0), (2, 1), (3, 0), (4, 0), (5, 0), (6, 1), (7, 0)] [] mixed (by kernel_rfl) ?_) | (refine St.draw (id := 13) [(0, 0), (1, 0), (2, 0), (3, 0), (4, 1), (5, 0), (6, 0), (7, 0), (8, 1), (9, 0), (10, 0), (11, 0), (12, 0), (13, 3), (14, 0), (15, 0), (16, 3)] [13, 16] mixed (by kernel_rfl) ?_) | (refine St.draw (id := 3) [(0, 0), (1, 0), (2, 1), (3, 1), (4, 0), (5, 0), (6, 0), (7, 1), (8, 0), (9, 0), (10, 0), (11, 1), (12, 1), (13, 0), (14, 0), (15, 0), (16, 3)] [16] mixed (by kernel_rfl) ?_) | (refine Gt hfree ?_; rintro _ _ ⟨w', rfl, hpk, rfl⟩) | (refine Ge ?_ ?_ <;> (intro h; try (exfalso; omega))) | fail)
    all_goals first | (exfalso; omega) | skip
    all_goals refine St.d1 Tryz.func145 ⟨_, ⟨w', rfl, hpk, rfl⟩, ?_⟩
    all_goals exact Ent.go
  rw [if_neg h16]
  have hrk := reckon_r i m.regs m.args ⟨hi.b0, hi.b1, hi.c0, hi.c1, hm.r, hm.a, hk.k⟩
  rw [← g16_eq hm.r, ← g4_eq hm.a] at hrk
  unfold Ins.v at hrk
  have hset := rm_set S (.slice w.pad m.pick.length w.pcap) (.slice w.nad m.news.length w.ncap) m.tick hm.r hi.a0 hi.a1 (reckon i m.regs m.args)
  refine Tri.of_body (vs := [_, _]) Tryz.func145 rfl rfl fun w0 F => ?_
  repeat' (first | refine Ga ?_ | (refine Gb ?_; intro b) | (refine Gd ?_; intro g cap rest hcap) | (refine Gc ?_; intro ad cap) | (refine St.draw (id := 7) [(0, 0), (1, 0), (2, 1), (3, 0), (4, 0), (5, 0), (6, 1), (7, 0)] [] mixed (by kernel_rfl) ?_) | (refine St.draw (id := 10) [(0, 0), (1, 0), (2, 1), (3, 0), (4, 0), (5, 0), (6, 1), (7, 0)] [] mixed (by kernel_rfl) ?_) | (refine St.draw (id := 13) [(0, 0), (1, 0), (2, 0), (3, 0), (4, 1), (5, 0), (6, 0), (7, 0), (8, 1), (9, 0), (10, 0), (11, 0), (12, 0), (13, 3), (14, 0), (15, 0), (16, 3)] [13, 16] mixed (by kernel_rfl) ?_) | (refine St.draw (id := 3) [(0, 0), (1, 0), (2, 1), (3, 1), (4, 0), (5, 0), (6, 0), (7, 1), (8, 0), (9, 0), (10, 0), (11, 1), (12, 1), (13, 0), (14, 0), (15, 0), (16, 3)] [16] mixed (by kernel_rfl) ?_)| refine Gl hrk ?_ | (refine Ge ?_ ?_ <;> (intro h; try (exfalso; omega))) | fail)
  all_goals first | (exfalso; omega) | skip
  all_goals refine St.d1 Tryz.func145 ⟨_, ⟨w, rfl, hp, rfl⟩, ?_⟩
  all_goals exact Ent.go
end Go.Proofs.YthmbgodcpgkkeaaGreat
