/-
  Package check: Reads. Packages tumblerref03, tumblerref04, tumblerref05: what may be of instructions, for all programs.
-/
import Derived.Test.YthmbgodcpgkkeaaGreatBa
import Derived.Test.YthmbgodcpgkkeaaGreatExe
section
namespace Go.Proofs.YthmbgodcpgkkeaaGreat
set_option maxRecDepth 100000
end Go.Proofs.YthmbgodcpgkkeaaGreat
end
section
namespace Go.Proofs.YthmbgodcpgkkeaaGreat
set_option maxRecDepth 100000
def regs3 (op : Int) : Int := if (2 ≤ op ∧ op ≤ 7) ∨ op = 12 ∨ op = 14 then 3 else if op = 1 ∨ (9 ≤ op ∧ op ≤ 11) ∨ op = 13 then 2 else if op = 17 ∨ op = 21 ∨ op < 0 ∨ 21 < op then 0 else 1
theorem regs3_r (op : Int) : RTri Tryz.prog 312 #[.int .i64 op] [] (.int .i64 (regs3 op)) := by
  apply RTri.of_pure
  refine Tri.of_body (vs := [_]) Tryz.func312 rfl rfl fun w0 F => ?_
  repeat' (first | refine Ga ?_ | (refine Gb ?_; intro b) | (refine Gd ?_; intro g cap rest hcap) | (refine Gc ?_; intro ad cap)  | (refine Ge ?_ ?_ <;> (intro h; try (exfalso; omega))) | fail)
  all_goals first | (exfalso; omega) | skip
  all_goals (first | refine St.dn Tryz.func312 ⟨?_, rfl⟩ Ent.go | refine St.fl Tryz.func312 ⟨?_, rfl⟩ Ent.go)
  all_goals refine congrArg (Value.int .i64) ?_
  all_goals unfold regs3
  all_goals (repeat (first | rw [if_pos (by omega)] | rw [if_neg (by omega)]))
def imm3 (op : Int) : Bool := decide (op = 0 ∨ op = 8 ∨ op = 11 ∨ op = 13 ∨ (17 ≤ op ∧ op ≤ 19) ∨ op = 21)
theorem imm3_r (op : Int) : RTri Tryz.prog 313 #[.int .i64 op] [] (.bool (imm3 op)) := by
  apply RTri.of_pure
  refine Tri.of_body (vs := [_]) Tryz.func313 rfl rfl fun w0 F => ?_
  repeat' (first | refine Ga ?_ | (refine Gb ?_; intro b) | (refine Gd ?_; intro g cap rest hcap) | (refine Gc ?_; intro ad cap)  | (refine Ge ?_ ?_ <;> (intro h; try (exfalso; omega))) | fail)
  all_goals first | (exfalso; omega) | skip
  all_goals (first | refine St.dn Tryz.func313 ⟨?_, rfl⟩ Ent.go | refine St.fl Tryz.func313 ⟨?_, rfl⟩ Ent.go)
  all_goals refine congrArg Value.bool ?_
  all_goals unfold imm3
  all_goals first | (rw [decide_eq_true (by omega)]; done) | (rw [decide_eq_false (by omega)]; done) | (rw [Bool.eq_iff_iff]; simp; omega)
theorem op_kinds {op : Int} (h : 0 ≤ op ∧ op ≤ 21) : op = 0 ∨ op = 1 ∨ op = 2 ∨ op = 3 ∨ op = 4 ∨ op = 5 ∨ op = 6 ∨ op = 7 ∨ op = 8 ∨ op = 9 ∨ op = 10 ∨ op = 11 ∨ op = 12 ∨ op = 13 ∨ op = 14 ∨ op = 15 ∨ op = 16 ∨ op = 17 ∨ op = 18 ∨ op = 19 ∨ op = 20 ∨ op = 21 := by omega
theorem plain_bad {i : Ins} (h : ¬ ((0 ≤ i.op ∧ i.op ≤ 21) ∧ (0 ≤ i.a ∧ i.a ≤ 15) ∧ (0 ≤ i.b ∧ i.b ≤ 15) ∧ (0 ≤ i.c ∧ i.c ≤ 15))) : i.plain = false := by
  cases hb : i.plain with
  | false => rfl
  | true =>
    obtain ⟨hok, h0, h1⟩ := plain_in hb
    have := hok.a0; have := hok.a1; have := hok.b0; have := hok.b1; have := hok.c0; have := hok.c1
    exact absurd ⟨⟨h0, h1⟩, ⟨by omega, by omega⟩, ⟨by omega, by omega⟩, ⟨by omega, by omega⟩⟩ h
theorem fieldOk_eq {n : Int} (h : 0 ≤ n ∧ n ≤ 15) (u : Bool) : fieldOk n u = (u || n == 0) := by
  unfold fieldOk
  cases u with
  | false => simp
  | true =>
    rw [Bool.eq_iff_iff]
    simp
    omega
theorem plain_eq {i : Ins} (h : (0 ≤ i.op ∧ i.op ≤ 21) ∧ (0 ≤ i.a ∧ i.a ≤ 15) ∧ (0 ≤ i.b ∧ i.b ≤ 15) ∧ (0 ≤ i.c ∧ i.c ≤ 15)) :
    i.plain = ((decide (0 < regs3 i.op) || i.a == 0) && ((decide (1 < regs3 i.op) || i.b == 0) && ((decide (2 < regs3 i.op) || i.c == 0) && (imm3 i.op || ((i.imm : Int) == 0))))) := by
  obtain ⟨h0, ha, hb, hc⟩ := h
  have e : usA i.op = decide (0 < regs3 i.op) ∧ usB i.op = decide (1 < regs3 i.op) ∧ usC i.op = decide (2 < regs3 i.op) ∧ usI i.op = imm3 i.op := by
    generalize i.op = op at h0
    have h17 := op_kinds h0
    rcases h17 with rfl | rfl | rfl | rfl | rfl | rfl | rfl | rfl | rfl | rfl | rfl | rfl | rfl | rfl | rfl | rfl | rfl | rfl | rfl | rfl | rfl | rfl <;> decide
  unfold Ins.plain
  rw [decide_eq_true h0, fieldOk_eq ha, fieldOk_eq hb, fieldOk_eq hc, e.1, e.2.1, e.2.2.1, e.2.2.2]
  rfl
theorem plain3_r (i : Ins) : RTri Tryz.prog 290 #[.agg ⟨i.v⟩] [] (.bool i.plain) := by
  apply RTri.of_pure
  have hr := regs3_r i.op
  have hm := imm3_r i.op
  by_cases h : (0 ≤ i.op ∧ i.op ≤ 21) ∧ (0 ≤ i.a ∧ i.a ≤ 15) ∧ (0 ≤ i.b ∧ i.b ≤ 15) ∧ (0 ≤ i.c ∧ i.c ≤ 15)
  · rw [plain_eq h]
    obtain ⟨op, a, b, c, imm⟩ := i
    unfold Ins.v
    dsimp only at h hr hm ⊢
    refine Tri.of_body (vs := [_]) Tryz.func290 rfl rfl fun w0 F => ?_
    repeat' (first | refine Ga ?_ | (refine Gb ?_; intro b) | (refine Gd ?_; intro g cap rest hcap) | (refine Gc ?_; intro ad cap) | refine Gl hr ?_ | refine Gl hm ?_ | (refine Ge ?_ ?_ <;> (intro h; try (exfalso; omega))) | fail)
    all_goals first | (exfalso; omega) | skip
    all_goals (first | refine St.dn Tryz.func290 ⟨?_, rfl⟩ Ent.go | refine St.fl Tryz.func290 ⟨?_, rfl⟩ Ent.go)
    all_goals refine congrArg Value.bool ?_
    all_goals clear hr hm
    all_goals unfold imm3
    all_goals first | (simp_all; done) | (simp_all; omega)
  · rw [plain_bad h]
    obtain ⟨op, a, b, c, imm⟩ := i
    unfold Ins.v
    dsimp only at h hr hm ⊢
    refine Tri.of_body (vs := [_]) Tryz.func290 rfl rfl fun w0 F => ?_
    repeat' (first | refine Ga ?_ | (refine Gb ?_; intro b) | (refine Gd ?_; intro g cap rest hcap) | (refine Gc ?_; intro ad cap) | refine Gl hr ?_ | refine Gl hm ?_ | (refine Ge ?_ ?_ <;> (intro h; try (exfalso; omega))) | fail)
    all_goals first | (exfalso; omega) | skip
    all_goals (first | refine St.dn Tryz.func290 ⟨?_, rfl⟩ Ent.go | refine St.fl Tryz.func290 ⟨?_, rfl⟩ Ent.go)
    all_goals rfl
theorem goes4_r (op : Int) : RTri Tryz.prog 291 #[.int .i64 op] [] (.bool (decide (17 ≤ op ∧ op ≤ 19))) := by
  apply RTri.of_pure
  refine Tri.of_body (vs := [_]) Tryz.func291 rfl rfl fun w0 F => ?_
  repeat' (first | refine Ga ?_ | (refine Gb ?_; intro b) | (refine Gd ?_; intro g cap rest hcap) | (refine Gc ?_; intro ad cap)  | (refine Ge ?_ ?_ <;> (intro h; try (exfalso; omega))) | fail)
  all_goals (first | refine St.dn Tryz.func291 ⟨?_, rfl⟩ Ent.go | refine St.fl Tryz.func291 ⟨?_, rfl⟩ Ent.go)
  all_goals refine congrArg Value.bool ?_
  all_goals first | (rw [decide_eq_true (by omega)]; done) | (rw [decide_eq_false (by omega)]; done) | (rw [Bool.eq_iff_iff]; simp; omega)
theorem forth4_r (op fr to : Int) : RTri Tryz.prog 292 #[.int .i64 op, .int .i64 fr, .int .i64 to] [] (.bool (if op = 19 then decide (to ≤ fr) else decide (fr < to))) := by
  apply RTri.of_pure
  refine Tri.of_body (vs := [_, _, _]) Tryz.func292 rfl rfl fun w0 F => ?_
  repeat' (first | refine Ga ?_ | (refine Gb ?_; intro b) | (refine Gd ?_; intro g cap rest hcap) | (refine Gc ?_; intro ad cap)  | (refine Ge ?_ ?_ <;> (intro h; try (exfalso; omega))) | fail)
  all_goals (first | refine St.dn Tryz.func292 ⟨?_, rfl⟩ Ent.go | refine St.fl Tryz.func292 ⟨?_, rfl⟩ Ent.go)
  all_goals refine congrArg Value.bool ?_
  all_goals (first | rw [if_pos (by omega)] | rw [if_neg (by omega)])
  all_goals first | rfl | (rw [decide_eq_true (by omega)]; done) | (rw [decide_eq_false (by omega)]; done) | (rw [Bool.eq_iff_iff]; simp; omega)
set_option maxHeartbeats 1000000 in
theorem one5_r (q : HProp) (v : Value) (code : List Ins) (hv : InsR q v code) (hn : code.length ≤ 256) (k : Nat) (hk : k < code.length) : RTri Tryz.prog 253 #[v, .int .i64 (k : Int)] [q] (.int .i64 (oneOf code.length k code[k])) := by
  apply RTri.of_reads
  intro p hp
  obtain ⟨ad, cap, rfl, hr⟩ := hv
  obtain ⟨b, o, l, l1, rfl, hrd, hdr, htk⟩ := InsR.at hr k hk
  have hrd := RdC.of_sat hp (ReadsC.here hrd)
  have hpl := plain3_r code[k]
  generalize code[k] = i at htk hpl ⊢
  obtain ⟨op, a, b, c, imm⟩ := i
  have hg := goes4_r op
  have hf := forth4_r op (k : Int) (imm : Int)
  unfold Ins.v at htk hpl
  unfold oneOf
  dsimp only at htk hpl ⊢
  cases hpb : (Ins.mk op a b c imm).plain with
  | false =>
    rw [hpb] at hpl
    rw [if_pos rfl]
    refine Tri.of_body (vs := [_, _]) Tryz.func253 rfl rfl fun w0 F => ?_
    repeat' (first | refine Ga ?_ | (refine Gb ?_; intro b) | (refine Gd ?_; intro g cap rest hcap) | (refine Gc ?_; intro ad cap) | refine Gl hpl ?_ | (refine Ge ?_ ?_ <;> (intro h; try (exfalso; omega))) | fail)
    all_goals first | (exfalso; omega) | skip
    all_goals (first | refine St.dn Tryz.func253 ⟨?_, rfl⟩ Ent.go | refine St.fl Tryz.func253 ⟨?_, rfl⟩ Ent.go)
    all_goals rfl
  | true =>
    rw [hpb] at hpl
    rw [if_neg Bool.noConfusion]
    by_cases h19 : op = 19
    · rw [if_pos h19] at hf
      refine Tri.of_body (vs := [_, _]) Tryz.func253 rfl rfl fun w0 F => ?_
      repeat' (first | refine Ga ?_ | (refine Gb ?_; intro b) | (refine Gd ?_; intro g cap rest hcap) | (refine Gc ?_; intro ad cap) | refine Gl hpl ?_ | refine Gl hg ?_ | refine Gl hf ?_ | (refine Ge ?_ ?_ <;> (intro h; try (exfalso; omega))) | fail)
      all_goals first | (exfalso; omega) | skip
      all_goals (first | refine St.dn Tryz.func253 ⟨?_, rfl⟩ Ent.go | refine St.fl Tryz.func253 ⟨?_, rfl⟩ Ent.go)
      all_goals refine congrArg (Value.int .i64) ?_
      all_goals (repeat' split) <;> first | omega | rfl | (exfalso; simp at *; omega)
    · rw [if_neg h19] at hf
      refine Tri.of_body (vs := [_, _]) Tryz.func253 rfl rfl fun w0 F => ?_
      repeat' (first | refine Ga ?_ | (refine Gb ?_; intro b) | (refine Gd ?_; intro g cap rest hcap) | (refine Gc ?_; intro ad cap) | refine Gl hpl ?_ | refine Gl hg ?_ | refine Gl hf ?_ | (refine Ge ?_ ?_ <;> (intro h; try (exfalso; omega))) | fail)
      all_goals first | (exfalso; omega) | skip
      all_goals (first | refine St.dn Tryz.func253 ⟨?_, rfl⟩ Ent.go | refine St.fl Tryz.func253 ⟨?_, rfl⟩ Ent.go)
      all_goals refine congrArg (Value.int .i64) ?_
      all_goals (repeat' split) <;> first | omega | rfl | (exfalso; simp at *; omega)
theorem fault5_r (q : HProp) (v : Value) (code : List Ins) (hv : InsR q v code) : RTri Tryz.prog 196 #[v] [q] (.tuple ⟨[.int .i64 (faultOf code).1, .int .i64 (faultOf code).2]⟩) := by
  apply RTri.of_reads
  intro p hp
  have hv' : InsR p v code := by
    obtain ⟨ad, cap, rfl, hr⟩ := hv
    refine ⟨ad, cap, rfl, ?_⟩
    rcases hr with hr | ⟨b, o, l, rest, h1, h2, h3⟩
    · exact .inl hr
    · exact .inr ⟨b, o, l, rest, h1, RdC.of_sat hp (ReadsC.here h2), h3⟩
  have hv0 := hv'
  obtain ⟨ad, cap, rfl, hr⟩ := hv'
  by_cases h0 : code.length = 0
  · have e : faultOf code = (0, 4) := if_pos h0
    rw [e]
    refine Tri.of_body (vs := [_]) Tryz.func196 rfl rfl fun w0 F => ?_
    repeat' (first | refine Ga ?_ | (refine Gb ?_; intro b) | (refine Gd ?_; intro g cap rest hcap) | (refine Gc ?_; intro ad cap)  | (refine Ge ?_ ?_ <;> (intro h; try (exfalso; omega))) | fail)
    all_goals first | (exfalso; omega) | skip
    (first | refine St.dn Tryz.func196 ⟨?_, rfl⟩ Ent.go | refine St.fl Tryz.func196 ⟨?_, rfl⟩ Ent.go)
    rfl
  · by_cases h1 : 256 < code.length
    · have e : faultOf code = (256, 3) := (if_neg h0).trans (if_pos h1)
      rw [e]
      refine Tri.of_body (vs := [_]) Tryz.func196 rfl rfl fun w0 F => ?_
      repeat' (first | refine Ga ?_ | (refine Gb ?_; intro b) | (refine Gd ?_; intro g cap rest hcap) | (refine Gc ?_; intro ad cap)  | (refine Ge ?_ ?_ <;> (intro h; try (exfalso; omega))) | fail)
      all_goals first | (exfalso; omega) | skip
      (first | refine St.dn Tryz.func196 ⟨?_, rfl⟩ Ent.go | refine St.fl Tryz.func196 ⟨?_, rfl⟩ Ent.go)
      rfl
    · have e : faultOf code = match faultGo code.length 0 code with
          | some x => x
          | none => if endsB code = true then (0, 0) else ((code.length : Int) - 1, 30) := (if_neg h0).trans (if_neg h1)
      refine Tri.of_body (vs := [_]) Tryz.func196 rfl rfl fun w0 F => ?_
      repeat' (first | refine Ga ?_ | (refine Gb ?_; intro b) | (refine Gd ?_; intro g cap rest hcap) | (refine Gc ?_; intro ad cap)  | (refine Ge ?_ ?_ <;> (intro h; try (exfalso; omega))) | fail)
      all_goals first | (exfalso; omega) | skip
      refine St.loopY (Lr := ?Lr1) (ι := { k : Nat // k ≤ code.length ∧ faultGo code.length 0 code = faultGo code.length k (code.drop k) }) (fun k => code.length - k.1)
        (fun k => [(4, .int .i64 (k.1 : Int))]) (fun k => []) ⟨0, Nat.zero_le _, rfl⟩ ?hE1 ?hL1 ?round1
      case hE1 => exact Sub.go
      case hL1 => exact Takes.go
      case round1 =>
        rintro ⟨k, hk, hgo⟩ IH; dsimp only at hk hgo IH ⊢
        by_cases hlt : k < code.length
        · have hon := one5_r p _ code hv0 (by omega) k hlt
          rw [List.drop_eq_getElem_cons hlt, faultGo] at hgo
          by_cases he : oneOf code.length k code[k] = 0
          · rw [if_pos he] at hgo
            rw [he] at hon
            repeat' (first | refine Ga ?_ | (refine Gb ?_; intro b) | (refine Gd ?_; intro g cap rest hcap) | (refine Gc ?_; intro ad cap) | refine Gl hon ?_ | (refine Ge ?_ ?_ <;> (intro h; try (exfalso; omega))) | fail)
            all_goals first | (exfalso; omega) | skip
            refine IH ⟨k + 1, hlt, hgo⟩ (by show _ - (k + 1) < _ - k; omega) ?_ ?_
            · exact Sub.go
            · exact Ent.go
          · rw [if_neg he] at hgo
            rw [hgo] at e
            dsimp only at e
            rw [e]
            repeat' (first | refine Ga ?_ | (refine Gb ?_; intro b) | (refine Gd ?_; intro g cap rest hcap) | (refine Gc ?_; intro ad cap) | refine Gl hon ?_ | (refine Ge ?_ ?_ <;> (intro h; try (exfalso; omega))) | fail)
            all_goals first | (exfalso; omega) | skip
            (first | refine St.dn Tryz.func196 ⟨?_, rfl⟩ Ent.go | refine St.fl Tryz.func196 ⟨?_, rfl⟩ Ent.go)
            rfl
        · obtain rfl : k = code.length := by omega
          rw [List.drop_length, faultGo] at hgo
          rw [hgo] at e
          dsimp only at e
          have hlast : code.length - 1 < code.length := by omega
          obtain ⟨b, o, l, rfl, hrd, hn⟩ := InsR.at1 hr (code.length - 1) hlast
          rw [show (((code.length - 1 : Nat) : Int)) = (code.length : Int) - 1 by omega] at hn
          have hends : endsB code = (code[code.length - 1].op == 20 || code[code.length - 1].op == 21) := by
            unfold endsB
            rw [List.getLast?_eq_getElem?, List.getElem?_eq_getElem hlast]
          generalize code[code.length - 1].op = op at hn hends
          clear IH
          by_cases ho : op = 20 ∨ op = 21
          · have hb : endsB code = true := by rw [hends]; simpa using ho
            rw [if_pos hb] at e
            rw [e]
            repeat' (first | refine Ga ?_ | (refine Gb ?_; intro b) | (refine Gd ?_; intro g cap rest hcap) | (refine Gc ?_; intro ad cap)  | (refine Ge ?_ ?_ <;> (intro h; try (exfalso; omega))) | fail)
            all_goals first | (exfalso; omega) | skip
            all_goals (first | refine St.dn Tryz.func196 ⟨?_, rfl⟩ Ent.go | refine St.fl Tryz.func196 ⟨?_, rfl⟩ Ent.go)
            all_goals rfl
          · have hb : ¬ endsB code = true := by rw [hends]; simpa using ho
            rw [if_neg hb] at e
            rw [e]
            repeat' (first | refine Ga ?_ | (refine Gb ?_; intro b) | (refine Gd ?_; intro g cap rest hcap) | (refine Gc ?_; intro ad cap)  | (refine Ge ?_ ?_ <;> (intro h; try (exfalso; omega))) | fail)
            all_goals first | (exfalso; omega) | skip
            all_goals (first | refine St.dn Tryz.func196 ⟨?_, rfl⟩ Ent.go | refine St.fl Tryz.func196 ⟨?_, rfl⟩ Ent.go)
            all_goals rfl
theorem right5_r (q : HProp) (v : Value) (code : List Ins) (hv : InsR q v code) : RTri Tryz.prog 117 #[v] [q] (.bool (rightB code)) := by
  have hf := fault5_r q v code hv
  apply RTri.of_reads
  intro p hp
  have hf := hf.of_read hp
  refine Tri.of_body (vs := [_]) Tryz.func117 rfl rfl fun w0 F => ?_
  repeat' (first | refine Ga ?_ | (refine Gb ?_; intro b) | (refine Gd ?_; intro g cap rest hcap) | (refine Gc ?_; intro ad cap) | refine Gl hf ?_ | (refine Ge ?_ ?_ <;> (intro h; try (exfalso; omega))) | fail)
  (first | refine St.dn Tryz.func117 ⟨?_, rfl⟩ Ent.go | refine St.fl Tryz.func117 ⟨?_, rfl⟩ Ent.go)
  rfl
theorem writes5_r (op : Int) : RTri Tryz.prog 212 #[.int .i64 op] [] (.int .i64 (costs op)) := by
  apply RTri.of_pure
  refine Tri.of_body (vs := [_]) Tryz.func212 rfl rfl fun w0 F => ?_
  repeat' (first | refine Ga ?_ | (refine Gb ?_; intro b) | (refine Gd ?_; intro g cap rest hcap) | (refine Gc ?_; intro ad cap)  | (refine Ge ?_ ?_ <;> (intro h; try (exfalso; omega))) | fail)
  all_goals (first | refine St.dn Tryz.func212 ⟨?_, rfl⟩ Ent.go | refine St.fl Tryz.func212 ⟨?_, rfl⟩ Ent.go)
  all_goals refine congrArg (Value.int .i64) ?_
  all_goals unfold costs
  all_goals (repeat (first | rw [if_pos (by omega)] | rw [if_neg (by omega)]))
theorem bit6_r (b : Bool) : RTri Tryz.prog 254 #[.bool b] [] (.int .u64 (b.toNat : Int)) := by
  apply RTri.of_pure
  refine Tri.of_body (vs := [_]) Tryz.func254 rfl rfl fun w0 F => ?_
  repeat' (first | refine Ga ?_ | (refine Gb ?_; intro b) | (refine Gd ?_; intro g cap rest hcap) | (refine Gc ?_; intro ad cap)  | (refine Ge ?_ ?_ <;> (intro h; try (exfalso; omega))) | fail)
  all_goals (first | refine St.dn Tryz.func254 ⟨?_, rfl⟩ Ent.go | refine St.fl Tryz.func254 ⟨?_, rfl⟩ Ent.go)
  all_goals (rw [h]; rfl)
theorem word6_r (i : Ins) (regs : List Nat) (hr : regs.length = 16) (hc0 : 0 ≤ i.c) (hc1 : i.c < 16) : RTri Tryz.prog 260 #[.agg ⟨i.v⟩, .agg ⟨u64s regs⟩] [] (.int .u64 (((if i.op = 12 ∨ i.op = 14 then regs.getD i.c.toNat 0 else i.imm) : Nat) : Int)) := by
  apply RTri.of_pure
  have hnc : NthN (0 + i.c.toNat * 1) (u64s regs) (.int .u64 ((regs.getD i.c.toNat 0 : Nat) : Int)) := by
    rw [Nat.zero_add, Nat.mul_one]; exact NthN.u64s (by omega)
  refine Tri.of_body (vs := [_, _]) Tryz.func260 rfl rfl fun w0 F => ?_
  repeat' (first | refine Ga ?_ | (refine Gb ?_; intro b) | (refine Gd ?_; intro g cap rest hcap) | (refine Gc ?_; intro ad cap)  | (refine Ge ?_ ?_ <;> (intro h; try (exfalso; omega))) | fail)
  all_goals first | (exfalso; omega) | skip
  all_goals (first | refine St.dn Tryz.func260 ⟨?_, rfl⟩ Ent.go | refine St.fl Tryz.func260 ⟨?_, rfl⟩ Ent.go)
  all_goals (first | rw [if_pos (by omega)] | rw [if_neg (by omega)])
  all_goals rfl
end Go.Proofs.YthmbgodcpgkkeaaGreat
end
