/-
  Packages instr, check and model: what an instruction is, and what it makes of registers.
-/
import Derived.Test.YthmbgodcpgkkeaaGreatTy
namespace Go.Proofs.YthmbgodcpgkkeaaGreat
structure Ins where
  op : Int
  a : Int
  b : Int
  c : Int
  imm : Nat
  deriving DecidableEq
def Ins.v (i : Ins) : List Value := [.int .i64 i.op, .int .i64 i.a, .int .i64 i.b, .int .i64 i.c, .int .u64 (i.imm : Int)]
theorem Ins.v_len (i : Ins) : i.v.length = 5 := rfl
/-- which fields a kind has: 0 none of these, 1 a, 2 b, 4 c, 8 imm -/
def usesN (op : Int) : Nat :=
  if op = 0 ∨ op = 8 ∨ op = 18 ∨ op = 19 then 9 else if op = 1 ∨ op = 9 ∨ op = 10 then 3 else if (2 ≤ op ∧ op ≤ 7) ∨ op = 12 ∨ op = 14 then 7 else
  if op = 11 ∨ op = 13 then 11 else if op = 15 ∨ op = 16 ∨ op = 20 then 1 else if op = 17 ∨ op = 21 then 8 else 0
def formOf (op : Int) : List UInt8 × List UInt8 :=
  if op = 0 then ([115, 101, 116], [97, 105]) else if op = 1 then ([109, 111, 118, 101], [97, 98]) else if op = 2 then ([112, 108, 117, 115], [97, 98, 99]) else
  if op = 3 then ([109, 105, 110, 117, 115], [97, 98, 99]) else if op = 4 then ([116, 105, 109, 101, 115], [97, 98, 99]) else if op = 5 then ([109, 111, 100, 117, 108, 111], [97, 98, 99]) else
  if op = 6 then ([101, 113, 117, 97, 108], [97, 98, 99]) else if op = 7 then ([108, 101, 115, 115], [97, 98, 99]) else if op = 8 then ([97, 114, 103], [97, 105]) else
  if op = 9 then ([114, 111, 111, 116], [97, 98]) else if op = 10 then ([112, 117, 116, 114, 111, 111, 116], [97, 98]) else if op = 11 then ([114, 101, 97, 100], [97, 98, 105]) else
  if op = 12 then ([114, 101, 97, 100, 97, 116], [97, 98, 99]) else if op = 13 then ([119, 114, 105, 116, 101], [97, 98, 105]) else if op = 14 then ([119, 114, 105, 116, 101, 97, 116], [97, 98, 99]) else
  if op = 15 then ([110, 101, 119], [97]) else if op = 16 then ([102, 114, 101, 101], [97]) else if op = 17 then ([103, 111], [105]) else if op = 18 then ([122, 101, 114, 111], [97, 105]) else
  if op = 19 then ([98, 97, 99, 107], [97, 105]) else if op = 20 then ([114, 101, 116, 117, 114, 110], [97]) else if op = 21 then ([97, 98, 111, 114, 116], [105]) else ([], [])
def bs (l : List UInt8) : Value := .string ⟨⟨l⟩⟩
theorem other_r (op : Int) (h : ¬ (0 ≤ op ∧ op ≤ 10)) : RTri Tryz.prog 323 #[.int .i64 op] [] (.tuple ⟨[bs (formOf op).1, bs (formOf op).2]⟩) := by
  apply RTri.of_pure
  refine Tri.of_body (vs := [_]) Tryz.func323 rfl rfl fun w0 F => ?_
  repeat' (first | refine Ga ?_ | (refine Gb ?_; intro b) | (refine Gd ?_; intro g cap rest hcap) | (refine Gc ?_; intro ad cap)  | (refine Ge ?_ ?_ <;> (intro h; try (exfalso; omega))) | fail)
  all_goals (first | refine St.dn Tryz.func323 ⟨?_, rfl⟩ Ent.go | refine St.fl Tryz.func323 ⟨?_, rfl⟩ Ent.go)
  all_goals unfold formOf
  all_goals (repeat (first | rw [if_pos (by omega)] | rw [if_neg (by omega)]))
  all_goals rfl
theorem form_r (op : Int) : RTri Tryz.prog 320 #[.int .i64 op] [] (.tuple ⟨[bs (formOf op).1, bs (formOf op).2]⟩) := by
  apply RTri.of_pure
  by_cases h : 0 ≤ op ∧ op ≤ 10
  · refine Tri.of_body (vs := [_]) Tryz.func320 rfl rfl fun w0 F => ?_
    repeat' (first | refine Ga ?_ | (refine Gb ?_; intro b) | (refine Gd ?_; intro g cap rest hcap) | (refine Gc ?_; intro ad cap)  | (refine Ge ?_ ?_ <;> (intro h; try (exfalso; omega))) | fail)
    all_goals (first | refine St.dn Tryz.func320 ⟨?_, rfl⟩ Ent.go | refine St.fl Tryz.func320 ⟨?_, rfl⟩ Ent.go)
    all_goals unfold formOf
    all_goals (repeat (first | rw [if_pos (by omega)] | rw [if_neg (by omega)]))
    all_goals rfl
  · have ho := other_r op h
    refine Tri.of_body (vs := [_]) Tryz.func320 rfl rfl fun w0 F => ?_
    repeat' (first | refine Ga ?_ | (refine Gb ?_; intro b) | (refine Gd ?_; intro g cap rest hcap) | (refine Gc ?_; intro ad cap) | refine Gl ho ?_ | (refine Ge ?_ ?_ <;> (intro h; try (exfalso; omega))) | fail)
    all_goals (first | refine St.dn Tryz.func320 ⟨?_, rfl⟩ Ent.go | refine St.fl Tryz.func320 ⟨?_, rfl⟩ Ent.go)
    all_goals rfl
theorem name_r (op : Int) : RTri Tryz.prog 307 #[.int .i64 op] [] (bs (formOf op).1) := by
  apply RTri.of_pure
  have ho := form_r op
  refine Tri.of_body (vs := [_]) Tryz.func307 rfl rfl fun w0 F => ?_
  repeat' (first | refine Ga ?_ | (refine Gb ?_; intro b) | (refine Gd ?_; intro g cap rest hcap) | (refine Gc ?_; intro ad cap) | refine Gl ho ?_ | (refine Ge ?_ ?_ <;> (intro h; try (exfalso; omega))) | fail)
  all_goals (first | refine St.dn Tryz.func307 ⟨?_, rfl⟩ Ent.go | refine St.fl Tryz.func307 ⟨?_, rfl⟩ Ent.go)
  all_goals rfl
def usesV (n : Nat) : Value := .tuple ⟨[.bool (decide (n % 2 = 1)), .bool (decide (n / 2 % 2 = 1)), .bool (decide (n / 4 % 2 = 1)), .bool (decide (n / 8 % 2 = 1))]⟩
theorem uses_0 : Tri Tryz.prog 306 #[.int .i64 0] [] fun v L => v = usesV (usesN 0) ∧ L = [] := by
  have ho := form_r 0
  refine Tri.of_body (vs := [_]) Tryz.func306 rfl rfl fun w0 F => ?_
  repeat' (first | (apply St.loop1) | (apply St.inLoop1) | refine Ga ?_ | (refine Gb ?_; intro b) | (refine Gd ?_; intro g cap rest hcap) | (refine Gc ?_; intro ad cap) | refine Gl ho ?_ | (refine Ge ?_ ?_ <;> (intro h; try (exfalso; omega))) | fail)
  all_goals (first | refine St.dn Tryz.func306 ⟨?_, rfl⟩ Ent.go | refine St.fl Tryz.func306 ⟨?_, rfl⟩ Ent.go)
  all_goals rfl
theorem uses_1 : Tri Tryz.prog 306 #[.int .i64 1] [] fun v L => v = usesV (usesN 1) ∧ L = [] := by
  have ho := form_r 1
  refine Tri.of_body (vs := [_]) Tryz.func306 rfl rfl fun w0 F => ?_
  repeat' (first | (apply St.loop1) | (apply St.inLoop1) | refine Ga ?_ | (refine Gb ?_; intro b) | (refine Gd ?_; intro g cap rest hcap) | (refine Gc ?_; intro ad cap) | refine Gl ho ?_ | (refine Ge ?_ ?_ <;> (intro h; try (exfalso; omega))) | fail)
  all_goals (first | refine St.dn Tryz.func306 ⟨?_, rfl⟩ Ent.go | refine St.fl Tryz.func306 ⟨?_, rfl⟩ Ent.go)
  all_goals rfl
theorem uses_2 : Tri Tryz.prog 306 #[.int .i64 2] [] fun v L => v = usesV (usesN 2) ∧ L = [] := by
  have ho := form_r 2
  refine Tri.of_body (vs := [_]) Tryz.func306 rfl rfl fun w0 F => ?_
  repeat' (first | (apply St.loop1) | (apply St.inLoop1) | refine Ga ?_ | (refine Gb ?_; intro b) | (refine Gd ?_; intro g cap rest hcap) | (refine Gc ?_; intro ad cap) | refine Gl ho ?_ | (refine Ge ?_ ?_ <;> (intro h; try (exfalso; omega))) | fail)
  all_goals (first | refine St.dn Tryz.func306 ⟨?_, rfl⟩ Ent.go | refine St.fl Tryz.func306 ⟨?_, rfl⟩ Ent.go)
  all_goals rfl
theorem uses_3 : Tri Tryz.prog 306 #[.int .i64 3] [] fun v L => v = usesV (usesN 3) ∧ L = [] := by
  have ho := form_r 3
  refine Tri.of_body (vs := [_]) Tryz.func306 rfl rfl fun w0 F => ?_
  repeat' (first | (apply St.loop1) | (apply St.inLoop1) | refine Ga ?_ | (refine Gb ?_; intro b) | (refine Gd ?_; intro g cap rest hcap) | (refine Gc ?_; intro ad cap) | refine Gl ho ?_ | (refine Ge ?_ ?_ <;> (intro h; try (exfalso; omega))) | fail)
  all_goals (first | refine St.dn Tryz.func306 ⟨?_, rfl⟩ Ent.go | refine St.fl Tryz.func306 ⟨?_, rfl⟩ Ent.go)
  all_goals rfl
theorem uses_4 : Tri Tryz.prog 306 #[.int .i64 4] [] fun v L => v = usesV (usesN 4) ∧ L = [] := by
  have ho := form_r 4
  refine Tri.of_body (vs := [_]) Tryz.func306 rfl rfl fun w0 F => ?_
  repeat' (first | (apply St.loop1) | (apply St.inLoop1) | refine Ga ?_ | (refine Gb ?_; intro b) | (refine Gd ?_; intro g cap rest hcap) | (refine Gc ?_; intro ad cap) | refine Gl ho ?_ | (refine Ge ?_ ?_ <;> (intro h; try (exfalso; omega))) | fail)
  all_goals (first | refine St.dn Tryz.func306 ⟨?_, rfl⟩ Ent.go | refine St.fl Tryz.func306 ⟨?_, rfl⟩ Ent.go)
  all_goals rfl
theorem uses_5 : Tri Tryz.prog 306 #[.int .i64 5] [] fun v L => v = usesV (usesN 5) ∧ L = [] := by
  have ho := form_r 5
  refine Tri.of_body (vs := [_]) Tryz.func306 rfl rfl fun w0 F => ?_
  repeat' (first | (apply St.loop1) | (apply St.inLoop1) | refine Ga ?_ | (refine Gb ?_; intro b) | (refine Gd ?_; intro g cap rest hcap) | (refine Gc ?_; intro ad cap) | refine Gl ho ?_ | (refine Ge ?_ ?_ <;> (intro h; try (exfalso; omega))) | fail)
  all_goals (first | refine St.dn Tryz.func306 ⟨?_, rfl⟩ Ent.go | refine St.fl Tryz.func306 ⟨?_, rfl⟩ Ent.go)
  all_goals rfl
theorem uses_6 : Tri Tryz.prog 306 #[.int .i64 6] [] fun v L => v = usesV (usesN 6) ∧ L = [] := by
  have ho := form_r 6
  refine Tri.of_body (vs := [_]) Tryz.func306 rfl rfl fun w0 F => ?_
  repeat' (first | (apply St.loop1) | (apply St.inLoop1) | refine Ga ?_ | (refine Gb ?_; intro b) | (refine Gd ?_; intro g cap rest hcap) | (refine Gc ?_; intro ad cap) | refine Gl ho ?_ | (refine Ge ?_ ?_ <;> (intro h; try (exfalso; omega))) | fail)
  all_goals (first | refine St.dn Tryz.func306 ⟨?_, rfl⟩ Ent.go | refine St.fl Tryz.func306 ⟨?_, rfl⟩ Ent.go)
  all_goals rfl
theorem uses_7 : Tri Tryz.prog 306 #[.int .i64 7] [] fun v L => v = usesV (usesN 7) ∧ L = [] := by
  have ho := form_r 7
  refine Tri.of_body (vs := [_]) Tryz.func306 rfl rfl fun w0 F => ?_
  repeat' (first | (apply St.loop1) | (apply St.inLoop1) | refine Ga ?_ | (refine Gb ?_; intro b) | (refine Gd ?_; intro g cap rest hcap) | (refine Gc ?_; intro ad cap) | refine Gl ho ?_ | (refine Ge ?_ ?_ <;> (intro h; try (exfalso; omega))) | fail)
  all_goals (first | refine St.dn Tryz.func306 ⟨?_, rfl⟩ Ent.go | refine St.fl Tryz.func306 ⟨?_, rfl⟩ Ent.go)
  all_goals rfl
theorem uses_8 : Tri Tryz.prog 306 #[.int .i64 8] [] fun v L => v = usesV (usesN 8) ∧ L = [] := by
  have ho := form_r 8
  refine Tri.of_body (vs := [_]) Tryz.func306 rfl rfl fun w0 F => ?_
  repeat' (first | (apply St.loop1) | (apply St.inLoop1) | refine Ga ?_ | (refine Gb ?_; intro b) | (refine Gd ?_; intro g cap rest hcap) | (refine Gc ?_; intro ad cap) | refine Gl ho ?_ | (refine Ge ?_ ?_ <;> (intro h; try (exfalso; omega))) | fail)
  all_goals (first | refine St.dn Tryz.func306 ⟨?_, rfl⟩ Ent.go | refine St.fl Tryz.func306 ⟨?_, rfl⟩ Ent.go)
  all_goals rfl
theorem uses_9 : Tri Tryz.prog 306 #[.int .i64 9] [] fun v L => v = usesV (usesN 9) ∧ L = [] := by
  have ho := form_r 9
  refine Tri.of_body (vs := [_]) Tryz.func306 rfl rfl fun w0 F => ?_
  repeat' (first | (apply St.loop1) | (apply St.inLoop1) | refine Ga ?_ | (refine Gb ?_; intro b) | (refine Gd ?_; intro g cap rest hcap) | (refine Gc ?_; intro ad cap) | refine Gl ho ?_ | (refine Ge ?_ ?_ <;> (intro h; try (exfalso; omega))) | fail)
  all_goals (first | refine St.dn Tryz.func306 ⟨?_, rfl⟩ Ent.go | refine St.fl Tryz.func306 ⟨?_, rfl⟩ Ent.go)
  all_goals rfl
theorem uses_10 : Tri Tryz.prog 306 #[.int .i64 10] [] fun v L => v = usesV (usesN 10) ∧ L = [] := by
  have ho := form_r 10
  refine Tri.of_body (vs := [_]) Tryz.func306 rfl rfl fun w0 F => ?_
  repeat' (first | (apply St.loop1) | (apply St.inLoop1) | refine Ga ?_ | (refine Gb ?_; intro b) | (refine Gd ?_; intro g cap rest hcap) | (refine Gc ?_; intro ad cap) | refine Gl ho ?_ | (refine Ge ?_ ?_ <;> (intro h; try (exfalso; omega))) | fail)
  all_goals (first | refine St.dn Tryz.func306 ⟨?_, rfl⟩ Ent.go | refine St.fl Tryz.func306 ⟨?_, rfl⟩ Ent.go)
  all_goals rfl
theorem uses_11 : Tri Tryz.prog 306 #[.int .i64 11] [] fun v L => v = usesV (usesN 11) ∧ L = [] := by
  have ho := form_r 11
  refine Tri.of_body (vs := [_]) Tryz.func306 rfl rfl fun w0 F => ?_
  repeat' (first | (apply St.loop1) | (apply St.inLoop1) | refine Ga ?_ | (refine Gb ?_; intro b) | (refine Gd ?_; intro g cap rest hcap) | (refine Gc ?_; intro ad cap) | refine Gl ho ?_ | (refine Ge ?_ ?_ <;> (intro h; try (exfalso; omega))) | fail)
  all_goals (first | refine St.dn Tryz.func306 ⟨?_, rfl⟩ Ent.go | refine St.fl Tryz.func306 ⟨?_, rfl⟩ Ent.go)
  all_goals rfl
theorem uses_12 : Tri Tryz.prog 306 #[.int .i64 12] [] fun v L => v = usesV (usesN 12) ∧ L = [] := by
  have ho := form_r 12
  refine Tri.of_body (vs := [_]) Tryz.func306 rfl rfl fun w0 F => ?_
  repeat' (first | (apply St.loop1) | (apply St.inLoop1) | refine Ga ?_ | (refine Gb ?_; intro b) | (refine Gd ?_; intro g cap rest hcap) | (refine Gc ?_; intro ad cap) | refine Gl ho ?_ | (refine Ge ?_ ?_ <;> (intro h; try (exfalso; omega))) | fail)
  all_goals (first | refine St.dn Tryz.func306 ⟨?_, rfl⟩ Ent.go | refine St.fl Tryz.func306 ⟨?_, rfl⟩ Ent.go)
  all_goals rfl
theorem uses_13 : Tri Tryz.prog 306 #[.int .i64 13] [] fun v L => v = usesV (usesN 13) ∧ L = [] := by
  have ho := form_r 13
  refine Tri.of_body (vs := [_]) Tryz.func306 rfl rfl fun w0 F => ?_
  repeat' (first | (apply St.loop1) | (apply St.inLoop1) | refine Ga ?_ | (refine Gb ?_; intro b) | (refine Gd ?_; intro g cap rest hcap) | (refine Gc ?_; intro ad cap) | refine Gl ho ?_ | (refine Ge ?_ ?_ <;> (intro h; try (exfalso; omega))) | fail)
  all_goals (first | refine St.dn Tryz.func306 ⟨?_, rfl⟩ Ent.go | refine St.fl Tryz.func306 ⟨?_, rfl⟩ Ent.go)
  all_goals rfl
theorem uses_14 : Tri Tryz.prog 306 #[.int .i64 14] [] fun v L => v = usesV (usesN 14) ∧ L = [] := by
  have ho := form_r 14
  refine Tri.of_body (vs := [_]) Tryz.func306 rfl rfl fun w0 F => ?_
  repeat' (first | (apply St.loop1) | (apply St.inLoop1) | refine Ga ?_ | (refine Gb ?_; intro b) | (refine Gd ?_; intro g cap rest hcap) | (refine Gc ?_; intro ad cap) | refine Gl ho ?_ | (refine Ge ?_ ?_ <;> (intro h; try (exfalso; omega))) | fail)
  all_goals (first | refine St.dn Tryz.func306 ⟨?_, rfl⟩ Ent.go | refine St.fl Tryz.func306 ⟨?_, rfl⟩ Ent.go)
  all_goals rfl
theorem uses_15 : Tri Tryz.prog 306 #[.int .i64 15] [] fun v L => v = usesV (usesN 15) ∧ L = [] := by
  have ho := form_r 15
  refine Tri.of_body (vs := [_]) Tryz.func306 rfl rfl fun w0 F => ?_
  repeat' (first | (apply St.loop1) | (apply St.inLoop1) | refine Ga ?_ | (refine Gb ?_; intro b) | (refine Gd ?_; intro g cap rest hcap) | (refine Gc ?_; intro ad cap) | refine Gl ho ?_ | (refine Ge ?_ ?_ <;> (intro h; try (exfalso; omega))) | fail)
  all_goals (first | refine St.dn Tryz.func306 ⟨?_, rfl⟩ Ent.go | refine St.fl Tryz.func306 ⟨?_, rfl⟩ Ent.go)
  all_goals rfl
theorem uses_16 : Tri Tryz.prog 306 #[.int .i64 16] [] fun v L => v = usesV (usesN 16) ∧ L = [] := by
  have ho := form_r 16
  refine Tri.of_body (vs := [_]) Tryz.func306 rfl rfl fun w0 F => ?_
  repeat' (first | (apply St.loop1) | (apply St.inLoop1) | refine Ga ?_ | (refine Gb ?_; intro b) | (refine Gd ?_; intro g cap rest hcap) | (refine Gc ?_; intro ad cap) | refine Gl ho ?_ | (refine Ge ?_ ?_ <;> (intro h; try (exfalso; omega))) | fail)
  all_goals (first | refine St.dn Tryz.func306 ⟨?_, rfl⟩ Ent.go | refine St.fl Tryz.func306 ⟨?_, rfl⟩ Ent.go)
  all_goals rfl
theorem uses_17 : Tri Tryz.prog 306 #[.int .i64 17] [] fun v L => v = usesV (usesN 17) ∧ L = [] := by
  have ho := form_r 17
  refine Tri.of_body (vs := [_]) Tryz.func306 rfl rfl fun w0 F => ?_
  repeat' (first | (apply St.loop1) | (apply St.inLoop1) | refine Ga ?_ | (refine Gb ?_; intro b) | (refine Gd ?_; intro g cap rest hcap) | (refine Gc ?_; intro ad cap) | refine Gl ho ?_ | (refine Ge ?_ ?_ <;> (intro h; try (exfalso; omega))) | fail)
  all_goals (first | refine St.dn Tryz.func306 ⟨?_, rfl⟩ Ent.go | refine St.fl Tryz.func306 ⟨?_, rfl⟩ Ent.go)
  all_goals rfl
theorem uses_18 : Tri Tryz.prog 306 #[.int .i64 18] [] fun v L => v = usesV (usesN 18) ∧ L = [] := by
  have ho := form_r 18
  refine Tri.of_body (vs := [_]) Tryz.func306 rfl rfl fun w0 F => ?_
  repeat' (first | (apply St.loop1) | (apply St.inLoop1) | refine Ga ?_ | (refine Gb ?_; intro b) | (refine Gd ?_; intro g cap rest hcap) | (refine Gc ?_; intro ad cap) | refine Gl ho ?_ | (refine Ge ?_ ?_ <;> (intro h; try (exfalso; omega))) | fail)
  all_goals (first | refine St.dn Tryz.func306 ⟨?_, rfl⟩ Ent.go | refine St.fl Tryz.func306 ⟨?_, rfl⟩ Ent.go)
  all_goals rfl
theorem uses_19 : Tri Tryz.prog 306 #[.int .i64 19] [] fun v L => v = usesV (usesN 19) ∧ L = [] := by
  have ho := form_r 19
  refine Tri.of_body (vs := [_]) Tryz.func306 rfl rfl fun w0 F => ?_
  repeat' (first | (apply St.loop1) | (apply St.inLoop1) | refine Ga ?_ | (refine Gb ?_; intro b) | (refine Gd ?_; intro g cap rest hcap) | (refine Gc ?_; intro ad cap) | refine Gl ho ?_ | (refine Ge ?_ ?_ <;> (intro h; try (exfalso; omega))) | fail)
  all_goals (first | refine St.dn Tryz.func306 ⟨?_, rfl⟩ Ent.go | refine St.fl Tryz.func306 ⟨?_, rfl⟩ Ent.go)
  all_goals rfl
theorem uses_20 : Tri Tryz.prog 306 #[.int .i64 20] [] fun v L => v = usesV (usesN 20) ∧ L = [] := by
  have ho := form_r 20
  refine Tri.of_body (vs := [_]) Tryz.func306 rfl rfl fun w0 F => ?_
  repeat' (first | (apply St.loop1) | (apply St.inLoop1) | refine Ga ?_ | (refine Gb ?_; intro b) | (refine Gd ?_; intro g cap rest hcap) | (refine Gc ?_; intro ad cap) | refine Gl ho ?_ | (refine Ge ?_ ?_ <;> (intro h; try (exfalso; omega))) | fail)
  all_goals (first | refine St.dn Tryz.func306 ⟨?_, rfl⟩ Ent.go | refine St.fl Tryz.func306 ⟨?_, rfl⟩ Ent.go)
  all_goals rfl
theorem uses_21 : Tri Tryz.prog 306 #[.int .i64 21] [] fun v L => v = usesV (usesN 21) ∧ L = [] := by
  have ho := form_r 21
  refine Tri.of_body (vs := [_]) Tryz.func306 rfl rfl fun w0 F => ?_
  repeat' (first | (apply St.loop1) | (apply St.inLoop1) | refine Ga ?_ | (refine Gb ?_; intro b) | (refine Gd ?_; intro g cap rest hcap) | (refine Gc ?_; intro ad cap) | refine Gl ho ?_ | (refine Ge ?_ ?_ <;> (intro h; try (exfalso; omega))) | fail)
  all_goals (first | refine St.dn Tryz.func306 ⟨?_, rfl⟩ Ent.go | refine St.fl Tryz.func306 ⟨?_, rfl⟩ Ent.go)
  all_goals rfl
end Go.Proofs.YthmbgodcpgkkeaaGreat
