/-
  Packages instr, check and model: what an instruction is, and what it makes of registers. Packages instr, check and model: Plain, Fault, Reckon.
-/
import Derived.Test.YtemaaenipjinaaaGreatTy
section
namespace Go.Proofs.YtemaaenipjinaaaGreat
structure Ins where
  op : Int
  a : Int
  b : Int
  c : Int
  imm : Nat
  deriving DecidableEq
def Ins.v (i : Ins) : List Value := [.int .i64 i.op, .int .i64 i.a, .int .i64 i.b, .int .i64 i.c, .int .u64 (i.imm : Int)]
theorem Ins.v_len (i : Ins) : i.v.length = 5 := rfl
/-- which fields a kind has: 0 none of these, 1 a, 2 b, 4 c, 8 imm -/
def usesN (op : Int) : Nat :=
  if op = 0 ∨ op = 8 ∨ op = 18 ∨ op = 19 then 9 else if op = 1 ∨ op = 9 ∨ op = 10 then 3 else if (2 ≤ op ∧ op ≤ 7) ∨ op = 12 ∨ op = 14 then 7 else
  if op = 11 ∨ op = 13 then 11 else if op = 15 ∨ op = 16 ∨ op = 20 then 1 else if op = 17 ∨ op = 21 then 8 else 0
def formOf (op : Int) : List UInt8 × List UInt8 :=
  if op = 0 then ([115, 101, 116], [97, 105]) else if op = 1 then ([109, 111, 118, 101], [97, 98]) else if op = 2 then ([112, 108, 117, 115], [97, 98, 99]) else
  if op = 3 then ([109, 105, 110, 117, 115], [97, 98, 99]) else if op = 4 then ([116, 105, 109, 101, 115], [97, 98, 99]) else if op = 5 then ([109, 111, 100, 117, 108, 111], [97, 98, 99]) else
  if op = 6 then ([101, 113, 117, 97, 108], [97, 98, 99]) else if op = 7 then ([108, 101, 115, 115], [97, 98, 99]) else if op = 8 then ([97, 114, 103], [97, 105]) else
  if op = 9 then ([114, 111, 111, 116], [97, 98]) else if op = 10 then ([112, 117, 116, 114, 111, 111, 116], [97, 98]) else if op = 11 then ([114, 101, 97, 100], [97, 98, 105]) else
  if op = 12 then ([114, 101, 97, 100, 97, 116], [97, 98, 99]) else if op = 13 then ([119, 114, 105, 116, 101], [97, 98, 105]) else if op = 14 then ([119, 114, 105, 116, 101, 97, 116], [97, 98, 99]) else
  if op = 15 then ([110, 101, 119], [97]) else if op = 16 then ([102, 114, 101, 101], [97]) else if op = 17 then ([103, 111], [105]) else if op = 18 then ([122, 101, 114, 111], [97, 105]) else
  if op = 19 then ([98, 97, 99, 107], [97, 105]) else if op = 20 then ([114, 101, 116, 117, 114, 110], [97]) else if op = 21 then ([97, 98, 111, 114, 116], [105]) else ([], [])
def bs (l : List UInt8) : Value := .string ⟨⟨l⟩⟩
theorem other_r (op : Int) (h : ¬ (0 ≤ op ∧ op ≤ 10)) : RTri Tryz.prog 268 #[.int .i64 op] [] (.tuple ⟨[bs (formOf op).1, bs (formOf op).2]⟩) := by
  apply RTri.of_pure
  refine Tri.of_body (vs := [_]) Tryz.func268 rfl rfl fun w0 F => ?_
  repeat' (first | refine Ga ?_ | (refine Gb ?_; intro b) | (refine Gd ?_; intro g cap rest hcap) | (refine Gc ?_; intro ad cap)  | (refine Ge ?_ ?_ <;> (intro h; try (exfalso; omega))) | fail)
  all_goals (first | refine St.dn Tryz.func268 ⟨?_, rfl⟩ Ent.go | refine St.fl Tryz.func268 ⟨?_, rfl⟩ Ent.go)
  all_goals unfold formOf
  all_goals (repeat (first | rw [if_pos (by omega)] | rw [if_neg (by omega)]))
  all_goals rfl
theorem form_r (op : Int) : RTri Tryz.prog 246 #[.int .i64 op] [] (.tuple ⟨[bs (formOf op).1, bs (formOf op).2]⟩) := by
  apply RTri.of_pure
  by_cases h : 0 ≤ op ∧ op ≤ 10
  · refine Tri.of_body (vs := [_]) Tryz.func246 rfl rfl fun w0 F => ?_
    repeat' (first | refine Ga ?_ | (refine Gb ?_; intro b) | (refine Gd ?_; intro g cap rest hcap) | (refine Gc ?_; intro ad cap)  | (refine Ge ?_ ?_ <;> (intro h; try (exfalso; omega))) | fail)
    all_goals (first | refine St.dn Tryz.func246 ⟨?_, rfl⟩ Ent.go | refine St.fl Tryz.func246 ⟨?_, rfl⟩ Ent.go)
    all_goals unfold formOf
    all_goals (repeat (first | rw [if_pos (by omega)] | rw [if_neg (by omega)]))
    all_goals rfl
  · have ho := other_r op h
    refine Tri.of_body (vs := [_]) Tryz.func246 rfl rfl fun w0 F => ?_
    repeat' (first | refine Ga ?_ | (refine Gb ?_; intro b) | (refine Gd ?_; intro g cap rest hcap) | (refine Gc ?_; intro ad cap) | refine Gl ho ?_ | (refine Ge ?_ ?_ <;> (intro h; try (exfalso; omega))) | fail)
    all_goals (first | refine St.dn Tryz.func246 ⟨?_, rfl⟩ Ent.go | refine St.fl Tryz.func246 ⟨?_, rfl⟩ Ent.go)
    all_goals rfl
theorem name_r (op : Int) : RTri Tryz.prog 220 #[.int .i64 op] [] (bs (formOf op).1) := by
  apply RTri.of_pure
  have ho := form_r op
  refine Tri.of_body (vs := [_]) Tryz.func220 rfl rfl fun w0 F => ?_
  repeat' (first | refine Ga ?_ | (refine Gb ?_; intro b) | (refine Gd ?_; intro g cap rest hcap) | (refine Gc ?_; intro ad cap) | refine Gl ho ?_ | (refine Ge ?_ ?_ <;> (intro h; try (exfalso; omega))) | fail)
  all_goals (first | refine St.dn Tryz.func220 ⟨?_, rfl⟩ Ent.go | refine St.fl Tryz.func220 ⟨?_, rfl⟩ Ent.go)
  all_goals rfl
def usesV (n : Nat) : Value := .tuple ⟨[.bool (decide (n % 2 = 1)), .bool (decide (n / 2 % 2 = 1)), .bool (decide (n / 4 % 2 = 1)), .bool (decide (n / 8 % 2 = 1))]⟩
theorem uses_0 : Tri Tryz.prog 219 #[.int .i64 0] [] fun v L => v = usesV (usesN 0) ∧ L = [] := by
  have ho := form_r 0
  refine Tri.of_body (vs := [_]) Tryz.func219 rfl rfl fun w0 F => ?_
  repeat' (first | (apply St.loop1) | (apply St.inLoop1) | refine Ga ?_ | (refine Gb ?_; intro b) | (refine Gd ?_; intro g cap rest hcap) | (refine Gc ?_; intro ad cap) | refine Gl ho ?_ | (refine Ge ?_ ?_ <;> (intro h; try (exfalso; omega))) | fail)
  all_goals (first | refine St.dn Tryz.func219 ⟨?_, rfl⟩ Ent.go | refine St.fl Tryz.func219 ⟨?_, rfl⟩ Ent.go)
  all_goals rfl
theorem uses_1 : Tri Tryz.prog 219 #[.int .i64 1] [] fun v L => v = usesV (usesN 1) ∧ L = [] := by
  have ho := form_r 1
  refine Tri.of_body (vs := [_]) Tryz.func219 rfl rfl fun w0 F => ?_
  repeat' (first | (apply St.loop1) | (apply St.inLoop1) | refine Ga ?_ | (refine Gb ?_; intro b) | (refine Gd ?_; intro g cap rest hcap) | (refine Gc ?_; intro ad cap) | refine Gl ho ?_ | (refine Ge ?_ ?_ <;> (intro h; try (exfalso; omega))) | fail)
  all_goals (first | refine St.dn Tryz.func219 ⟨?_, rfl⟩ Ent.go | refine St.fl Tryz.func219 ⟨?_, rfl⟩ Ent.go)
  all_goals rfl
theorem uses_2 : Tri Tryz.prog 219 #[.int .i64 2] [] fun v L => v = usesV (usesN 2) ∧ L = [] := by
  have ho := form_r 2
  refine Tri.of_body (vs := [_]) Tryz.func219 rfl rfl fun w0 F => ?_
  repeat' (first | (apply St.loop1) | (apply St.inLoop1) | refine Ga ?_ | (refine Gb ?_; intro b) | (refine Gd ?_; intro g cap rest hcap) | (refine Gc ?_; intro ad cap) | refine Gl ho ?_ | (refine Ge ?_ ?_ <;> (intro h; try (exfalso; omega))) | fail)
  all_goals (first | refine St.dn Tryz.func219 ⟨?_, rfl⟩ Ent.go | refine St.fl Tryz.func219 ⟨?_, rfl⟩ Ent.go)
  all_goals rfl
theorem uses_3 : Tri Tryz.prog 219 #[.int .i64 3] [] fun v L => v = usesV (usesN 3) ∧ L = [] := by
  have ho := form_r 3
  refine Tri.of_body (vs := [_]) Tryz.func219 rfl rfl fun w0 F => ?_
  repeat' (first | (apply St.loop1) | (apply St.inLoop1) | refine Ga ?_ | (refine Gb ?_; intro b) | (refine Gd ?_; intro g cap rest hcap) | (refine Gc ?_; intro ad cap) | refine Gl ho ?_ | (refine Ge ?_ ?_ <;> (intro h; try (exfalso; omega))) | fail)
  all_goals (first | refine St.dn Tryz.func219 ⟨?_, rfl⟩ Ent.go | refine St.fl Tryz.func219 ⟨?_, rfl⟩ Ent.go)
  all_goals rfl
theorem uses_4 : Tri Tryz.prog 219 #[.int .i64 4] [] fun v L => v = usesV (usesN 4) ∧ L = [] := by
  have ho := form_r 4
  refine Tri.of_body (vs := [_]) Tryz.func219 rfl rfl fun w0 F => ?_
  repeat' (first | (apply St.loop1) | (apply St.inLoop1) | refine Ga ?_ | (refine Gb ?_; intro b) | (refine Gd ?_; intro g cap rest hcap) | (refine Gc ?_; intro ad cap) | refine Gl ho ?_ | (refine Ge ?_ ?_ <;> (intro h; try (exfalso; omega))) | fail)
  all_goals (first | refine St.dn Tryz.func219 ⟨?_, rfl⟩ Ent.go | refine St.fl Tryz.func219 ⟨?_, rfl⟩ Ent.go)
  all_goals rfl
theorem uses_5 : Tri Tryz.prog 219 #[.int .i64 5] [] fun v L => v = usesV (usesN 5) ∧ L = [] := by
  have ho := form_r 5
  refine Tri.of_body (vs := [_]) Tryz.func219 rfl rfl fun w0 F => ?_
  repeat' (first | (apply St.loop1) | (apply St.inLoop1) | refine Ga ?_ | (refine Gb ?_; intro b) | (refine Gd ?_; intro g cap rest hcap) | (refine Gc ?_; intro ad cap) | refine Gl ho ?_ | (refine Ge ?_ ?_ <;> (intro h; try (exfalso; omega))) | fail)
  all_goals (first | refine St.dn Tryz.func219 ⟨?_, rfl⟩ Ent.go | refine St.fl Tryz.func219 ⟨?_, rfl⟩ Ent.go)
  all_goals rfl
theorem uses_6 : Tri Tryz.prog 219 #[.int .i64 6] [] fun v L => v = usesV (usesN 6) ∧ L = [] := by
  have ho := form_r 6
  refine Tri.of_body (vs := [_]) Tryz.func219 rfl rfl fun w0 F => ?_
  repeat' (first | (apply St.loop1) | (apply St.inLoop1) | refine Ga ?_ | (refine Gb ?_; intro b) | (refine Gd ?_; intro g cap rest hcap) | (refine Gc ?_; intro ad cap) | refine Gl ho ?_ | (refine Ge ?_ ?_ <;> (intro h; try (exfalso; omega))) | fail)
  all_goals (first | refine St.dn Tryz.func219 ⟨?_, rfl⟩ Ent.go | refine St.fl Tryz.func219 ⟨?_, rfl⟩ Ent.go)
  all_goals rfl
theorem uses_7 : Tri Tryz.prog 219 #[.int .i64 7] [] fun v L => v = usesV (usesN 7) ∧ L = [] := by
  have ho := form_r 7
  refine Tri.of_body (vs := [_]) Tryz.func219 rfl rfl fun w0 F => ?_
  repeat' (first | (apply St.loop1) | (apply St.inLoop1) | refine Ga ?_ | (refine Gb ?_; intro b) | (refine Gd ?_; intro g cap rest hcap) | (refine Gc ?_; intro ad cap) | refine Gl ho ?_ | (refine Ge ?_ ?_ <;> (intro h; try (exfalso; omega))) | fail)
  all_goals (first | refine St.dn Tryz.func219 ⟨?_, rfl⟩ Ent.go | refine St.fl Tryz.func219 ⟨?_, rfl⟩ Ent.go)
  all_goals rfl
theorem uses_8 : Tri Tryz.prog 219 #[.int .i64 8] [] fun v L => v = usesV (usesN 8) ∧ L = [] := by
  have ho := form_r 8
  refine Tri.of_body (vs := [_]) Tryz.func219 rfl rfl fun w0 F => ?_
  repeat' (first | (apply St.loop1) | (apply St.inLoop1) | refine Ga ?_ | (refine Gb ?_; intro b) | (refine Gd ?_; intro g cap rest hcap) | (refine Gc ?_; intro ad cap) | refine Gl ho ?_ | (refine Ge ?_ ?_ <;> (intro h; try (exfalso; omega))) | fail)
  all_goals (first | refine St.dn Tryz.func219 ⟨?_, rfl⟩ Ent.go | refine St.fl Tryz.func219 ⟨?_, rfl⟩ Ent.go)
  all_goals rfl
theorem uses_9 : Tri Tryz.prog 219 #[.int .i64 9] [] fun v L => v = usesV (usesN 9) ∧ L = [] := by
  have ho := form_r 9
  refine Tri.of_body (vs := [_]) Tryz.func219 rfl rfl fun w0 F => ?_
  repeat' (first | (apply St.loop1) | (apply St.inLoop1) | refine Ga ?_ | (refine Gb ?_; intro b) | (refine Gd ?_; intro g cap rest hcap) | (refine Gc ?_; intro ad cap) | refine Gl ho ?_ | (refine Ge ?_ ?_ <;> (intro h; try (exfalso; omega))) | fail)
  all_goals (first | refine St.dn Tryz.func219 ⟨?_, rfl⟩ Ent.go | refine St.fl Tryz.func219 ⟨?_, rfl⟩ Ent.go)
  all_goals rfl
theorem uses_10 : Tri Tryz.prog 219 #[.int .i64 10] [] fun v L => v = usesV (usesN 10) ∧ L = [] := by
  have ho := form_r 10
  refine Tri.of_body (vs := [_]) Tryz.func219 rfl rfl fun w0 F => ?_
  repeat' (first | (apply St.loop1) | (apply St.inLoop1) | refine Ga ?_ | (refine Gb ?_; intro b) | (refine Gd ?_; intro g cap rest hcap) | (refine Gc ?_; intro ad cap) | refine Gl ho ?_ | (refine Ge ?_ ?_ <;> (intro h; try (exfalso; omega))) | fail)
  all_goals (first | refine St.dn Tryz.func219 ⟨?_, rfl⟩ Ent.go | refine St.fl Tryz.func219 ⟨?_, rfl⟩ Ent.go)
  all_goals rfl
theorem uses_11 : Tri Tryz.prog 219 #[.int .i64 11] [] fun v L => v = usesV (usesN 11) ∧ L = [] := by
  have ho := form_r 11
  refine Tri.of_body (vs := [_]) Tryz.func219 rfl rfl fun w0 F => ?_
  repeat' (first | (apply St.loop1) | (apply St.inLoop1) | refine Ga ?_ | (refine Gb ?_; intro b) | (refine Gd ?_; intro g cap rest hcap) | (refine Gc ?_; intro ad cap) | refine Gl ho ?_ | (refine Ge ?_ ?_ <;> (intro h; try (exfalso; omega))) | fail)
  all_goals (first | refine St.dn Tryz.func219 ⟨?_, rfl⟩ Ent.go | refine St.fl Tryz.func219 ⟨?_, rfl⟩ Ent.go)
  all_goals rfl
theorem uses_12 : Tri Tryz.prog 219 #[.int .i64 12] [] fun v L => v = usesV (usesN 12) ∧ L = [] := by
  have ho := form_r 12
  refine Tri.of_body (vs := [_]) Tryz.func219 rfl rfl fun w0 F => ?_
  repeat' (first | (apply St.loop1) | (apply St.inLoop1) | refine Ga ?_ | (refine Gb ?_; intro b) | (refine Gd ?_; intro g cap rest hcap) | (refine Gc ?_; intro ad cap) | refine Gl ho ?_ | (refine Ge ?_ ?_ <;> (intro h; try (exfalso; omega))) | fail)
  all_goals (first | refine St.dn Tryz.func219 ⟨?_, rfl⟩ Ent.go | refine St.fl Tryz.func219 ⟨?_, rfl⟩ Ent.go)
  all_goals rfl
theorem uses_13 : Tri Tryz.prog 219 #[.int .i64 13] [] fun v L => v = usesV (usesN 13) ∧ L = [] := by
  have ho := form_r 13
  refine Tri.of_body (vs := [_]) Tryz.func219 rfl rfl fun w0 F => ?_
  repeat' (first | (apply St.loop1) | (apply St.inLoop1) | refine Ga ?_ | (refine Gb ?_; intro b) | (refine Gd ?_; intro g cap rest hcap) | (refine Gc ?_; intro ad cap) | refine Gl ho ?_ | (refine Ge ?_ ?_ <;> (intro h; try (exfalso; omega))) | fail)
  all_goals (first | refine St.dn Tryz.func219 ⟨?_, rfl⟩ Ent.go | refine St.fl Tryz.func219 ⟨?_, rfl⟩ Ent.go)
  all_goals rfl
theorem uses_14 : Tri Tryz.prog 219 #[.int .i64 14] [] fun v L => v = usesV (usesN 14) ∧ L = [] := by
  have ho := form_r 14
  refine Tri.of_body (vs := [_]) Tryz.func219 rfl rfl fun w0 F => ?_
  repeat' (first | (apply St.loop1) | (apply St.inLoop1) | refine Ga ?_ | (refine Gb ?_; intro b) | (refine Gd ?_; intro g cap rest hcap) | (refine Gc ?_; intro ad cap) | refine Gl ho ?_ | (refine Ge ?_ ?_ <;> (intro h; try (exfalso; omega))) | fail)
  all_goals (first | refine St.dn Tryz.func219 ⟨?_, rfl⟩ Ent.go | refine St.fl Tryz.func219 ⟨?_, rfl⟩ Ent.go)
  all_goals rfl
theorem uses_15 : Tri Tryz.prog 219 #[.int .i64 15] [] fun v L => v = usesV (usesN 15) ∧ L = [] := by
  have ho := form_r 15
  refine Tri.of_body (vs := [_]) Tryz.func219 rfl rfl fun w0 F => ?_
  repeat' (first | (apply St.loop1) | (apply St.inLoop1) | refine Ga ?_ | (refine Gb ?_; intro b) | (refine Gd ?_; intro g cap rest hcap) | (refine Gc ?_; intro ad cap) | refine Gl ho ?_ | (refine Ge ?_ ?_ <;> (intro h; try (exfalso; omega))) | fail)
  all_goals (first | refine St.dn Tryz.func219 ⟨?_, rfl⟩ Ent.go | refine St.fl Tryz.func219 ⟨?_, rfl⟩ Ent.go)
  all_goals rfl
theorem uses_16 : Tri Tryz.prog 219 #[.int .i64 16] [] fun v L => v = usesV (usesN 16) ∧ L = [] := by
  have ho := form_r 16
  refine Tri.of_body (vs := [_]) Tryz.func219 rfl rfl fun w0 F => ?_
  repeat' (first | (apply St.loop1) | (apply St.inLoop1) | refine Ga ?_ | (refine Gb ?_; intro b) | (refine Gd ?_; intro g cap rest hcap) | (refine Gc ?_; intro ad cap) | refine Gl ho ?_ | (refine Ge ?_ ?_ <;> (intro h; try (exfalso; omega))) | fail)
  all_goals (first | refine St.dn Tryz.func219 ⟨?_, rfl⟩ Ent.go | refine St.fl Tryz.func219 ⟨?_, rfl⟩ Ent.go)
  all_goals rfl
theorem uses_17 : Tri Tryz.prog 219 #[.int .i64 17] [] fun v L => v = usesV (usesN 17) ∧ L = [] := by
  have ho := form_r 17
  refine Tri.of_body (vs := [_]) Tryz.func219 rfl rfl fun w0 F => ?_
  repeat' (first | (apply St.loop1) | (apply St.inLoop1) | refine Ga ?_ | (refine Gb ?_; intro b) | (refine Gd ?_; intro g cap rest hcap) | (refine Gc ?_; intro ad cap) | refine Gl ho ?_ | (refine Ge ?_ ?_ <;> (intro h; try (exfalso; omega))) | fail)
  all_goals (first | refine St.dn Tryz.func219 ⟨?_, rfl⟩ Ent.go | refine St.fl Tryz.func219 ⟨?_, rfl⟩ Ent.go)
  all_goals rfl
theorem uses_18 : Tri Tryz.prog 219 #[.int .i64 18] [] fun v L => v = usesV (usesN 18) ∧ L = [] := by
  have ho := form_r 18
  refine Tri.of_body (vs := [_]) Tryz.func219 rfl rfl fun w0 F => ?_
  repeat' (first | (apply St.loop1) | (apply St.inLoop1) | refine Ga ?_ | (refine Gb ?_; intro b) | (refine Gd ?_; intro g cap rest hcap) | (refine Gc ?_; intro ad cap) | refine Gl ho ?_ | (refine Ge ?_ ?_ <;> (intro h; try (exfalso; omega))) | fail)
  all_goals (first | refine St.dn Tryz.func219 ⟨?_, rfl⟩ Ent.go | refine St.fl Tryz.func219 ⟨?_, rfl⟩ Ent.go)
  all_goals rfl
theorem uses_19 : Tri Tryz.prog 219 #[.int .i64 19] [] fun v L => v = usesV (usesN 19) ∧ L = [] := by
  have ho := form_r 19
  refine Tri.of_body (vs := [_]) Tryz.func219 rfl rfl fun w0 F => ?_
  repeat' (first | (apply St.loop1) | (apply St.inLoop1) | refine Ga ?_ | (refine Gb ?_; intro b) | (refine Gd ?_; intro g cap rest hcap) | (refine Gc ?_; intro ad cap) | refine Gl ho ?_ | (refine Ge ?_ ?_ <;> (intro h; try (exfalso; omega))) | fail)
  all_goals (first | refine St.dn Tryz.func219 ⟨?_, rfl⟩ Ent.go | refine St.fl Tryz.func219 ⟨?_, rfl⟩ Ent.go)
  all_goals rfl
theorem uses_20 : Tri Tryz.prog 219 #[.int .i64 20] [] fun v L => v = usesV (usesN 20) ∧ L = [] := by
  have ho := form_r 20
  refine Tri.of_body (vs := [_]) Tryz.func219 rfl rfl fun w0 F => ?_
  repeat' (first | (apply St.loop1) | (apply St.inLoop1) | refine Ga ?_ | (refine Gb ?_; intro b) | (refine Gd ?_; intro g cap rest hcap) | (refine Gc ?_; intro ad cap) | refine Gl ho ?_ | (refine Ge ?_ ?_ <;> (intro h; try (exfalso; omega))) | fail)
  all_goals (first | refine St.dn Tryz.func219 ⟨?_, rfl⟩ Ent.go | refine St.fl Tryz.func219 ⟨?_, rfl⟩ Ent.go)
  all_goals rfl
theorem uses_21 : Tri Tryz.prog 219 #[.int .i64 21] [] fun v L => v = usesV (usesN 21) ∧ L = [] := by
  have ho := form_r 21
  refine Tri.of_body (vs := [_]) Tryz.func219 rfl rfl fun w0 F => ?_
  repeat' (first | (apply St.loop1) | (apply St.inLoop1) | refine Ga ?_ | (refine Gb ?_; intro b) | (refine Gd ?_; intro g cap rest hcap) | (refine Gc ?_; intro ad cap) | refine Gl ho ?_ | (refine Ge ?_ ?_ <;> (intro h; try (exfalso; omega))) | fail)
  all_goals (first | refine St.dn Tryz.func219 ⟨?_, rfl⟩ Ent.go | refine St.fl Tryz.func219 ⟨?_, rfl⟩ Ent.go)
  all_goals rfl
end Go.Proofs.YtemaaenipjinaaaGreat
end
section
namespace Go.Proofs.YtemaaenipjinaaaGreat
theorem uses_r (op : Int) : RTri Tryz.prog 219 #[.int .i64 op] [] (usesV (usesN op)) := by
  apply RTri.of_pure
  by_cases hk : 0 ≤ op ∧ op ≤ 21
  · have h17 : op = 0 ∨ op = 1 ∨ op = 2 ∨ op = 3 ∨ op = 4 ∨ op = 5 ∨ op = 6 ∨ op = 7 ∨ op = 8 ∨ op = 9 ∨ op = 10 ∨ op = 11 ∨ op = 12 ∨ op = 13 ∨ op = 14 ∨ op = 15 ∨ op = 16 ∨ op = 17 ∨ op = 18 ∨ op = 19 ∨ op = 20 ∨ op = 21 := by omega
    rcases h17 with rfl | rfl | rfl | rfl | rfl | rfl | rfl | rfl | rfl | rfl | rfl | rfl | rfl | rfl | rfl | rfl | rfl | rfl | rfl | rfl | rfl | rfl
    · exact uses_0
    · exact uses_1
    · exact uses_2
    · exact uses_3
    · exact uses_4
    · exact uses_5
    · exact uses_6
    · exact uses_7
    · exact uses_8
    · exact uses_9
    · exact uses_10
    · exact uses_11
    · exact uses_12
    · exact uses_13
    · exact uses_14
    · exact uses_15
    · exact uses_16
    · exact uses_17
    · exact uses_18
    · exact uses_19
    · exact uses_20
    · exact uses_21
  · have ho := form_r op
    have e1 : formOf op = ([], []) := by unfold formOf; repeat rw [if_neg (by omega)]
    have e2 : usesN op = 0 := by unfold usesN; repeat rw [if_neg (by omega)]
    rw [e1] at ho
    rw [e2]
    refine Tri.of_body (vs := [_]) Tryz.func219 rfl rfl fun w0 F => ?_
    repeat' (first | (apply St.loop1) | (apply St.inLoop1) | refine Ga ?_ | (refine Gb ?_; intro b) | (refine Gd ?_; intro g cap rest hcap) | (refine Gc ?_; intro ad cap) | refine Gl ho ?_ | (refine Ge ?_ ?_ <;> (intro h; try (exfalso; omega))) | fail)
    all_goals (first | refine St.dn Tryz.func219 ⟨?_, rfl⟩ Ent.go | refine St.fl Tryz.func219 ⟨?_, rfl⟩ Ent.go)
    all_goals rfl
def fieldOk (n : Int) (used : Bool) : Bool := n == 0 || (used && (decide (0 < n) && decide (n < 16)))
theorem field_r (n : Int) (u : Bool) : RTri Tryz.prog 221 #[.int .i64 n, .bool u] [] (.bool (fieldOk n u)) := by
  apply RTri.of_pure
  refine Tri.of_body (vs := [_, _]) Tryz.func221 rfl rfl fun w0 F => ?_
  repeat' (first | refine Ga ?_ | (refine Gb ?_; intro b) | (refine Gd ?_; intro g cap rest hcap) | (refine Gc ?_; intro ad cap)  | (refine Ge ?_ ?_ <;> (intro h; try (exfalso; omega))) | fail)
  all_goals (first | refine St.dn Tryz.func221 ⟨?_, rfl⟩ Ent.go | refine St.fl Tryz.func221 ⟨?_, rfl⟩ Ent.go)
  all_goals refine congrArg Value.bool ?_
  all_goals unfold fieldOk
  all_goals simp [*]
def usA (op : Int) : Bool := decide (usesN op % 2 = 1)
def usB (op : Int) : Bool := decide (usesN op / 2 % 2 = 1)
def usC (op : Int) : Bool := decide (usesN op / 4 % 2 = 1)
def usI (op : Int) : Bool := decide (usesN op / 8 % 2 = 1)
def Ins.plain (i : Ins) : Bool := (decide (0 ≤ i.op ∧ i.op ≤ 21) && (fieldOk i.a (usA i.op) && (fieldOk i.b (usB i.op) && (fieldOk i.c (usC i.op) && (usI i.op || ((i.imm : Int) == 0))))))
theorem formOf_ne (op : Int) : ((formOf op).1 == []) = !(decide (0 ≤ op ∧ op ≤ 21)) := by
  by_cases hk : 0 ≤ op ∧ op ≤ 21
  · have h17 : op = 0 ∨ op = 1 ∨ op = 2 ∨ op = 3 ∨ op = 4 ∨ op = 5 ∨ op = 6 ∨ op = 7 ∨ op = 8 ∨ op = 9 ∨ op = 10 ∨ op = 11 ∨ op = 12 ∨ op = 13 ∨ op = 14 ∨ op = 15 ∨ op = 16 ∨ op = 17 ∨ op = 18 ∨ op = 19 ∨ op = 20 ∨ op = 21 := by omega
    rcases h17 with rfl | rfl | rfl | rfl | rfl | rfl | rfl | rfl | rfl | rfl | rfl | rfl | rfl | rfl | rfl | rfl | rfl | rfl | rfl | rfl | rfl | rfl <;> rfl
  · have e1 : formOf op = ([], []) := by unfold formOf; repeat rw [if_neg (by omega)]
    rw [e1, decide_eq_false hk]; rfl
theorem plain_r (i : Ins) : RTri Tryz.prog 191 #[.agg ⟨i.v⟩] [] (.bool i.plain) := by
  apply RTri.of_pure
  have hu : RTri Tryz.prog 219 #[.int .i64 i.op] [] (.tuple ⟨[.bool (usA i.op), .bool (usB i.op), .bool (usC i.op), .bool (usI i.op)]⟩) := uses_r i.op
  have hn := name_r i.op
  by_cases h0 : 0 ≤ i.op ∧ i.op ≤ 21
  · have hf : (formOf i.op).1 ≠ [] := by
      have := formOf_ne i.op
      rw [decide_eq_true h0] at this
      simpa using this
    refine Tri.of_body (vs := [_]) Tryz.func191 rfl rfl fun w0 F => ?_
    repeat' (first | refine Ga ?_ | (refine Gb ?_; intro b) | (refine Gd ?_; intro g cap rest hcap) | (refine Gc ?_; intro ad cap) | refine Gl hu ?_ | refine Gl hn ?_ | refine Gl (field_r i.a (usA i.op)) ?_ | refine Gl (field_r i.b (usB i.op)) ?_ | refine Gl (field_r i.c (usC i.op)) ?_ | (refine Ge ?_ ?_ <;> (intro h; try (exfalso; omega))) | fail)
    all_goals first | (exfalso; simp_all; done) | skip
    all_goals (first | refine St.dn Tryz.func191 ⟨?_, rfl⟩ Ent.go | refine St.fl Tryz.func191 ⟨?_, rfl⟩ Ent.go)
    all_goals refine congrArg Value.bool ?_
    all_goals unfold Ins.plain
    all_goals rw [decide_eq_true h0]
    all_goals first | (simp_all; done) | (simp_all [usI]; done)
  · have hf : (formOf i.op).1 = [] := by
      have := formOf_ne i.op
      rw [decide_eq_false h0] at this
      simpa using this
    rw [hf] at hn
    refine Tri.of_body (vs := [_]) Tryz.func191 rfl rfl fun w0 F => ?_
    repeat' (first | refine Ga ?_ | (refine Gb ?_; intro b) | (refine Gd ?_; intro g cap rest hcap) | (refine Gc ?_; intro ad cap) | refine Gl hu ?_ | refine Gl hn ?_ | (refine Ge ?_ ?_ <;> (intro h; try (exfalso; omega))) | fail)
    all_goals (first | refine St.dn Tryz.func191 ⟨?_, rfl⟩ Ent.go | refine St.fl Tryz.func191 ⟨?_, rfl⟩ Ent.go)
    all_goals refine congrArg Value.bool ?_
    all_goals unfold Ins.plain
    all_goals rw [decide_eq_false h0]
    all_goals rfl
theorem ends_r (op : Int) : RTri Tryz.prog 142 #[.int .i64 op] [] (.bool (op == 20 || op == 21)) := by
  apply RTri.of_pure
  refine Tri.of_body (vs := [_]) Tryz.func142 rfl rfl fun w0 F => ?_
  repeat' (first | refine Ga ?_ | (refine Gb ?_; intro b) | (refine Gd ?_; intro g cap rest hcap) | (refine Gc ?_; intro ad cap)  | (refine Ge ?_ ?_ <;> (intro h; try (exfalso; omega))) | fail)
  all_goals (first | refine St.dn Tryz.func142 ⟨?_, rfl⟩ Ent.go | refine St.fl Tryz.func142 ⟨?_, rfl⟩ Ent.go)
  all_goals refine congrArg Value.bool ?_
  all_goals simp [*]
def costs (op : Int) : Int := if op = 10 ∨ op = 13 ∨ op = 14 then 1 else if op = 16 then 2 else if op = 15 then 9 else 0
theorem costs_r (op : Int) : RTri Tryz.prog 222 #[.int .i64 op] [] (.int .i64 (costs op)) := by
  apply RTri.of_pure
  refine Tri.of_body (vs := [_]) Tryz.func222 rfl rfl fun w0 F => ?_
  repeat' (first | refine Ga ?_ | (refine Gb ?_; intro b) | (refine Gd ?_; intro g cap rest hcap) | (refine Gc ?_; intro ad cap)  | (refine Ge ?_ ?_ <;> (intro h; try (exfalso; omega))) | fail)
  all_goals (first | refine St.dn Tryz.func222 ⟨?_, rfl⟩ Ent.go | refine St.fl Tryz.func222 ⟨?_, rfl⟩ Ent.go)
  all_goals refine congrArg (Value.int .i64) ?_
  all_goals unfold costs
  all_goals (repeat (first | rw [if_pos (by omega)] | rw [if_neg (by omega)]))
/-- a slice of instructions that can be read -/
def InsR (q : HProp) (v : Value) (code : List Ins) : Prop :=
  ∃ ad cap, v = .slice ad code.length cap ∧ (code.length = 0 ∨ ∃ b o l rest, ad = some ⟨b, o, none⟩ ∧ RdC q b l ∧ DropN o l (code.flatMap Ins.v ++ rest))
theorem DropN.more {α : Type} {n : Nat} {l l' : List α} (h : DropN n l l') (r : List α) : DropN n (l ++ r) (l' ++ r) := by
  induction h with
  | zero => exact .zero
  | succ _ ih => exact .succ ih
theorem DropN.add {α : Type} {n m : Nat} {l l' l'' : List α} (h : DropN n l l') (k : DropN m l' l'') : DropN (n + m) l l'' := by
  induction h with
  | zero => rw [Nat.zero_add]; exact k
  | succ _ ih => rw [Nat.succ_add]; exact .succ (ih k)
theorem InsR.at {q : HProp} {ad : Option Addr} {code : List Ins} (h : code.length = 0 ∨ ∃ b o l rest, ad = some ⟨b, o, none⟩ ∧ RdC q b l ∧ DropN o l (code.flatMap Ins.v ++ rest)) (i : Nat) (hi : i < code.length) :
    ∃ b o l l1, ad = some ⟨b, o, none⟩ ∧ RdC q b l ∧ DropN (o + (i : Int).toNat * 5) l l1 ∧ TakeN 5 l1 code[i].v := by
  rcases h with h | ⟨b, o, l, rest, h1, h2, h3⟩
  · omega
  · refine ⟨b, o, l, code[i].v ++ (code.drop (i + 1)).flatMap Ins.v ++ rest, h1, h2, h3.add ((DropN.flat Ins.v_len hi).more rest), ?_⟩
    rw [List.append_assoc]; exact TakeN.app code[i].v _
/-- what is wrong with instruction i, the k-th of n -/
def oneOf (n k : Nat) (i : Ins) : Int :=
  if i.plain = false then 30 else if i.op = 8 then (if 4 ≤ i.imm then 1 else 0) else if i.op = 11 ∨ i.op = 13 then (if 8 ≤ i.imm then 1 else 0) else
  if i.op = 21 then (if i.imm < 1 ∨ 255 < i.imm then 1 else 0) else if i.op = 17 ∨ i.op = 18 then (if i.imm ≤ k ∨ n ≤ i.imm then 24 else 0) else
  if i.op = 19 then (if k < i.imm then 24 else 0) else 0
theorem one_r (q : HProp) (v : Value) (code : List Ins) (hv : InsR q v code) (hn : code.length ≤ 256) (k : Nat) (hk : k < code.length) : RTri Tryz.prog 141 #[v, .int .i64 (k : Int)] [q] (.int .i64 (oneOf code.length k code[k])) := by
  apply RTri.of_reads
  intro p hp
  obtain ⟨ad, cap, rfl, hr⟩ := hv
  obtain ⟨b, o, l, l1, rfl, hrd, hdr, htk⟩ := InsR.at hr k hk
  have hrd := RdC.of_sat hp (ReadsC.here hrd)
  have hpl := plain_r code[k]
  cases hpb : code[k].plain with
  | false =>
    rw [hpb] at hpl
    refine Tri.of_body (vs := [_, _]) Tryz.func141 rfl rfl fun w0 F => ?_
    repeat' (first | refine Ga ?_ | (refine Gb ?_; intro b) | (refine Gd ?_; intro g cap rest hcap) | (refine Gc ?_; intro ad cap) | refine Gl hpl ?_ | (refine Ge ?_ ?_ <;> (intro h; try (exfalso; omega))) | fail)
    all_goals (first | refine St.dn Tryz.func141 ⟨?_, rfl⟩ Ent.go | refine St.fl Tryz.func141 ⟨?_, rfl⟩ Ent.go)
    all_goals refine congrArg (Value.int .i64) ?_
    all_goals unfold oneOf
    all_goals rw [if_pos hpb]
  | true =>
    rw [hpb] at hpl
    refine Tri.of_body (vs := [_, _]) Tryz.func141 rfl rfl fun w0 F => ?_
    repeat' (first | refine Ga ?_ | (refine Gb ?_; intro b) | (refine Gd ?_; intro g cap rest hcap) | (refine Gc ?_; intro ad cap) | refine Gl hpl ?_ | (refine Ge ?_ ?_ <;> (intro h; try (exfalso; omega))) | fail)
    all_goals (first | refine St.dn Tryz.func141 ⟨?_, rfl⟩ Ent.go | refine St.fl Tryz.func141 ⟨?_, rfl⟩ Ent.go)
    all_goals refine congrArg (Value.int .i64) ?_
    all_goals unfold oneOf
    all_goals rw [if_neg (by rw [hpb]; decide)]
    all_goals (repeat (first | rw [if_pos (by omega)] | rw [if_neg (by omega)]))
end Go.Proofs.YtemaaenipjinaaaGreat
end
