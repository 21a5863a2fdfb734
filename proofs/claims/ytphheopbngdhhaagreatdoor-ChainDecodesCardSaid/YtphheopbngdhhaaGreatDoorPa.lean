/-
  Packages tumblerref03, tumblerref05: the few instructions of tumblerlaw20.Made are right.
-/
import Derived.Test.YtphheopbngdhhaaGreatDoorMt
namespace Go.Proofs.YtphheopbngdhhaaGreatDoor
set_option maxRecDepth 100000
theorem regs3_8 : RTri Tryz.prog 184 #[.int .i64 8] [] (.int .i64 1) := by
  apply RTri.of_pure
  refine Tri.of_body (vs := [_]) Tryz.func184 rfl rfl fun w0 F => ?_
  repeat' (first | refine Ga ?_ | (refine Gb ?_; intro b) | (refine Gd ?_; intro g cap rest hcap) | (refine Gc ?_; intro ad cap)  | (refine Ge ?_ ?_ <;> (intro h; try (exfalso; omega))) | fail)
  refine St.d1 Tryz.func184 ⟨_, ⟨rfl, rfl⟩, Ent.go⟩
theorem imm3_8 : RTri Tryz.prog 185 #[.int .i64 8] [] (.bool true) := by
  apply RTri.of_pure
  refine Tri.of_body (vs := [_]) Tryz.func185 rfl rfl fun w0 F => ?_
  repeat' (first | refine Ga ?_ | (refine Gb ?_; intro b) | (refine Gd ?_; intro g cap rest hcap) | (refine Gc ?_; intro ad cap)  | (refine Ge ?_ ?_ <;> (intro h; try (exfalso; omega))) | fail)
  refine St.d1 Tryz.func185 ⟨_, ⟨rfl, rfl⟩, Ent.go⟩
theorem goes4_8 : RTri Tryz.prog 174 #[.int .i64 8] [] (.bool false) := by
  apply RTri.of_pure
  refine Tri.of_body (vs := [_]) Tryz.func174 rfl rfl fun w0 F => ?_
  repeat' (first | refine Ga ?_ | (refine Gb ?_; intro b) | (refine Gd ?_; intro g cap rest hcap) | (refine Gc ?_; intro ad cap)  | (refine Ge ?_ ?_ <;> (intro h; try (exfalso; omega))) | fail)
  refine St.d1 Tryz.func174 ⟨_, ⟨rfl, rfl⟩, Ent.go⟩
theorem regs3_10 : RTri Tryz.prog 184 #[.int .i64 10] [] (.int .i64 2) := by
  apply RTri.of_pure
  refine Tri.of_body (vs := [_]) Tryz.func184 rfl rfl fun w0 F => ?_
  repeat' (first | refine Ga ?_ | (refine Gb ?_; intro b) | (refine Gd ?_; intro g cap rest hcap) | (refine Gc ?_; intro ad cap)  | (refine Ge ?_ ?_ <;> (intro h; try (exfalso; omega))) | fail)
  refine St.d1 Tryz.func184 ⟨_, ⟨rfl, rfl⟩, Ent.go⟩
theorem imm3_10 : RTri Tryz.prog 185 #[.int .i64 10] [] (.bool false) := by
  apply RTri.of_pure
  refine Tri.of_body (vs := [_]) Tryz.func185 rfl rfl fun w0 F => ?_
  repeat' (first | refine Ga ?_ | (refine Gb ?_; intro b) | (refine Gd ?_; intro g cap rest hcap) | (refine Gc ?_; intro ad cap)  | (refine Ge ?_ ?_ <;> (intro h; try (exfalso; omega))) | fail)
  refine St.d1 Tryz.func185 ⟨_, ⟨rfl, rfl⟩, Ent.go⟩
theorem goes4_10 : RTri Tryz.prog 174 #[.int .i64 10] [] (.bool false) := by
  apply RTri.of_pure
  refine Tri.of_body (vs := [_]) Tryz.func174 rfl rfl fun w0 F => ?_
  repeat' (first | refine Ga ?_ | (refine Gb ?_; intro b) | (refine Gd ?_; intro g cap rest hcap) | (refine Gc ?_; intro ad cap)  | (refine Ge ?_ ?_ <;> (intro h; try (exfalso; omega))) | fail)
  refine St.d1 Tryz.func174 ⟨_, ⟨rfl, rfl⟩, Ent.go⟩
theorem regs3_14 : RTri Tryz.prog 184 #[.int .i64 14] [] (.int .i64 3) := by
  apply RTri.of_pure
  refine Tri.of_body (vs := [_]) Tryz.func184 rfl rfl fun w0 F => ?_
  repeat' (first | refine Ga ?_ | (refine Gb ?_; intro b) | (refine Gd ?_; intro g cap rest hcap) | (refine Gc ?_; intro ad cap)  | (refine Ge ?_ ?_ <;> (intro h; try (exfalso; omega))) | fail)
  refine St.d1 Tryz.func184 ⟨_, ⟨rfl, rfl⟩, Ent.go⟩
theorem imm3_14 : RTri Tryz.prog 185 #[.int .i64 14] [] (.bool false) := by
  apply RTri.of_pure
  refine Tri.of_body (vs := [_]) Tryz.func185 rfl rfl fun w0 F => ?_
  repeat' (first | refine Ga ?_ | (refine Gb ?_; intro b) | (refine Gd ?_; intro g cap rest hcap) | (refine Gc ?_; intro ad cap)  | (refine Ge ?_ ?_ <;> (intro h; try (exfalso; omega))) | fail)
  refine St.d1 Tryz.func185 ⟨_, ⟨rfl, rfl⟩, Ent.go⟩
theorem goes4_14 : RTri Tryz.prog 174 #[.int .i64 14] [] (.bool false) := by
  apply RTri.of_pure
  refine Tri.of_body (vs := [_]) Tryz.func174 rfl rfl fun w0 F => ?_
  repeat' (first | refine Ga ?_ | (refine Gb ?_; intro b) | (refine Gd ?_; intro g cap rest hcap) | (refine Gc ?_; intro ad cap)  | (refine Ge ?_ ?_ <;> (intro h; try (exfalso; omega))) | fail)
  refine St.d1 Tryz.func174 ⟨_, ⟨rfl, rfl⟩, Ent.go⟩
theorem regs3_15 : RTri Tryz.prog 184 #[.int .i64 15] [] (.int .i64 1) := by
  apply RTri.of_pure
  refine Tri.of_body (vs := [_]) Tryz.func184 rfl rfl fun w0 F => ?_
  repeat' (first | refine Ga ?_ | (refine Gb ?_; intro b) | (refine Gd ?_; intro g cap rest hcap) | (refine Gc ?_; intro ad cap)  | (refine Ge ?_ ?_ <;> (intro h; try (exfalso; omega))) | fail)
  refine St.d1 Tryz.func184 ⟨_, ⟨rfl, rfl⟩, Ent.go⟩
theorem imm3_15 : RTri Tryz.prog 185 #[.int .i64 15] [] (.bool false) := by
  apply RTri.of_pure
  refine Tri.of_body (vs := [_]) Tryz.func185 rfl rfl fun w0 F => ?_
  repeat' (first | refine Ga ?_ | (refine Gb ?_; intro b) | (refine Gd ?_; intro g cap rest hcap) | (refine Gc ?_; intro ad cap)  | (refine Ge ?_ ?_ <;> (intro h; try (exfalso; omega))) | fail)
  refine St.d1 Tryz.func185 ⟨_, ⟨rfl, rfl⟩, Ent.go⟩
theorem goes4_15 : RTri Tryz.prog 174 #[.int .i64 15] [] (.bool false) := by
  apply RTri.of_pure
  refine Tri.of_body (vs := [_]) Tryz.func174 rfl rfl fun w0 F => ?_
  repeat' (first | refine Ga ?_ | (refine Gb ?_; intro b) | (refine Gd ?_; intro g cap rest hcap) | (refine Gc ?_; intro ad cap)  | (refine Ge ?_ ?_ <;> (intro h; try (exfalso; omega))) | fail)
  refine St.d1 Tryz.func174 ⟨_, ⟨rfl, rfl⟩, Ent.go⟩
theorem regs3_20 : RTri Tryz.prog 184 #[.int .i64 20] [] (.int .i64 1) := by
  apply RTri.of_pure
  refine Tri.of_body (vs := [_]) Tryz.func184 rfl rfl fun w0 F => ?_
  repeat' (first | refine Ga ?_ | (refine Gb ?_; intro b) | (refine Gd ?_; intro g cap rest hcap) | (refine Gc ?_; intro ad cap)  | (refine Ge ?_ ?_ <;> (intro h; try (exfalso; omega))) | fail)
  refine St.d1 Tryz.func184 ⟨_, ⟨rfl, rfl⟩, Ent.go⟩
theorem imm3_20 : RTri Tryz.prog 185 #[.int .i64 20] [] (.bool false) := by
  apply RTri.of_pure
  refine Tri.of_body (vs := [_]) Tryz.func185 rfl rfl fun w0 F => ?_
  repeat' (first | refine Ga ?_ | (refine Gb ?_; intro b) | (refine Gd ?_; intro g cap rest hcap) | (refine Gc ?_; intro ad cap)  | (refine Ge ?_ ?_ <;> (intro h; try (exfalso; omega))) | fail)
  refine St.d1 Tryz.func185 ⟨_, ⟨rfl, rfl⟩, Ent.go⟩
theorem goes4_20 : RTri Tryz.prog 174 #[.int .i64 20] [] (.bool false) := by
  apply RTri.of_pure
  refine Tri.of_body (vs := [_]) Tryz.func174 rfl rfl fun w0 F => ?_
  repeat' (first | refine Ga ?_ | (refine Gb ?_; intro b) | (refine Gd ?_; intro g cap rest hcap) | (refine Gc ?_; intro ad cap)  | (refine Ge ?_ ?_ <;> (intro h; try (exfalso; omega))) | fail)
  refine St.d1 Tryz.func174 ⟨_, ⟨rfl, rfl⟩, Ent.go⟩
theorem plain_a : RTri Tryz.prog 173 #[.agg ⟨[.int .i64 8, .int .i64 1, .int .i64 0, .int .i64 0, .int .u64 0]⟩] [] (.bool true) := by
  apply RTri.of_pure
  have hr := regs3_8
  have hi := imm3_8
  refine Tri.of_body (vs := [_]) Tryz.func173 rfl rfl fun w0 F => ?_
  repeat' (first | refine Ga ?_ | (refine Gb ?_; intro b) | (refine Gd ?_; intro g cap rest hcap) | (refine Gc ?_; intro ad cap) | refine Gl hr ?_ | refine Gl hi ?_ | (refine Ge ?_ ?_ <;> (intro h; try (exfalso; omega))) | fail)
  refine St.d1 Tryz.func173 ⟨_, ⟨rfl, rfl⟩, Ent.go⟩
theorem one_a (q : HProp) (cv : Value) (code : List Ins) (h : ListR Ins.v q cv code) (k : Nat) (hk : k < code.length) (e : code[k] = ⟨8, 1, 0, 0, 0⟩) : RTri Tryz.prog 148 #[cv, .int .i64 (k : Int)] [q] (.int .i64 0) := by
  refine RTri.of_reads fun p hp => ?_
  have h := h.weak fun b l h => RdC.of_sat hp (ReadsC.here h)
  obtain ⟨ad, cap, rfl, _, h⟩ := h
  obtain ⟨bf, o, l, l1, rfl, hrd, hdr, htk⟩ := ListR.at (f := Ins.v) (sz := 5) Ins.v_len h k hk
  rw [e] at htk
  unfold Ins.v at htk
  dsimp only at htk
  have hp := plain_a
  have hg := goes4_8
  refine Tri.of_body (vs := [_, _]) Tryz.func148 rfl rfl fun w0 F => ?_
  repeat' (first | refine Ga ?_ | (refine Gb ?_; intro b) | (refine Gd ?_; intro g cap rest hcap) | (refine Gc ?_; intro ad cap) | refine Gl hp ?_ | refine Gl hg ?_ | (refine Ge ?_ ?_ <;> (intro h; try (exfalso; omega))) | fail)
  refine St.d1 Tryz.func148 ⟨_, ⟨rfl, rfl⟩, Ent.go⟩
theorem plain_b : RTri Tryz.prog 173 #[.agg ⟨[.int .i64 8, .int .i64 2, .int .i64 0, .int .i64 0, .int .u64 1]⟩] [] (.bool true) := by
  apply RTri.of_pure
  have hr := regs3_8
  have hi := imm3_8
  refine Tri.of_body (vs := [_]) Tryz.func173 rfl rfl fun w0 F => ?_
  repeat' (first | refine Ga ?_ | (refine Gb ?_; intro b) | (refine Gd ?_; intro g cap rest hcap) | (refine Gc ?_; intro ad cap) | refine Gl hr ?_ | refine Gl hi ?_ | (refine Ge ?_ ?_ <;> (intro h; try (exfalso; omega))) | fail)
  refine St.d1 Tryz.func173 ⟨_, ⟨rfl, rfl⟩, Ent.go⟩
theorem one_b (q : HProp) (cv : Value) (code : List Ins) (h : ListR Ins.v q cv code) (k : Nat) (hk : k < code.length) (e : code[k] = ⟨8, 2, 0, 0, 1⟩) : RTri Tryz.prog 148 #[cv, .int .i64 (k : Int)] [q] (.int .i64 0) := by
  refine RTri.of_reads fun p hp => ?_
  have h := h.weak fun b l h => RdC.of_sat hp (ReadsC.here h)
  obtain ⟨ad, cap, rfl, _, h⟩ := h
  obtain ⟨bf, o, l, l1, rfl, hrd, hdr, htk⟩ := ListR.at (f := Ins.v) (sz := 5) Ins.v_len h k hk
  rw [e] at htk
  unfold Ins.v at htk
  dsimp only at htk
  have hp := plain_b
  have hg := goes4_8
  refine Tri.of_body (vs := [_, _]) Tryz.func148 rfl rfl fun w0 F => ?_
  repeat' (first | refine Ga ?_ | (refine Gb ?_; intro b) | (refine Gd ?_; intro g cap rest hcap) | (refine Gc ?_; intro ad cap) | refine Gl hp ?_ | refine Gl hg ?_ | (refine Ge ?_ ?_ <;> (intro h; try (exfalso; omega))) | fail)
  refine St.d1 Tryz.func148 ⟨_, ⟨rfl, rfl⟩, Ent.go⟩
theorem plain_c : RTri Tryz.prog 173 #[.agg ⟨[.int .i64 8, .int .i64 3, .int .i64 0, .int .i64 0, .int .u64 2]⟩] [] (.bool true) := by
  apply RTri.of_pure
  have hr := regs3_8
  have hi := imm3_8
  refine Tri.of_body (vs := [_]) Tryz.func173 rfl rfl fun w0 F => ?_
  repeat' (first | refine Ga ?_ | (refine Gb ?_; intro b) | (refine Gd ?_; intro g cap rest hcap) | (refine Gc ?_; intro ad cap) | refine Gl hr ?_ | refine Gl hi ?_ | (refine Ge ?_ ?_ <;> (intro h; try (exfalso; omega))) | fail)
  refine St.d1 Tryz.func173 ⟨_, ⟨rfl, rfl⟩, Ent.go⟩
theorem one_c (q : HProp) (cv : Value) (code : List Ins) (h : ListR Ins.v q cv code) (k : Nat) (hk : k < code.length) (e : code[k] = ⟨8, 3, 0, 0, 2⟩) : RTri Tryz.prog 148 #[cv, .int .i64 (k : Int)] [q] (.int .i64 0) := by
  refine RTri.of_reads fun p hp => ?_
  have h := h.weak fun b l h => RdC.of_sat hp (ReadsC.here h)
  obtain ⟨ad, cap, rfl, _, h⟩ := h
  obtain ⟨bf, o, l, l1, rfl, hrd, hdr, htk⟩ := ListR.at (f := Ins.v) (sz := 5) Ins.v_len h k hk
  rw [e] at htk
  unfold Ins.v at htk
  dsimp only at htk
  have hp := plain_c
  have hg := goes4_8
  refine Tri.of_body (vs := [_, _]) Tryz.func148 rfl rfl fun w0 F => ?_
  repeat' (first | refine Ga ?_ | (refine Gb ?_; intro b) | (refine Gd ?_; intro g cap rest hcap) | (refine Gc ?_; intro ad cap) | refine Gl hp ?_ | refine Gl hg ?_ | (refine Ge ?_ ?_ <;> (intro h; try (exfalso; omega))) | fail)
  refine St.d1 Tryz.func148 ⟨_, ⟨rfl, rfl⟩, Ent.go⟩
theorem plain_d : RTri Tryz.prog 173 #[.agg ⟨[.int .i64 10, .int .i64 3, .int .i64 2, .int .i64 0, .int .u64 0]⟩] [] (.bool true) := by
  apply RTri.of_pure
  have hr := regs3_10
  have hi := imm3_10
  refine Tri.of_body (vs := [_]) Tryz.func173 rfl rfl fun w0 F => ?_
  repeat' (first | refine Ga ?_ | (refine Gb ?_; intro b) | (refine Gd ?_; intro g cap rest hcap) | (refine Gc ?_; intro ad cap) | refine Gl hr ?_ | refine Gl hi ?_ | (refine Ge ?_ ?_ <;> (intro h; try (exfalso; omega))) | fail)
  refine St.d1 Tryz.func173 ⟨_, ⟨rfl, rfl⟩, Ent.go⟩
theorem one_d (q : HProp) (cv : Value) (code : List Ins) (h : ListR Ins.v q cv code) (k : Nat) (hk : k < code.length) (e : code[k] = ⟨10, 3, 2, 0, 0⟩) : RTri Tryz.prog 148 #[cv, .int .i64 (k : Int)] [q] (.int .i64 0) := by
  refine RTri.of_reads fun p hp => ?_
  have h := h.weak fun b l h => RdC.of_sat hp (ReadsC.here h)
  obtain ⟨ad, cap, rfl, _, h⟩ := h
  obtain ⟨bf, o, l, l1, rfl, hrd, hdr, htk⟩ := ListR.at (f := Ins.v) (sz := 5) Ins.v_len h k hk
  rw [e] at htk
  unfold Ins.v at htk
  dsimp only at htk
  have hp := plain_d
  have hg := goes4_10
  refine Tri.of_body (vs := [_, _]) Tryz.func148 rfl rfl fun w0 F => ?_
  repeat' (first | refine Ga ?_ | (refine Gb ?_; intro b) | (refine Gd ?_; intro g cap rest hcap) | (refine Gc ?_; intro ad cap) | refine Gl hp ?_ | refine Gl hg ?_ | (refine Ge ?_ ?_ <;> (intro h; try (exfalso; omega))) | fail)
  refine St.d1 Tryz.func148 ⟨_, ⟨rfl, rfl⟩, Ent.go⟩
theorem plain_e : RTri Tryz.prog 173 #[.agg ⟨[.int .i64 14, .int .i64 3, .int .i64 1, .int .i64 2, .int .u64 0]⟩] [] (.bool true) := by
  apply RTri.of_pure
  have hr := regs3_14
  have hi := imm3_14
  refine Tri.of_body (vs := [_]) Tryz.func173 rfl rfl fun w0 F => ?_
  repeat' (first | refine Ga ?_ | (refine Gb ?_; intro b) | (refine Gd ?_; intro g cap rest hcap) | (refine Gc ?_; intro ad cap) | refine Gl hr ?_ | refine Gl hi ?_ | (refine Ge ?_ ?_ <;> (intro h; try (exfalso; omega))) | fail)
  refine St.d1 Tryz.func173 ⟨_, ⟨rfl, rfl⟩, Ent.go⟩
theorem one_e (q : HProp) (cv : Value) (code : List Ins) (h : ListR Ins.v q cv code) (k : Nat) (hk : k < code.length) (e : code[k] = ⟨14, 3, 1, 2, 0⟩) : RTri Tryz.prog 148 #[cv, .int .i64 (k : Int)] [q] (.int .i64 0) := by
  refine RTri.of_reads fun p hp => ?_
  have h := h.weak fun b l h => RdC.of_sat hp (ReadsC.here h)
  obtain ⟨ad, cap, rfl, _, h⟩ := h
  obtain ⟨bf, o, l, l1, rfl, hrd, hdr, htk⟩ := ListR.at (f := Ins.v) (sz := 5) Ins.v_len h k hk
  rw [e] at htk
  unfold Ins.v at htk
  dsimp only at htk
  have hp := plain_e
  have hg := goes4_14
  refine Tri.of_body (vs := [_, _]) Tryz.func148 rfl rfl fun w0 F => ?_
  repeat' (first | refine Ga ?_ | (refine Gb ?_; intro b) | (refine Gd ?_; intro g cap rest hcap) | (refine Gc ?_; intro ad cap) | refine Gl hp ?_ | refine Gl hg ?_ | (refine Ge ?_ ?_ <;> (intro h; try (exfalso; omega))) | fail)
  refine St.d1 Tryz.func148 ⟨_, ⟨rfl, rfl⟩, Ent.go⟩
theorem plain_f : RTri Tryz.prog 173 #[.agg ⟨[.int .i64 20, .int .i64 1, .int .i64 0, .int .i64 0, .int .u64 0]⟩] [] (.bool true) := by
  apply RTri.of_pure
  have hr := regs3_20
  have hi := imm3_20
  refine Tri.of_body (vs := [_]) Tryz.func173 rfl rfl fun w0 F => ?_
  repeat' (first | refine Ga ?_ | (refine Gb ?_; intro b) | (refine Gd ?_; intro g cap rest hcap) | (refine Gc ?_; intro ad cap) | refine Gl hr ?_ | refine Gl hi ?_ | (refine Ge ?_ ?_ <;> (intro h; try (exfalso; omega))) | fail)
  refine St.d1 Tryz.func173 ⟨_, ⟨rfl, rfl⟩, Ent.go⟩
theorem one_f (q : HProp) (cv : Value) (code : List Ins) (h : ListR Ins.v q cv code) (k : Nat) (hk : k < code.length) (e : code[k] = ⟨20, 1, 0, 0, 0⟩) : RTri Tryz.prog 148 #[cv, .int .i64 (k : Int)] [q] (.int .i64 0) := by
  refine RTri.of_reads fun p hp => ?_
  have h := h.weak fun b l h => RdC.of_sat hp (ReadsC.here h)
  obtain ⟨ad, cap, rfl, _, h⟩ := h
  obtain ⟨bf, o, l, l1, rfl, hrd, hdr, htk⟩ := ListR.at (f := Ins.v) (sz := 5) Ins.v_len h k hk
  rw [e] at htk
  unfold Ins.v at htk
  dsimp only at htk
  have hp := plain_f
  have hg := goes4_20
  refine Tri.of_body (vs := [_, _]) Tryz.func148 rfl rfl fun w0 F => ?_
  repeat' (first | refine Ga ?_ | (refine Gb ?_; intro b) | (refine Gd ?_; intro g cap rest hcap) | (refine Gc ?_; intro ad cap) | refine Gl hp ?_ | refine Gl hg ?_ | (refine Ge ?_ ?_ <;> (intro h; try (exfalso; omega))) | fail)
  refine St.d1 Tryz.func148 ⟨_, ⟨rfl, rfl⟩, Ent.go⟩
theorem plain_g : RTri Tryz.prog 173 #[.agg ⟨[.int .i64 15, .int .i64 1, .int .i64 0, .int .i64 0, .int .u64 0]⟩] [] (.bool true) := by
  apply RTri.of_pure
  have hr := regs3_15
  have hi := imm3_15
  refine Tri.of_body (vs := [_]) Tryz.func173 rfl rfl fun w0 F => ?_
  repeat' (first | refine Ga ?_ | (refine Gb ?_; intro b) | (refine Gd ?_; intro g cap rest hcap) | (refine Gc ?_; intro ad cap) | refine Gl hr ?_ | refine Gl hi ?_ | (refine Ge ?_ ?_ <;> (intro h; try (exfalso; omega))) | fail)
  refine St.d1 Tryz.func173 ⟨_, ⟨rfl, rfl⟩, Ent.go⟩
theorem one_g (q : HProp) (cv : Value) (code : List Ins) (h : ListR Ins.v q cv code) (k : Nat) (hk : k < code.length) (e : code[k] = ⟨15, 1, 0, 0, 0⟩) : RTri Tryz.prog 148 #[cv, .int .i64 (k : Int)] [q] (.int .i64 0) := by
  refine RTri.of_reads fun p hp => ?_
  have h := h.weak fun b l h => RdC.of_sat hp (ReadsC.here h)
  obtain ⟨ad, cap, rfl, _, h⟩ := h
  obtain ⟨bf, o, l, l1, rfl, hrd, hdr, htk⟩ := ListR.at (f := Ins.v) (sz := 5) Ins.v_len h k hk
  rw [e] at htk
  unfold Ins.v at htk
  dsimp only at htk
  have hp := plain_g
  have hg := goes4_15
  refine Tri.of_body (vs := [_, _]) Tryz.func148 rfl rfl fun w0 F => ?_
  repeat' (first | refine Ga ?_ | (refine Gb ?_; intro b) | (refine Gd ?_; intro g cap rest hcap) | (refine Gc ?_; intro ad cap) | refine Gl hp ?_ | refine Gl hg ?_ | (refine Ge ?_ ?_ <;> (intro h; try (exfalso; omega))) | fail)
  refine St.d1 Tryz.func148 ⟨_, ⟨rfl, rfl⟩, Ent.go⟩
theorem fault5_r (q : HProp) (cv : Value) (code : List Ins) (h : ListR Ins.v q cv code) (hl : 0 < code.length) (hm : code.length ≤ 256) (h1 : ∀ k, k < code.length → RTri Tryz.prog 148 #[cv, .int .i64 (k : Int)] [q] (.int .i64 0)) (j : Ins) (hj : code[code.length - 1]'(by omega) = j) (ho : j.op = 20) : RTri Tryz.prog 115 #[cv] [q] (.tuple ⟨[.int .i64 0, .int .i64 0]⟩) := by
  refine RTri.of_reads fun p hp => ?_
  have h := h.weak fun b l h => RdC.of_sat hp (ReadsC.here h)
  have h1 := fun k hk => (h1 k hk).of_read hp
  obtain ⟨ad, cap, rfl, _, h⟩ := h
  obtain ⟨bf, o, l, l1, rfl, hrd, hdr, htk⟩ := ListR.at (f := Ins.v) (sz := 5) Ins.v_len h (code.length - 1) (by omega)
  rw [hj] at htk
  unfold Ins.v at htk
  rw [ho] at htk
  rw [show (((code.length - 1 : Nat) : Int)).toNat = ((code.length : Int) - 1).toNat by omega] at hdr
  have hnth : NthN (o + ((code.length : Int) - 1).toNat * 5) l (.int .i64 20) := NthN.part (j := 0) hdr htk (NthN.of rfl)
  refine Tri.of_body (vs := [_]) Tryz.func115 rfl rfl fun w0 F => ?_
  repeat' (first | refine Ga ?_ | (refine Gb ?_; intro b) | (refine Gd ?_; intro g cap rest hcap) | (refine Gc ?_; intro ad cap)  | (refine Ge ?_ ?_ <;> (intro h; try (exfalso; omega))) | fail)
  all_goals first | (exfalso; omega) | skip
  refine St.loopY (Lr := ?Lr1) (ι := { x : Nat // x ≤ code.length }) (fun x => code.length - x.1) (fun x => [(4, .int .i64 (x.1 : Int))]) (fun _ => []) ⟨0, Nat.zero_le _⟩ ?hE1 ?hL1 ?round1
  case hE1 => exact Sub.go
  case hL1 => exact Takes.go
  case round1 =>
    rintro ⟨k, hk⟩ IH; dsimp only at hk IH ⊢
    by_cases hlt : k < code.length
    · have h1 := h1 k hlt
      repeat' (first | refine Ga ?_ | (refine Gb ?_; intro b) | (refine Gd ?_; intro g cap rest hcap) | (refine Gc ?_; intro ad cap) | refine Gl h1 ?_ | (refine Ge ?_ ?_ <;> (intro h; try (exfalso; omega))) | fail)
      all_goals first | (exfalso; omega) | skip
      refine IH ⟨k + 1, hlt⟩ (by show code.length - (k + 1) < code.length - k; omega) ?_ ?_
      · exact Sub.go
      · exact Ent.go
    · obtain rfl : k = code.length := by omega
      clear IH
      repeat' (first | refine Ga ?_ | (refine Gb ?_; intro b) | (refine Gd ?_; intro g cap rest hcap) | (refine Gc ?_; intro ad cap)  | (refine Ge ?_ ?_ <;> (intro h; try (exfalso; omega))) | fail)
      all_goals first | (exfalso; omega) | skip
      refine St.d1 Tryz.func115 ⟨_, ⟨rfl, rfl⟩, Ent.go⟩
theorem right5_r (q : HProp) (cv : Value) (hf : RTri Tryz.prog 115 #[cv] [q] (.tuple ⟨[.int .i64 0, .int .i64 0]⟩)) : RTri Tryz.prog 79 #[cv] [q] (.bool true) := by
  refine RTri.of_reads fun p hp => ?_
  have hf := hf.of_read hp
  refine Tri.of_body (vs := [_]) Tryz.func79 rfl rfl fun w0 F => ?_
  repeat' (first | refine Ga ?_ | (refine Gb ?_; intro b) | (refine Gd ?_; intro g cap rest hcap) | (refine Gc ?_; intro ad cap) | refine Gl hf ?_ | (refine Ge ?_ ?_ <;> (intro h; try (exfalso; omega))) | fail)
  refine St.d1 Tryz.func79 ⟨_, ⟨rfl, rfl⟩, Ent.go⟩
end Go.Proofs.YtphheopbngdhhaaGreatDoor
