/-
  Package asm: strconv.Itoa of the registers' numbers.
-/
import Derived.Test.YtphheopbngdhhaaGreatDoorGd
import Derived.Test.YtphheopbngdhhaaGreatDoorInsc
namespace Go.Proofs.YtphheopbngdhhaaGreatDoor
set_option maxRecDepth 100000
def itoaL (n : Nat) : List UInt8 := if n < 10 then [(48 + n).toUInt8] else [49, (38 + n).toUInt8]
theorem itoa_0 : RTri Tryz.prog 178 #[.int .i64 0] [] (bs (itoaL 0)) := by
  have h1 : RTri Tryz.prog 191 #[.int .i64 0] [] (bs (itoaL 0)) := by
    apply RTri.of_pure
    refine Tri.of_body (vs := [_]) Tryz.func191 rfl rfl fun w0 F => ?_
    repeat' (first | refine Ga ?_ | (refine Gb ?_; intro b) | (refine Gd ?_; intro g cap rest hcap) | (refine Gc ?_; intro ad cap)  | (refine Ge ?_ ?_ <;> (intro h; try (exfalso; omega))) | fail)
    (first | refine St.dn Tryz.func191 ⟨?_, rfl⟩ Ent.go | refine St.fl Tryz.func191 ⟨?_, rfl⟩ Ent.go)
    rfl
  have h2 : RTri Tryz.prog 189 #[.int .i64 0, .int .i64 10] [] (bs (itoaL 0)) := by
    apply RTri.of_pure
    refine Tri.of_body (vs := [_, _]) Tryz.func189 rfl rfl fun w0 F => ?_
    repeat' (first | refine Ga ?_ | (refine Gb ?_; intro b) | (refine Gd ?_; intro g cap rest hcap) | (refine Gc ?_; intro ad cap) | refine Gl h1 ?_ | (refine Ge ?_ ?_ <;> (intro h; try (exfalso; omega))) | fail)
    (first | refine St.dn Tryz.func189 ⟨?_, rfl⟩ Ent.go | refine St.fl Tryz.func189 ⟨?_, rfl⟩ Ent.go)
    rfl
  have h3 : RTri Tryz.prog 187 #[.int .i64 0] [] (bs (itoaL 0)) := by
    apply RTri.of_pure
    refine Tri.of_body (vs := [_]) Tryz.func187 rfl rfl fun w0 F => ?_
    repeat' (first | refine Ga ?_ | (refine Gb ?_; intro b) | (refine Gd ?_; intro g cap rest hcap) | (refine Gc ?_; intro ad cap) | refine Gl h2 ?_ | (refine Ge ?_ ?_ <;> (intro h; try (exfalso; omega))) | fail)
    (first | refine St.dn Tryz.func187 ⟨?_, rfl⟩ Ent.go | refine St.fl Tryz.func187 ⟨?_, rfl⟩ Ent.go)
    rfl
  apply RTri.of_pure
  refine Tri.of_body (vs := [_]) Tryz.func178 rfl rfl fun w0 F => ?_
  repeat' (first | refine Ga ?_ | (refine Gb ?_; intro b) | (refine Gd ?_; intro g cap rest hcap) | (refine Gc ?_; intro ad cap) | refine Gl h3 ?_ | (refine Ge ?_ ?_ <;> (intro h; try (exfalso; omega))) | fail)
  (first | refine St.dn Tryz.func178 ⟨?_, rfl⟩ Ent.go | refine St.fl Tryz.func178 ⟨?_, rfl⟩ Ent.go)
  rfl
theorem itoa_1 : RTri Tryz.prog 178 #[.int .i64 1] [] (bs (itoaL 1)) := by
  have h1 : RTri Tryz.prog 191 #[.int .i64 1] [] (bs (itoaL 1)) := by
    apply RTri.of_pure
    refine Tri.of_body (vs := [_]) Tryz.func191 rfl rfl fun w0 F => ?_
    repeat' (first | refine Ga ?_ | (refine Gb ?_; intro b) | (refine Gd ?_; intro g cap rest hcap) | (refine Gc ?_; intro ad cap)  | (refine Ge ?_ ?_ <;> (intro h; try (exfalso; omega))) | fail)
    (first | refine St.dn Tryz.func191 ⟨?_, rfl⟩ Ent.go | refine St.fl Tryz.func191 ⟨?_, rfl⟩ Ent.go)
    rfl
  have h2 : RTri Tryz.prog 189 #[.int .i64 1, .int .i64 10] [] (bs (itoaL 1)) := by
    apply RTri.of_pure
    refine Tri.of_body (vs := [_, _]) Tryz.func189 rfl rfl fun w0 F => ?_
    repeat' (first | refine Ga ?_ | (refine Gb ?_; intro b) | (refine Gd ?_; intro g cap rest hcap) | (refine Gc ?_; intro ad cap) | refine Gl h1 ?_ | (refine Ge ?_ ?_ <;> (intro h; try (exfalso; omega))) | fail)
    (first | refine St.dn Tryz.func189 ⟨?_, rfl⟩ Ent.go | refine St.fl Tryz.func189 ⟨?_, rfl⟩ Ent.go)
    rfl
  have h3 : RTri Tryz.prog 187 #[.int .i64 1] [] (bs (itoaL 1)) := by
    apply RTri.of_pure
    refine Tri.of_body (vs := [_]) Tryz.func187 rfl rfl fun w0 F => ?_
    repeat' (first | refine Ga ?_ | (refine Gb ?_; intro b) | (refine Gd ?_; intro g cap rest hcap) | (refine Gc ?_; intro ad cap) | refine Gl h2 ?_ | (refine Ge ?_ ?_ <;> (intro h; try (exfalso; omega))) | fail)
    (first | refine St.dn Tryz.func187 ⟨?_, rfl⟩ Ent.go | refine St.fl Tryz.func187 ⟨?_, rfl⟩ Ent.go)
    rfl
  apply RTri.of_pure
  refine Tri.of_body (vs := [_]) Tryz.func178 rfl rfl fun w0 F => ?_
  repeat' (first | refine Ga ?_ | (refine Gb ?_; intro b) | (refine Gd ?_; intro g cap rest hcap) | (refine Gc ?_; intro ad cap) | refine Gl h3 ?_ | (refine Ge ?_ ?_ <;> (intro h; try (exfalso; omega))) | fail)
  (first | refine St.dn Tryz.func178 ⟨?_, rfl⟩ Ent.go | refine St.fl Tryz.func178 ⟨?_, rfl⟩ Ent.go)
  rfl
theorem itoa_2 : RTri Tryz.prog 178 #[.int .i64 2] [] (bs (itoaL 2)) := by
  have h1 : RTri Tryz.prog 191 #[.int .i64 2] [] (bs (itoaL 2)) := by
    apply RTri.of_pure
    refine Tri.of_body (vs := [_]) Tryz.func191 rfl rfl fun w0 F => ?_
    repeat' (first | refine Ga ?_ | (refine Gb ?_; intro b) | (refine Gd ?_; intro g cap rest hcap) | (refine Gc ?_; intro ad cap)  | (refine Ge ?_ ?_ <;> (intro h; try (exfalso; omega))) | fail)
    (first | refine St.dn Tryz.func191 ⟨?_, rfl⟩ Ent.go | refine St.fl Tryz.func191 ⟨?_, rfl⟩ Ent.go)
    rfl
  have h2 : RTri Tryz.prog 189 #[.int .i64 2, .int .i64 10] [] (bs (itoaL 2)) := by
    apply RTri.of_pure
    refine Tri.of_body (vs := [_, _]) Tryz.func189 rfl rfl fun w0 F => ?_
    repeat' (first | refine Ga ?_ | (refine Gb ?_; intro b) | (refine Gd ?_; intro g cap rest hcap) | (refine Gc ?_; intro ad cap) | refine Gl h1 ?_ | (refine Ge ?_ ?_ <;> (intro h; try (exfalso; omega))) | fail)
    (first | refine St.dn Tryz.func189 ⟨?_, rfl⟩ Ent.go | refine St.fl Tryz.func189 ⟨?_, rfl⟩ Ent.go)
    rfl
  have h3 : RTri Tryz.prog 187 #[.int .i64 2] [] (bs (itoaL 2)) := by
    apply RTri.of_pure
    refine Tri.of_body (vs := [_]) Tryz.func187 rfl rfl fun w0 F => ?_
    repeat' (first | refine Ga ?_ | (refine Gb ?_; intro b) | (refine Gd ?_; intro g cap rest hcap) | (refine Gc ?_; intro ad cap) | refine Gl h2 ?_ | (refine Ge ?_ ?_ <;> (intro h; try (exfalso; omega))) | fail)
    (first | refine St.dn Tryz.func187 ⟨?_, rfl⟩ Ent.go | refine St.fl Tryz.func187 ⟨?_, rfl⟩ Ent.go)
    rfl
  apply RTri.of_pure
  refine Tri.of_body (vs := [_]) Tryz.func178 rfl rfl fun w0 F => ?_
  repeat' (first | refine Ga ?_ | (refine Gb ?_; intro b) | (refine Gd ?_; intro g cap rest hcap) | (refine Gc ?_; intro ad cap) | refine Gl h3 ?_ | (refine Ge ?_ ?_ <;> (intro h; try (exfalso; omega))) | fail)
  (first | refine St.dn Tryz.func178 ⟨?_, rfl⟩ Ent.go | refine St.fl Tryz.func178 ⟨?_, rfl⟩ Ent.go)
  rfl
theorem itoa_3 : RTri Tryz.prog 178 #[.int .i64 3] [] (bs (itoaL 3)) := by
  have h1 : RTri Tryz.prog 191 #[.int .i64 3] [] (bs (itoaL 3)) := by
    apply RTri.of_pure
    refine Tri.of_body (vs := [_]) Tryz.func191 rfl rfl fun w0 F => ?_
    repeat' (first | refine Ga ?_ | (refine Gb ?_; intro b) | (refine Gd ?_; intro g cap rest hcap) | (refine Gc ?_; intro ad cap)  | (refine Ge ?_ ?_ <;> (intro h; try (exfalso; omega))) | fail)
    (first | refine St.dn Tryz.func191 ⟨?_, rfl⟩ Ent.go | refine St.fl Tryz.func191 ⟨?_, rfl⟩ Ent.go)
    rfl
  have h2 : RTri Tryz.prog 189 #[.int .i64 3, .int .i64 10] [] (bs (itoaL 3)) := by
    apply RTri.of_pure
    refine Tri.of_body (vs := [_, _]) Tryz.func189 rfl rfl fun w0 F => ?_
    repeat' (first | refine Ga ?_ | (refine Gb ?_; intro b) | (refine Gd ?_; intro g cap rest hcap) | (refine Gc ?_; intro ad cap) | refine Gl h1 ?_ | (refine Ge ?_ ?_ <;> (intro h; try (exfalso; omega))) | fail)
    (first | refine St.dn Tryz.func189 ⟨?_, rfl⟩ Ent.go | refine St.fl Tryz.func189 ⟨?_, rfl⟩ Ent.go)
    rfl
  have h3 : RTri Tryz.prog 187 #[.int .i64 3] [] (bs (itoaL 3)) := by
    apply RTri.of_pure
    refine Tri.of_body (vs := [_]) Tryz.func187 rfl rfl fun w0 F => ?_
    repeat' (first | refine Ga ?_ | (refine Gb ?_; intro b) | (refine Gd ?_; intro g cap rest hcap) | (refine Gc ?_; intro ad cap) | refine Gl h2 ?_ | (refine Ge ?_ ?_ <;> (intro h; try (exfalso; omega))) | fail)
    (first | refine St.dn Tryz.func187 ⟨?_, rfl⟩ Ent.go | refine St.fl Tryz.func187 ⟨?_, rfl⟩ Ent.go)
    rfl
  apply RTri.of_pure
  refine Tri.of_body (vs := [_]) Tryz.func178 rfl rfl fun w0 F => ?_
  repeat' (first | refine Ga ?_ | (refine Gb ?_; intro b) | (refine Gd ?_; intro g cap rest hcap) | (refine Gc ?_; intro ad cap) | refine Gl h3 ?_ | (refine Ge ?_ ?_ <;> (intro h; try (exfalso; omega))) | fail)
  (first | refine St.dn Tryz.func178 ⟨?_, rfl⟩ Ent.go | refine St.fl Tryz.func178 ⟨?_, rfl⟩ Ent.go)
  rfl
theorem itoa_4 : RTri Tryz.prog 178 #[.int .i64 4] [] (bs (itoaL 4)) := by
  have h1 : RTri Tryz.prog 191 #[.int .i64 4] [] (bs (itoaL 4)) := by
    apply RTri.of_pure
    refine Tri.of_body (vs := [_]) Tryz.func191 rfl rfl fun w0 F => ?_
    repeat' (first | refine Ga ?_ | (refine Gb ?_; intro b) | (refine Gd ?_; intro g cap rest hcap) | (refine Gc ?_; intro ad cap)  | (refine Ge ?_ ?_ <;> (intro h; try (exfalso; omega))) | fail)
    (first | refine St.dn Tryz.func191 ⟨?_, rfl⟩ Ent.go | refine St.fl Tryz.func191 ⟨?_, rfl⟩ Ent.go)
    rfl
  have h2 : RTri Tryz.prog 189 #[.int .i64 4, .int .i64 10] [] (bs (itoaL 4)) := by
    apply RTri.of_pure
    refine Tri.of_body (vs := [_, _]) Tryz.func189 rfl rfl fun w0 F => ?_
    repeat' (first | refine Ga ?_ | (refine Gb ?_; intro b) | (refine Gd ?_; intro g cap rest hcap) | (refine Gc ?_; intro ad cap) | refine Gl h1 ?_ | (refine Ge ?_ ?_ <;> (intro h; try (exfalso; omega))) | fail)
    (first | refine St.dn Tryz.func189 ⟨?_, rfl⟩ Ent.go | refine St.fl Tryz.func189 ⟨?_, rfl⟩ Ent.go)
    rfl
  have h3 : RTri Tryz.prog 187 #[.int .i64 4] [] (bs (itoaL 4)) := by
    apply RTri.of_pure
    refine Tri.of_body (vs := [_]) Tryz.func187 rfl rfl fun w0 F => ?_
    repeat' (first | refine Ga ?_ | (refine Gb ?_; intro b) | (refine Gd ?_; intro g cap rest hcap) | (refine Gc ?_; intro ad cap) | refine Gl h2 ?_ | (refine Ge ?_ ?_ <;> (intro h; try (exfalso; omega))) | fail)
    (first | refine St.dn Tryz.func187 ⟨?_, rfl⟩ Ent.go | refine St.fl Tryz.func187 ⟨?_, rfl⟩ Ent.go)
    rfl
  apply RTri.of_pure
  refine Tri.of_body (vs := [_]) Tryz.func178 rfl rfl fun w0 F => ?_
  repeat' (first | refine Ga ?_ | (refine Gb ?_; intro b) | (refine Gd ?_; intro g cap rest hcap) | (refine Gc ?_; intro ad cap) | refine Gl h3 ?_ | (refine Ge ?_ ?_ <;> (intro h; try (exfalso; omega))) | fail)
  (first | refine St.dn Tryz.func178 ⟨?_, rfl⟩ Ent.go | refine St.fl Tryz.func178 ⟨?_, rfl⟩ Ent.go)
  rfl
theorem itoa_5 : RTri Tryz.prog 178 #[.int .i64 5] [] (bs (itoaL 5)) := by
  have h1 : RTri Tryz.prog 191 #[.int .i64 5] [] (bs (itoaL 5)) := by
    apply RTri.of_pure
    refine Tri.of_body (vs := [_]) Tryz.func191 rfl rfl fun w0 F => ?_
    repeat' (first | refine Ga ?_ | (refine Gb ?_; intro b) | (refine Gd ?_; intro g cap rest hcap) | (refine Gc ?_; intro ad cap)  | (refine Ge ?_ ?_ <;> (intro h; try (exfalso; omega))) | fail)
    (first | refine St.dn Tryz.func191 ⟨?_, rfl⟩ Ent.go | refine St.fl Tryz.func191 ⟨?_, rfl⟩ Ent.go)
    rfl
  have h2 : RTri Tryz.prog 189 #[.int .i64 5, .int .i64 10] [] (bs (itoaL 5)) := by
    apply RTri.of_pure
    refine Tri.of_body (vs := [_, _]) Tryz.func189 rfl rfl fun w0 F => ?_
    repeat' (first | refine Ga ?_ | (refine Gb ?_; intro b) | (refine Gd ?_; intro g cap rest hcap) | (refine Gc ?_; intro ad cap) | refine Gl h1 ?_ | (refine Ge ?_ ?_ <;> (intro h; try (exfalso; omega))) | fail)
    (first | refine St.dn Tryz.func189 ⟨?_, rfl⟩ Ent.go | refine St.fl Tryz.func189 ⟨?_, rfl⟩ Ent.go)
    rfl
  have h3 : RTri Tryz.prog 187 #[.int .i64 5] [] (bs (itoaL 5)) := by
    apply RTri.of_pure
    refine Tri.of_body (vs := [_]) Tryz.func187 rfl rfl fun w0 F => ?_
    repeat' (first | refine Ga ?_ | (refine Gb ?_; intro b) | (refine Gd ?_; intro g cap rest hcap) | (refine Gc ?_; intro ad cap) | refine Gl h2 ?_ | (refine Ge ?_ ?_ <;> (intro h; try (exfalso; omega))) | fail)
    (first | refine St.dn Tryz.func187 ⟨?_, rfl⟩ Ent.go | refine St.fl Tryz.func187 ⟨?_, rfl⟩ Ent.go)
    rfl
  apply RTri.of_pure
  refine Tri.of_body (vs := [_]) Tryz.func178 rfl rfl fun w0 F => ?_
  repeat' (first | refine Ga ?_ | (refine Gb ?_; intro b) | (refine Gd ?_; intro g cap rest hcap) | (refine Gc ?_; intro ad cap) | refine Gl h3 ?_ | (refine Ge ?_ ?_ <;> (intro h; try (exfalso; omega))) | fail)
  (first | refine St.dn Tryz.func178 ⟨?_, rfl⟩ Ent.go | refine St.fl Tryz.func178 ⟨?_, rfl⟩ Ent.go)
  rfl
theorem itoa_6 : RTri Tryz.prog 178 #[.int .i64 6] [] (bs (itoaL 6)) := by
  have h1 : RTri Tryz.prog 191 #[.int .i64 6] [] (bs (itoaL 6)) := by
    apply RTri.of_pure
    refine Tri.of_body (vs := [_]) Tryz.func191 rfl rfl fun w0 F => ?_
    repeat' (first | refine Ga ?_ | (refine Gb ?_; intro b) | (refine Gd ?_; intro g cap rest hcap) | (refine Gc ?_; intro ad cap)  | (refine Ge ?_ ?_ <;> (intro h; try (exfalso; omega))) | fail)
    (first | refine St.dn Tryz.func191 ⟨?_, rfl⟩ Ent.go | refine St.fl Tryz.func191 ⟨?_, rfl⟩ Ent.go)
    rfl
  have h2 : RTri Tryz.prog 189 #[.int .i64 6, .int .i64 10] [] (bs (itoaL 6)) := by
    apply RTri.of_pure
    refine Tri.of_body (vs := [_, _]) Tryz.func189 rfl rfl fun w0 F => ?_
    repeat' (first | refine Ga ?_ | (refine Gb ?_; intro b) | (refine Gd ?_; intro g cap rest hcap) | (refine Gc ?_; intro ad cap) | refine Gl h1 ?_ | (refine Ge ?_ ?_ <;> (intro h; try (exfalso; omega))) | fail)
    (first | refine St.dn Tryz.func189 ⟨?_, rfl⟩ Ent.go | refine St.fl Tryz.func189 ⟨?_, rfl⟩ Ent.go)
    rfl
  have h3 : RTri Tryz.prog 187 #[.int .i64 6] [] (bs (itoaL 6)) := by
    apply RTri.of_pure
    refine Tri.of_body (vs := [_]) Tryz.func187 rfl rfl fun w0 F => ?_
    repeat' (first | refine Ga ?_ | (refine Gb ?_; intro b) | (refine Gd ?_; intro g cap rest hcap) | (refine Gc ?_; intro ad cap) | refine Gl h2 ?_ | (refine Ge ?_ ?_ <;> (intro h; try (exfalso; omega))) | fail)
    (first | refine St.dn Tryz.func187 ⟨?_, rfl⟩ Ent.go | refine St.fl Tryz.func187 ⟨?_, rfl⟩ Ent.go)
    rfl
  apply RTri.of_pure
  refine Tri.of_body (vs := [_]) Tryz.func178 rfl rfl fun w0 F => ?_
  repeat' (first | refine Ga ?_ | (refine Gb ?_; intro b) | (refine Gd ?_; intro g cap rest hcap) | (refine Gc ?_; intro ad cap) | refine Gl h3 ?_ | (refine Ge ?_ ?_ <;> (intro h; try (exfalso; omega))) | fail)
  (first | refine St.dn Tryz.func178 ⟨?_, rfl⟩ Ent.go | refine St.fl Tryz.func178 ⟨?_, rfl⟩ Ent.go)
  rfl
theorem itoa_7 : RTri Tryz.prog 178 #[.int .i64 7] [] (bs (itoaL 7)) := by
  have h1 : RTri Tryz.prog 191 #[.int .i64 7] [] (bs (itoaL 7)) := by
    apply RTri.of_pure
    refine Tri.of_body (vs := [_]) Tryz.func191 rfl rfl fun w0 F => ?_
    repeat' (first | refine Ga ?_ | (refine Gb ?_; intro b) | (refine Gd ?_; intro g cap rest hcap) | (refine Gc ?_; intro ad cap)  | (refine Ge ?_ ?_ <;> (intro h; try (exfalso; omega))) | fail)
    (first | refine St.dn Tryz.func191 ⟨?_, rfl⟩ Ent.go | refine St.fl Tryz.func191 ⟨?_, rfl⟩ Ent.go)
    rfl
  have h2 : RTri Tryz.prog 189 #[.int .i64 7, .int .i64 10] [] (bs (itoaL 7)) := by
    apply RTri.of_pure
    refine Tri.of_body (vs := [_, _]) Tryz.func189 rfl rfl fun w0 F => ?_
    repeat' (first | refine Ga ?_ | (refine Gb ?_; intro b) | (refine Gd ?_; intro g cap rest hcap) | (refine Gc ?_; intro ad cap) | refine Gl h1 ?_ | (refine Ge ?_ ?_ <;> (intro h; try (exfalso; omega))) | fail)
    (first | refine St.dn Tryz.func189 ⟨?_, rfl⟩ Ent.go | refine St.fl Tryz.func189 ⟨?_, rfl⟩ Ent.go)
    rfl
  have h3 : RTri Tryz.prog 187 #[.int .i64 7] [] (bs (itoaL 7)) := by
    apply RTri.of_pure
    refine Tri.of_body (vs := [_]) Tryz.func187 rfl rfl fun w0 F => ?_
    repeat' (first | refine Ga ?_ | (refine Gb ?_; intro b) | (refine Gd ?_; intro g cap rest hcap) | (refine Gc ?_; intro ad cap) | refine Gl h2 ?_ | (refine Ge ?_ ?_ <;> (intro h; try (exfalso; omega))) | fail)
    (first | refine St.dn Tryz.func187 ⟨?_, rfl⟩ Ent.go | refine St.fl Tryz.func187 ⟨?_, rfl⟩ Ent.go)
    rfl
  apply RTri.of_pure
  refine Tri.of_body (vs := [_]) Tryz.func178 rfl rfl fun w0 F => ?_
  repeat' (first | refine Ga ?_ | (refine Gb ?_; intro b) | (refine Gd ?_; intro g cap rest hcap) | (refine Gc ?_; intro ad cap) | refine Gl h3 ?_ | (refine Ge ?_ ?_ <;> (intro h; try (exfalso; omega))) | fail)
  (first | refine St.dn Tryz.func178 ⟨?_, rfl⟩ Ent.go | refine St.fl Tryz.func178 ⟨?_, rfl⟩ Ent.go)
  rfl
theorem itoa_8 : RTri Tryz.prog 178 #[.int .i64 8] [] (bs (itoaL 8)) := by
  have h1 : RTri Tryz.prog 191 #[.int .i64 8] [] (bs (itoaL 8)) := by
    apply RTri.of_pure
    refine Tri.of_body (vs := [_]) Tryz.func191 rfl rfl fun w0 F => ?_
    repeat' (first | refine Ga ?_ | (refine Gb ?_; intro b) | (refine Gd ?_; intro g cap rest hcap) | (refine Gc ?_; intro ad cap)  | (refine Ge ?_ ?_ <;> (intro h; try (exfalso; omega))) | fail)
    (first | refine St.dn Tryz.func191 ⟨?_, rfl⟩ Ent.go | refine St.fl Tryz.func191 ⟨?_, rfl⟩ Ent.go)
    rfl
  have h2 : RTri Tryz.prog 189 #[.int .i64 8, .int .i64 10] [] (bs (itoaL 8)) := by
    apply RTri.of_pure
    refine Tri.of_body (vs := [_, _]) Tryz.func189 rfl rfl fun w0 F => ?_
    repeat' (first | refine Ga ?_ | (refine Gb ?_; intro b) | (refine Gd ?_; intro g cap rest hcap) | (refine Gc ?_; intro ad cap) | refine Gl h1 ?_ | (refine Ge ?_ ?_ <;> (intro h; try (exfalso; omega))) | fail)
    (first | refine St.dn Tryz.func189 ⟨?_, rfl⟩ Ent.go | refine St.fl Tryz.func189 ⟨?_, rfl⟩ Ent.go)
    rfl
  have h3 : RTri Tryz.prog 187 #[.int .i64 8] [] (bs (itoaL 8)) := by
    apply RTri.of_pure
    refine Tri.of_body (vs := [_]) Tryz.func187 rfl rfl fun w0 F => ?_
    repeat' (first | refine Ga ?_ | (refine Gb ?_; intro b) | (refine Gd ?_; intro g cap rest hcap) | (refine Gc ?_; intro ad cap) | refine Gl h2 ?_ | (refine Ge ?_ ?_ <;> (intro h; try (exfalso; omega))) | fail)
    (first | refine St.dn Tryz.func187 ⟨?_, rfl⟩ Ent.go | refine St.fl Tryz.func187 ⟨?_, rfl⟩ Ent.go)
    rfl
  apply RTri.of_pure
  refine Tri.of_body (vs := [_]) Tryz.func178 rfl rfl fun w0 F => ?_
  repeat' (first | refine Ga ?_ | (refine Gb ?_; intro b) | (refine Gd ?_; intro g cap rest hcap) | (refine Gc ?_; intro ad cap) | refine Gl h3 ?_ | (refine Ge ?_ ?_ <;> (intro h; try (exfalso; omega))) | fail)
  (first | refine St.dn Tryz.func178 ⟨?_, rfl⟩ Ent.go | refine St.fl Tryz.func178 ⟨?_, rfl⟩ Ent.go)
  rfl
theorem itoa_9 : RTri Tryz.prog 178 #[.int .i64 9] [] (bs (itoaL 9)) := by
  have h1 : RTri Tryz.prog 191 #[.int .i64 9] [] (bs (itoaL 9)) := by
    apply RTri.of_pure
    refine Tri.of_body (vs := [_]) Tryz.func191 rfl rfl fun w0 F => ?_
    repeat' (first | refine Ga ?_ | (refine Gb ?_; intro b) | (refine Gd ?_; intro g cap rest hcap) | (refine Gc ?_; intro ad cap)  | (refine Ge ?_ ?_ <;> (intro h; try (exfalso; omega))) | fail)
    (first | refine St.dn Tryz.func191 ⟨?_, rfl⟩ Ent.go | refine St.fl Tryz.func191 ⟨?_, rfl⟩ Ent.go)
    rfl
  have h2 : RTri Tryz.prog 189 #[.int .i64 9, .int .i64 10] [] (bs (itoaL 9)) := by
    apply RTri.of_pure
    refine Tri.of_body (vs := [_, _]) Tryz.func189 rfl rfl fun w0 F => ?_
    repeat' (first | refine Ga ?_ | (refine Gb ?_; intro b) | (refine Gd ?_; intro g cap rest hcap) | (refine Gc ?_; intro ad cap) | refine Gl h1 ?_ | (refine Ge ?_ ?_ <;> (intro h; try (exfalso; omega))) | fail)
    (first | refine St.dn Tryz.func189 ⟨?_, rfl⟩ Ent.go | refine St.fl Tryz.func189 ⟨?_, rfl⟩ Ent.go)
    rfl
  have h3 : RTri Tryz.prog 187 #[.int .i64 9] [] (bs (itoaL 9)) := by
    apply RTri.of_pure
    refine Tri.of_body (vs := [_]) Tryz.func187 rfl rfl fun w0 F => ?_
    repeat' (first | refine Ga ?_ | (refine Gb ?_; intro b) | (refine Gd ?_; intro g cap rest hcap) | (refine Gc ?_; intro ad cap) | refine Gl h2 ?_ | (refine Ge ?_ ?_ <;> (intro h; try (exfalso; omega))) | fail)
    (first | refine St.dn Tryz.func187 ⟨?_, rfl⟩ Ent.go | refine St.fl Tryz.func187 ⟨?_, rfl⟩ Ent.go)
    rfl
  apply RTri.of_pure
  refine Tri.of_body (vs := [_]) Tryz.func178 rfl rfl fun w0 F => ?_
  repeat' (first | refine Ga ?_ | (refine Gb ?_; intro b) | (refine Gd ?_; intro g cap rest hcap) | (refine Gc ?_; intro ad cap) | refine Gl h3 ?_ | (refine Ge ?_ ?_ <;> (intro h; try (exfalso; omega))) | fail)
  (first | refine St.dn Tryz.func178 ⟨?_, rfl⟩ Ent.go | refine St.fl Tryz.func178 ⟨?_, rfl⟩ Ent.go)
  rfl
theorem itoa_10 : RTri Tryz.prog 178 #[.int .i64 10] [] (bs (itoaL 10)) := by
  have h1 : RTri Tryz.prog 191 #[.int .i64 10] [] (bs (itoaL 10)) := by
    apply RTri.of_pure
    refine Tri.of_body (vs := [_]) Tryz.func191 rfl rfl fun w0 F => ?_
    repeat' (first | refine Ga ?_ | (refine Gb ?_; intro b) | (refine Gd ?_; intro g cap rest hcap) | (refine Gc ?_; intro ad cap)  | (refine Ge ?_ ?_ <;> (intro h; try (exfalso; omega))) | fail)
    (first | refine St.dn Tryz.func191 ⟨?_, rfl⟩ Ent.go | refine St.fl Tryz.func191 ⟨?_, rfl⟩ Ent.go)
    rfl
  have h2 : RTri Tryz.prog 189 #[.int .i64 10, .int .i64 10] [] (bs (itoaL 10)) := by
    apply RTri.of_pure
    refine Tri.of_body (vs := [_, _]) Tryz.func189 rfl rfl fun w0 F => ?_
    repeat' (first | refine Ga ?_ | (refine Gb ?_; intro b) | (refine Gd ?_; intro g cap rest hcap) | (refine Gc ?_; intro ad cap) | refine Gl h1 ?_ | (refine Ge ?_ ?_ <;> (intro h; try (exfalso; omega))) | fail)
    (first | refine St.dn Tryz.func189 ⟨?_, rfl⟩ Ent.go | refine St.fl Tryz.func189 ⟨?_, rfl⟩ Ent.go)
    rfl
  have h3 : RTri Tryz.prog 187 #[.int .i64 10] [] (bs (itoaL 10)) := by
    apply RTri.of_pure
    refine Tri.of_body (vs := [_]) Tryz.func187 rfl rfl fun w0 F => ?_
    repeat' (first | refine Ga ?_ | (refine Gb ?_; intro b) | (refine Gd ?_; intro g cap rest hcap) | (refine Gc ?_; intro ad cap) | refine Gl h2 ?_ | (refine Ge ?_ ?_ <;> (intro h; try (exfalso; omega))) | fail)
    (first | refine St.dn Tryz.func187 ⟨?_, rfl⟩ Ent.go | refine St.fl Tryz.func187 ⟨?_, rfl⟩ Ent.go)
    rfl
  apply RTri.of_pure
  refine Tri.of_body (vs := [_]) Tryz.func178 rfl rfl fun w0 F => ?_
  repeat' (first | refine Ga ?_ | (refine Gb ?_; intro b) | (refine Gd ?_; intro g cap rest hcap) | (refine Gc ?_; intro ad cap) | refine Gl h3 ?_ | (refine Ge ?_ ?_ <;> (intro h; try (exfalso; omega))) | fail)
  (first | refine St.dn Tryz.func178 ⟨?_, rfl⟩ Ent.go | refine St.fl Tryz.func178 ⟨?_, rfl⟩ Ent.go)
  rfl
theorem itoa_11 : RTri Tryz.prog 178 #[.int .i64 11] [] (bs (itoaL 11)) := by
  have h1 : RTri Tryz.prog 191 #[.int .i64 11] [] (bs (itoaL 11)) := by
    apply RTri.of_pure
    refine Tri.of_body (vs := [_]) Tryz.func191 rfl rfl fun w0 F => ?_
    repeat' (first | refine Ga ?_ | (refine Gb ?_; intro b) | (refine Gd ?_; intro g cap rest hcap) | (refine Gc ?_; intro ad cap)  | (refine Ge ?_ ?_ <;> (intro h; try (exfalso; omega))) | fail)
    (first | refine St.dn Tryz.func191 ⟨?_, rfl⟩ Ent.go | refine St.fl Tryz.func191 ⟨?_, rfl⟩ Ent.go)
    rfl
  have h2 : RTri Tryz.prog 189 #[.int .i64 11, .int .i64 10] [] (bs (itoaL 11)) := by
    apply RTri.of_pure
    refine Tri.of_body (vs := [_, _]) Tryz.func189 rfl rfl fun w0 F => ?_
    repeat' (first | refine Ga ?_ | (refine Gb ?_; intro b) | (refine Gd ?_; intro g cap rest hcap) | (refine Gc ?_; intro ad cap) | refine Gl h1 ?_ | (refine Ge ?_ ?_ <;> (intro h; try (exfalso; omega))) | fail)
    (first | refine St.dn Tryz.func189 ⟨?_, rfl⟩ Ent.go | refine St.fl Tryz.func189 ⟨?_, rfl⟩ Ent.go)
    rfl
  have h3 : RTri Tryz.prog 187 #[.int .i64 11] [] (bs (itoaL 11)) := by
    apply RTri.of_pure
    refine Tri.of_body (vs := [_]) Tryz.func187 rfl rfl fun w0 F => ?_
    repeat' (first | refine Ga ?_ | (refine Gb ?_; intro b) | (refine Gd ?_; intro g cap rest hcap) | (refine Gc ?_; intro ad cap) | refine Gl h2 ?_ | (refine Ge ?_ ?_ <;> (intro h; try (exfalso; omega))) | fail)
    (first | refine St.dn Tryz.func187 ⟨?_, rfl⟩ Ent.go | refine St.fl Tryz.func187 ⟨?_, rfl⟩ Ent.go)
    rfl
  apply RTri.of_pure
  refine Tri.of_body (vs := [_]) Tryz.func178 rfl rfl fun w0 F => ?_
  repeat' (first | refine Ga ?_ | (refine Gb ?_; intro b) | (refine Gd ?_; intro g cap rest hcap) | (refine Gc ?_; intro ad cap) | refine Gl h3 ?_ | (refine Ge ?_ ?_ <;> (intro h; try (exfalso; omega))) | fail)
  (first | refine St.dn Tryz.func178 ⟨?_, rfl⟩ Ent.go | refine St.fl Tryz.func178 ⟨?_, rfl⟩ Ent.go)
  rfl
theorem itoa_12 : RTri Tryz.prog 178 #[.int .i64 12] [] (bs (itoaL 12)) := by
  have h1 : RTri Tryz.prog 191 #[.int .i64 12] [] (bs (itoaL 12)) := by
    apply RTri.of_pure
    refine Tri.of_body (vs := [_]) Tryz.func191 rfl rfl fun w0 F => ?_
    repeat' (first | refine Ga ?_ | (refine Gb ?_; intro b) | (refine Gd ?_; intro g cap rest hcap) | (refine Gc ?_; intro ad cap)  | (refine Ge ?_ ?_ <;> (intro h; try (exfalso; omega))) | fail)
    (first | refine St.dn Tryz.func191 ⟨?_, rfl⟩ Ent.go | refine St.fl Tryz.func191 ⟨?_, rfl⟩ Ent.go)
    rfl
  have h2 : RTri Tryz.prog 189 #[.int .i64 12, .int .i64 10] [] (bs (itoaL 12)) := by
    apply RTri.of_pure
    refine Tri.of_body (vs := [_, _]) Tryz.func189 rfl rfl fun w0 F => ?_
    repeat' (first | refine Ga ?_ | (refine Gb ?_; intro b) | (refine Gd ?_; intro g cap rest hcap) | (refine Gc ?_; intro ad cap) | refine Gl h1 ?_ | (refine Ge ?_ ?_ <;> (intro h; try (exfalso; omega))) | fail)
    (first | refine St.dn Tryz.func189 ⟨?_, rfl⟩ Ent.go | refine St.fl Tryz.func189 ⟨?_, rfl⟩ Ent.go)
    rfl
  have h3 : RTri Tryz.prog 187 #[.int .i64 12] [] (bs (itoaL 12)) := by
    apply RTri.of_pure
    refine Tri.of_body (vs := [_]) Tryz.func187 rfl rfl fun w0 F => ?_
    repeat' (first | refine Ga ?_ | (refine Gb ?_; intro b) | (refine Gd ?_; intro g cap rest hcap) | (refine Gc ?_; intro ad cap) | refine Gl h2 ?_ | (refine Ge ?_ ?_ <;> (intro h; try (exfalso; omega))) | fail)
    (first | refine St.dn Tryz.func187 ⟨?_, rfl⟩ Ent.go | refine St.fl Tryz.func187 ⟨?_, rfl⟩ Ent.go)
    rfl
  apply RTri.of_pure
  refine Tri.of_body (vs := [_]) Tryz.func178 rfl rfl fun w0 F => ?_
  repeat' (first | refine Ga ?_ | (refine Gb ?_; intro b) | (refine Gd ?_; intro g cap rest hcap) | (refine Gc ?_; intro ad cap) | refine Gl h3 ?_ | (refine Ge ?_ ?_ <;> (intro h; try (exfalso; omega))) | fail)
  (first | refine St.dn Tryz.func178 ⟨?_, rfl⟩ Ent.go | refine St.fl Tryz.func178 ⟨?_, rfl⟩ Ent.go)
  rfl
theorem itoa_13 : RTri Tryz.prog 178 #[.int .i64 13] [] (bs (itoaL 13)) := by
  have h1 : RTri Tryz.prog 191 #[.int .i64 13] [] (bs (itoaL 13)) := by
    apply RTri.of_pure
    refine Tri.of_body (vs := [_]) Tryz.func191 rfl rfl fun w0 F => ?_
    repeat' (first | refine Ga ?_ | (refine Gb ?_; intro b) | (refine Gd ?_; intro g cap rest hcap) | (refine Gc ?_; intro ad cap)  | (refine Ge ?_ ?_ <;> (intro h; try (exfalso; omega))) | fail)
    (first | refine St.dn Tryz.func191 ⟨?_, rfl⟩ Ent.go | refine St.fl Tryz.func191 ⟨?_, rfl⟩ Ent.go)
    rfl
  have h2 : RTri Tryz.prog 189 #[.int .i64 13, .int .i64 10] [] (bs (itoaL 13)) := by
    apply RTri.of_pure
    refine Tri.of_body (vs := [_, _]) Tryz.func189 rfl rfl fun w0 F => ?_
    repeat' (first | refine Ga ?_ | (refine Gb ?_; intro b) | (refine Gd ?_; intro g cap rest hcap) | (refine Gc ?_; intro ad cap) | refine Gl h1 ?_ | (refine Ge ?_ ?_ <;> (intro h; try (exfalso; omega))) | fail)
    (first | refine St.dn Tryz.func189 ⟨?_, rfl⟩ Ent.go | refine St.fl Tryz.func189 ⟨?_, rfl⟩ Ent.go)
    rfl
  have h3 : RTri Tryz.prog 187 #[.int .i64 13] [] (bs (itoaL 13)) := by
    apply RTri.of_pure
    refine Tri.of_body (vs := [_]) Tryz.func187 rfl rfl fun w0 F => ?_
    repeat' (first | refine Ga ?_ | (refine Gb ?_; intro b) | (refine Gd ?_; intro g cap rest hcap) | (refine Gc ?_; intro ad cap) | refine Gl h2 ?_ | (refine Ge ?_ ?_ <;> (intro h; try (exfalso; omega))) | fail)
    (first | refine St.dn Tryz.func187 ⟨?_, rfl⟩ Ent.go | refine St.fl Tryz.func187 ⟨?_, rfl⟩ Ent.go)
    rfl
  apply RTri.of_pure
  refine Tri.of_body (vs := [_]) Tryz.func178 rfl rfl fun w0 F => ?_
  repeat' (first | refine Ga ?_ | (refine Gb ?_; intro b) | (refine Gd ?_; intro g cap rest hcap) | (refine Gc ?_; intro ad cap) | refine Gl h3 ?_ | (refine Ge ?_ ?_ <;> (intro h; try (exfalso; omega))) | fail)
  (first | refine St.dn Tryz.func178 ⟨?_, rfl⟩ Ent.go | refine St.fl Tryz.func178 ⟨?_, rfl⟩ Ent.go)
  rfl
theorem itoa_14 : RTri Tryz.prog 178 #[.int .i64 14] [] (bs (itoaL 14)) := by
  have h1 : RTri Tryz.prog 191 #[.int .i64 14] [] (bs (itoaL 14)) := by
    apply RTri.of_pure
    refine Tri.of_body (vs := [_]) Tryz.func191 rfl rfl fun w0 F => ?_
    repeat' (first | refine Ga ?_ | (refine Gb ?_; intro b) | (refine Gd ?_; intro g cap rest hcap) | (refine Gc ?_; intro ad cap)  | (refine Ge ?_ ?_ <;> (intro h; try (exfalso; omega))) | fail)
    (first | refine St.dn Tryz.func191 ⟨?_, rfl⟩ Ent.go | refine St.fl Tryz.func191 ⟨?_, rfl⟩ Ent.go)
    rfl
  have h2 : RTri Tryz.prog 189 #[.int .i64 14, .int .i64 10] [] (bs (itoaL 14)) := by
    apply RTri.of_pure
    refine Tri.of_body (vs := [_, _]) Tryz.func189 rfl rfl fun w0 F => ?_
    repeat' (first | refine Ga ?_ | (refine Gb ?_; intro b) | (refine Gd ?_; intro g cap rest hcap) | (refine Gc ?_; intro ad cap) | refine Gl h1 ?_ | (refine Ge ?_ ?_ <;> (intro h; try (exfalso; omega))) | fail)
    (first | refine St.dn Tryz.func189 ⟨?_, rfl⟩ Ent.go | refine St.fl Tryz.func189 ⟨?_, rfl⟩ Ent.go)
    rfl
  have h3 : RTri Tryz.prog 187 #[.int .i64 14] [] (bs (itoaL 14)) := by
    apply RTri.of_pure
    refine Tri.of_body (vs := [_]) Tryz.func187 rfl rfl fun w0 F => ?_
    repeat' (first | refine Ga ?_ | (refine Gb ?_; intro b) | (refine Gd ?_; intro g cap rest hcap) | (refine Gc ?_; intro ad cap) | refine Gl h2 ?_ | (refine Ge ?_ ?_ <;> (intro h; try (exfalso; omega))) | fail)
    (first | refine St.dn Tryz.func187 ⟨?_, rfl⟩ Ent.go | refine St.fl Tryz.func187 ⟨?_, rfl⟩ Ent.go)
    rfl
  apply RTri.of_pure
  refine Tri.of_body (vs := [_]) Tryz.func178 rfl rfl fun w0 F => ?_
  repeat' (first | refine Ga ?_ | (refine Gb ?_; intro b) | (refine Gd ?_; intro g cap rest hcap) | (refine Gc ?_; intro ad cap) | refine Gl h3 ?_ | (refine Ge ?_ ?_ <;> (intro h; try (exfalso; omega))) | fail)
  (first | refine St.dn Tryz.func178 ⟨?_, rfl⟩ Ent.go | refine St.fl Tryz.func178 ⟨?_, rfl⟩ Ent.go)
  rfl
theorem itoa_15 : RTri Tryz.prog 178 #[.int .i64 15] [] (bs (itoaL 15)) := by
  have h1 : RTri Tryz.prog 191 #[.int .i64 15] [] (bs (itoaL 15)) := by
    apply RTri.of_pure
    refine Tri.of_body (vs := [_]) Tryz.func191 rfl rfl fun w0 F => ?_
    repeat' (first | refine Ga ?_ | (refine Gb ?_; intro b) | (refine Gd ?_; intro g cap rest hcap) | (refine Gc ?_; intro ad cap)  | (refine Ge ?_ ?_ <;> (intro h; try (exfalso; omega))) | fail)
    (first | refine St.dn Tryz.func191 ⟨?_, rfl⟩ Ent.go | refine St.fl Tryz.func191 ⟨?_, rfl⟩ Ent.go)
    rfl
  have h2 : RTri Tryz.prog 189 #[.int .i64 15, .int .i64 10] [] (bs (itoaL 15)) := by
    apply RTri.of_pure
    refine Tri.of_body (vs := [_, _]) Tryz.func189 rfl rfl fun w0 F => ?_
    repeat' (first | refine Ga ?_ | (refine Gb ?_; intro b) | (refine Gd ?_; intro g cap rest hcap) | (refine Gc ?_; intro ad cap) | refine Gl h1 ?_ | (refine Ge ?_ ?_ <;> (intro h; try (exfalso; omega))) | fail)
    (first | refine St.dn Tryz.func189 ⟨?_, rfl⟩ Ent.go | refine St.fl Tryz.func189 ⟨?_, rfl⟩ Ent.go)
    rfl
  have h3 : RTri Tryz.prog 187 #[.int .i64 15] [] (bs (itoaL 15)) := by
    apply RTri.of_pure
    refine Tri.of_body (vs := [_]) Tryz.func187 rfl rfl fun w0 F => ?_
    repeat' (first | refine Ga ?_ | (refine Gb ?_; intro b) | (refine Gd ?_; intro g cap rest hcap) | (refine Gc ?_; intro ad cap) | refine Gl h2 ?_ | (refine Ge ?_ ?_ <;> (intro h; try (exfalso; omega))) | fail)
    (first | refine St.dn Tryz.func187 ⟨?_, rfl⟩ Ent.go | refine St.fl Tryz.func187 ⟨?_, rfl⟩ Ent.go)
    rfl
  apply RTri.of_pure
  refine Tri.of_body (vs := [_]) Tryz.func178 rfl rfl fun w0 F => ?_
  repeat' (first | refine Ga ?_ | (refine Gb ?_; intro b) | (refine Gd ?_; intro g cap rest hcap) | (refine Gc ?_; intro ad cap) | refine Gl h3 ?_ | (refine Ge ?_ ?_ <;> (intro h; try (exfalso; omega))) | fail)
  (first | refine St.dn Tryz.func178 ⟨?_, rfl⟩ Ent.go | refine St.fl Tryz.func178 ⟨?_, rfl⟩ Ent.go)
  rfl
end Go.Proofs.YtphheopbngdhhaaGreatDoor
