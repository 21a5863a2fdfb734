/-
  Package asm: forms; what a rune of a form takes.
-/
import Derived.Test.YtphheopbngdhhaaGreatDoorJb
import Derived.Test.YtphheopbngdhhaaGreatDoorJc
namespace Go.Proofs.YtphheopbngdhhaaGreatDoor
set_option maxRecDepth 100000
/-- how a kind's line is written: bytes, runes -/
def formB : Nat → List UInt8
  | 0 => [97, 226, 134, 144, 105]
  | 1 => [97, 226, 134, 144, 98]
  | 2 => [97, 226, 134, 144, 98, 43, 99]
  | 3 => [97, 226, 134, 144, 98, 45, 99]
  | 4 => [97, 226, 134, 144, 98, 195, 151, 99]
  | 5 => [97, 226, 134, 144, 98, 37, 99]
  | 6 => [97, 226, 134, 144, 98, 61, 99]
  | 7 => [97, 226, 134, 144, 98, 60, 99]
  | 8 => [97, 226, 134, 144, 65, 105]
  | 9 => [97, 226, 134, 144, 82, 98]
  | 10 => [82, 98, 226, 134, 144, 97]
  | 11 => [97, 226, 134, 144, 91, 98, 43, 105, 93]
  | 12 => [97, 226, 134, 144, 91, 98, 43, 99, 93]
  | 13 => [91, 98, 43, 105, 93, 226, 134, 144, 97]
  | 14 => [91, 98, 43, 99, 93, 226, 134, 144, 97]
  | 15 => [97, 226, 134, 144, 78]
  | 16 => [70, 97]
  | 17 => [71, 108]
  | 18 => [90, 97, 108]
  | 19 => [66, 97, 108]
  | 20 => [84, 97]
  | 21 => [88, 105]
  | _ => []
def formR : Nat → List Nat
  | 0 => [97, 8592, 105]
  | 1 => [97, 8592, 98]
  | 2 => [97, 8592, 98, 43, 99]
  | 3 => [97, 8592, 98, 45, 99]
  | 4 => [97, 8592, 98, 215, 99]
  | 5 => [97, 8592, 98, 37, 99]
  | 6 => [97, 8592, 98, 61, 99]
  | 7 => [97, 8592, 98, 60, 99]
  | 8 => [97, 8592, 65, 105]
  | 9 => [97, 8592, 82, 98]
  | 10 => [82, 98, 8592, 97]
  | 11 => [97, 8592, 91, 98, 43, 105, 93]
  | 12 => [97, 8592, 91, 98, 43, 99, 93]
  | 13 => [91, 98, 43, 105, 93, 8592, 97]
  | 14 => [91, 98, 43, 99, 93, 8592, 97]
  | 15 => [97, 8592, 78]
  | 16 => [70, 97]
  | 17 => [71, 108]
  | 18 => [90, 97, 108]
  | 19 => [66, 97, 108]
  | 20 => [84, 97]
  | 21 => [88, 105]
  | _ => []
/-- a string's runes -/
def runesOk (s : ByteArray) : Nat → List Nat → Bool
  | pos, [] => Nat.beq pos s.data.size
  | pos, c :: cs => Nat.blt pos s.data.size && (Nat.beq (Utf8.decode s pos).1 c && runesOk s (pos + (Utf8.decode s pos).2) cs)
theorem form_runes (k : Nat) (h : k < 22) : runesOk ⟨⟨formB k⟩⟩ 0 (formR k) = true := by
  rcases (by omega : k = 0 ∨ k = 1 ∨ k = 2 ∨ k = 3 ∨ k = 4 ∨ k = 5 ∨ k = 6 ∨ k = 7 ∨ k = 8 ∨ k = 9 ∨ k = 10 ∨ k = 11 ∨ k = 12 ∨ k = 13 ∨ k = 14 ∨ k = 15 ∨ k = 16 ∨ k = 17 ∨ k = 18 ∨ k = 19 ∨ k = 20 ∨ k = 21) with rfl | rfl | rfl | rfl | rfl | rfl | rfl | rfl | rfl | rfl | rfl | rfl | rfl | rfl | rfl | rfl | rfl | rfl | rfl | rfl | rfl | rfl <;> kernel_rfl
theorem aform_r (k : Nat) (h : k < 22) : RTri Tryz.prog 165 #[.int .i64 (k : Int)] [] (bs (formB k)) := by
  apply RTri.of_pure
  by_cases h10 : k ≤ 10
  · rcases (by omega : k = 0 ∨ k = 1 ∨ k = 2 ∨ k = 3 ∨ k = 4 ∨ k = 5 ∨ k = 6 ∨ k = 7 ∨ k = 8 ∨ k = 9 ∨ k = 10) with rfl | rfl | rfl | rfl | rfl | rfl | rfl | rfl | rfl | rfl | rfl
    all_goals refine Tri.of_body (vs := [_]) Tryz.func165 rfl rfl fun w0 F => ?_
    all_goals repeat' (first | refine Ga ?_ | (refine Gb ?_; intro b) | (refine Gd ?_; intro g cap rest hcap) | (refine Gc ?_; intro ad cap)  | (refine Ge ?_ ?_ <;> (intro h; try (exfalso; omega))) | fail)
    all_goals (first | refine St.dn Tryz.func165 ⟨?_, rfl⟩ Ent.go | refine St.fl Tryz.func165 ⟨?_, rfl⟩ Ent.go)
    all_goals rfl
  · rcases (by omega : k = 11 ∨ k = 12 ∨ k = 13 ∨ k = 14 ∨ k = 15 ∨ k = 16 ∨ k = 17 ∨ k = 18 ∨ k = 19 ∨ k = 20 ∨ k = 21) with rfl | rfl | rfl | rfl | rfl | rfl | rfl | rfl | rfl | rfl | rfl
    · have ho : RTri Tryz.prog 179 #[.int .i64 ((11 : Nat) : Int)] [] (bs (formB 11)) := by
        apply RTri.of_pure
        refine Tri.of_body (vs := [_]) Tryz.func179 rfl rfl fun w0 F => ?_
        repeat' (first | refine Ga ?_ | (refine Gb ?_; intro b) | (refine Gd ?_; intro g cap rest hcap) | (refine Gc ?_; intro ad cap)  | (refine Ge ?_ ?_ <;> (intro h; try (exfalso; omega))) | fail)
        (first | refine St.dn Tryz.func179 ⟨?_, rfl⟩ Ent.go | refine St.fl Tryz.func179 ⟨?_, rfl⟩ Ent.go)
        rfl
      refine Tri.of_body (vs := [_]) Tryz.func165 rfl rfl fun w0 F => ?_
      repeat' (first | refine Ga ?_ | (refine Gb ?_; intro b) | (refine Gd ?_; intro g cap rest hcap) | (refine Gc ?_; intro ad cap) | refine Gl ho ?_ | (refine Ge ?_ ?_ <;> (intro h; try (exfalso; omega))) | fail)
      (first | refine St.dn Tryz.func165 ⟨?_, rfl⟩ Ent.go | refine St.fl Tryz.func165 ⟨?_, rfl⟩ Ent.go)
      rfl
    · have ho : RTri Tryz.prog 179 #[.int .i64 ((12 : Nat) : Int)] [] (bs (formB 12)) := by
        apply RTri.of_pure
        refine Tri.of_body (vs := [_]) Tryz.func179 rfl rfl fun w0 F => ?_
        repeat' (first | refine Ga ?_ | (refine Gb ?_; intro b) | (refine Gd ?_; intro g cap rest hcap) | (refine Gc ?_; intro ad cap)  | (refine Ge ?_ ?_ <;> (intro h; try (exfalso; omega))) | fail)
        (first | refine St.dn Tryz.func179 ⟨?_, rfl⟩ Ent.go | refine St.fl Tryz.func179 ⟨?_, rfl⟩ Ent.go)
        rfl
      refine Tri.of_body (vs := [_]) Tryz.func165 rfl rfl fun w0 F => ?_
      repeat' (first | refine Ga ?_ | (refine Gb ?_; intro b) | (refine Gd ?_; intro g cap rest hcap) | (refine Gc ?_; intro ad cap) | refine Gl ho ?_ | (refine Ge ?_ ?_ <;> (intro h; try (exfalso; omega))) | fail)
      (first | refine St.dn Tryz.func165 ⟨?_, rfl⟩ Ent.go | refine St.fl Tryz.func165 ⟨?_, rfl⟩ Ent.go)
      rfl
    · have ho : RTri Tryz.prog 179 #[.int .i64 ((13 : Nat) : Int)] [] (bs (formB 13)) := by
        apply RTri.of_pure
        refine Tri.of_body (vs := [_]) Tryz.func179 rfl rfl fun w0 F => ?_
        repeat' (first | refine Ga ?_ | (refine Gb ?_; intro b) | (refine Gd ?_; intro g cap rest hcap) | (refine Gc ?_; intro ad cap)  | (refine Ge ?_ ?_ <;> (intro h; try (exfalso; omega))) | fail)
        (first | refine St.dn Tryz.func179 ⟨?_, rfl⟩ Ent.go | refine St.fl Tryz.func179 ⟨?_, rfl⟩ Ent.go)
        rfl
      refine Tri.of_body (vs := [_]) Tryz.func165 rfl rfl fun w0 F => ?_
      repeat' (first | refine Ga ?_ | (refine Gb ?_; intro b) | (refine Gd ?_; intro g cap rest hcap) | (refine Gc ?_; intro ad cap) | refine Gl ho ?_ | (refine Ge ?_ ?_ <;> (intro h; try (exfalso; omega))) | fail)
      (first | refine St.dn Tryz.func165 ⟨?_, rfl⟩ Ent.go | refine St.fl Tryz.func165 ⟨?_, rfl⟩ Ent.go)
      rfl
    · have ho : RTri Tryz.prog 179 #[.int .i64 ((14 : Nat) : Int)] [] (bs (formB 14)) := by
        apply RTri.of_pure
        refine Tri.of_body (vs := [_]) Tryz.func179 rfl rfl fun w0 F => ?_
        repeat' (first | refine Ga ?_ | (refine Gb ?_; intro b) | (refine Gd ?_; intro g cap rest hcap) | (refine Gc ?_; intro ad cap)  | (refine Ge ?_ ?_ <;> (intro h; try (exfalso; omega))) | fail)
        (first | refine St.dn Tryz.func179 ⟨?_, rfl⟩ Ent.go | refine St.fl Tryz.func179 ⟨?_, rfl⟩ Ent.go)
        rfl
      refine Tri.of_body (vs := [_]) Tryz.func165 rfl rfl fun w0 F => ?_
      repeat' (first | refine Ga ?_ | (refine Gb ?_; intro b) | (refine Gd ?_; intro g cap rest hcap) | (refine Gc ?_; intro ad cap) | refine Gl ho ?_ | (refine Ge ?_ ?_ <;> (intro h; try (exfalso; omega))) | fail)
      (first | refine St.dn Tryz.func165 ⟨?_, rfl⟩ Ent.go | refine St.fl Tryz.func165 ⟨?_, rfl⟩ Ent.go)
      rfl
    · have ho : RTri Tryz.prog 179 #[.int .i64 ((15 : Nat) : Int)] [] (bs (formB 15)) := by
        apply RTri.of_pure
        refine Tri.of_body (vs := [_]) Tryz.func179 rfl rfl fun w0 F => ?_
        repeat' (first | refine Ga ?_ | (refine Gb ?_; intro b) | (refine Gd ?_; intro g cap rest hcap) | (refine Gc ?_; intro ad cap)  | (refine Ge ?_ ?_ <;> (intro h; try (exfalso; omega))) | fail)
        (first | refine St.dn Tryz.func179 ⟨?_, rfl⟩ Ent.go | refine St.fl Tryz.func179 ⟨?_, rfl⟩ Ent.go)
        rfl
      refine Tri.of_body (vs := [_]) Tryz.func165 rfl rfl fun w0 F => ?_
      repeat' (first | refine Ga ?_ | (refine Gb ?_; intro b) | (refine Gd ?_; intro g cap rest hcap) | (refine Gc ?_; intro ad cap) | refine Gl ho ?_ | (refine Ge ?_ ?_ <;> (intro h; try (exfalso; omega))) | fail)
      (first | refine St.dn Tryz.func165 ⟨?_, rfl⟩ Ent.go | refine St.fl Tryz.func165 ⟨?_, rfl⟩ Ent.go)
      rfl
    · have ho : RTri Tryz.prog 179 #[.int .i64 ((16 : Nat) : Int)] [] (bs (formB 16)) := by
        apply RTri.of_pure
        refine Tri.of_body (vs := [_]) Tryz.func179 rfl rfl fun w0 F => ?_
        repeat' (first | refine Ga ?_ | (refine Gb ?_; intro b) | (refine Gd ?_; intro g cap rest hcap) | (refine Gc ?_; intro ad cap)  | (refine Ge ?_ ?_ <;> (intro h; try (exfalso; omega))) | fail)
        (first | refine St.dn Tryz.func179 ⟨?_, rfl⟩ Ent.go | refine St.fl Tryz.func179 ⟨?_, rfl⟩ Ent.go)
        rfl
      refine Tri.of_body (vs := [_]) Tryz.func165 rfl rfl fun w0 F => ?_
      repeat' (first | refine Ga ?_ | (refine Gb ?_; intro b) | (refine Gd ?_; intro g cap rest hcap) | (refine Gc ?_; intro ad cap) | refine Gl ho ?_ | (refine Ge ?_ ?_ <;> (intro h; try (exfalso; omega))) | fail)
      (first | refine St.dn Tryz.func165 ⟨?_, rfl⟩ Ent.go | refine St.fl Tryz.func165 ⟨?_, rfl⟩ Ent.go)
      rfl
    · have ho : RTri Tryz.prog 179 #[.int .i64 ((17 : Nat) : Int)] [] (bs (formB 17)) := by
        apply RTri.of_pure
        refine Tri.of_body (vs := [_]) Tryz.func179 rfl rfl fun w0 F => ?_
        repeat' (first | refine Ga ?_ | (refine Gb ?_; intro b) | (refine Gd ?_; intro g cap rest hcap) | (refine Gc ?_; intro ad cap)  | (refine Ge ?_ ?_ <;> (intro h; try (exfalso; omega))) | fail)
        (first | refine St.dn Tryz.func179 ⟨?_, rfl⟩ Ent.go | refine St.fl Tryz.func179 ⟨?_, rfl⟩ Ent.go)
        rfl
      refine Tri.of_body (vs := [_]) Tryz.func165 rfl rfl fun w0 F => ?_
      repeat' (first | refine Ga ?_ | (refine Gb ?_; intro b) | (refine Gd ?_; intro g cap rest hcap) | (refine Gc ?_; intro ad cap) | refine Gl ho ?_ | (refine Ge ?_ ?_ <;> (intro h; try (exfalso; omega))) | fail)
      (first | refine St.dn Tryz.func165 ⟨?_, rfl⟩ Ent.go | refine St.fl Tryz.func165 ⟨?_, rfl⟩ Ent.go)
      rfl
    · have ho : RTri Tryz.prog 179 #[.int .i64 ((18 : Nat) : Int)] [] (bs (formB 18)) := by
        apply RTri.of_pure
        refine Tri.of_body (vs := [_]) Tryz.func179 rfl rfl fun w0 F => ?_
        repeat' (first | refine Ga ?_ | (refine Gb ?_; intro b) | (refine Gd ?_; intro g cap rest hcap) | (refine Gc ?_; intro ad cap)  | (refine Ge ?_ ?_ <;> (intro h; try (exfalso; omega))) | fail)
        (first | refine St.dn Tryz.func179 ⟨?_, rfl⟩ Ent.go | refine St.fl Tryz.func179 ⟨?_, rfl⟩ Ent.go)
        rfl
      refine Tri.of_body (vs := [_]) Tryz.func165 rfl rfl fun w0 F => ?_
      repeat' (first | refine Ga ?_ | (refine Gb ?_; intro b) | (refine Gd ?_; intro g cap rest hcap) | (refine Gc ?_; intro ad cap) | refine Gl ho ?_ | (refine Ge ?_ ?_ <;> (intro h; try (exfalso; omega))) | fail)
      (first | refine St.dn Tryz.func165 ⟨?_, rfl⟩ Ent.go | refine St.fl Tryz.func165 ⟨?_, rfl⟩ Ent.go)
      rfl
    · have ho : RTri Tryz.prog 179 #[.int .i64 ((19 : Nat) : Int)] [] (bs (formB 19)) := by
        apply RTri.of_pure
        refine Tri.of_body (vs := [_]) Tryz.func179 rfl rfl fun w0 F => ?_
        repeat' (first | refine Ga ?_ | (refine Gb ?_; intro b) | (refine Gd ?_; intro g cap rest hcap) | (refine Gc ?_; intro ad cap)  | (refine Ge ?_ ?_ <;> (intro h; try (exfalso; omega))) | fail)
        (first | refine St.dn Tryz.func179 ⟨?_, rfl⟩ Ent.go | refine St.fl Tryz.func179 ⟨?_, rfl⟩ Ent.go)
        rfl
      refine Tri.of_body (vs := [_]) Tryz.func165 rfl rfl fun w0 F => ?_
      repeat' (first | refine Ga ?_ | (refine Gb ?_; intro b) | (refine Gd ?_; intro g cap rest hcap) | (refine Gc ?_; intro ad cap) | refine Gl ho ?_ | (refine Ge ?_ ?_ <;> (intro h; try (exfalso; omega))) | fail)
      (first | refine St.dn Tryz.func165 ⟨?_, rfl⟩ Ent.go | refine St.fl Tryz.func165 ⟨?_, rfl⟩ Ent.go)
      rfl
    · have ho : RTri Tryz.prog 179 #[.int .i64 ((20 : Nat) : Int)] [] (bs (formB 20)) := by
        apply RTri.of_pure
        refine Tri.of_body (vs := [_]) Tryz.func179 rfl rfl fun w0 F => ?_
        repeat' (first | refine Ga ?_ | (refine Gb ?_; intro b) | (refine Gd ?_; intro g cap rest hcap) | (refine Gc ?_; intro ad cap)  | (refine Ge ?_ ?_ <;> (intro h; try (exfalso; omega))) | fail)
        (first | refine St.dn Tryz.func179 ⟨?_, rfl⟩ Ent.go | refine St.fl Tryz.func179 ⟨?_, rfl⟩ Ent.go)
        rfl
      refine Tri.of_body (vs := [_]) Tryz.func165 rfl rfl fun w0 F => ?_
      repeat' (first | refine Ga ?_ | (refine Gb ?_; intro b) | (refine Gd ?_; intro g cap rest hcap) | (refine Gc ?_; intro ad cap) | refine Gl ho ?_ | (refine Ge ?_ ?_ <;> (intro h; try (exfalso; omega))) | fail)
      (first | refine St.dn Tryz.func165 ⟨?_, rfl⟩ Ent.go | refine St.fl Tryz.func165 ⟨?_, rfl⟩ Ent.go)
      rfl
    · have ho : RTri Tryz.prog 179 #[.int .i64 ((21 : Nat) : Int)] [] (bs (formB 21)) := by
        apply RTri.of_pure
        refine Tri.of_body (vs := [_]) Tryz.func179 rfl rfl fun w0 F => ?_
        repeat' (first | refine Ga ?_ | (refine Gb ?_; intro b) | (refine Gd ?_; intro g cap rest hcap) | (refine Gc ?_; intro ad cap)  | (refine Ge ?_ ?_ <;> (intro h; try (exfalso; omega))) | fail)
        (first | refine St.dn Tryz.func179 ⟨?_, rfl⟩ Ent.go | refine St.fl Tryz.func179 ⟨?_, rfl⟩ Ent.go)
        rfl
      refine Tri.of_body (vs := [_]) Tryz.func165 rfl rfl fun w0 F => ?_
      repeat' (first | refine Ga ?_ | (refine Gb ?_; intro b) | (refine Gd ?_; intro g cap rest hcap) | (refine Gc ?_; intro ad cap) | refine Gl ho ?_ | (refine Ge ?_ ?_ <;> (intro h; try (exfalso; omega))) | fail)
      (first | refine St.dn Tryz.func165 ⟨?_, rfl⟩ Ent.go | refine St.fl Tryz.func165 ⟨?_, rfl⟩ Ent.go)
      rfl
/-- an order: its instruction, the label's name, where it stands -/
structure Ordr where
  i : Ins
  name : ByteArray
  at_ : Int
def ordV (o : Ordr) : List Value := [.int .i64 o.i.op, .int .i64 o.i.a, .int .i64 o.i.b, .int .i64 o.i.c, .int .u64 (o.i.imm : Int), .string o.name, .int .i64 o.at_]
def regN (t : Tok) : Int := if t.kind = 0 then regM t.text.data.toList else -1
def takeM (c : Int) (t : Tok) (o : Ordr) : Ordr × Bool :=
  if c = 97 then ({ o with i := { o.i with a := regN t } }, decide (0 ≤ regN t)) else
  if c = 98 then ({ o with i := { o.i with b := regN t } }, decide (0 ≤ regN t)) else
  if c = 99 then ({ o with i := { o.i with c := regN t } }, decide (0 ≤ regN t)) else
  if c = 105 then ({ o with i := { o.i with imm := t.num } }, t.kind == 1) else
  if c = 108 then ({ o with name := t.text }, t.kind == 0 && freeM t.text.data.toList) else
  if wordM c = [] then (o, t.kind == 2 && t.text.data.toList == (Utf8.encode c).data.toList) else (o, t.kind == 0 && t.text.data.toList == wordM c)
theorem take_t (b : Nat) (o : Ordr) (c : Int) (t : Tok) : Tri Tryz.prog 166 #[.pointer (some ⟨b, 0, none⟩), .int .i32 c, .agg ⟨t.v⟩] [bl b 224 (ordV o)]
    fun v L => v = .bool (takeM c t o).2 ∧ L = [bl b 224 (ordV (takeM c t o).1)] := by
  have hr := register_r t.text
  have hf := free_r t.text
  have hw := word_r c
  unfold takeM ordV Tok.v
  revert b; intro rb
  by_cases h97 : c = 97
  · rw [if_pos h97]
    dsimp only
    unfold regN
    by_cases hk : t.kind = 0
    · rw [if_pos hk]
      refine Tri.of_body (vs := [_, _, _]) Tryz.func166 rfl rfl fun w0 F => ?_
      repeat' (first | refine Ga ?_ | (refine Gb ?_; intro b) | (refine Gd ?_; intro g cap rest hcap) | (refine Gc ?_; intro ad cap) | refine Gl hr ?_ | (refine Ge ?_ ?_ <;> (intro h; try (exfalso; omega))) | fail)
      refine St.d1 Tryz.func166 ⟨_, ⟨rfl, rfl⟩, Ent.go⟩
    · rw [if_neg hk]
      refine Tri.of_body (vs := [_, _, _]) Tryz.func166 rfl rfl fun w0 F => ?_
      repeat' (first | refine Ga ?_ | (refine Gb ?_; intro b) | (refine Gd ?_; intro g cap rest hcap) | (refine Gc ?_; intro ad cap) | refine Gl hr ?_ | (refine Ge ?_ ?_ <;> (intro h; try (exfalso; omega))) | fail)
      refine St.d1 Tryz.func166 ⟨_, ⟨rfl, rfl⟩, Ent.go⟩
  rw [if_neg h97]
  by_cases h98 : c = 98
  · rw [if_pos h98]
    dsimp only
    unfold regN
    by_cases hk : t.kind = 0
    · rw [if_pos hk]
      refine Tri.of_body (vs := [_, _, _]) Tryz.func166 rfl rfl fun w0 F => ?_
      repeat' (first | refine Ga ?_ | (refine Gb ?_; intro b) | (refine Gd ?_; intro g cap rest hcap) | (refine Gc ?_; intro ad cap) | refine Gl hr ?_ | (refine Ge ?_ ?_ <;> (intro h; try (exfalso; omega))) | fail)
      refine St.d1 Tryz.func166 ⟨_, ⟨rfl, rfl⟩, Ent.go⟩
    · rw [if_neg hk]
      refine Tri.of_body (vs := [_, _, _]) Tryz.func166 rfl rfl fun w0 F => ?_
      repeat' (first | refine Ga ?_ | (refine Gb ?_; intro b) | (refine Gd ?_; intro g cap rest hcap) | (refine Gc ?_; intro ad cap) | refine Gl hr ?_ | (refine Ge ?_ ?_ <;> (intro h; try (exfalso; omega))) | fail)
      refine St.d1 Tryz.func166 ⟨_, ⟨rfl, rfl⟩, Ent.go⟩
  rw [if_neg h98]
  by_cases h99 : c = 99
  · rw [if_pos h99]
    dsimp only
    unfold regN
    by_cases hk : t.kind = 0
    · rw [if_pos hk]
      refine Tri.of_body (vs := [_, _, _]) Tryz.func166 rfl rfl fun w0 F => ?_
      repeat' (first | refine Ga ?_ | (refine Gb ?_; intro b) | (refine Gd ?_; intro g cap rest hcap) | (refine Gc ?_; intro ad cap) | refine Gl hr ?_ | (refine Ge ?_ ?_ <;> (intro h; try (exfalso; omega))) | fail)
      refine St.d1 Tryz.func166 ⟨_, ⟨rfl, rfl⟩, Ent.go⟩
    · rw [if_neg hk]
      refine Tri.of_body (vs := [_, _, _]) Tryz.func166 rfl rfl fun w0 F => ?_
      repeat' (first | refine Ga ?_ | (refine Gb ?_; intro b) | (refine Gd ?_; intro g cap rest hcap) | (refine Gc ?_; intro ad cap) | refine Gl hr ?_ | (refine Ge ?_ ?_ <;> (intro h; try (exfalso; omega))) | fail)
      refine St.d1 Tryz.func166 ⟨_, ⟨rfl, rfl⟩, Ent.go⟩
  rw [if_neg h99]
  by_cases h105 : c = 105
  · rw [if_pos h105]
    dsimp only
    refine Tri.of_body (vs := [_, _, _]) Tryz.func166 rfl rfl fun w0 F => ?_
    repeat' (first | refine Ga ?_ | (refine Gb ?_; intro b) | (refine Gd ?_; intro g cap rest hcap) | (refine Gc ?_; intro ad cap) | refine Gl hr ?_ | (refine Ge ?_ ?_ <;> (intro h; try (exfalso; omega))) | fail)
    all_goals refine St.d1 Tryz.func166 ⟨_, ⟨?_, rfl⟩, Ent.go⟩
    all_goals rfl
  rw [if_neg h105]
  by_cases h108 : c = 108
  · rw [if_pos h108]
    dsimp only
    by_cases hk : t.kind = 0
    · rw [show (t.kind == 0) = true by rw [hk]; rfl, Bool.true_and]
      refine Tri.of_body (vs := [_, _, _]) Tryz.func166 rfl rfl fun w0 F => ?_
      repeat' (first | refine Ga ?_ | (refine Gb ?_; intro b) | (refine Gd ?_; intro g cap rest hcap) | (refine Gc ?_; intro ad cap) | refine Gl hr ?_ | refine Gl hf ?_ | (refine Ge ?_ ?_ <;> (intro h; try (exfalso; omega))) | fail)
      refine St.d1 Tryz.func166 ⟨_, ⟨rfl, rfl⟩, Ent.go⟩
    · rw [show (t.kind == 0) = false from beq_false_of_ne hk, Bool.false_and]
      refine Tri.of_body (vs := [_, _, _]) Tryz.func166 rfl rfl fun w0 F => ?_
      repeat' (first | refine Ga ?_ | (refine Gb ?_; intro b) | (refine Gd ?_; intro g cap rest hcap) | (refine Gc ?_; intro ad cap) | refine Gl hr ?_ | refine Gl hf ?_ | (refine Ge ?_ ?_ <;> (intro h; try (exfalso; omega))) | fail)
      refine St.d1 Tryz.func166 ⟨_, ⟨rfl, rfl⟩, Ent.go⟩
  rw [if_neg h108]
  by_cases hwn : wordM c = []
  · rw [if_pos hwn]
    rw [hwn] at hw
    dsimp only
    by_cases hk : t.kind = 2
    · rw [show (t.kind == 2) = true by rw [hk]; rfl, Bool.true_and]
      refine Tri.of_body (vs := [_, _, _]) Tryz.func166 rfl rfl fun w0 F => ?_
      repeat' (first | refine Ga ?_ | (refine Gb ?_; intro b) | (refine Gd ?_; intro g cap rest hcap) | (refine Gc ?_; intro ad cap) | refine Gl hr ?_ | refine Gl hw ?_ | (refine Ge ?_ ?_ <;> (intro h; try (exfalso; omega))) | fail)
      refine St.d1 Tryz.func166 ⟨_, ⟨rfl, rfl⟩, Ent.go⟩
    · rw [show (t.kind == 2) = false from beq_false_of_ne hk, Bool.false_and]
      refine Tri.of_body (vs := [_, _, _]) Tryz.func166 rfl rfl fun w0 F => ?_
      repeat' (first | refine Ga ?_ | (refine Gb ?_; intro b) | (refine Gd ?_; intro g cap rest hcap) | (refine Gc ?_; intro ad cap) | refine Gl hr ?_ | refine Gl hw ?_ | (refine Ge ?_ ?_ <;> (intro h; try (exfalso; omega))) | fail)
      all_goals refine St.d1 Tryz.func166 ⟨_, ⟨rfl, rfl⟩, Ent.go⟩
  · rw [if_neg hwn]
    dsimp only
    have hwl : (wordM c == []) = false := beq_false_of_ne hwn
    by_cases hk : t.kind = 0
    · rw [show (t.kind == 0) = true by rw [hk]; rfl, Bool.true_and]
      refine Tri.of_body (vs := [_, _, _]) Tryz.func166 rfl rfl fun w0 F => ?_
      repeat' (first | refine Ga ?_ | (refine Gb ?_; intro b) | (refine Gd ?_; intro g cap rest hcap) | (refine Gc ?_; intro ad cap) | refine Gl hr ?_ | refine Gl hw ?_ | (refine Ge ?_ ?_ <;> (intro h; try (exfalso; omega))) | fail)
      all_goals first | (exfalso; simp_all; done) | skip
      all_goals refine St.d1 Tryz.func166 ⟨_, ⟨rfl, rfl⟩, Ent.go⟩
    · rw [show (t.kind == 0) = false from beq_false_of_ne hk, Bool.false_and]
      refine Tri.of_body (vs := [_, _, _]) Tryz.func166 rfl rfl fun w0 F => ?_
      repeat' (first | refine Ga ?_ | (refine Gb ?_; intro b) | (refine Gd ?_; intro g cap rest hcap) | (refine Gc ?_; intro ad cap) | refine Gl hw ?_ | (refine Ge ?_ ?_ <;> (intro h; try (exfalso; omega))) | fail)
      all_goals first | (exfalso; simp_all; done) | skip
      all_goals refine St.d1 Tryz.func166 ⟨_, ⟨rfl, rfl⟩, Ent.go⟩
end Go.Proofs.YtphheopbngdhhaaGreatDoor
