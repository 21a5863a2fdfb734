/-
  Package asm: word, register, free, form, forth, what a rune of a form takes.
-/
import Derived.Test.YtphheopbngdhhaaGreatDoorJa
namespace Go.Proofs.YtphheopbngdhhaaGreatDoor
set_option maxRecDepth 100000
def regGo (s : List UInt8) : Nat → Nat → Int
  | 0, _ => -1
  | k + 1, n => if s = 114 :: itoaL n then (n : Int) else regGo s k (n + 1)
def regM (s : List UInt8) : Int := regGo s 16 0
theorem regM_rng (s : List UInt8) : -1 ≤ regM s ∧ regM s ≤ 15 := by
  have : ∀ k n, n + k ≤ 16 → -1 ≤ regGo s k n ∧ regGo s k n ≤ 15 := by
    intro k
    induction k with
    | zero => intro n _; exact ⟨by show (-1 : Int) ≤ -1; omega, by show (-1 : Int) ≤ 15; omega⟩
    | succ k ih =>
      intro n hn
      unfold regGo
      split
      · omega
      · exact ih (n + 1) (by omega)
  exact this 16 0 (by omega)
def wordM (c : Int) : List UInt8 :=
  if c = 65 then [97, 114, 103] else if c = 82 then [114, 111, 111, 116] else if c = 78 then [110, 101, 119] else if c = 70 then [102, 114, 101, 101] else
  if c = 71 then [103, 111] else if c = 90 then [122, 101, 114, 111] else if c = 66 then [98, 97, 99, 107] else if c = 84 then [114, 101, 116] else if c = 88 then [97, 98, 111, 114, 116] else []
theorem word_r (c : Int) : RTri Tryz.prog 163 #[.int .i32 c] [] (bs (wordM c)) := by
  apply RTri.of_pure
  refine Tri.of_body (vs := [_]) Tryz.func163 rfl rfl fun w0 F => ?_
  repeat' (first | refine Ga ?_ | (refine Gb ?_; intro b) | (refine Gd ?_; intro g cap rest hcap) | (refine Gc ?_; intro ad cap)  | (refine Ge ?_ ?_ <;> (intro h; try (exfalso; omega))) | fail)
  all_goals (first | refine St.dn Tryz.func163 ⟨?_, rfl⟩ Ent.go | refine St.fl Tryz.func163 ⟨?_, rfl⟩ Ent.go)
  all_goals unfold wordM
  all_goals (repeat (first | rw [if_pos (by omega)] | rw [if_neg (by omega)]))
  all_goals rfl
theorem eqL (a b : List UInt8) : (a == b) = decide (a = b) := by
  cases h : a == b with
  | true => rw [eq_of_beq h]; simp
  | false => symm; exact decide_eq_false (fun e => by subst e; simp at h)
theorem appL (a b : List UInt8) : ((⟨⟨a⟩⟩ : ByteArray) ++ (⟨⟨b⟩⟩ : ByteArray)).data.toList = a ++ b := by
  rw [ByteArray.data_append]; simp
theorem register_r (s : ByteArray) : RTri Tryz.prog 164 #[.string s] [] (.int .i64 (regM s.data.toList)) := by
  apply RTri.of_pure
  have i0 := itoa_0
  have i1 := itoa_1
  have i2 := itoa_2
  have i3 := itoa_3
  have i4 := itoa_4
  have i5 := itoa_5
  have i6 := itoa_6
  have i7 := itoa_7
  have i8 := itoa_8
  have i9 := itoa_9
  have i10 := itoa_10
  have i11 := itoa_11
  have i12 := itoa_12
  have i13 := itoa_13
  have i14 := itoa_14
  have i15 := itoa_15
  refine Tri.of_body (vs := [_]) Tryz.func164 rfl rfl fun w0 F => ?_
  repeat' (first | (apply St.loop1) | (apply St.inLoop1) | refine Ga ?_ | (refine Gb ?_; intro b) | (refine Gd ?_; intro g cap rest hcap) | (refine Gc ?_; intro ad cap) | refine Gl i0 ?_ | refine Gl i1 ?_ | refine Gl i2 ?_ | refine Gl i3 ?_ | refine Gl i4 ?_ | refine Gl i5 ?_ | refine Gl i6 ?_ | refine Gl i7 ?_ | refine Gl i8 ?_ | refine Gl i9 ?_ | refine Gl i10 ?_ | refine Gl i11 ?_ | refine Gl i12 ?_ | refine Gl i13 ?_ | refine Gl i14 ?_ | refine Gl i15 ?_ | (refine Ge ?_ ?_ <;> (intro h; try (exfalso; omega))) | fail)
  all_goals (first | refine St.dn Tryz.func164 ⟨?_, rfl⟩ Ent.go | refine St.fl Tryz.func164 ⟨?_, rfl⟩ Ent.go)
  all_goals clear i0 i1 i2 i3 i4 i5 i6 i7 i8 i9 i10 i11 i12 i13 i14 i15
  all_goals show Value.int .i64 _ = Value.int .i64 _
  all_goals refine congrArg (Value.int .i64) ?_
  all_goals simp only [appL, List.cons_append, List.nil_append] at *
  all_goals (first | (simp [regM, regGo, *]; done) | (simp [regM, regGo, *]; decide))
/-- may it be a label's name? -/
def kwL : List (List UInt8) := [[97, 114, 103], [114, 111, 111, 116], [110, 101, 119], [102, 114, 101, 101], [103, 111], [122, 101, 114, 111], [98, 97, 99, 107], [114, 101, 116], [97, 98, 111, 114, 116]]
def freeM (s : List UInt8) : Bool := !(kwL.contains s) && decide (regM s < 0)
theorem free_r (s : ByteArray) : RTri Tryz.prog 126 #[.string s] [] (.bool (freeM s.data.toList)) := by
  apply RTri.of_pure
  have hr := register_r s
  have d0 : Utf8.decode ⟨#[65, 82, 78, 70, 71, 90, 66, 84, 88]⟩ 0 = (65, 1) := by kernel_rfl
  have x0 := word_r ((65 : Nat) : Int)
  have d1 : Utf8.decode ⟨#[65, 82, 78, 70, 71, 90, 66, 84, 88]⟩ 1 = (82, 1) := by kernel_rfl
  have x1 := word_r ((82 : Nat) : Int)
  have d2 : Utf8.decode ⟨#[65, 82, 78, 70, 71, 90, 66, 84, 88]⟩ 2 = (78, 1) := by kernel_rfl
  have x2 := word_r ((78 : Nat) : Int)
  have d3 : Utf8.decode ⟨#[65, 82, 78, 70, 71, 90, 66, 84, 88]⟩ 3 = (70, 1) := by kernel_rfl
  have x3 := word_r ((70 : Nat) : Int)
  have d4 : Utf8.decode ⟨#[65, 82, 78, 70, 71, 90, 66, 84, 88]⟩ 4 = (71, 1) := by kernel_rfl
  have x4 := word_r ((71 : Nat) : Int)
  have d5 : Utf8.decode ⟨#[65, 82, 78, 70, 71, 90, 66, 84, 88]⟩ 5 = (90, 1) := by kernel_rfl
  have x5 := word_r ((90 : Nat) : Int)
  have d6 : Utf8.decode ⟨#[65, 82, 78, 70, 71, 90, 66, 84, 88]⟩ 6 = (66, 1) := by kernel_rfl
  have x6 := word_r ((66 : Nat) : Int)
  have d7 : Utf8.decode ⟨#[65, 82, 78, 70, 71, 90, 66, 84, 88]⟩ 7 = (84, 1) := by kernel_rfl
  have x7 := word_r ((84 : Nat) : Int)
  have d8 : Utf8.decode ⟨#[65, 82, 78, 70, 71, 90, 66, 84, 88]⟩ 8 = (88, 1) := by kernel_rfl
  have x8 := word_r ((88 : Nat) : Int)
  refine Tri.of_body (vs := [_]) Tryz.func126 rfl rfl fun w0 F => ?_
  repeat' (first | (apply St.loop1) | (apply St.inLoop1) | refine Ga ?_ | (refine Gb ?_; intro b) | (refine Gd ?_; intro g cap rest hcap) | (refine Gc ?_; intro ad cap) | refine Gl x0 ?_ | refine Gl x1 ?_ | refine Gl x2 ?_ | refine Gl x3 ?_ | refine Gl x4 ?_ | refine Gl x5 ?_ | refine Gl x6 ?_ | refine Gl x7 ?_ | refine Gl x8 ?_ | refine Gl hr ?_ | (refine Ge ?_ ?_ <;> (intro h; try (exfalso; omega))) | fail)
  all_goals (first | refine St.dn Tryz.func126 ⟨?_, rfl⟩ Ent.go | refine St.fl Tryz.func126 ⟨?_, rfl⟩ Ent.go)
  all_goals clear x0 x1 x2 x3 x4 x5 x6 x7 x8 d0 d1 d2 d3 d4 d5 d6 d7 d8 hr
  all_goals show Value.bool _ = Value.bool _
  all_goals refine congrArg Value.bool ?_
  all_goals (unfold freeM kwL; simp only [wordM] at *; simp_all)
  all_goals (intro _; repeat' (first | (refine And.intro ?_ ?_) | (intro e; simp_all)))
end Go.Proofs.YtphheopbngdhhaaGreatDoor
