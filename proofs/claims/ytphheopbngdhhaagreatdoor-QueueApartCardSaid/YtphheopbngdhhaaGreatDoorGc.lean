/-
  Package glyph: a text's tokens.
-/
import Derived.Test.YtphheopbngdhhaaGreatDoorGb
namespace Go.Proofs.YtphheopbngdhhaaGreatDoor
set_option maxRecDepth 100000
/-- what follows the code that begins at a region -/
def restR (id : Nat) : Code → Option Code
  | .seq x y => match (match x with | .seq (.region i _ _) _ => Nat.beq i id | _ => false) with
    | true => some y
    | false => match restR id x with
      | some c => some c
      | none => restR id y
  | .block _ c => restR id c
  | .loop c => restR id c
  | .cond _ x y => match restR id x with
    | some c => some c
    | none => restR id y
  | _ => none
def restAt (f : Func) (id : Nat) : Code := match f.body with
  | some c => match restR id c with
    | some y => y
    | none => .skip
  | none => .skip
def endM (at_ : Nat) (c : Int) (r : Rdr) : Option Rdr :=
  if c = 10 then (if 16384 ≤ r.list.length then none else some { ({ r with remark := false }.put ⟨3, ⟨#[]⟩, 0, at_, 0⟩) with line := r.line + 1 })
  else if r.remark = true then some r else if c = 32 then some r else if c = 9 then some r else if c = 13 then some r
  else if c = 35 then some { r with remark := true }
  else if signB c = true then (if 16384 ≤ r.list.length then none else some (r.put ⟨2, Utf8.encode c, 0, at_, 0⟩)) else none
/-- a rune -/
def runeM (text : ByteArray) (at_ : Nat) (c : Int) (r : Rdr) : Option Rdr :=
  if (letterB c || digitB c || (decide (c = 46) && decide (0 ≤ r.from_))) && !r.remark then some (if r.from_ < 0 then { r with from_ := at_ } else r)
  else match shutM text at_ r with | some r1 => endM at_ c r1 | none => none
theorem shutM_line {text : ByteArray} {to : Nat} {r r' : Rdr} (h : shutM text to r = some r') : r'.line = r.line ∧ r'.remark = r.remark ∧ r'.from_ < 0 := by
  unfold shutM at h
  split at h
  · injection h with h; subst h; exact ⟨rfl, rfl, by assumption⟩
  split at h
  · cases h
  split at h
  · injection h with h; subst h; exact ⟨rfl, rfl, (by show (-1 : Int) < 0; decide)⟩
  · cases h
theorem put_tO (b : Nat) (text : ByteArray) (r : Rdr) (lad : Option Addr) (lcap : Nat) (t : Tok) (hl : r.list.length < 16384) :
    Tri Tryz.prog 160 #[.pointer (some ⟨b, 0, none⟩), .agg ⟨t.v⟩] [bl b 216 (rdV text (.slice lad r.list.length lcap) r), Row (.slice lad r.list.length lcap) 185 5 r.list.length (r.list.flatMap Tok.v)]
      fun v L => ∃ ad cap, v = .int .i64 0 ∧ L = [bl b 216 (rdV text (.slice ad (r.list.length + 1) cap) r), Row (.slice ad (r.list.length + 1) cap) 185 5 (r.list.length + 1) (r.list.flatMap Tok.v ++ ({ t with line := r.line } : Tok).v)] := by
  unfold rdV
  revert b; intro rb
  refine Tri.of_body (vs := [_, _]) Tryz.func160 rfl rfl fun w0 F => ?_
  repeat' (first | refine Ga ?_ | (refine Gb ?_; intro b) | (refine Gd ?_; intro g cap rest hcap) | (refine Gc ?_; intro ad cap) | (refine St.draw (id := 4) [(0, 0), (1, 0), (2, 0), (3, 0), (4, 1), (5, 1), (6, 2), (7, 3), (8, 0), (9, 0), (10, 3)] [7, 10] mixed (by kernel_rfl) ?_) | (refine Ge ?_ ?_ <;> (intro h; try (exfalso; omega))) | fail)
  refine St.d1 Tryz.func160 ⟨_, ⟨ad, cap, rfl, rfl⟩, ?_⟩
  exact Ent.go
/-- the rest of a rune, behind the end of a run -/
theorem rune_tail (b : Nat) (text : ByteArray) (at_ : Nat) (c : Int) (r r1 r' : Rdr) (hto : at_ ≤ text.data.size) (hsz : text.data.size ≤ 65536) (hf : r.from_ < at_) (hl : 0 ≤ r.line ∧ r.line ≤ 1000000) (hs : shutM text at_ r = some r1) (he : endM at_ c r1 = some r')
    (w0 : World) (F : List HProp) :
    St Tryz.prog ⟨123, Tryz.f123, w0, fun v L => (∃ a, v = .tuple ⟨[.int .i64 a, .int .i64 0]⟩) ∧ L = [RdE b text r'], F, []⟩ [.code (codeAt Tryz.f123 6), .code (restAt Tryz.f123 6)]
      [(0, .pointer (some ⟨b, 0, none⟩)), (1, .int .i64 (at_ : Int)), (2, .int .i32 c)] (RdE b text r :: F) := by
  have hsh := shut_tE b text at_ r r1 hto hsz hf hs
  obtain ⟨l1, l2, l3⟩ := shutM_line hs
  have hsg := sign_r c
  repeat' (first | refine St.halt 9 ?_ |refine Ga ?_ | (refine Gb ?_; intro b) | (refine Gd ?_; intro g cap rest hcap) | (refine Gc ?_; intro ad cap) | refine Gl hsg ?_ | (refine Gt hsh ?_; rintro _ _ ⟨⟨a, rfl⟩, rfl⟩) | (refine Ge ?_ ?_ <;> (intro h; try (exfalso; omega))) | fail)
  show Halt (St _ _ _ _ (RdE b text r1 :: F))
  refine Halt.go (St.ex_out fun x => ?_)
  obtain ⟨lad, lcap⟩ := x
  have hsh := fun F' r2 ad cap => Ent.rd (b := b) (text := text) (r := r2) (lad := ad) (lcap := cap) (L := F')
  revert b; intro rb _ hsh
  unfold rdL
  unfold rdV at hsh ⊢
  unfold endM at he
  by_cases h10 : c = 10
  · rw [if_pos h10] at he
    by_cases hll : 16384 ≤ r1.list.length
    · rw [if_pos hll] at he; cases he
    rw [if_neg hll] at he
    injection he with he
    have hp := put_tO rb text { r1 with remark := false } lad lcap ⟨3, ⟨#[]⟩, 0, at_, 0⟩ (by dsimp only; omega)
    unfold rdV Tok.v at hp
    dsimp only at hp
    have h3 := hsh F r'
    rw [← he] at h3
    unfold Rdr.put at h3
    dsimp only at h3
    rw [List.length_append, List.flatMap_append] at h3
    repeat' (first | refine Ga ?_ | (refine Gb ?_; intro b) | (refine Gd ?_; intro g cap rest hcap) | (refine Gc ?_; intro ad cap)  | (refine Gt hp ?_; rintro _ _ ⟨ad, cap, rfl, rfl⟩) | (refine Ge ?_ ?_ <;> (intro h; try (exfalso; omega))) | fail)
    rw [← he]
    refine St.d1 Tryz.func123 ⟨_, ⟨⟨_, rfl⟩, rfl⟩, Ent.trans ?_ (h3 ad cap)⟩
    exact Ent.go
  rw [if_neg h10] at he
  cases hrm : r1.remark with
  | true =>
    rw [if_pos hrm] at he
    injection he with he
    have h3 := hsh F r1
    rw [hrm] at h3
    rw [← he]
    repeat' (first | refine Ga ?_ | (refine Gb ?_; intro b) | (refine Gd ?_; intro g cap rest hcap) | (refine Gc ?_; intro ad cap)  | (refine Ge ?_ ?_ <;> (intro h; try (exfalso; omega))) | fail)
    refine St.d1 Tryz.func123 ⟨_, ⟨⟨_, rfl⟩, rfl⟩, Ent.trans ?_ (h3 lad lcap)⟩
    exact Ent.go
  | false =>
    rw [if_neg (by rw [hrm]; decide)] at he
    by_cases h32 : c = 32
    · rw [if_pos h32] at he
      injection he with he
      have h3 := hsh F r1
      rw [hrm] at h3
      rw [← he]
      repeat' (first | refine Ga ?_ | (refine Gb ?_; intro b) | (refine Gd ?_; intro g cap rest hcap) | (refine Gc ?_; intro ad cap)  | (refine Ge ?_ ?_ <;> (intro h; try (exfalso; omega))) | fail)
      refine St.d1 Tryz.func123 ⟨_, ⟨⟨_, rfl⟩, rfl⟩, Ent.trans ?_ (h3 lad lcap)⟩
      exact Ent.go
    rw [if_neg h32] at he
    by_cases h9 : c = 9
    · rw [if_pos h9] at he
      injection he with he
      have h3 := hsh F r1
      rw [hrm] at h3
      rw [← he]
      repeat' (first | refine Ga ?_ | (refine Gb ?_; intro b) | (refine Gd ?_; intro g cap rest hcap) | (refine Gc ?_; intro ad cap)  | (refine Ge ?_ ?_ <;> (intro h; try (exfalso; omega))) | fail)
      refine St.d1 Tryz.func123 ⟨_, ⟨⟨_, rfl⟩, rfl⟩, Ent.trans ?_ (h3 lad lcap)⟩
      exact Ent.go
    rw [if_neg h9] at he
    by_cases h13 : c = 13
    · rw [if_pos h13] at he
      injection he with he
      have h3 := hsh F r1
      rw [hrm] at h3
      rw [← he]
      repeat' (first | refine Ga ?_ | (refine Gb ?_; intro b) | (refine Gd ?_; intro g cap rest hcap) | (refine Gc ?_; intro ad cap)  | (refine Ge ?_ ?_ <;> (intro h; try (exfalso; omega))) | fail)
      refine St.d1 Tryz.func123 ⟨_, ⟨⟨_, rfl⟩, rfl⟩, Ent.trans ?_ (h3 lad lcap)⟩
      exact Ent.go
    rw [if_neg h13] at he
    by_cases h35 : c = 35
    · rw [if_pos h35] at he
      injection he with he
      have h3 := hsh F { r1 with remark := true }
      rw [← he]
      repeat' (first | refine Ga ?_ | (refine Gb ?_; intro b) | (refine Gd ?_; intro g cap rest hcap) | (refine Gc ?_; intro ad cap)  | (refine Ge ?_ ?_ <;> (intro h; try (exfalso; omega))) | fail)
      refine St.d1 Tryz.func123 ⟨_, ⟨⟨_, rfl⟩, rfl⟩, Ent.trans ?_ (h3 lad lcap)⟩
      exact Ent.go
    rw [if_neg h35] at he
    cases hsb : signB c with
    | false => rw [hsb] at he; cases he
    | true =>
      rw [if_pos hsb] at he
      rw [hsb] at hsg
      by_cases hll : 16384 ≤ r1.list.length
      · rw [if_pos hll] at he; cases he
      rw [if_neg hll] at he
      injection he with he
      have hp := put_tO rb text r1 lad lcap ⟨2, Utf8.encode c, 0, at_, 0⟩ (by omega)
      unfold rdV Tok.v at hp
      dsimp only at hp
      rw [hrm] at hp
      have h3 := hsh F r'
      generalize RdE rb text r' = X at h3 ⊢
      rw [← he] at h3
      unfold Rdr.put at h3
      dsimp only at h3
      rw [List.length_append, List.flatMap_append, hrm] at h3
      repeat' (first | refine Ga ?_ | (refine Gb ?_; intro b) | (refine Gd ?_; intro g cap rest hcap) | (refine Gc ?_; intro ad cap) | refine Gl hsg ?_ | (refine Gt hp ?_; rintro _ _ ⟨ad, cap, rfl, rfl⟩) | (refine Ge ?_ ?_ <;> (intro h; try (exfalso; omega))) | fail)
      refine St.d1 Tryz.func123 ⟨_, ⟨⟨_, rfl⟩, rfl⟩, Ent.trans ?_ (h3 ad cap)⟩
      exact Ent.go
theorem rune_t (b : Nat) (text : ByteArray) (at_ : Nat) (c : Int) (r r' : Rdr) (hto : at_ ≤ text.data.size) (hsz : text.data.size ≤ 65536) (hf : r.from_ < at_) (hl : 0 ≤ r.line ∧ r.line ≤ 1000000) (h : runeM text at_ c r = some r') :
    Tri Tryz.prog 123 #[.pointer (some ⟨b, 0, none⟩), .int .i64 (at_ : Int), .int .i32 c] [RdE b text r] fun v L => (∃ a, v = .tuple ⟨[.int .i64 a, .int .i64 0]⟩) ∧ L = [RdE b text r'] := by
  have hle := letter_r c
  have hdg := digit_r c
  unfold runeM at h
  refine Tri.ex_out fun x => ?_
  obtain ⟨lad, lcap⟩ := x
  have hsh := fun F' r2 ad cap => Ent.rd (b := b) (text := text) (r := r2) (lad := ad) (lcap := cap) (L := F')
  have tail := fun r1 h1 h2 w0 F => rune_tail b text at_ c r r1 r' hto hsz hf hl h1 h2 w0 F
  unfold rdL
  unfold rdV at hsh ⊢
  dsimp only
  revert b; intro rb hsh tail
  by_cases hin : ((letterB c || digitB c || (decide (c = 46) && decide (0 ≤ r.from_))) && !r.remark) = true
  · rw [if_pos hin] at h
    injection h with h
    rw [Bool.and_eq_true, Bool.or_eq_true, Bool.or_eq_true, Bool.and_eq_true, decide_eq_true_eq, decide_eq_true_eq] at hin
    obtain ⟨hin, hrm⟩ := hin
    have hrm : r.remark = false := by simpa using hrm
    by_cases hfr : r.from_ < 0
    · rw [if_pos hfr] at h
      have h3 := fun F' => hsh F' { r with from_ := at_ } lad lcap
      rw [← h]
      rw [hrm] at h3 ⊢
      cases hl1 : letterB c with
      | true =>
        rw [hl1] at hle
        refine Tri.of_body (vs := [_, _, _]) Tryz.func123 rfl rfl fun w0 F => ?_
        repeat' (first | refine Ga ?_ | (refine Gb ?_; intro b) | (refine Gd ?_; intro g cap rest hcap) | (refine Gc ?_; intro ad cap) | refine Gl hle ?_ | refine Gl hdg ?_ | (refine Ge ?_ ?_ <;> (intro h; try (exfalso; omega))) | fail)
        refine St.d1 Tryz.func123 ⟨_, ⟨⟨_, rfl⟩, rfl⟩, Ent.trans ?_ (h3 F)⟩
        exact Ent.go
      | false =>
        have hd1 : digitB c = true := by
          rcases hin with (hin | hin) | hin
          · rw [hl1] at hin; cases hin
          · exact hin
          · omega
        rw [hl1] at hle
        rw [hd1] at hdg
        refine Tri.of_body (vs := [_, _, _]) Tryz.func123 rfl rfl fun w0 F => ?_
        repeat' (first | refine Ga ?_ | (refine Gb ?_; intro b) | (refine Gd ?_; intro g cap rest hcap) | (refine Gc ?_; intro ad cap) | refine Gl hle ?_ | refine Gl hdg ?_ | (refine Ge ?_ ?_ <;> (intro h; try (exfalso; omega))) | fail)
        refine St.d1 Tryz.func123 ⟨_, ⟨⟨_, rfl⟩, rfl⟩, Ent.trans ?_ (h3 F)⟩
        exact Ent.go
    · rw [if_neg hfr] at h
      have h3 := fun F' => hsh F' r lad lcap
      rw [← h]
      rw [hrm] at h3 ⊢
      cases hl1 : letterB c with
      | true =>
        rw [hl1] at hle
        refine Tri.of_body (vs := [_, _, _]) Tryz.func123 rfl rfl fun w0 F => ?_
        repeat' (first | refine Ga ?_ | (refine Gb ?_; intro b) | (refine Gd ?_; intro g cap rest hcap) | (refine Gc ?_; intro ad cap) | refine Gl hle ?_ | refine Gl hdg ?_ | (refine Ge ?_ ?_ <;> (intro h; try (exfalso; omega))) | fail)
        refine St.d1 Tryz.func123 ⟨_, ⟨⟨_, rfl⟩, rfl⟩, Ent.trans ?_ (h3 F)⟩
        exact Ent.go
      | false =>
        rw [hl1] at hle
        cases hd1 : digitB c with
        | true =>
          rw [hd1] at hdg
          refine Tri.of_body (vs := [_, _, _]) Tryz.func123 rfl rfl fun w0 F => ?_
          repeat' (first | refine Ga ?_ | (refine Gb ?_; intro b) | (refine Gd ?_; intro g cap rest hcap) | (refine Gc ?_; intro ad cap) | refine Gl hle ?_ | refine Gl hdg ?_ | (refine Ge ?_ ?_ <;> (intro h; try (exfalso; omega))) | fail)
          refine St.d1 Tryz.func123 ⟨_, ⟨⟨_, rfl⟩, rfl⟩, Ent.trans ?_ (h3 F)⟩
          exact Ent.go
        | false =>
          rw [hd1] at hdg
          have h46 : c = 46 := by
            rcases hin with (hin | hin) | hin
            · rw [hl1] at hin; cases hin
            · rw [hd1] at hin; cases hin
            · exact hin.1
          refine Tri.of_body (vs := [_, _, _]) Tryz.func123 rfl rfl fun w0 F => ?_
          repeat' (first | refine Ga ?_ | (refine Gb ?_; intro b) | (refine Gd ?_; intro g cap rest hcap) | (refine Gc ?_; intro ad cap) | refine Gl hle ?_ | refine Gl hdg ?_ | (refine Ge ?_ ?_ <;> (intro h; try (exfalso; omega))) | fail)
          refine St.d1 Tryz.func123 ⟨_, ⟨⟨_, rfl⟩, rfl⟩, Ent.trans ?_ (h3 F)⟩
          exact Ent.go
  · rw [if_neg hin] at h
    cases hs : shutM text at_ r with
    | none => rw [hs] at h; cases h
    | some r1 =>
      rw [hs] at h
      have tl := tail r1 hs h
      have h3 := fun F' => hsh F' r lad lcap
      cases hl1 : letterB c with
      | true =>
        rw [hl1] at hle
        have hrm : r.remark = true := by
          cases hq : r.remark with
          | true => rfl
          | false => exact absurd (by rw [hq, hl1]; rfl) hin
        rw [hrm] at h3 ⊢
        refine Tri.of_body (vs := [_, _, _]) Tryz.func123 rfl rfl fun w0 F => ?_
        repeat' (first | refine St.halt 6 ?_ |refine Ga ?_ | (refine Gb ?_; intro b) | (refine Gd ?_; intro g cap rest hcap) | (refine Gc ?_; intro ad cap) | refine Gl hle ?_ | refine Gl hdg ?_ | (refine Ge ?_ ?_ <;> (intro h; try (exfalso; omega))) | fail)
        refine Halt.go (St.conv (tl w0 F) Sub.go (Ent.trans ?_ (h3 F)))
        exact Ent.go
      | false =>
        rw [hl1] at hle
        cases hd1 : digitB c with
        | true =>
          rw [hd1] at hdg
          have hrm : r.remark = true := by
            cases hq : r.remark with
            | true => rfl
            | false => exact absurd (by rw [hq, hl1, hd1]; rfl) hin
          rw [hrm] at h3 ⊢
          refine Tri.of_body (vs := [_, _, _]) Tryz.func123 rfl rfl fun w0 F => ?_
          repeat' (first | refine St.halt 6 ?_ |refine Ga ?_ | (refine Gb ?_; intro b) | (refine Gd ?_; intro g cap rest hcap) | (refine Gc ?_; intro ad cap) | refine Gl hle ?_ | refine Gl hdg ?_ | (refine Ge ?_ ?_ <;> (intro h; try (exfalso; omega))) | fail)
          refine Halt.go (St.conv (tl w0 F) Sub.go (Ent.trans ?_ (h3 F)))
          exact Ent.go
        | false =>
          rw [hd1] at hdg
          by_cases h46 : c = 46
          · by_cases hfr : 0 ≤ r.from_
            · have hrm : r.remark = true := by
                cases hq : r.remark with
                | true => rfl
                | false => exact absurd (by rw [hq, hl1, hd1, decide_eq_true h46, decide_eq_true hfr]; rfl) hin
              rw [hrm] at h3 ⊢
              refine Tri.of_body (vs := [_, _, _]) Tryz.func123 rfl rfl fun w0 F => ?_
              repeat' (first | refine St.halt 6 ?_ |refine Ga ?_ | (refine Gb ?_; intro b) | (refine Gd ?_; intro g cap rest hcap) | (refine Gc ?_; intro ad cap) | refine Gl hle ?_ | refine Gl hdg ?_ | (refine Ge ?_ ?_ <;> (intro h; try (exfalso; omega))) | fail)
              refine Halt.go (St.conv (tl w0 F) Sub.go (Ent.trans ?_ (h3 F)))
              exact Ent.go
            · refine Tri.of_body (vs := [_, _, _]) Tryz.func123 rfl rfl fun w0 F => ?_
              repeat' (first | refine St.halt 6 ?_ |refine Ga ?_ | (refine Gb ?_; intro b) | (refine Gd ?_; intro g cap rest hcap) | (refine Gc ?_; intro ad cap) | refine Gl hle ?_ | refine Gl hdg ?_ | (refine Ge ?_ ?_ <;> (intro h; try (exfalso; omega))) | fail)
              refine Halt.go (St.conv (tl w0 F) Sub.go (Ent.trans ?_ (h3 F)))
              exact Ent.go
          · refine Tri.of_body (vs := [_, _, _]) Tryz.func123 rfl rfl fun w0 F => ?_
            repeat' (first | refine St.halt 6 ?_ |refine Ga ?_ | (refine Gb ?_; intro b) | (refine Gd ?_; intro g cap rest hcap) | (refine Gc ?_; intro ad cap) | refine Gl hle ?_ | refine Gl hdg ?_ | (refine Ge ?_ ?_ <;> (intro h; try (exfalso; omega))) | fail)
            refine Halt.go (St.conv (tl w0 F) Sub.go (Ent.trans ?_ (h3 F)))
            exact Ent.go
end Go.Proofs.YtphheopbngdhhaaGreatDoor
