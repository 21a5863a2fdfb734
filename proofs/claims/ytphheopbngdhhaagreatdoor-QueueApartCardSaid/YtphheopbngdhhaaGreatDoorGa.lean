/-
  Package glyph: runes, numbers.
-/
import Derived.Test.YtphheopbngdhhaaGreatDoorTy
namespace Go.Proofs.YtphheopbngdhhaaGreatDoor
set_option maxRecDepth 100000
def digitB (c : Int) : Bool := decide (48 ≤ c) && decide (c ≤ 57)
def letterB (c : Int) : Bool := decide (97 ≤ c) && decide (c ≤ 122) || decide (65 ≤ c) && decide (c ≤ 90) || decide (c = 95)
theorem digit_r (c : Int) : RTri Tryz.prog 159 #[.int .i32 c] [] (.bool (digitB c)) := by
  apply RTri.of_pure
  refine Tri.of_body (vs := [_]) Tryz.func159 rfl rfl fun w0 F => ?_
  repeat' (first | refine Ga ?_ | (refine Gb ?_; intro b) | (refine Gd ?_; intro g cap rest hcap) | (refine Gc ?_; intro ad cap)  | (refine Ge ?_ ?_ <;> (intro h; try (exfalso; omega))) | fail)
  all_goals (first | refine St.dn Tryz.func159 ⟨?_, rfl⟩ Ent.go | refine St.fl Tryz.func159 ⟨?_, rfl⟩ Ent.go)
  all_goals exact congrArg Value.bool (by simp [digitB]; try omega)
theorem letter_r (c : Int) : RTri Tryz.prog 158 #[.int .i32 c] [] (.bool (letterB c)) := by
  apply RTri.of_pure
  refine Tri.of_body (vs := [_]) Tryz.func158 rfl rfl fun w0 F => ?_
  repeat' (first | refine Ga ?_ | (refine Gb ?_; intro b) | (refine Gd ?_; intro g cap rest hcap) | (refine Gc ?_; intro ad cap)  | (refine Ge ?_ ?_ <;> (intro h; try (exfalso; omega))) | fail)
  all_goals (first | refine St.dn Tryz.func158 ⟨?_, rfl⟩ Ent.go | refine St.fl Tryz.func158 ⟨?_, rfl⟩ Ent.go)
  all_goals exact congrArg Value.bool (by first | (simp [letterB]; omega) | (rw [Bool.eq_iff_iff]; simp [letterB]; omega))
def signsL : List Int := [8592, 43, 45, 215, 37, 61, 60, 91, 93, 58, 36, 44]
def signB (c : Int) : Bool := decide (c ∈ signsL)
theorem sign_r (c : Int) : RTri Tryz.prog 161 #[.int .i32 c] [] (.bool (signB c)) := by
  apply RTri.of_pure
  have d0 : Utf8.decode ⟨#[226, 134, 144, 43, 45, 195, 151, 37, 61, 60, 91, 93, 58, 36, 44]⟩ 0 = (8592, 3) := by kernel_rfl
  have d3 : Utf8.decode ⟨#[226, 134, 144, 43, 45, 195, 151, 37, 61, 60, 91, 93, 58, 36, 44]⟩ 3 = (43, 1) := by kernel_rfl
  have d4 : Utf8.decode ⟨#[226, 134, 144, 43, 45, 195, 151, 37, 61, 60, 91, 93, 58, 36, 44]⟩ 4 = (45, 1) := by kernel_rfl
  have d5 : Utf8.decode ⟨#[226, 134, 144, 43, 45, 195, 151, 37, 61, 60, 91, 93, 58, 36, 44]⟩ 5 = (215, 2) := by kernel_rfl
  have d7 : Utf8.decode ⟨#[226, 134, 144, 43, 45, 195, 151, 37, 61, 60, 91, 93, 58, 36, 44]⟩ 7 = (37, 1) := by kernel_rfl
  have d8 : Utf8.decode ⟨#[226, 134, 144, 43, 45, 195, 151, 37, 61, 60, 91, 93, 58, 36, 44]⟩ 8 = (61, 1) := by kernel_rfl
  have d9 : Utf8.decode ⟨#[226, 134, 144, 43, 45, 195, 151, 37, 61, 60, 91, 93, 58, 36, 44]⟩ 9 = (60, 1) := by kernel_rfl
  have d10 : Utf8.decode ⟨#[226, 134, 144, 43, 45, 195, 151, 37, 61, 60, 91, 93, 58, 36, 44]⟩ 10 = (91, 1) := by kernel_rfl
  have d11 : Utf8.decode ⟨#[226, 134, 144, 43, 45, 195, 151, 37, 61, 60, 91, 93, 58, 36, 44]⟩ 11 = (93, 1) := by kernel_rfl
  have d12 : Utf8.decode ⟨#[226, 134, 144, 43, 45, 195, 151, 37, 61, 60, 91, 93, 58, 36, 44]⟩ 12 = (58, 1) := by kernel_rfl
  have d13 : Utf8.decode ⟨#[226, 134, 144, 43, 45, 195, 151, 37, 61, 60, 91, 93, 58, 36, 44]⟩ 13 = (36, 1) := by kernel_rfl
  have d14 : Utf8.decode ⟨#[226, 134, 144, 43, 45, 195, 151, 37, 61, 60, 91, 93, 58, 36, 44]⟩ 14 = (44, 1) := by kernel_rfl
  refine Tri.of_body (vs := [_]) Tryz.func161 rfl rfl fun w0 F => ?_
  repeat' (first | (apply St.loop1) | (apply St.inLoop1) | refine Ga ?_ | (refine Gb ?_; intro b) | (refine Gd ?_; intro g cap rest hcap) | (refine Gc ?_; intro ad cap)  | (refine Ge ?_ ?_ <;> (intro h; try (exfalso; omega))) | fail)
  all_goals (first | refine St.dn Tryz.func161 ⟨?_, rfl⟩ Ent.go | refine St.fl Tryz.func161 ⟨?_, rfl⟩ Ent.go)
  all_goals exact congrArg Value.bool (by first | (simp [signB, signsL]; omega) | (rw [Bool.eq_iff_iff]; simp [signB, signsL]; omega))
theorem dec_pos (s : ByteArray) (pos : Nat) : 1 ≤ (Utf8.decode s pos).2 := by
  unfold Utf8.decode
  dsimp only
  repeat' split
  all_goals (dsimp only; decide)
theorem dec_max (s : ByteArray) (pos : Nat) : (Utf8.decode s pos).1 ≤ 1114111 := by
  have hb : ∀ k, (s.get! (pos + k)).toNat < 256 := fun k => (s.get! (pos + k)).toNat_lt
  have h0 := hb 0; have h1 := hb 1; have h2 := hb 2; have h3 := hb 3
  simp only [Utf8.decode]
  repeat' split
  all_goals simp_all [Utf8.runeError, Utf8.valid]
  all_goals omega
/-- a run's number, from a place on -/
def numGo (s : ByteArray) : Nat → Nat → Nat → Option Nat
  | 0, _, _ => none
  | k + 1, pos, n => if s.data.size ≤ pos then some n else
    if digitB ((Utf8.decode s pos).1 : Int) then
      (if (18446744073709551615 - ((Utf8.decode s pos).1 - 48)) / 10 < n then none else numGo s k (pos + (Utf8.decode s pos).2) (10 * n + ((Utf8.decode s pos).1 - 48)))
    else none
def numOf (s : ByteArray) : Option Nat := if 1 < s.data.size ∧ ((s.data.getD (Int.toNat 0) 0).toNat : Int) = 48 then none else numGo s (s.data.size + 2) 0 0
def numV : Option Nat → Value
  | some n => .tuple ⟨[.int .u64 (n : Int), .bool true]⟩
  | none => .tuple ⟨[.int .u64 0, .bool false]⟩
theorem number_r (s : ByteArray) (hsz : s.data.size ≤ 1000000) : RTri Tryz.prog 162 #[.string s] [] (numV (numOf s)) := by
  apply RTri.of_pure
  by_cases h0 : 1 < s.data.size ∧ ((s.data.getD (Int.toNat 0) 0).toNat : Int) = 48
  · rw [numOf, if_pos h0]
    obtain ⟨h1, h2⟩ := h0
    refine Tri.of_body (vs := [_]) Tryz.func162 rfl rfl fun w0 F => ?_
    repeat' (first | refine Ga ?_ | (refine Gb ?_; intro b) | (refine Gd ?_; intro g cap rest hcap) | (refine Gc ?_; intro ad cap)  | (refine Ge ?_ ?_ <;> (intro h; try (exfalso; omega))) | fail)
    all_goals (first | refine St.dn Tryz.func162 ⟨?_, rfl⟩ Ent.go | refine St.fl Tryz.func162 ⟨?_, rfl⟩ Ent.go)
    all_goals rfl
  · rw [numOf, if_neg h0]
    rcases Nat.lt_or_ge 1 s.data.size with h1 | h1
    · refine Tri.of_body (vs := [_]) Tryz.func162 rfl rfl fun w0 F => ?_
      repeat' (first | refine Ga ?_ | (refine Gb ?_; intro b) | (refine Gd ?_; intro g cap rest hcap) | (refine Gc ?_; intro ad cap)  | (refine Ge ?_ ?_ <;> (intro h; try (exfalso; omega))) | fail)
      refine St.loopY (Lr := ?Lr1) (ι := { x : Nat × Nat × Nat // numGo s (s.data.size + 2) 0 0 = numGo s x.1 x.2.1 x.2.2 ∧ s.data.size + 2 ≤ x.1 + x.2.1 ∧ 2 ≤ x.1 ∧ x.2.2 ≤ 18446744073709551615 }) (fun x => x.1.1) (fun x => [(4, .int .u64 (x.1.2.2 : Int))]) (fun x => [si b s x.1.2.1]) ⟨(s.data.size + 2, 0, 0), rfl, by dsimp only; omega, by dsimp only; omega, by dsimp only; decide⟩ ?hE1 ?hL1 ?round1
      case hE1 => exact Sub.go
      case hL1 => exact Takes.go
      case round1 =>
        rintro ⟨⟨k, pos, n⟩, hgo, hk, hk2, hn⟩ IH
        dsimp only at hgo hk hk2 hn IH ⊢
        obtain ⟨k, rfl⟩ : ∃ k', k = k' + 1 := ⟨k - 1, by omega⟩
        have hu : numGo s (k + 1) pos n = if s.data.size ≤ pos then some n else if digitB ((Utf8.decode s pos).1 : Int) then (if (18446744073709551615 - ((Utf8.decode s pos).1 - 48)) / 10 < n then none else numGo s k (pos + (Utf8.decode s pos).2) (10 * n + ((Utf8.decode s pos).1 - 48))) else none := rfl
        rw [hu] at hgo
        have hp := dec_pos s pos
        have hm := dec_max s pos
        generalize hdec : Utf8.decode s pos = d at hgo hp hm
        obtain ⟨cc, wd⟩ := d
        dsimp only at hgo hp hm
        by_cases he : s.data.size ≤ pos
        · rw [if_pos he] at hgo
          repeat' (first | refine Ga ?_ | (refine Gb ?_; intro b) | (refine Gd ?_; intro g cap rest hcap) | (refine Gc ?_; intro ad cap)  | (refine Ge ?_ ?_ <;> (intro h; try (exfalso; omega))) | fail)
          (first | refine St.dn Tryz.func162 ⟨?_, rfl⟩ Ent.go | refine St.fl Tryz.func162 ⟨?_, rfl⟩ Ent.go)
          rw [hgo]; rfl
        · rw [if_neg he] at hgo
          have hdg := digit_r (cc : Int)
          cases hd : digitB (cc : Int) with
          | false =>
            rw [hd] at hgo hdg
            repeat' (first | refine Ga ?_ | (refine Gb ?_; intro b) | (refine Gd ?_; intro g cap rest hcap) | (refine Gc ?_; intro ad cap) | refine Gl hdg ?_ | (refine Ge ?_ ?_ <;> (intro h; try (exfalso; omega))) | fail)
            (first | refine St.dn Tryz.func162 ⟨?_, rfl⟩ Ent.go | refine St.fl Tryz.func162 ⟨?_, rfl⟩ Ent.go)
            rw [hgo]; rfl
          | true =>
            rw [hd] at hgo hdg
            have hd2 : 48 ≤ (cc : Int) ∧ (cc : Int) ≤ 57 := by simpa [digitB] using hd
            rw [if_pos rfl] at hgo
            by_cases hov : (18446744073709551615 - (cc - 48)) / 10 < n
            · rw [if_pos hov] at hgo
              repeat' (first | refine Ga ?_ | (refine Gb ?_; intro b) | (refine Gd ?_; intro g cap rest hcap) | (refine Gc ?_; intro ad cap) | refine Gl hdg ?_ | (refine Ge ?_ ?_ <;> (intro h; try (exfalso; omega))) | fail)
              all_goals (first | refine St.dn Tryz.func162 ⟨?_, rfl⟩ Ent.go | refine St.fl Tryz.func162 ⟨?_, rfl⟩ Ent.go)
              all_goals (rw [hgo]; rfl)
            · rw [if_neg hov] at hgo
              repeat' (first | refine Ga ?_ | (refine Gb ?_; intro b) | (refine Gd ?_; intro g cap rest hcap) | (refine Gc ?_; intro ad cap) | refine Gl hdg ?_ | (refine Ge ?_ ?_ <;> (intro h; try (exfalso; omega))) | fail)
              have en : 10 * (n : Int) + ((cc : Int) - 48) = ((10 * n + (cc - 48) : Nat) : Int) := by omega
              refine IH ⟨(k, pos + wd, 10 * n + (cc - 48)), hgo, by dsimp only; omega, by dsimp only; omega, by dsimp only; omega⟩ (by show k < k + 1; omega) ?_ ?_
              · dsimp only; rw [← en]; exact Sub.go
              · exact Ent.go
    · refine Tri.of_body (vs := [_]) Tryz.func162 rfl rfl fun w0 F => ?_
      repeat' (first | refine Ga ?_ | (refine Gb ?_; intro b) | (refine Gd ?_; intro g cap rest hcap) | (refine Gc ?_; intro ad cap)  | (refine Ge ?_ ?_ <;> (intro h; try (exfalso; omega))) | fail)
      refine St.loopY (Lr := ?Lr2) (ι := { x : Nat × Nat × Nat // numGo s (s.data.size + 2) 0 0 = numGo s x.1 x.2.1 x.2.2 ∧ s.data.size + 2 ≤ x.1 + x.2.1 ∧ 2 ≤ x.1 ∧ x.2.2 ≤ 18446744073709551615 }) (fun x => x.1.1) (fun x => [(4, .int .u64 (x.1.2.2 : Int))]) (fun x => [si b s x.1.2.1]) ⟨(s.data.size + 2, 0, 0), rfl, by dsimp only; omega, by dsimp only; omega, by dsimp only; decide⟩ ?hE2 ?hL2 ?round2
      case hE2 => exact Sub.go
      case hL2 => exact Takes.go
      case round2 =>
        rintro ⟨⟨k, pos, n⟩, hgo, hk, hk2, hn⟩ IH
        dsimp only at hgo hk hk2 hn IH ⊢
        obtain ⟨k, rfl⟩ : ∃ k', k = k' + 1 := ⟨k - 1, by omega⟩
        have hu : numGo s (k + 1) pos n = if s.data.size ≤ pos then some n else if digitB ((Utf8.decode s pos).1 : Int) then (if (18446744073709551615 - ((Utf8.decode s pos).1 - 48)) / 10 < n then none else numGo s k (pos + (Utf8.decode s pos).2) (10 * n + ((Utf8.decode s pos).1 - 48))) else none := rfl
        rw [hu] at hgo
        have hp := dec_pos s pos
        have hm := dec_max s pos
        generalize hdec : Utf8.decode s pos = d at hgo hp hm
        obtain ⟨cc, wd⟩ := d
        dsimp only at hgo hp hm
        by_cases he : s.data.size ≤ pos
        · rw [if_pos he] at hgo
          repeat' (first | refine Ga ?_ | (refine Gb ?_; intro b) | (refine Gd ?_; intro g cap rest hcap) | (refine Gc ?_; intro ad cap)  | (refine Ge ?_ ?_ <;> (intro h; try (exfalso; omega))) | fail)
          (first | refine St.dn Tryz.func162 ⟨?_, rfl⟩ Ent.go | refine St.fl Tryz.func162 ⟨?_, rfl⟩ Ent.go)
          rw [hgo]; rfl
        · rw [if_neg he] at hgo
          have hdg := digit_r (cc : Int)
          cases hd : digitB (cc : Int) with
          | false =>
            rw [hd] at hgo hdg
            repeat' (first | refine Ga ?_ | (refine Gb ?_; intro b) | (refine Gd ?_; intro g cap rest hcap) | (refine Gc ?_; intro ad cap) | refine Gl hdg ?_ | (refine Ge ?_ ?_ <;> (intro h; try (exfalso; omega))) | fail)
            (first | refine St.dn Tryz.func162 ⟨?_, rfl⟩ Ent.go | refine St.fl Tryz.func162 ⟨?_, rfl⟩ Ent.go)
            rw [hgo]; rfl
          | true =>
            rw [hd] at hgo hdg
            have hd2 : 48 ≤ (cc : Int) ∧ (cc : Int) ≤ 57 := by simpa [digitB] using hd
            rw [if_pos rfl] at hgo
            by_cases hov : (18446744073709551615 - (cc - 48)) / 10 < n
            · rw [if_pos hov] at hgo
              repeat' (first | refine Ga ?_ | (refine Gb ?_; intro b) | (refine Gd ?_; intro g cap rest hcap) | (refine Gc ?_; intro ad cap) | refine Gl hdg ?_ | (refine Ge ?_ ?_ <;> (intro h; try (exfalso; omega))) | fail)
              all_goals (first | refine St.dn Tryz.func162 ⟨?_, rfl⟩ Ent.go | refine St.fl Tryz.func162 ⟨?_, rfl⟩ Ent.go)
              all_goals (rw [hgo]; rfl)
            · rw [if_neg hov] at hgo
              repeat' (first | refine Ga ?_ | (refine Gb ?_; intro b) | (refine Gd ?_; intro g cap rest hcap) | (refine Gc ?_; intro ad cap) | refine Gl hdg ?_ | (refine Ge ?_ ?_ <;> (intro h; try (exfalso; omega))) | fail)
              have en : 10 * (n : Int) + ((cc : Int) - 48) = ((10 * n + (cc - 48) : Nat) : Int) := by omega
              refine IH ⟨(k, pos + wd, 10 * n + (cc - 48)), hgo, by dsimp only; omega, by dsimp only; omega, by dsimp only; omega⟩ (by show k < k + 1; omega) ?_ ?_
              · dsimp only; rw [← en]; exact Sub.go
              · exact Ent.go
end Go.Proofs.YtphheopbngdhhaaGreatDoor
