/-
  A text's tokens, once more, by a pass that holds what is left of the text (for long texts).
-/
import Derived.Test.YtphheopbngdhhaaGreatDoorJi
namespace Go.Proofs.YtphheopbngdhhaaGreatDoor
set_option maxRecDepth 100000
def decL (l : List UInt8) : Nat × Nat :=
  let at' (k : Nat) : Nat := (l.getD k 0).toNat
  let cont (k : Nat) : Bool := !(l.drop k).isEmpty && at' k / 64 == 2
  let b0 := at' 0
  if b0 < 0x80 then (b0, 1)
  else if b0 / 32 == 6 && cont 1 then
    let c := (b0 % 32) * 64 + at' 1 % 64
    if c ≥ 0x80 then (c, 2) else (65533, 1)
  else if b0 / 16 == 14 && cont 1 && cont 2 then
    let c := (b0 % 16) * 4096 + (at' 1 % 64) * 64 + at' 2 % 64
    if c ≥ 0x800 && Utf8.valid c then (c, 3) else (65533, 1)
  else if b0 / 8 == 30 && cont 1 && cont 2 && cont 3 then
    let c := (b0 % 8) * 262144 + (at' 1 % 64) * 4096 + (at' 2 % 64) * 64 + at' 3 % 64
    if c ≥ 0x10000 && Utf8.valid c then (c, 4) else (65533, 1)
  else (65533, 1)
theorem get_drop (l : List UInt8) (i k : Nat) : (⟨⟨l⟩⟩ : ByteArray).get! (i + k) = (l.drop i).getD k 0 := by
  show (⟨l⟩ : Array UInt8)[i + k]! = _
  rw [List.getD_eq_getElem?_getD, List.getElem?_drop]
  simp [Array.getElem!_eq_getD, Array.getD_eq_getD_getElem?]
  rfl
theorem decode_drop (l : List UInt8) (i : Nat) : Utf8.decode ⟨⟨l⟩⟩ i = decL (l.drop i) := by
  have hc : ∀ k, decide (i + k < (⟨⟨l⟩⟩ : ByteArray).size) = !((l.drop i).drop k).isEmpty := by
    intro k
    show decide (i + k < l.length) = _
    rw [List.drop_drop]
    cases h : (l.drop (i + k)) with
    | nil =>
      have := List.drop_eq_nil_iff.mp h
      rw [decide_eq_false (by omega)]; rfl
    | cons a b =>
      have : ¬ l.length ≤ i + k := fun h' => by rw [List.drop_eq_nil_of_le h'] at h; cases h
      rw [decide_eq_true (by omega)]; rfl
  unfold Utf8.decode decL
  simp only [get_drop, hc, Utf8.runeError]
structure Lx where
  toks : List Tok
  n : Nat
  line : Int
  from_ : Int
  word : List UInt8
  remark : Bool
def Lx.put (x : Lx) (t : Tok) : Lx := { x with toks := { t with line := x.line } :: x.toks, n := x.n + 1 }
def shutF (x : Lx) : Option Lx := if x.from_ < 0 then some x else if 16384 ≤ x.n then none else match runM ⟨⟨x.word.reverse⟩⟩ x.from_ with | some t => some ({ x with from_ := -1, word := [] }.put t) | none => none
def endF (at_ : Nat) (c : Int) (r : Lx) : Option Lx :=
  if c = 10 then (if 16384 ≤ r.n then none else some { ({ r with remark := false }.put ⟨3, ⟨#[]⟩, 0, at_, 0⟩) with line := r.line + 1 })
  else if r.remark = true then some r else if c = 32 then some r else if c = 9 then some r else if c = 13 then some r
  else if c = 35 then some { r with remark := true }
  else if signB c = true then (if 16384 ≤ r.n then none else some (r.put ⟨2, Utf8.encode c, 0, at_, 0⟩)) else none
def runeF (at_ : Nat) (c : Int) (bytes : List UInt8) (r : Lx) : Option Lx :=
  if (letterB c || digitB c || (decide (c = 46) && decide (0 ≤ r.from_))) && !r.remark then some (if r.from_ < 0 then { r with from_ := at_, word := bytes.reverse } else { r with word := bytes.reverse ++ r.word })
  else match shutF r with | some r1 => endF at_ c r1 | none => none
def lexFgo : Nat → List UInt8 → Nat → Lx → Option Lx
  | 0, _, _, _ => none
  | k + 1, rest, pos, x => match rest with
    | [] => some x
    | _ :: _ => match runeF pos ((decL rest).1 : Int) (rest.take (decL rest).2) x with
      | some x' => lexFgo k (rest.drop (decL rest).2) (pos + (decL rest).2) x'
      | none => none
def lexF (l : List UInt8) : Option (List Tok) :=
  match lexFgo (l.length + 2) l 0 ⟨[], 0, 0, -1, [], false⟩ with
  | some x => (match shutF x with | some x' => some x'.toks.reverse | none => none)
  | none => none
def asmF (l : List UInt8) : Option (List Ins) := match lexF l with
  | none => none
  | some toks => match asmGo ⟨[], []⟩ ((linesGo [] toks).filter someL) with
    | none => none
    | some pr => pr.code
/-- both passes at one place -/
structure LxR (l : List UInt8) (pos : Nat) (x : Lx) (r : Rdr) : Prop where
  list : r.list = x.toks.reverse
  n : x.n = x.toks.length
  line : r.line = x.line
  from_ : r.from_ = x.from_
  remark : r.remark = x.remark
  word : 0 ≤ x.from_ → x.from_.toNat ≤ pos ∧ (l.drop x.from_.toNat).take (pos - x.from_.toNat) = x.word.reverse
theorem LxR.put {l : List UInt8} {pos : Nat} {x : Lx} {r : Rdr} (h : LxR l pos x r) (t : Tok) : LxR l pos (x.put t) (r.put t) := by
  refine ⟨?_, ?_, h.line, h.from_, h.remark, h.word⟩
  · show r.list ++ [{ t with line := r.line }] = ({ t with line := x.line } :: x.toks).reverse
    rw [h.list, h.line, List.reverse_cons]
  · show x.n + 1 = (_ :: x.toks).length
    rw [h.n, List.length_cons]
theorem LxR.shut {l : List UInt8} {pos : Nat} {x x' : Lx} {r : Rdr} (h : LxR l pos x r) (hs : shutF x = some x') : ∃ r', shutM ⟨⟨l⟩⟩ pos r = some r' ∧ LxR l pos x' r' ∧ x'.from_ < 0 := by
  unfold shutF at hs
  unfold shutM
  rw [h.from_]
  by_cases hf : x.from_ < 0
  · rw [if_pos hf] at hs ⊢
    injection hs with hs
    subst hs
    exact ⟨r, rfl, h, hf⟩
  · rw [if_neg hf] at hs ⊢
    have hl : r.list.length = x.n := by rw [h.list, List.length_reverse, h.n]
    rw [hl]
    by_cases hn : 16384 ≤ x.n
    · rw [if_pos hn] at hs; cases hs
    · rw [if_neg hn] at hs ⊢
      obtain ⟨w1, w2⟩ := h.word (by omega)
      have he : (⟨⟨l⟩⟩ : ByteArray).extract x.from_.toNat pos = ⟨⟨x.word.reverse⟩⟩ := by
        have h1 : ((⟨⟨l⟩⟩ : ByteArray).extract x.from_.toNat pos).data.toList = x.word.reverse := by
          rw [ByteArray.data_extract, Array.toList_extract]
          exact w2
        cases hx : (⟨⟨l⟩⟩ : ByteArray).extract x.from_.toNat pos with
        | mk d =>
          rw [hx] at h1
          cases d with
          | mk dl => rw [← h1]
      rw [he]
      cases hr : runM ⟨⟨x.word.reverse⟩⟩ x.from_ with
      | none => rw [hr] at hs; cases hs
      | some t =>
        rw [hr] at hs
        injection hs with hs
        subst hs
        refine ⟨_, rfl, LxR.put (x := { x with from_ := -1, word := [] }) (r := { r with from_ := -1 }) ⟨h.list, h.n, h.line, rfl, h.remark, fun h0 => absurd h0 (by show ¬ (0 : Int) ≤ -1; decide)⟩ t, by show (-1 : Int) < 0; decide⟩
theorem LxR.endM {l : List UInt8} {pos at_ : Nat} {c : Int} {x x' : Lx} {r : Rdr} (h : LxR l pos x r) (hf : x.from_ < 0) (hs : endF at_ c x = some x') : ∃ r', endM at_ c r = some r' ∧ (∀ q, LxR l q x' r') ∧ x'.from_ < 0 := by
  have any : ∀ {y : Lx} {s : Rdr}, LxR l pos y s → y.from_ < 0 → ∀ q, LxR l q y s := fun h1 h2 q => ⟨h1.list, h1.n, h1.line, h1.from_, h1.remark, fun h0 => by omega⟩
  have hl : r.list.length = x.n := by rw [h.list, List.length_reverse, h.n]
  unfold endF at hs
  unfold Go.Proofs.YtphheopbngdhhaaGreatDoor.endM
  rw [hl, h.remark]
  split at hs
  · next e =>
    rw [if_pos e]
    split at hs
    · cases hs
    · next e2 =>
      rw [if_neg e2]
      injection hs with hs
      subst hs
      have h2 : LxR l pos ({ x with remark := false } : Lx) ({ r with remark := false } : Rdr) := ⟨h.list, h.n, h.line, h.from_, rfl, h.word⟩
      have h3 := h2.put ⟨3, ⟨#[]⟩, 0, at_, 0⟩
      refine ⟨_, rfl, any ⟨h3.list, h3.n, by show r.line + 1 = x.line + 1; rw [h.line], h3.from_, h3.remark, h3.word⟩ hf, hf⟩
  next e =>
  rw [if_neg e]
  split at hs
  · next e2 => rw [if_pos e2]; injection hs with hs; subst hs; exact ⟨_, rfl, any h hf, hf⟩
  next e2 =>
  rw [if_neg e2]
  split at hs
  · next e3 => rw [if_pos e3]; injection hs with hs; subst hs; exact ⟨_, rfl, any h hf, hf⟩
  next e3 =>
  rw [if_neg e3]
  split at hs
  · next e4 => rw [if_pos e4]; injection hs with hs; subst hs; exact ⟨_, rfl, any h hf, hf⟩
  next e4 =>
  rw [if_neg e4]
  split at hs
  · next e5 => rw [if_pos e5]; injection hs with hs; subst hs; exact ⟨_, rfl, any h hf, hf⟩
  next e5 =>
  rw [if_neg e5]
  split at hs
  · next e6 => rw [if_pos e6]; injection hs with hs; subst hs; exact ⟨_, rfl, any ⟨h.list, h.n, h.line, h.from_, rfl, h.word⟩ hf, hf⟩
  next e6 =>
  rw [if_neg e6]
  split at hs
  · next e7 =>
    rw [if_pos e7]
    split at hs
    · cases hs
    · next e8 => rw [if_neg e8]; injection hs with hs; subst hs; exact ⟨_, rfl, any (h.put _) hf, hf⟩
  · cases hs
theorem decL_pos (l : List UInt8) : 1 ≤ (decL l).2 := by
  unfold decL
  dsimp only
  repeat' split
  all_goals simp
theorem LxR.rune {l : List UInt8} {pos m : Nat} {c : Int} {x x' : Lx} {r : Rdr} (h : LxR l pos x r) (hs : runeF pos c ((l.drop pos).take m) x = some x') : ∃ r', runeM ⟨⟨l⟩⟩ pos c r = some r' ∧ LxR l (pos + m) x' r' := by
  unfold runeF at hs
  unfold runeM
  rw [h.from_, h.remark]
  split at hs
  · next e =>
    rw [if_pos e]
    injection hs with hs
    subst hs
    by_cases hf : x.from_ < 0
    · rw [if_pos hf, if_pos hf]
      refine ⟨_, rfl, h.list, h.n, h.line, rfl, rfl, fun _ => ⟨by show ((pos : Int)).toNat ≤ pos + m; omega, ?_⟩⟩
      show (l.drop ((pos : Int)).toNat).take (pos + m - ((pos : Int)).toNat) = (((l.drop pos).take m).reverse).reverse
      rw [List.reverse_reverse, Int.toNat_natCast, Nat.add_sub_cancel_left]
    · rw [if_neg hf, if_neg hf]
      obtain ⟨w1, w2⟩ := h.word (by omega)
      refine ⟨_, rfl, h.list, h.n, h.line, h.from_, h.remark, fun _ => ⟨by show x.from_.toNat ≤ pos + m; omega, ?_⟩⟩
      show (l.drop x.from_.toNat).take (pos + m - x.from_.toNat) = (((l.drop pos).take m).reverse ++ x.word).reverse
      rw [List.reverse_append, List.reverse_reverse, ← w2, show pos + m - x.from_.toNat = (pos - x.from_.toNat) + m by omega, List.take_add, List.drop_drop, show x.from_.toNat + (pos - x.from_.toNat) = pos by omega]
  · next e =>
    rw [if_neg e]
    cases hq : shutF x with
    | none => rw [hq] at hs; cases hs
    | some x1 =>
      rw [hq] at hs
      obtain ⟨r1, e1, h1, f1⟩ := h.shut hq
      rw [e1]
      obtain ⟨r2, e2, h2, _⟩ := h1.endM f1 hs
      exact ⟨r2, e2, h2 _⟩
theorem lexF_go {l : List UInt8} : ∀ (k pos : Nat) (x x' : Lx) (r : Rdr), LxR l pos x r → lexFgo k (l.drop pos) pos x = some x' → ∃ r' q, lexGo ⟨⟨l⟩⟩ k pos r = some r' ∧ LxR l q x' r' ∧ l.length ≤ q
  | 0, _, _, _, _, _, h => by cases h
  | k + 1, pos, x, x', r, hr, h => by
    unfold lexFgo at h
    unfold lexGo
    cases hd : l.drop pos with
    | nil =>
      rw [hd] at h
      injection h with h
      subst h
      have hle := List.drop_eq_nil_iff.mp hd
      rw [if_pos (show (⟨⟨l⟩⟩ : ByteArray).data.size ≤ pos from hle)]
      exact ⟨r, pos, rfl, hr, hle⟩
    | cons b t =>
      have hlt : ¬ l.length ≤ pos := fun h' => by rw [List.drop_eq_nil_of_le h'] at hd; cases hd
      rw [if_neg (show ¬ (⟨⟨l⟩⟩ : ByteArray).data.size ≤ pos from hlt), decode_drop]
      have h' : (match runeF pos ((decL (l.drop pos)).1 : Int) ((l.drop pos).take (decL (l.drop pos)).2) x with
        | some x' => lexFgo k ((l.drop pos).drop (decL (l.drop pos)).2) (pos + (decL (l.drop pos)).2) x'
        | none => none) = some x' := by rw [hd] at h ⊢; exact h
      clear h
      generalize decL (l.drop pos) = d at h' ⊢
      obtain ⟨c, m⟩ := d
      dsimp only at h' ⊢
      rw [List.drop_drop] at h'
      cases hq : runeF pos (c : Int) ((l.drop pos).take m) x with
      | none => rw [hq] at h'; cases h'
      | some x1 =>
        rw [hq] at h'
        dsimp only at h'
        obtain ⟨r1, e1, h1⟩ := hr.rune hq
        rw [e1]
        exact lexF_go k (pos + m) x1 x' r1 h1 h'
theorem lexF_lexM {l : List UInt8} {toks : List Tok} (h : lexF l = some toks) : lexM ⟨⟨l⟩⟩ = some toks := by
  unfold lexF at h
  cases hg : lexFgo (l.length + 2) l 0 ⟨[], 0, 0, -1, [], false⟩ with
  | none => rw [hg] at h; cases h
  | some x =>
    rw [hg] at h
    dsimp only at h
    have h0 : LxR l 0 ⟨[], 0, 0, -1, [], false⟩ ⟨[], 0, -1, false⟩ := ⟨rfl, rfl, rfl, rfl, rfl, fun h => absurd h (by decide)⟩
    obtain ⟨r, q, e1, h1, hq⟩ := lexF_go (l.length + 2) 0 _ x _ h0 hg
    unfold lexM
    rw [show (⟨⟨l⟩⟩ : ByteArray).data.size = l.length from rfl, e1]
    dsimp only
    cases hs : shutF x with
    | none => rw [hs] at h; cases h
    | some x' =>
      rw [hs] at h
      injection h with h
      subst h
      have h2 : 0 ≤ x.from_ → x.from_.toNat ≤ l.length ∨ l.length < x.from_.toNat := fun _ => by omega
      by_cases hf : 0 ≤ x.from_ ∧ l.length < x.from_.toNat
      · obtain ⟨r', e2, h3, _⟩ := h1.shut hs
        have e3 : shutM ⟨⟨l⟩⟩ l.length r = shutM ⟨⟨l⟩⟩ q r := by
          have hx : (⟨⟨l⟩⟩ : ByteArray).extract r.from_.toNat l.length = (⟨⟨l⟩⟩ : ByteArray).extract r.from_.toNat q := by
            rw [h1.from_]
            apply ByteArray.ext
            rw [ByteArray.data_extract, ByteArray.data_extract]
            apply Array.ext'
            rw [Array.toList_extract, Array.toList_extract]
            show (l.drop _).take _ = (l.drop _).take _
            rw [List.drop_eq_nil_of_le (by omega), List.take_nil, List.take_nil]
          unfold shutM
          rw [hx]
        rw [e3, e2]
        exact congrArg some h3.list
      · have hw : LxR l l.length x r := ⟨h1.list, h1.n, h1.line, h1.from_, h1.remark, fun h0 => by
          obtain ⟨w1, w2⟩ := h1.word h0
          have hle : x.from_.toNat ≤ l.length := by omega
          refine ⟨hle, ?_⟩
          rw [← w2, List.take_of_length_le (by rw [List.length_drop]; omega), List.take_of_length_le (by rw [List.length_drop]; omega)]⟩
        obtain ⟨r', e2, h3, _⟩ := hw.shut hs
        rw [e2]
        exact congrArg some h3.list
theorem asmF_asmM {l : List UInt8} {c : List Ins} (h : asmF l = some c) : asmM ⟨⟨l⟩⟩ = some c := by
  unfold asmF at h
  cases hl : lexF l with
  | none => rw [hl] at h; cases h
  | some toks =>
    unfold asmM
    rw [lexF_lexM hl]
    rw [hl] at h
    exact h
end Go.Proofs.YtphheopbngdhhaaGreatDoor
