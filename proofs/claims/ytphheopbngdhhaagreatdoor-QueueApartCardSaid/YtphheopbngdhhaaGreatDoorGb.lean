/-
  Package glyph: a text that is read, token by token.
-/
import Derived.Test.YtphheopbngdhhaaGreatDoorGa
namespace Go.Proofs.YtphheopbngdhhaaGreatDoor
set_option maxRecDepth 100000
structure Tok where
  kind : Int
  text : ByteArray
  num : Nat
  at_ : Int
  line : Int
def Tok.v (t : Tok) : List Value := [.int .i64 t.kind, .string t.text, .int .u64 (t.num : Int), .int .i64 t.at_, .int .i64 t.line]
theorem Tok.v_len (t : Tok) : t.v.length = 5 := rfl
/-- a text that is read -/
structure Rdr where
  list : List Tok
  line : Int
  from_ : Int
  remark : Bool
def rdV (text : ByteArray) (lv : Value) (r : Rdr) : List Value := [.string text, lv, .int .i64 r.line, .int .i64 r.from_, .bool r.remark]
def rdL (b : Nat) (text : ByteArray) (r : Rdr) (x : Option Addr × Nat) : List HProp :=
  [bl b 216 (rdV text (.slice x.1 r.list.length x.2) r), Row (.slice x.1 r.list.length x.2) 185 5 r.list.length (r.list.flatMap Tok.v)]
def RdE (b : Nat) (text : ByteArray) (r : Rdr) : HProp := ex (rdL b text r)
theorem Ent.rd {b : Nat} {text : ByteArray} {r : Rdr} {lad : Option Addr} {lcap : Nat} {L : List HProp} : Ent (bl b 216 (rdV text (.slice lad r.list.length lcap) r) :: Row (.slice lad r.list.length lcap) 185 5 r.list.length (r.list.flatMap Tok.v) :: L) (RdE b text r :: L) := Ent.ex_in (Ls := rdL b text r) (lad, lcap)
theorem St.rd {P : Program} {C : Cx} {k : List Item} {E : Env} {L Lr : List HProp} {b : Nat} {text : ByteArray} {r : Rdr} {lad : Option Addr} {lcap : Nat} (t : Takes [bl b 216 (rdV text (.slice lad r.list.length lcap) r), Row (.slice lad r.list.length lcap) 185 5 r.list.length (r.list.flatMap Tok.v)] L Lr) (h : St P C k E (RdE b text r :: Lr)) : St P C k E L :=
  h.conv (Sub.refl _) (t.ent.trans Ent.rd)
def Rdr.put (r : Rdr) (t : Tok) : Rdr := { r with list := r.list ++ [{ t with line := r.line }] }
theorem put_tE (b : Nat) (text : ByteArray) (r : Rdr) (t : Tok) (hl : r.list.length < 16384) :
    Tri Tryz.prog 160 #[.pointer (some ⟨b, 0, none⟩), .agg ⟨t.v⟩] [RdE b text r] fun v L => v = .int .i64 0 ∧ L = [RdE b text (r.put t)] := by
  refine Tri.ex_out fun x => ?_
  obtain ⟨lad, lcap⟩ := x
  unfold rdL rdV
  dsimp only
  revert b; intro rb
  refine Tri.of_body (vs := [_, _]) Tryz.func160 rfl rfl fun w0 F => ?_
  repeat' (first | refine Ga ?_ | (refine Gb ?_; intro b) | (refine Gd ?_; intro g cap rest hcap) | (refine Gc ?_; intro ad cap) | (refine St.draw (id := 4) [(0, 0), (1, 0), (2, 0), (3, 0), (4, 1), (5, 1), (6, 2), (7, 3), (8, 0), (9, 0), (10, 3)] [7, 10] mixed (by kernel_rfl) ?_) | (refine Ge ?_ ?_ <;> (intro h; try (exfalso; omega))) | fail)
  have hsh := Ent.rd (b := rb) (text := text) (r := r.put t) (lad := ad) (lcap := cap) (L := F)
  unfold Rdr.put rdV at hsh
  dsimp only at hsh
  rw [List.length_append, List.flatMap_append] at hsh
  refine St.d1 Tryz.func160 ⟨_, ⟨rfl, rfl⟩, Ent.trans ?_ hsh⟩
  exact Ent.go
/-- the token of a run of letters and digits -/
def runM (s : ByteArray) (at_ : Int) : Option Tok :=
  if digitB ((s.data.getD (Int.toNat 0) 0).toNat : Int) then (match numOf s with | some n => some ⟨1, ⟨#[]⟩, n, at_, 0⟩ | none => none) else if 24 < s.data.size then none else some ⟨0, s, 0, at_, 0⟩
/-- the end of a run, ahead of a place -/
def shutM (text : ByteArray) (to : Nat) (r : Rdr) : Option Rdr :=
  if r.from_ < 0 then some r else if 16384 ≤ r.list.length then none else match runM (text.extract r.from_.toNat to) r.from_ with | some t => some ({ r with from_ := -1 }.put t) | none => none
theorem shut_tE (b : Nat) (text : ByteArray) (to : Nat) (r r' : Rdr) (hto : to ≤ text.data.size) (hsz : text.data.size ≤ 65536) (hf : r.from_ < to) (h : shutM text to r = some r') :
    Tri Tryz.prog 124 #[.pointer (some ⟨b, 0, none⟩), .int .i64 (to : Int)] [RdE b text r] fun v L => (∃ a, v = .tuple ⟨[.int .i64 a, .int .i64 0]⟩) ∧ L = [RdE b text r'] := by
  unfold shutM at h
  by_cases h0 : r.from_ < 0
  · rw [if_pos h0] at h
    injection h with h
    subst h
    refine Tri.ex_out fun x => ?_
    obtain ⟨lad, lcap⟩ := x
    have hsh := fun F' => Ent.rd (b := b) (text := text) (r := r) (lad := lad) (lcap := lcap) (L := F')
    unfold rdL
    unfold rdV at hsh ⊢
    dsimp only
    refine Tri.of_body (vs := [_, _]) Tryz.func124 rfl rfl fun w0 F => ?_
    repeat' (first | refine Ga ?_ | (refine Gb ?_; intro b) | (refine Gd ?_; intro g cap rest hcap) | (refine Gc ?_; intro ad cap)  | (refine Ge ?_ ?_ <;> (intro h; try (exfalso; omega))) | fail)
    refine St.d1 Tryz.func124 ⟨_, ⟨⟨_, rfl⟩, rfl⟩, Ent.trans ?_ (hsh F)⟩
    exact Ent.go
  · rw [if_neg h0] at h
    have hse : (text.extract r.from_.toNat to).data.size = to - r.from_.toNat := by
      have : text.size = text.data.size := rfl
      have : (text.extract r.from_.toNat to).size = (text.extract r.from_.toNat to).data.size := rfl
      have := ByteArray.size_extract (a := text) (b := r.from_.toNat) (e := to)
      omega
    generalize hs : text.extract r.from_.toNat to = s at h hse
    by_cases hll : 16384 ≤ r.list.length
    · rw [if_pos hll] at h; cases h
    rw [if_neg hll] at h
    have hnum := number_r s (by omega)
    have hdg := digit_r ((s.data.getD (Int.toNat 0) 0).toNat : Int)
    have hb8 : (s.data.getD (Int.toNat 0) 0).toNat < 256 := (s.data.getD (Int.toNat 0) 0).toNat_lt
    unfold runM at h
    refine Tri.ex_out fun x => ?_
    obtain ⟨lad, lcap⟩ := x
    unfold rdL rdV
    dsimp only
    revert b; intro rb
    cases hd : digitB ((s.data.getD (Int.toNat 0) 0).toNat : Int) with
    | true =>
      rw [hd] at hdg h
      cases hn : numOf s with
      | none => rw [hn] at h; cases h
      | some n =>
        rw [hn] at h hnum
        injection h with h
        have hput := put_tE rb text { r with from_ := -1 } ⟨1, ⟨#[]⟩, n, r.from_, 0⟩ (by dsimp only; omega)
        rw [h] at hput
        unfold Tok.v at hput
        refine Tri.of_body (vs := [_, _]) Tryz.func124 rfl rfl fun w0 F => ?_
        repeat' (first | refine St.halt 6 ?_ |refine Ga ?_ | (refine Gb ?_; intro b) | (refine Gd ?_; intro g cap rest hcap) | (refine Gc ?_; intro ad cap)  | (refine Ge ?_ ?_ <;> (intro h; try (exfalso; omega))) | fail)
        rw [show text.extract r.from_.toNat (Int.toNat (to : Int)) = s from hs]
        apply Halt.go
        repeat' (first | refine St.halt 14 ?_ |refine Ga ?_ | (refine Gb ?_; intro b) | (refine Gd ?_; intro g cap rest hcap) | (refine Gc ?_; intro ad cap) | refine Gl hdg ?_ | refine Gl hnum ?_ | (refine Ge ?_ ?_ <;> (intro h; try (exfalso; omega))) | fail)
        refine Halt.go (St.rd (Lr := ?Lr1) (b := rb) (text := text) (r := { r with from_ := -1 }) (lad := lad) (lcap := lcap) ?tk1 ?go1)
        case tk1 => unfold rdV; exact Takes.go
        case go1 =>
          repeat' (first | refine Ga ?_ | (refine Gb ?_; intro b) | (refine Gd ?_; intro g cap rest hcap) | (refine Gc ?_; intro ad cap)  | (refine Gt hput ?_; rintro _ _ ⟨rfl, rfl⟩) | (refine Ge ?_ ?_ <;> (intro h; try (exfalso; omega))) | fail)
          refine St.d1 Tryz.func124 ⟨_, ⟨⟨_, rfl⟩, rfl⟩, ?_⟩
          exact Ent.go
    | false =>
      rw [hd] at hdg h
      by_cases h24 : 24 < s.data.size
      · rw [if_pos h24] at h; cases h
      rw [if_neg h24] at h
      injection h with h
      have hput := put_tE rb text { r with from_ := -1 } ⟨0, s, 0, r.from_, 0⟩ (by dsimp only; omega)
      rw [h] at hput
      unfold Tok.v at hput
      refine Tri.of_body (vs := [_, _]) Tryz.func124 rfl rfl fun w0 F => ?_
      repeat' (first | refine St.halt 6 ?_ |refine Ga ?_ | (refine Gb ?_; intro b) | (refine Gd ?_; intro g cap rest hcap) | (refine Gc ?_; intro ad cap)  | (refine Ge ?_ ?_ <;> (intro h; try (exfalso; omega))) | fail)
      rw [show text.extract r.from_.toNat (Int.toNat (to : Int)) = s from hs]
      apply Halt.go
      repeat' (first | refine St.halt 14 ?_ |refine Ga ?_ | (refine Gb ?_; intro b) | (refine Gd ?_; intro g cap rest hcap) | (refine Gc ?_; intro ad cap) | refine Gl hdg ?_ | (refine Ge ?_ ?_ <;> (intro h; try (exfalso; omega))) | fail)
      refine Halt.go (St.rd (Lr := ?Lr2) (b := rb) (text := text) (r := { r with from_ := -1 }) (lad := lad) (lcap := lcap) ?tk2 ?go2)
      case tk2 => unfold rdV; exact Takes.go
      case go2 =>
        repeat' (first | refine Ga ?_ | (refine Gb ?_; intro b) | (refine Gd ?_; intro g cap rest hcap) | (refine Gc ?_; intro ad cap)  | (refine Gt hput ?_; rintro _ _ ⟨rfl, rfl⟩) | (refine Ge ?_ ?_ <;> (intro h; try (exfalso; omega))) | fail)
        refine St.d1 Tryz.func124 ⟨_, ⟨⟨_, rfl⟩, rfl⟩, ?_⟩
        exact Ent.go
end Go.Proofs.YtphheopbngdhhaaGreatDoor
