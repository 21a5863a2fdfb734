/-
  Package asm: match, parse.
-/
import Derived.Test.YtphheopbngdhhaaGreatDoorJd
namespace Go.Proofs.YtphheopbngdhhaaGreatDoor
set_option maxRecDepth 100000
def matchGo : List Nat → List Tok → Ordr → Option Ordr
  | [], ts, o => match ts with
    | [] => some o
    | _ :: _ => none
  | c :: cs, ts, o => match ts with
    | [] => none
    | t :: ts => match (takeM c t o).2 with
      | true => matchGo cs ts (takeM c t o).1
      | false => none
def ord0 : Ordr := ⟨⟨0, 0, 0, 0, 0⟩, ⟨#[]⟩, 0⟩
def tok0 : Tok := ⟨0, ⟨#[]⟩, 0, 0, 0⟩
def matchM (k : Nat) (ts : List Tok) : Option Ordr := matchGo (formR k) ts ⟨⟨k, 0, 0, 0, 0⟩, ⟨#[]⟩, (ts.headD tok0).at_⟩
theorem match_t (k : Nat) (hk : k < 22) (q : HProp) (v : Value) (ts : List Tok) (hv : ListR Tok.v q v ts) (hne : 0 < ts.length) (hmx : ts.length ≤ 1000000) : Tri Tryz.prog 127 #[.int .i64 (k : Int), v] [q]
    fun r L => ∃ o, r = .tuple ⟨[.agg ⟨ordV o⟩, .bool (matchM k ts).isSome]⟩ ∧ (∀ o', matchM k ts = some o' → o = o') ∧ L = [q] := by
  have hf := aform_r k hk
  obtain ⟨ad, cap, rfl, _⟩ := id hv
  obtain ⟨bf, o, l, l1, had, hrd, hdr, htk⟩ := hv.at' (sz := 5) (fun _ => rfl) 0 hne
  have hat : NthN (o + (0 : Int).toNat * 5 + 3) l (.int .i64 (ts.headD tok0).at_) := NthN.part hdr htk (by
    cases ts with
    | nil => simp at hne
    | cons t ts => exact NthN.of rfl)
  subst had
  generalize hm : matchM k ts = m
  unfold matchM at hm
  generalize (ts.headD tok0).at_ = a0 at hm hat
  unfold ordV
  refine Tri.of_body (vs := [_, _]) Tryz.func127 rfl rfl fun w0 F => ?_
  repeat' (first | refine Ga ?_ | (refine Gb ?_; intro b) | (refine Gd ?_; intro g cap rest hcap) | (refine Gc ?_; intro ad cap) | refine Gl hf ?_ | (refine Ge ?_ ?_ <;> (intro h; try (exfalso; omega))) | fail)
  rename_i B4 B6
  revert B4 B6; intro R4 R6
  revert b; intro it
  have h0 : runesOk ⟨⟨formB k⟩⟩ 0 (formR k) = true := form_runes k hk
  refine St.loopY (Lr := ?Lr1) (ι := { x : Nat × List Nat × List Tok × Option Addr × Nat × Ordr // runesOk ⟨⟨formB k⟩⟩ x.1 x.2.1 = true ∧ ListR Tok.v q (.slice x.2.2.2.1 x.2.2.1.length x.2.2.2.2.1) x.2.2.1 ∧ x.2.2.1.length ≤ 1000000 ∧ matchGo x.2.1 x.2.2.1 x.2.2.2.2.2 = m }) (fun x => x.1.2.1.length)
    (fun x => [(1, .slice x.1.2.2.2.1 x.1.2.2.1.length x.1.2.2.2.2.1)]) (fun x => [si it ⟨⟨formB k⟩⟩ x.1.1, bl R6 224 (ordV x.1.2.2.2.2.2)]) ⟨(0, formR k, ts, some ⟨bf, o, none⟩, cap, ⟨⟨k, 0, 0, 0, 0⟩, ⟨#[]⟩, a0⟩), h0, hv, hmx, hm⟩ ?hE1 ?hL1 ?round1
  case hE1 => exact Sub.go
  case hL1 => unfold ordV; exact Takes.go
  case round1 =>
    rintro ⟨⟨pos, cs, ts, ad, cap, od⟩, hru, hv, hmx, hm⟩ IH; dsimp only at hru hv hmx hm IH ⊢
    cases cs with
    | nil =>
      have he : pos = (⟨⟨formB k⟩⟩ : ByteArray).data.size := Nat.eq_of_beq_eq_true hru
      clear IH
      unfold ordV at *
      cases ts with
      | nil =>
        have hm : m = some od := hm.symm
        subst hm
        repeat' (first | refine Ga ?_ | (refine Gb ?_; intro b) | (refine Gd ?_; intro g cap rest hcap) | (refine Gc ?_; intro ad cap)  | (refine Ge ?_ ?_ <;> (intro h; try (exfalso; omega))) | fail)
        refine St.d1 Tryz.func127 ⟨_, ⟨od, ?_, (fun o' e => by injection e), rfl⟩, Ent.go⟩
        rfl
      | cons t ts =>
        have hm : m = none := hm.symm
        subst hm
        have hb0 : (((t :: ts).length : Int) == 0) = false := by rw [List.length_cons]; exact beq_false_of_ne (by omega)
        repeat' (first | refine Ga ?_ | (refine Gb ?_; intro b) | (refine Gd ?_; intro g cap rest hcap) | (refine Gc ?_; intro ad cap)  | (refine Ge ?_ ?_ <;> (intro h; try (exfalso; omega))) | fail)
        refine St.d1 Tryz.func127 ⟨_, ⟨od, ?_, (fun o' e => by cases e), rfl⟩, Ent.go⟩
        show Value.tuple ⟨[_, .bool (((t :: ts).length : Int) == 0)]⟩ = _
        rw [hb0]
        rfl
    | cons c cs =>
      unfold runesOk at hru
      rw [Bool.and_eq_true, Bool.and_eq_true] at hru
      obtain ⟨hlt, hc, hru⟩ := hru
      have hlt : pos < (⟨⟨formB k⟩⟩ : ByteArray).data.size := Nat.le_of_ble_eq_true hlt
      have hc := Nat.eq_of_beq_eq_true hc
      generalize hdec : Utf8.decode ⟨⟨formB k⟩⟩ pos = d at hc hru
      obtain ⟨cc, wd⟩ := d
      dsimp only at hc hru
      subst hc
      cases ts with
      | nil =>
        have hm : m = none := hm.symm
        subst hm
        clear IH
        repeat' (first | refine Ga ?_ | (refine Gb ?_; intro b) | (refine Gd ?_; intro g cap rest hcap) | (refine Gc ?_; intro ad cap)  | (refine Ge ?_ ?_ <;> (intro h; try (exfalso; omega))) | fail)
        refine St.d1 Tryz.func127 ⟨_, ⟨ord0, rfl, (fun o' e => by cases e), rfl⟩, Ent.go⟩
      | cons t ts =>
        obtain ⟨bf, o, l, l1, rfl, hrd, hdr, htk⟩ := hv.at' (sz := 5) (fun _ => rfl) 0 (by simp)
        have htk : TakeN 5 l1 t.v := htk
        have htake := take_t R6 od (cc : Int) t
        have htl := hv.tail (sz := 5) rfl
        have hln : (t :: ts).length = ts.length + 1 := rfl
        unfold matchGo at hm
        dsimp only at hm
        unfold Tok.v at htake htk
        cases hb : (takeM (cc : Int) t od).2 with
        | false =>
          rw [hb] at hm htake
          have hm : m = none := hm.symm
          subst hm
          clear IH
          repeat' (first | refine Ga ?_ | (refine Gb ?_; intro b) | (refine Gd ?_; intro g cap rest hcap) | (refine Gc ?_; intro ad cap)  | (refine Gt htake ?_; rintro _ _ ⟨rfl, rfl⟩) | (refine Ge ?_ ?_ <;> (intro h; try (exfalso; omega))) | fail)
          refine St.d1 Tryz.func127 ⟨_, ⟨ord0, rfl, (fun o' e => by cases e), rfl⟩, Ent.go⟩
        | true =>
          rw [hb] at hm htake
          dsimp only at hm
          repeat' (first | refine Ga ?_ | (refine Gb ?_; intro b) | (refine Gd ?_; intro g cap rest hcap) | (refine Gc ?_; intro ad cap)  | (refine Gt htake ?_; rintro _ _ ⟨rfl, rfl⟩) | (refine Ge ?_ ?_ <;> (intro h; try (exfalso; omega))) | fail)
          refine IH ⟨(pos + wd, cs, ts, tlA (some ⟨bf, o, none⟩) cap 5, cap - 1, (takeM (cc : Int) t od).1), hru, htl, by simp at hmx; dsimp only; omega, hm⟩ (by show cs.length < cs.length + 1; omega) ?_ ?_
          · exact Sub.go
          · exact Ent.go
end Go.Proofs.YtphheopbngdhhaaGreatDoor
