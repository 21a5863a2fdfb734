/-
  Package glyph: Lex.
-/
import Derived.Test.YtphheopbngdhhaaGreatDoorGc
namespace Go.Proofs.YtphheopbngdhhaaGreatDoor
set_option maxRecDepth 100000
def lexGo (text : ByteArray) : Nat → Nat → Rdr → Option Rdr
  | 0, _, _ => none
  | k + 1, pos, r => if text.data.size ≤ pos then some r else
    match runeM text pos ((Utf8.decode text pos).1 : Int) r with
    | some r' => lexGo text k (pos + (Utf8.decode text pos).2) r'
    | none => none
def lexM (text : ByteArray) : Option (List Tok) :=
  match lexGo text (text.data.size + 2) 0 ⟨[], 0, -1, false⟩ with
  | some r => (match shutM text text.data.size r with | some r' => some r'.list | none => none)
  | none => none
theorem runeM_inv {text : ByteArray} {at_ : Nat} {c : Int} {r r' : Rdr} (h : runeM text at_ c r = some r') (hf : r.from_ < at_) : r'.from_ ≤ at_ ∧ (r'.line = r.line ∨ r'.line = r.line + 1) := by
  unfold runeM at h
  split at h
  · injection h with h
    subst h
    split
    · exact ⟨Int.le_refl _, .inl rfl⟩
    · exact ⟨by omega, .inl rfl⟩
  · cases hs : shutM text at_ r with
    | none => rw [hs] at h; cases h
    | some r1 =>
      rw [hs] at h
      dsimp only at h
      obtain ⟨l1, l2, l3⟩ := shutM_line hs
      unfold endM at h
      split at h
      · split at h
        · cases h
        · injection h with h; subst h; exact ⟨by show r1.from_ ≤ _; omega, .inr (by show r1.line + 1 = _; omega)⟩
      iterate 4
        split at h
        · injection h with h; subst h; exact ⟨by omega, .inl l1⟩
      split at h
      · injection h with h; subst h; exact ⟨by show r1.from_ ≤ _; omega, .inl l1⟩
      split at h
      · split at h
        · cases h
        · injection h with h; subst h; exact ⟨by show r1.from_ ≤ _; omega, .inl l1⟩
      · cases h
set_option maxHeartbeats 600000 in
theorem lex_t (text : ByteArray) (hsz : text.data.size ≤ 65536) (toks : List Tok) (hlx : lexM text = some toks) :
    Tri Tryz.prog 91 #[.string text] [] fun v L => ∃ ad cap, v = .tuple ⟨[.slice ad toks.length cap, .int .i64 0, .int .i64 0]⟩ ∧ L = [Row (.slice ad toks.length cap) 185 5 toks.length (toks.flatMap Tok.v)] := by
  unfold lexM at hlx
  refine Tri.of_body (vs := [_]) Tryz.func91 rfl rfl fun w0 F => ?_
  repeat' (first | refine St.halt 4 ?_ |refine Ga ?_ | (refine Gb ?_; intro b) | (refine Gd ?_; intro g cap rest hcap) | (refine Gc ?_; intro ad cap)  | (refine Ge ?_ ?_ <;> (intro h; try (exfalso; omega))) | fail)
  revert b; intro rb
  refine Halt.go (St.conv (St.rd (Lr := ?Lr1) (b := rb) (text := text) (r := ⟨[], 0, -1, false⟩) (lad := none) (lcap := 0) ?tk ?go) (Sub.refl _) (Ent.row_nil 185 5))
  case tk => unfold rdV; exact Takes.go
  case go =>
    repeat' (first | refine Ga ?_ | (refine Gb ?_; intro b) | (refine Gd ?_; intro g cap rest hcap) | (refine Gc ?_; intro ad cap)  | (refine Ge ?_ ?_ <;> (intro h; try (exfalso; omega))) | fail)
    revert b; intro it
    refine St.loopY (Lr := ?Lr2) (ι := { x : Nat × Nat × Rdr // lexGo text (text.data.size + 2) 0 ⟨[], 0, -1, false⟩ = lexGo text x.1 x.2.1 x.2.2 ∧ text.data.size + 2 ≤ x.1 + x.2.1 ∧ 2 ≤ x.1 ∧ x.2.2.from_ < x.2.1 ∧ x.2.2.from_ < (text.data.size : Int) ∧ 0 ≤ x.2.2.line ∧ x.2.2.line ≤ x.2.1 }) (fun x => x.1.1) (fun x => []) (fun x => [si it text x.1.2.1, RdE rb text x.1.2.2]) ⟨(text.data.size + 2, 0, ⟨[], 0, -1, false⟩), rfl, by dsimp only; omega, by dsimp only; omega, by dsimp only; decide, by dsimp only; omega, by dsimp only; decide, by dsimp only; decide⟩ ?hE ?hL ?round
    case hE => exact Sub.go
    case hL => exact Takes.go
    case round =>
      rintro ⟨⟨k, pos, r⟩, hgo, hk, hk2, hf1, hf2, hl1, hl2⟩ IH
      dsimp only at hgo hk hk2 hf1 hf2 hl1 hl2 IH ⊢
      obtain ⟨k, rfl⟩ : ∃ k', k = k' + 1 := ⟨k - 1, by omega⟩
      have hu : lexGo text (k + 1) pos r = if text.data.size ≤ pos then some r else match runeM text pos ((Utf8.decode text pos).1 : Int) r with | some r' => lexGo text k (pos + (Utf8.decode text pos).2) r' | none => none := rfl
      rw [hu] at hgo
      rw [hgo] at hlx
      have hp := dec_pos text pos
      by_cases he : text.data.size ≤ pos
      · rw [if_pos he] at hlx
        dsimp only at hlx
        cases hs : shutM text text.data.size r with
        | none => rw [hs] at hlx; cases hlx
        | some r1 =>
          rw [hs] at hlx
          injection hlx with hlx
          subst hlx
          have hsh := shut_tE rb text text.data.size r r1 (Nat.le_refl _) hsz hf2 hs
          repeat' (first | refine St.halt 13 ?_ |refine Ga ?_ | (refine Gb ?_; intro b) | (refine Gd ?_; intro g cap rest hcap) | (refine Gc ?_; intro ad cap)  | (refine Gt hsh ?_; rintro _ _ ⟨⟨a, rfl⟩, rfl⟩) | (refine Ge ?_ ?_ <;> (intro h; try (exfalso; omega))) | fail)
          show Halt (St _ _ _ _ (RdE rb text r1 :: _))
          refine Halt.go (St.ex_out fun x => ?_)
          obtain ⟨lad, lcap⟩ := x
          unfold rdL rdV
          repeat' (first | refine Ga ?_ | (refine Gb ?_; intro b) | (refine Gd ?_; intro g cap rest hcap) | (refine Gc ?_; intro ad cap)  | (refine Ge ?_ ?_ <;> (intro h; try (exfalso; omega))) | fail)
          refine St.d1 Tryz.func91 ⟨_, ⟨lad, lcap, rfl, rfl⟩, ?_⟩
          exact Ent.go
      · rw [if_neg he] at hlx
        generalize hdec : Utf8.decode text pos = d at hlx hp
        obtain ⟨cc, wd⟩ := d
        dsimp only at hlx hp
        cases hr : runeM text pos (cc : Int) r with
        | none => rw [hr] at hlx; cases hlx
        | some r1 =>
          rw [hr] at hlx
          have hru := rune_t rb text pos (cc : Int) r r1 (by omega) hsz hf1 ⟨hl1, by omega⟩ hr
          obtain ⟨i1, i2⟩ := runeM_inv hr hf1
          repeat' (first | refine Ga ?_ | (refine Gb ?_; intro b) | (refine Gd ?_; intro g cap rest hcap) | (refine Gc ?_; intro ad cap)  | (refine Gt hru ?_; rintro _ _ ⟨⟨a, rfl⟩, rfl⟩) | (refine Ge ?_ ?_ <;> (intro h; try (exfalso; omega))) | fail)
          have hgo2 : lexGo text (text.data.size + 2) 0 ⟨[], 0, -1, false⟩ = lexGo text k (pos + wd) r1 := by
            rw [hgo, if_neg he, hdec]
            dsimp only
            rw [hr]
          refine IH ⟨(k, pos + wd, r1), hgo2, by dsimp only; omega, by dsimp only; omega, by dsimp only; omega, by dsimp only; omega, by dsimp only; omega, by dsimp only; omega⟩ (by show k < k + 1; omega) ?_ ?_
          · exact Sub.go
          · exact Ent.go
end Go.Proofs.YtphheopbngdhhaaGreatDoor
