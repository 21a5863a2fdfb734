/-
  For all that it may be given the law QueueApart returns true and leaves its arguments as they were (the statement QueueApartCardSaid, with no further condition).
-/
import Derived.Test.YtphheopbngdhhaaGreatDoorRowh
import Derived.Test.YtphheopbngdhhaaGreatDoorAr
namespace Go.Proofs.YtphheopbngdhhaaGreatDoor
open Go.ChangeShapes Go.WideShapes Go.ChangeAt Go.RowKit Go.Deep
section
variable {H : Type} {enc : TypeId × Value → H} {w : World} {base fuel : Nat} {spare : Nat → Bool} {held : Bool} {cs : List Value} {x : DataW H × List MemPlace}
theorem opb_of (h : DataW.trod enc Tryz.prog w base spare held fuel 75 cs = some x) : ∃ o : OpB, cs = opbV o := by
  obtain ⟨hl, hf⟩ := trod_fld Tryz.underlying75 h 2 (by kernel_rfl)
  obtain ⟨_, _, h0⟩ := hf 0 _ 0 1 rfl rfl (by kernel_rfl)
  obtain ⟨_, _, h1⟩ := hf 1 _ 1 1 rfl rfl (by kernel_rfl)
  obtain ⟨a0, e0, _, _⟩ := DataW.trod_int Tryz.underlying3 h0
  obtain ⟨a1, e1, _, w1⟩ := DataW.trod_int Tryz.underlying22 h1
  have := wf_u64 w1
  match cs, hl with
  | [c0, c1], _ =>
    injection e0 with e0 _; injection e1 with e1 _
    subst e0; subst e1
    refine ⟨⟨⟨a0, a1.toNat⟩, by dsimp only; omega⟩, ?_⟩
    unfold opbV
    dsimp only
    rw [Int.toNat_of_nonneg (by omega)]
theorem bool_of (h : DataW.trod enc Tryz.prog w base spare held fuel 4 cs = some x) : ∃ o : Bool, cs = boolV o := by
  obtain ⟨b, e, _⟩ := DataW.trod_bool Tryz.underlying4 h
  exact ⟨b, e⟩
end
set_option maxRecDepth 100000 in
theorem apart_contract (H : Type) (enc : TypeId × Value → H) (W : World) (base : Nat) (args : Array Value) (ds gs : List (DataW H)) (before : List MemPlace)
    (hval : ∀ (j : Nat) t v, Tryz.f6.params[j]? = some t → args[j]? = some v → Value.okWide Tryz.prog W .any base t v)
    (hW : DataW.Whole enc Tryz.prog Tryz.f6.params.toList Rows.queueApartSpec.vars false W args.toList ds gs before) :
    Calls Tryz.prog 6 args W fun e W' => ∃ v, e = .returned v ∧ Rows.queueApartSpec.post enc Tryz.prog Tryz.f6 false true false false W args v W' := by
  have hW' := hW
  obtain ⟨p, q, hA0, hV, rfl, hfz, hnd⟩ := hW
  have hA : DataW.TrodAll enc Tryz.prog W 0 (fun _ => true) true Tryz.f6.params.toList args.toList ds p := hA0
  rw [Tryz.params6] at hA hval
  obtain ⟨v0, vs0, d0, ds0, p0, q0, hargs, rfl, rfl, h0, r0⟩ := trodAll_cons hA
  obtain ⟨v1, vs1, d1, ds1, p1, q1, rfl, rfl, rfl, h1, r1⟩ := trodAll_cons r0
  obtain ⟨v2, vs2, d2, ds2, p2, q2, rfl, rfl, rfl, h2, r2⟩ := trodAll_cons r1
  obtain ⟨rfl, rfl, rfl⟩ := trodAll_nil r2
  obtain rfl : args = #[v0, v1, v2] := by cases args; simp_all
  obtain ⟨rfl, rfl⟩ := trodVars_none hV
  clear hA0 hA r0 r1 r2
  have k0 := hval 0 _ v0 rfl rfl
  have k1 := hval 1 _ v1 rfl rfl
  have k2 := hval 2 _ v2 rfl rfl
  obtain ⟨ad0, a0, cap0, rfl, hc0, _, ho0⟩ := slice_of (sz := 2) opbV (fun _ => rfl) (by decide) Tryz.underlying72 (by kernel_rfl) (fun _ _ _ h => opb_of h) k0 h0
  have g0 := (⟨ad0, cap0, rfl, hc0, ho0⟩ : ListR opbV (exact' W) _ a0)
  obtain ⟨ad1, a1, cap1, rfl, hc1, _, ho1⟩ := slice_of (sz := 2) opbV (fun _ => rfl) (by decide) Tryz.underlying72 (by kernel_rfl) (fun _ _ _ h => opb_of h) k1 h1
  have g1 := (⟨ad1, cap1, rfl, hc1, ho1⟩ : ListR opbV (exact' W) _ a1)
  obtain ⟨ad2, a2, cap2, rfl, hc2, _, ho2⟩ := slice_of (sz := 1) boolV (fun _ => rfl) (by decide) Tryz.underlying73 (by kernel_rfl) (fun _ _ _ h => bool_of h) k2 h2
  have g2 := (⟨ad2, cap2, rfl, hc2, ho2⟩ : ListR boolV (exact' W) _ a2)
  have hfin := qapart_t (exact' W) _ _ _ a0 a1 a2 g0 g1 g2
  refine (tri_run (Q := fun v => v = .bool true) hfin).mono ?_
  rintro e W' ⟨v, rfl, rfl, hs, ho⟩
  exact ⟨_, rfl, post_true laid_ hW' rfl rfl Tryz.underlying4 (by kernel_rfl) rfl hs ho⟩
set_option maxRecDepth 100000 in
theorem apart_lifted (os : Os) (started : os.Started) (H : Type) (enc : TypeId × Value → H) :
    ReturnsInHanded {} Tryz.checked os 6 .any (fun w args => (Rows.queueApartSpec.pre enc Tryz.prog Tryz.f6 [] false w args ∧ laidMetH Tryz.prog laidL w) ∧ sizedMet enc Tryz.prog Tryz.f6 (OpenSpec.ofChange Rows.queueApartSpec) false w args) (Rows.queueApartSpec.post enc Tryz.prog Tryz.f6 false true false false) := by
  refine returnsInHanded_of_change_and (C := Tryz.checked) (X := fun w _ => laidMetH Tryz.prog laidL w) (fun _ _ _ hh h => h.of_heap hh) own_ started (by kernel_rfl) Tryz.func6
    (ChangeSpec.witness_at (enc := enc) (C := Tryz.checked) (os := os) (X := fun w _ => laidMetH Tryz.prog laidL w) false (World.laidAll Tryz.prog os laidL) #[.slice none 0 0, .slice none 0 0, .slice none 0 0] 8 (World.laidAll_os _ _ _) (by kernel_rfl) (by kernel_rfl) (by kernel_rfl) (by kernel_rfl) (by kernel_rfl) (laidL_met os _)) ?_
  intro W base args ds gs before hval hW _ _ _ _
  exact apart_contract H enc W base args ds gs before hval hW
theorem apart_holds : Rows.QueueApartSaid :=
  OpenClaim.holds_of_wide 6 Tryz.f6 rfl rfl rfl rfl rfl rfl rfl ⟨rfl, rfl, rfl, rfl, rfl⟩ rfl rfl rfl rfl rfl (by kernel_rfl) Tryz.func6 (by kernel_rfl)
    (of_decide_eq_true (by kernel_rfl)) (by unfold Func.isWrapper; first | (rw [if_pos (by decide +kernel)]; kernel_rfl) | (rw [if_neg (by decide +kernel)]; exact ⟨rfl, rfl⟩))
    (fun os started H enc _ => apart_lifted os started H enc)
theorem apart_card : Rows.QueueApartCardSaid :=
  Claim7.holds_tied_plain_at .later [] [.data, .data, .data] true (true, "d529d95fbcb5e8c4f1823a3b4335e88572dd1dcbbf9ca04dc11ceac032096d8f") true
    apart_holds (fun _ h => by cases h) (by kernel_rfl) (fun _ h => by cases h) queueApart_row_tie rfl ⟨rfl, rfl⟩ (by kernel_rfl) rfl
    (fun f fn hf hfn => by
      obtain rfl : f = 6 := Option.some.inj ((show Tryz.prog.funcNamed "tumbler/tumblerlaw20.QueueApart" = some 6 by kernel_rfl).symm.trans hf) |>.symm
      obtain rfl : fn = Tryz.f6 := (Option.some.inj (Tryz.func6.symm.trans hfn)).symm
      exact ⟨by kernel_rfl, fun j t ht => by
        rw [Tryz.params6] at ht
        rcases j with _ | _ | _ | j
        · obtain rfl : t = 72 := by simpa using ht.symm
          kernel_rfl
        · obtain rfl : t = 72 := by simpa using ht.symm
          kernel_rfl
        · obtain rfl : t = 73 := by simpa using ht.symm
          kernel_rfl
        · simp at ht⟩)
    (by kernel_rfl)
end Go.Proofs.YtphheopbngdhhaaGreatDoor
