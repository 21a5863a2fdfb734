/-
  For all that it may be given the law ChainDecodes returns true and leaves its arguments as they were (the statement ChainDecodesCardSaid, with no further condition).
-/
import Derived.Test.YtphheopbngdhhaaGreatDoorRowh
import Derived.Test.YtphheopbngdhhaaGreatDoorPn
namespace Go.Proofs.YtphheopbngdhhaaGreatDoor
open Go.ChangeShapes Go.WideShapes Go.ChangeAt Go.RowKit Go.Deep
section
variable {H : Type} {enc : TypeId × Value → H} {w : World} {base fuel : Nat} {spare : Nat → Bool} {held : Bool} {cs : List Value} {x : DataW H × List MemPlace}
theorem poke_of (h : DataW.trod enc Tryz.prog w base spare held fuel 127 cs = some x) : ∃ o : PokeB, cs = pokeV o := by
  obtain ⟨hl, hf⟩ := trod_fld Tryz.underlying127 h 3 (by kernel_rfl)
  obtain ⟨_, _, h0⟩ := hf 0 _ 0 1 rfl rfl (by kernel_rfl)
  obtain ⟨_, _, h1⟩ := hf 1 _ 1 1 rfl rfl (by kernel_rfl)
  obtain ⟨_, _, h2⟩ := hf 2 _ 2 1 rfl rfl (by kernel_rfl)
  obtain ⟨a0, e0, _, w0⟩ := DataW.trod_int Tryz.underlying22 h0
  obtain ⟨a1, e1, _, _⟩ := DataW.trod_int Tryz.underlying3 h1
  obtain ⟨a2, e2, _, w2⟩ := DataW.trod_int Tryz.underlying22 h2
  have := wf_u64 w0
  have := wf_u64 w2
  match cs, hl with
  | [c0, c1, c2], _ =>
    injection e0 with e0 _; injection e1 with e1 _; injection e2 with e2 _
    subst e0; subst e1; subst e2
    refine ⟨⟨a0.toNat, a1, a2.toNat⟩, ?_⟩
    unfold pokeV
    dsimp only
    rw [Int.toNat_of_nonneg (by omega), Int.toNat_of_nonneg (by omega)]
end
set_option maxRecDepth 100000 in
theorem decodes_contract (H : Type) (enc : TypeId × Value → H) (W : World) (base : Nat) (args : Array Value) (ds gs : List (DataW H)) (before : List MemPlace)
    (hval : ∀ (j : Nat) t v, Tryz.f5.params[j]? = some t → args[j]? = some v → Value.okWide Tryz.prog W .any base t v)
    (hW : DataW.Whole enc Tryz.prog Tryz.f5.params.toList Rows.chainDecodesSpec.vars false W args.toList ds gs before) :
    Calls Tryz.prog 5 args W fun e W' => ∃ v, e = .returned v ∧ Rows.chainDecodesSpec.post enc Tryz.prog Tryz.f5 false true false false W args v W' := by
  have hW' := hW
  obtain ⟨p, q, hA0, hV, rfl, hfz, hnd⟩ := hW
  have hA : DataW.TrodAll enc Tryz.prog W 0 (fun _ => true) true Tryz.f5.params.toList args.toList ds p := hA0
  rw [Tryz.params5] at hA hval
  obtain ⟨v0, vs0, d0, ds0, p0, q0, hargs, rfl, rfl, h0, r0⟩ := trodAll_cons hA
  obtain ⟨v1, vs1, d1, ds1, p1, q1, rfl, rfl, rfl, h1, r1⟩ := trodAll_cons r0
  obtain ⟨rfl, rfl, rfl⟩ := trodAll_nil r1
  obtain rfl : args = #[v0, v1] := by cases args; simp_all
  obtain ⟨rfl, rfl⟩ := trodVars_none hV
  clear hA0 hA r0 r1
  have k0 := hval 0 _ v0 rfl rfl
  have k1 := hval 1 _ v1 rfl rfl
  obtain ⟨ad0, a0, cap0, rfl, hc0, _, ho0⟩ := slice_of (sz := 3) pokeV (fun _ => rfl) (by decide) Tryz.underlying48 (by kernel_rfl) (fun _ _ _ h => poke_of h) k0 h0
  have g0 := (⟨ad0, cap0, rfl, hc0, ho0⟩ : ListR pokeV (exact' W) _ a0)
  obtain ⟨a1, rfl⟩ : ∃ s : Int, v1 = .int .i64 s := by
    obtain ⟨n, rfl, hn⟩ := okWide_int Tryz.underlying3 k1
    obtain ⟨_, h1⟩ := h1
    obtain ⟨a, e, _, wa⟩ := DataW.trod_int Tryz.underlying3 h1
    injection e with e _
    exact ⟨a, e⟩
  have hfin := qdecodes_t (exact' W) _ a0 a1 g0
  refine (tri_run (Q := fun v => v = .bool true) hfin).mono ?_
  rintro e W' ⟨v, rfl, rfl, hs, ho⟩
  exact ⟨_, rfl, post_true laid_ hW' rfl rfl Tryz.underlying4 (by kernel_rfl) rfl hs ho⟩
set_option maxRecDepth 100000 in
theorem decodes_lifted (os : Os) (started : os.Started) (H : Type) (enc : TypeId × Value → H) :
    ReturnsInHanded {} Tryz.checked os 5 .any (fun w args => (Rows.chainDecodesSpec.pre enc Tryz.prog Tryz.f5 [] false w args ∧ laidMetH Tryz.prog laidL w) ∧ sizedMet enc Tryz.prog Tryz.f5 (OpenSpec.ofChange Rows.chainDecodesSpec) false w args) (Rows.chainDecodesSpec.post enc Tryz.prog Tryz.f5 false true false false) := by
  refine returnsInHanded_of_change_and (C := Tryz.checked) (X := fun w _ => laidMetH Tryz.prog laidL w) (fun _ _ _ hh h => h.of_heap hh) own_ started (by kernel_rfl) Tryz.func5
    (ChangeSpec.witness_at (enc := enc) (C := Tryz.checked) (os := os) (X := fun w _ => laidMetH Tryz.prog laidL w) false (World.laidAll Tryz.prog os laidL) #[.slice none 0 0, .int .i64 0] 8 (World.laidAll_os _ _ _) (by kernel_rfl) (by kernel_rfl) (by kernel_rfl) (by kernel_rfl) (by kernel_rfl) (laidL_met os _)) ?_
  intro W base args ds gs before hval hW _ _ _ _
  exact decodes_contract H enc W base args ds gs before hval hW
theorem decodes_holds : Rows.ChainDecodesSaid :=
  OpenClaim.holds_of_wide 5 Tryz.f5 rfl rfl rfl rfl rfl rfl rfl ⟨rfl, rfl, rfl, rfl, rfl⟩ rfl rfl rfl rfl rfl (by kernel_rfl) Tryz.func5 (by kernel_rfl)
    (of_decide_eq_true (by kernel_rfl)) (by unfold Func.isWrapper; first | (rw [if_pos (by decide +kernel)]; kernel_rfl) | (rw [if_neg (by decide +kernel)]; exact ⟨rfl, rfl⟩))
    (fun os started H enc _ => decodes_lifted os started H enc)
theorem decodes_card : Rows.ChainDecodesCardSaid :=
  Claim7.holds_tied_plain_at .later [] [.data, .data, .data] true (true, "d529d95fbcb5e8c4f1823a3b4335e88572dd1dcbbf9ca04dc11ceac032096d8f") true
    decodes_holds (fun _ h => by cases h) (by kernel_rfl) (fun _ h => by cases h) chainDecodes_row_tie rfl ⟨rfl, rfl⟩ (by kernel_rfl) rfl
    (fun f fn hf hfn => by
      obtain rfl : f = 5 := Option.some.inj ((show Tryz.prog.funcNamed "tumbler/tumblerlaw21.ChainDecodes" = some 5 by kernel_rfl).symm.trans hf) |>.symm
      obtain rfl : fn = Tryz.f5 := (Option.some.inj (Tryz.func5.symm.trans hfn)).symm
      exact ⟨by kernel_rfl, fun j t ht => by
        rw [Tryz.params5] at ht
        rcases j with _ | _ | j
        · obtain rfl : t = 48 := by simpa using ht.symm
          kernel_rfl
        · obtain rfl : t = 3 := by simpa using ht.symm
          kernel_rfl
        · simp at ht⟩)
    (by kernel_rfl)
end Go.Proofs.YtphheopbngdhhaaGreatDoor
