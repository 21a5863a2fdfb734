/-
  For every row of things that are done to a set the law ChainDoes returns true and leaves its argument as it was (the statement ChainDoesCardSaid, with no further condition).
-/
import Derived.Test.YtalgmlhcbilicaaDoorRowh
import Derived.Test.YtalgmlhcbilicaaDoorDg
namespace Go.Proofs.YtalgmlhcbilicaaDoor
open Go.ChangeShapes Go.WideShapes Go.ChangeAt Go.RowKit Go.Deep
section
variable {H : Type} {enc : TypeId × Value → H} {w : World} {base fuel : Nat} {spare : Nat → Bool} {held : Bool} {cs : List Value} {x : DataW H × List MemPlace}
theorem opp_of (h : DataW.trod enc Tryd.prog w base spare held fuel 30 cs = some x) : ∃ o : Opp, cs = oppV o := by
  obtain ⟨hl, hf⟩ := trod_fld Tryd.underlying30 h 2 (by kernel_rfl)
  obtain ⟨_, _, h0⟩ := hf 0 _ 0 1 rfl rfl (by kernel_rfl)
  obtain ⟨_, _, h1⟩ := hf 1 _ 1 1 rfl rfl (by kernel_rfl)
  obtain ⟨a0, e0, _, _⟩ := DataW.trod_int Tryd.underlying3 h0
  obtain ⟨a1, e1, _, w1⟩ := DataW.trod_int Tryd.underlying25 h1
  have := wf_u64 w1
  match cs, hl with
  | [c0, c1], _ =>
    injection e0 with e0 _; injection e1 with e1 _
    subst e0; subst e1
    refine ⟨⟨a0, a1.toNat⟩, ?_⟩
    unfold oppV
    dsimp only
    rw [Int.toNat_of_nonneg (by omega)]
end
set_option maxRecDepth 100000 in
theorem does_contract (H : Type) (enc : TypeId × Value → H) (W : World) (base : Nat) (args : Array Value) (ds gs : List (DataW H)) (before : List MemPlace)
    (hval : ∀ (j : Nat) t v, Tryd.f3.params[j]? = some t → args[j]? = some v → Value.okWide Tryd.prog W .any base t v)
    (hW : DataW.Whole enc Tryd.prog Tryd.f3.params.toList Rows.chainDoesSpec.vars false W args.toList ds gs before) :
    Calls Tryd.prog 3 args W fun e W' => ∃ v, e = .returned v ∧ Rows.chainDoesSpec.post enc Tryd.prog Tryd.f3 false true false false W args v W' := by
  have hW' := hW
  obtain ⟨p, q, hA0, hV, rfl, hfz, hnd⟩ := hW
  have hA : DataW.TrodAll enc Tryd.prog W 0 (fun _ => true) true Tryd.f3.params.toList args.toList ds p := hA0
  rw [Tryd.params3] at hA hval
  obtain ⟨v0, vs0, d0, ds0, p0, q0, hargs, rfl, rfl, h0, r0⟩ := trodAll_cons hA
  obtain ⟨rfl, rfl, rfl⟩ := trodAll_nil r0
  obtain rfl : args = #[v0] := by cases args; simp_all
  obtain ⟨rfl, rfl⟩ := trodVars_none hV
  clear hA0 hA r0
  have k0 := hval 0 _ v0 rfl rfl
  obtain ⟨ad, ops, cap, rfl, hc1, _, ho⟩ := slice_of (sz := 2) oppV (fun _ => rfl) (by decide) Tryd.underlying22 (by kernel_rfl) (fun _ _ _ h => opp_of h) k0 h0
  have hfin := qdoes_t (exact' W) _ ops ⟨ad, cap, rfl, hc1, ho⟩
  refine (tri_run (Q := fun v => v = .bool true) hfin).mono ?_
  rintro e W' ⟨v, rfl, rfl, hs, ho⟩
  exact ⟨_, rfl, post_true laid_ hW' rfl rfl Tryd.underlying4 (by kernel_rfl) rfl hs ho⟩
set_option maxRecDepth 100000 in
theorem does_lifted (os : Os) (started : os.Started) (H : Type) (enc : TypeId × Value → H) :
    ReturnsInHanded {} Tryd.checked os 3 .any (fun w args => (Rows.chainDoesSpec.pre enc Tryd.prog Tryd.f3 [] false w args ∧ laidMetH Tryd.prog laidL w) ∧ sizedMet enc Tryd.prog Tryd.f3 (OpenSpec.ofChange Rows.chainDoesSpec) false w args) (Rows.chainDoesSpec.post enc Tryd.prog Tryd.f3 false true false false) := by
  refine returnsInHanded_of_change_and (C := Tryd.checked) (X := fun w _ => laidMetH Tryd.prog laidL w) (fun _ _ _ hh h => h.of_heap hh) own_ started (by kernel_rfl) Tryd.func3
    (ChangeSpec.witness_at (enc := enc) (C := Tryd.checked) (os := os) (X := fun w _ => laidMetH Tryd.prog laidL w) false (World.laidAll Tryd.prog os laidL) #[.slice none 0 0] 8 (World.laidAll_os _ _ _) (by kernel_rfl) (by kernel_rfl) (by kernel_rfl) (by kernel_rfl) (by kernel_rfl) (laidL_met os _)) ?_
  intro W base args ds gs before hval hW _ _ _ _
  exact does_contract H enc W base args ds gs before hval hW
theorem does_holds : Rows.ChainDoesSaid :=
  OpenClaim.holds_of_wide 3 Tryd.f3 rfl rfl rfl rfl rfl rfl rfl ⟨rfl, rfl, rfl, rfl, rfl⟩ rfl rfl rfl rfl rfl (by kernel_rfl) Tryd.func3 (by kernel_rfl)
    (of_decide_eq_true (by kernel_rfl)) (by unfold Func.isWrapper; first | (rw [if_pos (by decide +kernel)]; kernel_rfl) | (rw [if_neg (by decide +kernel)]; exact ⟨rfl, rfl⟩))
    (fun os started H enc _ => does_lifted os started H enc)
theorem does_card : Rows.ChainDoesCardSaid :=
  Claim7.holds_tied_plain_at .later [] [.data, .data, .data] true (true, "880e19a3b80f32c9728e082c1039d2ffa37283ef6cbdedf4ee5d934b756284fb") true
    does_holds (fun _ h => by cases h) (by kernel_rfl) (fun _ h => by cases h) chainDoes_row_tie rfl ⟨rfl, rfl⟩ (by kernel_rfl) rfl
    (fun f fn hf hfn => by
      obtain rfl : f = 3 := Option.some.inj ((show Tryd.prog.funcNamed "tumbler/tumblerlaw21.ChainDoes" = some 3 by kernel_rfl).symm.trans hf) |>.symm
      obtain rfl : fn = Tryd.f3 := (Option.some.inj (Tryd.func3.symm.trans hfn)).symm
      exact ⟨by kernel_rfl, fun j t ht => by
        rw [Tryd.params3] at ht
        rcases j with _ | j
        · obtain rfl : t = 22 := by simpa using ht.symm
          kernel_rfl
        · simp at ht⟩)
    (by kernel_rfl)
end Go.Proofs.YtalgmlhcbilicaaDoor
