/-
  For every configuration the law CallBounds returns true and leaves its argument as it was (the statement CallBoundsSaid, with no further condition).
-/
import Derived.Test.YtemaaenipjinaaaGreatRowg
import Derived.Test.YtemaaenipjinaaaGreatVw1
import Derived.Test.YtemaaenipjinaaaGreatFb
namespace Go.Proofs.YtemaaenipjinaaaGreat
open Go.ChangeShapes Go.WideShapes Go.ChangeAt Go.RowKit Go.Deep
set_option maxRecDepth 100000 in
theorem bounds_contract (H : Type) (enc : TypeId × Value → H) (W : World) (base : Nat) (args : Array Value) (ds gs : List (DataW H)) (before : List MemPlace)
    (hval : ∀ (j : Nat) t v, Tryz.f4.params[j]? = some t → args[j]? = some v → Value.okWide Tryz.prog W .any base t v)
    (hW : DataW.Whole enc Tryz.prog Tryz.f4.params.toList Rows.callBoundsSpec.vars false W args.toList ds gs before) :
    Calls Tryz.prog 4 args W fun e W' => ∃ v, e = .returned v ∧ Rows.callBoundsSpec.post enc Tryz.prog Tryz.f4 false true false false W args v W' := by
  have hW' := hW
  obtain ⟨p, q, hA0, hV, rfl, hfz, hnd⟩ := hW
  have hA : DataW.TrodAll enc Tryz.prog W 0 (fun _ => true) true Tryz.f4.params.toList args.toList ds p := hA0
  rw [Tryz.params4] at hA hval
  obtain ⟨v0, vs0, d0, ds0, p0, q0, hargs, rfl, rfl, h0, r0⟩ := trodAll_cons hA
  obtain ⟨rfl, rfl, rfl⟩ := trodAll_nil r0
  obtain rfl : args = #[v0] := by cases args; simp_all
  obtain ⟨rfl, rfl⟩ := trodVars_none hV
  clear hA0 hA r0
  have k0 := hval 0 _ v0 rfl rfl
  obtain ⟨⟨c0⟩, rfl, _⟩ := okWide_struct Tryz.underlying24 k0
  obtain ⟨_, h0⟩ := h0
  obtain ⟨c, e0⟩ := cfg_of h0
  obtain rfl : c0 = c.v := e0
  have hfin : Tri Tryz.prog 4 #[.agg ⟨c.v⟩] [exact' W] fun v L => v = .bool true ∧ L = [exact' W] := by
    have h := bounds_t c
    unfold Tri at *
    intro w F hs
    refine (h w (exact' W :: F) hs).mono ?_
    rintro e w' ⟨v, L', he, ⟨rfl, rfl⟩, hs', ho⟩
    exact ⟨_, _, he, ⟨rfl, rfl⟩, hs', ho⟩
  refine (tri_run (Q := fun v => v = .bool true) hfin).mono ?_
  rintro e W' ⟨v, rfl, rfl, hs, ho⟩
  exact ⟨_, rfl, post_true laid_ hW' rfl rfl Tryz.underlying4 (by kernel_rfl) rfl hs ho⟩
set_option maxRecDepth 100000 in
theorem bounds_lifted (os : Os) (started : os.Started) (H : Type) (enc : TypeId × Value → H) :
    ReturnsInHanded {} Tryz.checked os 4 .any (Rows.callBoundsSpec.pre6 enc Tryz.prog Tryz.f4 Rows.callBoundsRow.domain false) (Rows.callBoundsSpec.post enc Tryz.prog Tryz.f4 false true false false) := by
  refine returnsInHanded_of_change (C := Tryz.checked) own_ started (by kernel_rfl) Tryz.func4
    (ChangeSpec.witness6 (enc := enc) (C := Tryz.checked) false ⟨#[], #[.agg #[.int .i64 0, .int .i64 0, .int .i64 0, .int .i64 0, .int .u64 0, .int .u64 0]], []⟩ 8 (by kernel_rfl) (by kernel_rfl) (by kernel_rfl) (by kernel_rfl)) ?_
  intro W base args ds gs before hval hW _ _
  exact bounds_contract H enc W base args ds gs before hval hW
set_option maxRecDepth 100000 in
theorem fb_closed : joinedFacts Tryz.prog 4 Tryz.f4 Rows.callBoundsSpec Rows.callBoundsRow = true :=
  (fb_and (fb_and (fb_and (fb_and (fb_and (fb_and (fb_and (fb_and (fb_and (fb_and (fb_and (fb_and (fb_and (fb_and (fb_and (fb_and (fb_and (fb_and (fb_and (fb_and (fb_and (fb_and (fb_and (fb_and (fb_and (fb_and (fb_and (fb_and (fb_and (fb_and (fb_and fb_0 fb_1) fb_2) fb_3) fb_4) fb_5) fb_6) fb_7) fb_8) fb_9) fb_10) fb_11) fb_12) fb_13) fb_14) fb_15) fb_16) fb_17) fb_18) fb_19) fb_20) fb_21) fb_22) fb_23) fb_24) fb_25) fb_26) fb_27) fb_28) fb_29) fb_30) fb_31)
theorem bounds_holds : Rows.CallBoundsSaid :=
  OpenClaim.holds_of_wide 4 Tryz.f4 rfl rfl rfl rfl rfl rfl rfl ⟨rfl, rfl, rfl, rfl, rfl⟩ rfl rfl rfl rfl rfl (by kernel_rfl) Tryz.func4 fb_closed
    (of_decide_eq_true (by kernel_rfl)) (by unfold Func.isWrapper; first | (rw [if_pos (by decide +kernel)]; kernel_rfl) | (rw [if_neg (by decide +kernel)]; exact ⟨rfl, rfl⟩))
    (fun os started H enc _ => bounds_lifted os started H enc)
end Go.Proofs.YtemaaenipjinaaaGreat
