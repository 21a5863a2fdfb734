/-
  For all that it may be given the law TableGrows returns true and leaves its arguments as they were (the statement TableGrowsCardSaid, with no further condition).
-/
import Derived.Test.YthbignifgljphaaGreatDoorRowh
import Derived.Test.YthbignifgljphaaGreatDoorTw3
namespace Go.Proofs.YthbignifgljphaaGreatDoor
open Go.ChangeShapes Go.WideShapes Go.ChangeAt Go.RowKit Go.Deep
section
variable {H : Type} {enc : TypeId × Value → H} {w : World} {base fuel : Nat} {spare : Nat → Bool} {held : Bool} {cs : List Value} {x : DataW H × List MemPlace}
theorem n64_of (h : DataW.trod enc Tryz.prog w base spare held fuel 25 cs = some x) : ∃ o : N64, cs = n64V o := by
  obtain ⟨a, e, _, wa⟩ := DataW.trod_int Tryz.underlying25 h
  have := wf_u64 wa
  refine ⟨⟨a.toNat, by omega⟩, ?_⟩
  unfold n64V
  dsimp only
  rw [e, Int.toNat_of_nonneg (by omega)]
end
set_option maxRecDepth 100000 in
theorem grows_contract (H : Type) (enc : TypeId × Value → H) (W : World) (base : Nat) (args : Array Value) (ds gs : List (DataW H)) (before : List MemPlace)
    (hval : ∀ (j : Nat) t v, Tryz.f7.params[j]? = some t → args[j]? = some v → Value.okWide Tryz.prog W .any base t v)
    (hW : DataW.Whole enc Tryz.prog Tryz.f7.params.toList Rows.tableGrowsSpec.vars false W args.toList ds gs before) :
    Calls Tryz.prog 7 args W fun e W' => ∃ v, e = .returned v ∧ Rows.tableGrowsSpec.post enc Tryz.prog Tryz.f7 false true false false W args v W' := by
  have hW' := hW
  obtain ⟨p, q, hA0, hV, rfl, hfz, hnd⟩ := hW
  have hA : DataW.TrodAll enc Tryz.prog W 0 (fun _ => true) true Tryz.f7.params.toList args.toList ds p := hA0
  rw [Tryz.params7] at hA hval
  obtain ⟨v0, vs0, d0, ds0, p0, q0, hargs, rfl, rfl, h0, r0⟩ := trodAll_cons hA
  obtain ⟨rfl, rfl, rfl⟩ := trodAll_nil r0
  obtain rfl : args = #[v0] := by cases args; simp_all
  obtain ⟨rfl, rfl⟩ := trodVars_none hV
  clear hA0 hA r0
  have k0 := hval 0 _ v0 rfl rfl
  obtain ⟨ad0, a0, cap0, rfl, hc0, _, ho0⟩ := slice_of (sz := 1) n64V (fun _ => rfl) (by decide) Tryz.underlying43 (by kernel_rfl) (fun _ _ _ h => n64_of h) k0 h0
  have g0 := (⟨ad0, cap0, rfl, hc0, ho0⟩ : ListR n64V (exact' W) _ a0)
  have hfin := qgrows_t (exact' W) _ a0 g0
  refine (tri_run (Q := fun v => v = .bool true) hfin).mono ?_
  rintro e W' ⟨v, rfl, rfl, hs, ho⟩
  exact ⟨_, rfl, post_true laid_ hW' rfl rfl Tryz.underlying4 (by kernel_rfl) rfl hs ho⟩
set_option maxRecDepth 100000 in
theorem grows_lifted (os : Os) (started : os.Started) (H : Type) (enc : TypeId × Value → H) :
    ReturnsInHanded {} Tryz.checked os 7 .any (fun w args => (Rows.tableGrowsSpec.pre enc Tryz.prog Tryz.f7 [] false w args ∧ laidMetH Tryz.prog laidL w) ∧ sizedMet enc Tryz.prog Tryz.f7 (OpenSpec.ofChange Rows.tableGrowsSpec) false w args) (Rows.tableGrowsSpec.post enc Tryz.prog Tryz.f7 false true false false) := by
  refine returnsInHanded_of_change_and (C := Tryz.checked) (X := fun w _ => laidMetH Tryz.prog laidL w) (fun _ _ _ hh h => h.of_heap hh) own_ started (by kernel_rfl) Tryz.func7
    (ChangeSpec.witness_at (enc := enc) (C := Tryz.checked) (os := os) (X := fun w _ => laidMetH Tryz.prog laidL w) false (World.laidAll Tryz.prog os laidL) #[.slice none 0 0] 8 (World.laidAll_os _ _ _) (by kernel_rfl) (by kernel_rfl) (by kernel_rfl) (by kernel_rfl) (by kernel_rfl) (laidL_met os _)) ?_
  intro W base args ds gs before hval hW _ _ _ _
  exact grows_contract H enc W base args ds gs before hval hW
theorem grows_holds : Rows.TableGrowsSaid :=
  OpenClaim.holds_of_wide 7 Tryz.f7 rfl rfl rfl rfl rfl rfl rfl ⟨rfl, rfl, rfl, rfl, rfl⟩ rfl rfl rfl rfl rfl (by kernel_rfl) Tryz.func7 (by kernel_rfl)
    (of_decide_eq_true (by kernel_rfl)) (by unfold Func.isWrapper; first | (rw [if_pos (by decide +kernel)]; kernel_rfl) | (rw [if_neg (by decide +kernel)]; exact ⟨rfl, rfl⟩))
    (fun os started H enc _ => grows_lifted os started H enc)
theorem grows_card : Rows.TableGrowsCardSaid :=
  Claim7.holds_tied_plain_at .later [] [.data, .data, .data] true (true, "2e4b55b6d2e88d73991dc7e817e70b0158270a8b65ba52ee8f2ea8b1b2542566") true
    grows_holds (fun _ h => by cases h) (by kernel_rfl) (fun _ h => by cases h) tableGrows_row_tie rfl ⟨rfl, rfl⟩ (by kernel_rfl) rfl
    (fun f fn hf hfn => by
      obtain rfl : f = 7 := Option.some.inj ((show Tryz.prog.funcNamed "tumbler/tumblerlaw22.TableGrows" = some 7 by kernel_rfl).symm.trans hf) |>.symm
      obtain rfl : fn = Tryz.f7 := (Option.some.inj (Tryz.func7.symm.trans hfn)).symm
      exact ⟨by kernel_rfl, fun j t ht => by
        rw [Tryz.params7] at ht
        rcases j with _ | j
        · obtain rfl : t = 43 := by simpa using ht.symm
          kernel_rfl
        · simp at ht⟩)
    (by kernel_rfl)
end Go.Proofs.YthbignifgljphaaGreatDoor
