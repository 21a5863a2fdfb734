/-
  For all numbers, all that is taken between, and every limit the law QueueOrders returns true and leaves its arguments as they were (the statement QueueOrdersCardSaid, with no further condition).
-/
import Derived.Test.YtahefjapgfmmkaaDoorRowh
import Derived.Test.YtahefjapgfmmkaaDoorQz
namespace Go.Proofs.YtahefjapgfmmkaaDoor
open Go.ChangeShapes Go.WideShapes Go.ChangeAt Go.RowKit Go.Deep
section
variable {H : Type} {enc : TypeId × Value → H} {w : World} {base fuel : Nat} {spare : Nat → Bool} {held : Bool} {cs : List Value} {x : DataW H × List MemPlace}
theorem n64_of (h : DataW.trod enc Tryd.prog w base spare held fuel 25 cs = some x) : ∃ o : N64, cs = n64V o := by
  obtain ⟨a, e, _, wa⟩ := DataW.trod_int Tryd.underlying25 h
  have := wf_u64 wa
  refine ⟨⟨a.toNat, by omega⟩, ?_⟩
  unfold n64V
  dsimp only
  rw [e, Int.toNat_of_nonneg (by omega)]
theorem bool_of (h : DataW.trod enc Tryd.prog w base spare held fuel 4 cs = some x) : ∃ o : Bool, cs = boolV o := by
  obtain ⟨b, e, _⟩ := DataW.trod_bool Tryd.underlying4 h
  exact ⟨b, e⟩
end
set_option maxRecDepth 100000 in
theorem orders_contract (H : Type) (enc : TypeId × Value → H) (W : World) (base : Nat) (args : Array Value) (ds gs : List (DataW H)) (before : List MemPlace)
    (hval : ∀ (j : Nat) t v, Tryd.f4.params[j]? = some t → args[j]? = some v → Value.okWide Tryd.prog W .any base t v)
    (hW : DataW.Whole enc Tryd.prog Tryd.f4.params.toList Rows.queueOrdersSpec.vars false W args.toList ds gs before) :
    Calls Tryd.prog 4 args W fun e W' => ∃ v, e = .returned v ∧ Rows.queueOrdersSpec.post enc Tryd.prog Tryd.f4 false true false false W args v W' := by
  have hW' := hW
  obtain ⟨p, q, hA0, hV, rfl, hfz, hnd⟩ := hW
  have hA : DataW.TrodAll enc Tryd.prog W 0 (fun _ => true) true Tryd.f4.params.toList args.toList ds p := hA0
  rw [Tryd.params4] at hA hval
  obtain ⟨v0, vs0, d0, ds0, p0, q0, hargs, rfl, rfl, h0, r0⟩ := trodAll_cons hA
  obtain ⟨v1, vs1, d1, ds1, p1, q1, rfl, rfl, rfl, h1, r1⟩ := trodAll_cons r0
  obtain ⟨v2, vs2, d2, ds2, p2, q2, rfl, rfl, rfl, h2, r2⟩ := trodAll_cons r1
  obtain ⟨rfl, rfl, rfl⟩ := trodAll_nil r2
  obtain rfl : args = #[v0, v1, v2] := by cases args; simp_all
  obtain ⟨rfl, rfl⟩ := trodVars_none hV
  clear hA0 hA r0 r1 r2
  have k0 := hval 0 _ v0 rfl rfl
  have k1 := hval 1 _ v1 rfl rfl
  have k2 := hval 2 _ v2 rfl rfl
  obtain ⟨ad, list, cap, rfl, hc1, _, ho⟩ := slice_of (sz := 1) n64V (fun _ => rfl) (by decide) Tryd.underlying26 (by kernel_rfl) (fun _ _ _ h => n64_of h) k0 h0
  obtain ⟨tad, takes, tcap, rfl, hc2, _, ht⟩ := slice_of (sz := 1) boolV (fun _ => rfl) (by decide) Tryd.underlying41 (by kernel_rfl) (fun _ _ _ h => bool_of h) k1 h1
  obtain ⟨c, hc, rfl⟩ : ∃ s : Nat, s < 18446744073709551616 ∧ v2 = .int .u64 (s : Int) := by
    obtain ⟨_, h2⟩ := h2
    obtain ⟨n, rfl, hn⟩ := okWide_int Tryd.underlying25 k2
    obtain ⟨a, e, _, wa⟩ := DataW.trod_int Tryd.underlying25 h2
    injection e with e _
    have := wf_u64 wa
    exact ⟨a.toNat, by omega, by rw [e, Int.toNat_of_nonneg (by omega)]⟩
  have hfin := qorders_t (exact' W) _ _ list takes c hc ⟨ad, cap, rfl, hc1, ho⟩ ⟨tad, tcap, rfl, hc2, ht⟩
  refine (tri_run (Q := fun v => v = .bool true) hfin).mono ?_
  rintro e W' ⟨v, rfl, rfl, hs, ho⟩
  exact ⟨_, rfl, post_true laid_ hW' rfl rfl Tryd.underlying4 (by kernel_rfl) rfl hs ho⟩
set_option maxRecDepth 100000 in
theorem orders_lifted (os : Os) (started : os.Started) (H : Type) (enc : TypeId × Value → H) :
    ReturnsInHanded {} Tryd.checked os 4 .any (fun w args => (Rows.queueOrdersSpec.pre enc Tryd.prog Tryd.f4 [] false w args ∧ laidMetH Tryd.prog laidL w) ∧ sizedMet enc Tryd.prog Tryd.f4 (OpenSpec.ofChange Rows.queueOrdersSpec) false w args) (Rows.queueOrdersSpec.post enc Tryd.prog Tryd.f4 false true false false) := by
  refine returnsInHanded_of_change_and (C := Tryd.checked) (X := fun w _ => laidMetH Tryd.prog laidL w) (fun _ _ _ hh h => h.of_heap hh) own_ started (by kernel_rfl) Tryd.func4
    (ChangeSpec.witness_at (enc := enc) (C := Tryd.checked) (os := os) (X := fun w _ => laidMetH Tryd.prog laidL w) false (World.laidAll Tryd.prog os laidL) #[.slice none 0 0, .slice none 0 0, .int .u64 0] 8 (World.laidAll_os _ _ _) (by kernel_rfl) (by kernel_rfl) (by kernel_rfl) (by kernel_rfl) (by kernel_rfl) (laidL_met os _)) ?_
  intro W base args ds gs before hval hW _ _ _ _
  exact orders_contract H enc W base args ds gs before hval hW
theorem orders_holds : Rows.QueueOrdersSaid :=
  OpenClaim.holds_of_wide 4 Tryd.f4 rfl rfl rfl rfl rfl rfl rfl ⟨rfl, rfl, rfl, rfl, rfl⟩ rfl rfl rfl rfl rfl (by kernel_rfl) Tryd.func4 (by kernel_rfl)
    (of_decide_eq_true (by kernel_rfl)) (by unfold Func.isWrapper; first | (rw [if_pos (by decide +kernel)]; kernel_rfl) | (rw [if_neg (by decide +kernel)]; exact ⟨rfl, rfl⟩))
    (fun os started H enc _ => orders_lifted os started H enc)
theorem orders_card : Rows.QueueOrdersCardSaid :=
  Claim7.holds_tied_plain_at .later [] [.data, .data, .data] true (true, "615dc82e507083926faace1bdd08bfc6fd0bd06218280e56d48f1da27d326575") true
    orders_holds (fun _ h => by cases h) (by kernel_rfl) (fun _ h => by cases h) queueOrders_row_tie rfl ⟨rfl, rfl⟩ (by kernel_rfl) rfl
    (fun f fn hf hfn => by
      obtain rfl : f = 4 := Option.some.inj ((show Tryd.prog.funcNamed "tumbler/tumblerlaw20.QueueOrders" = some 4 by kernel_rfl).symm.trans hf) |>.symm
      obtain rfl : fn = Tryd.f4 := (Option.some.inj (Tryd.func4.symm.trans hfn)).symm
      exact ⟨by kernel_rfl, fun j t ht => by
        rw [Tryd.params4] at ht
        rcases j with _ | j
        · obtain rfl : t = 26 := by simpa using ht.symm
          kernel_rfl
        · rcases j with _ | j
          · obtain rfl : t = 41 := by simpa using ht.symm
            kernel_rfl
          · rcases j with _ | j
            · obtain rfl : t = 25 := by simpa using ht.symm
              kernel_rfl
            · simp at ht⟩)
    (by kernel_rfl)
end Go.Proofs.YtahefjapgfmmkaaDoor
