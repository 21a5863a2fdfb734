/-
  For every configuration, all programs, calls, picks and all noise the law SchedLetters returns true and leaves its arguments as they were (the statement SchedLettersSaid, with no further condition).
-/
import Derived.Test.YtemaaenipjinaaaGreatUl
import Derived.Test.YtemaaenipjinaaaGreatFl
namespace Go.Proofs.YtemaaenipjinaaaGreat
open Go.ChangeShapes Go.WideShapes Go.ChangeAt Go.RowKit Go.Deep
set_option maxRecDepth 100000 in
theorem letters_contract (H : Type) (enc : TypeId × Value → H) (W : World) (base : Nat) (args : Array Value) (ds gs : List (DataW H)) (before : List MemPlace)
    (hval : ∀ (j : Nat) t v, Tryz.f8.params[j]? = some t → args[j]? = some v → Value.okWide Tryz.prog W .any base t v)
    (hW : DataW.Whole enc Tryz.prog Tryz.f8.params.toList Rows.schedLettersSpec.vars false W args.toList ds gs before) :
    Calls Tryz.prog 8 args W fun e W' => ∃ v, e = .returned v ∧ Rows.schedLettersSpec.post enc Tryz.prog Tryz.f8 false true false false W args v W' := by
  have hW' := hW
  obtain ⟨p, q, hA0, hV, rfl, hfz, hnd⟩ := hW
  have hA : DataW.TrodAll enc Tryz.prog W 0 (fun _ => true) true Tryz.f8.params.toList args.toList ds p := hA0
  rw [Tryz.params8] at hA hval
  obtain ⟨v0, vs0, d0, ds0, p0, q0, hargs, rfl, rfl, h0, r0⟩ := trodAll_cons hA
  obtain ⟨v1, vs1, d1, ds1, p1, q1, rfl, rfl, rfl, h1, r1⟩ := trodAll_cons r0
  obtain ⟨v2, vs2, d2, ds2, p2, q2, rfl, rfl, rfl, h2, r2⟩ := trodAll_cons r1
  obtain ⟨v3, vs3, d3, ds3, p3, q3, rfl, rfl, rfl, h3, r3⟩ := trodAll_cons r2
  obtain ⟨v4, vs4, d4, ds4, p4, q4, rfl, rfl, rfl, h4, r4⟩ := trodAll_cons r3
  obtain ⟨rfl, rfl, rfl⟩ := trodAll_nil r4
  obtain rfl : args = #[v0, v1, v2, v3, v4] := by cases args; simp_all
  obtain ⟨rfl, rfl⟩ := trodVars_none hV
  clear hA0 hA r0 r1 r2 r3 r4
  have k0 := hval 0 _ v0 rfl rfl
  have k1 := hval 1 _ v1 rfl rfl
  have k2 := hval 2 _ v2 rfl rfl
  have k3 := hval 3 _ v3 rfl rfl
  have k4 := hval 4 _ v4 rfl rfl
  obtain ⟨⟨c0⟩, rfl, _⟩ := okWide_struct Tryz.underlying24 k0
  obtain ⟨_, h0⟩ := h0
  obtain ⟨c, e0⟩ := cfg_of h0
  obtain rfl : c0 = c.v := e0
  obtain ⟨pad, progs, pcap, rfl, hp1, hp2, hp⟩ := slice_of (sz := 1) (PrR.f (W := W)) (fun _ => rfl) (by decide) Tryz.underlying25 (by kernel_rfl) (fun _ _ _ h => prog_of h) k1 h1
  obtain ⟨cad, calls, ccap, rfl, hc1, hc2, hc⟩ := slice_of (sz := 1) (ClR.f (W := W)) (fun _ => rfl) (by decide) Tryz.underlying99 (by kernel_rfl) (fun _ _ _ h => calls_of h) k2 h2
  obtain ⟨kad, picks, kcap, rfl, hk1, hk2, hk⟩ := slice_of (sz := 1) dI (fun _ => rfl) (by decide) Tryz.underlying100 (by kernel_rfl) (fun _ _ _ h => int_of h) k3 h3
  obtain ⟨noise, rfl⟩ := okWide_string Tryz.underlying9 k4
  have hfin := letlaw_t c (exact' W) _ _ _ _ (progs_of progs hp1 hp2 hp) (callss_of calls hc1 hc2 hc) (callss_four calls) kad kcap picks hk noise
  unfold lawQ at hfin
  refine (tri_run (Q := fun v => v = .bool true) hfin).mono ?_
  rintro e W' ⟨v, rfl, rfl, hs, ho⟩
  exact ⟨_, rfl, post_true laid_ hW' rfl rfl Tryz.underlying4 (by kernel_rfl) rfl hs ho⟩
set_option maxRecDepth 100000 in
theorem letters_lifted (os : Os) (started : os.Started) (H : Type) (enc : TypeId × Value → H) :
    ReturnsInHanded {} Tryz.checked os 8 .any (Rows.schedLettersSpec.pre6 enc Tryz.prog Tryz.f8 Rows.schedLettersRow.domain false) (Rows.schedLettersSpec.post enc Tryz.prog Tryz.f8 false true false false) := by
  refine returnsInHanded_of_change (C := Tryz.checked) own_ started (by kernel_rfl) Tryz.func8
    (ChangeSpec.witness6 (enc := enc) (C := Tryz.checked) false ⟨#[], #[.agg #[.int .i64 0, .int .i64 0, .int .i64 0, .int .i64 0, .int .u64 0, .int .u64 0], .slice none 0 0, .slice none 0 0, .slice none 0 0, .string ByteArray.empty], []⟩ 8 (by kernel_rfl) (by kernel_rfl) (by kernel_rfl) (by kernel_rfl)) ?_
  intro W base args ds gs before hval hW _ _
  exact letters_contract H enc W base args ds gs before hval hW
set_option maxRecDepth 100000 in
theorem fl_closed : joinedFacts Tryz.prog 8 Tryz.f8 Rows.schedLettersSpec Rows.schedLettersRow = true :=
  (fl_and (fl_and (fl_and (fl_and (fl_and (fl_and (fl_and (fl_and (fl_and (fl_and (fl_and (fl_and (fl_and (fl_and (fl_and (fl_and (fl_and (fl_and (fl_and (fl_and (fl_and (fl_and (fl_and (fl_and (fl_and (fl_and (fl_and (fl_and (fl_and (fl_and (fl_and fl_0 fl_1) fl_2) fl_3) fl_4) fl_5) fl_6) fl_7) fl_8) fl_9) fl_10) fl_11) fl_12) fl_13) fl_14) fl_15) fl_16) fl_17) fl_18) fl_19) fl_20) fl_21) fl_22) fl_23) fl_24) fl_25) fl_26) fl_27) fl_28) fl_29) fl_30) fl_31)

theorem letters_holds : Rows.SchedLettersSaid :=
  OpenClaim.holds_of_wide 8 Tryz.f8 rfl rfl rfl rfl rfl rfl rfl ⟨rfl, rfl, rfl, rfl, rfl⟩ rfl rfl rfl rfl rfl (by kernel_rfl) Tryz.func8 fl_closed
    (of_decide_eq_true (by kernel_rfl)) (by unfold Func.isWrapper; first | (rw [if_pos (by decide +kernel)]; kernel_rfl) | (rw [if_neg (by decide +kernel)]; exact ⟨rfl, rfl⟩))
    (fun os started H enc _ => letters_lifted os started H enc)
end Go.Proofs.YtemaaenipjinaaaGreat
