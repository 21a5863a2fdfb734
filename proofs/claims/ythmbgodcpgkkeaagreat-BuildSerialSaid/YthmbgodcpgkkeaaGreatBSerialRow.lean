/-
  The closed facts of the row, one by one. For every configuration, all programs, rounds and makers the law BuildSerial returns true and leaves its arguments as they were (the statement BuildSerialSaid, with no further condition).
-/
import Derived.Test.YthmbgodcpgkkeaaGreatRows
import Derived.ProofKit
import Derived.JoinedOf
import Derived.Test.YthmbgodcpgkkeaaGreatWl
import Derived.Test.YthmbgodcpgkkeaaGreatWm
section
namespace Go.Proofs.YthmbgodcpgkkeaaGreat
theorem fbs_and {a b : Bool} (ha : a = true) (hb : b = true) : (a && b) = true := by rw [ha, hb]; rfl
theorem fbs_0 : (Rows.buildSerialRow.wf (OpenSpec.ofChange Rows.buildSerialSpec)) = true := by kernel_rfl
theorem fbs_1 : (laidOutB Tryz.prog) = true := by kernel_rfl
theorem fbs_2 : (mapsRowed Tryz.prog) = true := by kernel_rfl
theorem fbs_3 : (Tryz.f6.params.all (Tryz.prog.readableRec ·)) = true := by kernel_rfl
theorem fbs_4 : (namedTie Tryz.prog Rows.buildSerialRow.named Rows.buildSerialSpec.vars) = true := by kernel_rfl
theorem fbs_5 : ((Rows.buildSerialRow.stops == [])) = true := by kernel_rfl
theorem fbs_6 : ((Tryz.prog.stops == [])) = true := by kernel_rfl
theorem fbs_7 : ((Rows.buildSerialRow.knobs == [])) = true := by kernel_rfl
theorem fbs_8 : ((Tryz.prog.stopKnobs == [])) = true := by kernel_rfl
theorem fbs_9 : ((Rows.buildSerialRow.inPlace == Tryz.prog.inPlace 6)) = true := by kernel_rfl
theorem fbs_10 : ((Rows.buildSerialRow.unfollowed == Tryz.prog.unfollowed 6)) = true := by kernel_rfl
theorem fbs_11 : ((Rows.buildSerialRow.recurses == Tryz.prog.recurses 6)) = true := by kernel_rfl
theorem fbs_12 : ((Rows.buildSerialRow.named == Tryz.prog.varsNamed 6)) = true := by kernel_rfl
theorem fbs_13 : ((Rows.buildSerialRow.maps == (Tryz.f6.params.toList ++ Rows.buildSerialSpec.plain.varTypes Tryz.prog).any (Tryz.prog.mapsRec ·))) = true := by kernel_rfl
theorem fbs_14 : ((Rows.buildSerialRow.ifaces == (Tryz.f6.params.toList ++ Rows.buildSerialSpec.plain.varTypes Tryz.prog).any (Tryz.prog.ifacesRec ·))) = true := by kernel_rfl
theorem fbs_15 : ((Rows.buildSerialRow.mapsOut == Tryz.prog.mapsAmong Tryz.f6.resultTypes.toList)) = true := by kernel_rfl
theorem fbs_16 : ((Rows.buildSerialRow.loops == (Tryz.f6.params.toList ++ Rows.buildSerialSpec.plain.varTypes Tryz.prog).any (Tryz.prog.loopsFrom ·))) = true := by kernel_rfl
theorem fbs_17 : ((Rows.buildSerialRow.wideKeys == (Tryz.f6.params.toList ++ Rows.buildSerialSpec.plain.varTypes Tryz.prog ++ Tryz.f6.resultTypes.toList).any (Tryz.prog.wideKeysFrom ·))) = true := by kernel_rfl
theorem fbs_18 : (Rows.buildSerialSpec.vars.all (Tryz.prog.varReadable ·)) = true := by kernel_rfl
theorem fbs_19 : (Tryz.f6.resultTypes.all (fun t => Tryz.prog.readableRec t && decide (t < Tryz.prog.types.size))) = true := by kernel_rfl
theorem fbs_20 : ((Rows.buildSerialRow.ifacesOut == Tryz.f6.resultTypes.toList.any (Tryz.prog.ifacesRec ·))) = true := by kernel_rfl
theorem fbs_21 : ((Rows.buildSerialRow.loopsOut == Tryz.f6.resultTypes.toList.any (Tryz.prog.loopsFrom ·))) = true := by kernel_rfl
theorem fbs_22 : ((Rows.buildSerialRow.plainKeys == Tryz.prog.plainKeys)) = true := by kernel_rfl
theorem fbs_23 : (Rows.buildSerialRow.shortTexts.isNone) = true := by kernel_rfl
theorem fbs_24 : (Tryz.prog.stopsHeard) = true := by kernel_rfl
theorem fbs_25 : (Tryz.prog.mayEnter) = true := by kernel_rfl
theorem fbs_26 : ((Rows.buildSerialRow.lifted == Tryz.prog.liftsFinal)) = true := by kernel_rfl
theorem fbs_27 : ((Tryz.prog.make == some Rows.buildSerialRow.make)) = true := by kernel_rfl
theorem fbs_28 : ((Rows.buildSerialRow.kinds == (if Rows.buildSerialRow.domain.isEmpty then [] else Tryz.f6.params.toList.map fun t => match Tryz.prog.underlying t with | some (.int k) => some k | _ => none))) = true := by kernel_rfl
theorem fbs_29 : ((Rows.buildSerialRow.pinned == Rows.buildSerialRow.pinnedBy)) = true := by kernel_rfl
theorem fbs_30 : ((Rows.buildSerialRow.veiled == (Tryz.f6.params.toList ++ Rows.buildSerialSpec.plain.varTypes Tryz.prog ++ Tryz.f6.resultTypes.toList).any (Tryz.prog.veiledRec ·))) = true := by kernel_rfl
theorem fbs_31 : (Rows.buildSerialRow.veiledFits Tryz.prog Tryz.f6.params.toList (Tryz.f6.params.toList ++ Rows.buildSerialSpec.plain.varTypes Tryz.prog ++ Tryz.f6.resultTypes.toList)) = true := by kernel_rfl
end Go.Proofs.YthmbgodcpgkkeaaGreat
end
section
namespace Go.Proofs.YthmbgodcpgkkeaaGreat
open Go.ChangeShapes Go.WideShapes Go.ChangeAt Go.RowKit Go.Deep
set_option maxRecDepth 100000 in
theorem bserial_contract (H : Type) (enc : TypeId × Value → H) (W : World) (base : Nat) (args : Array Value) (ds gs : List (DataW H)) (before : List MemPlace)
    (hval : ∀ (j : Nat) t v, Tryz.f6.params[j]? = some t → args[j]? = some v → Value.okWide Tryz.prog W .any base t v)
    (hW : DataW.Whole enc Tryz.prog Tryz.f6.params.toList Rows.buildSerialSpec.vars false W args.toList ds gs before) :
    Calls Tryz.prog 6 args W fun e W' => ∃ v, e = .returned v ∧ Rows.buildSerialSpec.post enc Tryz.prog Tryz.f6 false true false false W args v W' := by
  have hW' := hW
  obtain ⟨p, q, hA0, hV, rfl, hfz, hnd⟩ := hW
  have hA : DataW.TrodAll enc Tryz.prog W 0 (fun _ => true) true Tryz.f6.params.toList args.toList ds p := hA0
  rw [Tryz.params6] at hA hval
  obtain ⟨v0, vs0, d0, ds0, p0, q0, hargs, rfl, rfl, h0, r0⟩ := trodAll_cons hA
  obtain ⟨v1, vs1, d1, ds1, p1, q1, rfl, rfl, rfl, h1, r1⟩ := trodAll_cons r0
  obtain ⟨v2, vs2, d2, ds2, p2, q2, rfl, rfl, rfl, h2, r2⟩ := trodAll_cons r1
  obtain ⟨v3, vs3, d3, ds3, p3, q3, rfl, rfl, rfl, h3, r3⟩ := trodAll_cons r2
  obtain ⟨rfl, rfl, rfl⟩ := trodAll_nil r3
  obtain rfl : args = #[v0, v1, v2, v3] := by cases args; simp_all
  obtain ⟨rfl, rfl⟩ := trodVars_none hV
  clear hA0 hA r0 r1 r2 r3
  have k0 := hval 0 _ v0 rfl rfl
  have k1 := hval 1 _ v1 rfl rfl
  have k2 := hval 2 _ v2 rfl rfl
  have k3 := hval 3 _ v3 rfl rfl
  obtain ⟨⟨c0⟩, rfl, _⟩ := okWide_struct Tryz.underlying24 k0
  obtain ⟨_, h0⟩ := h0
  obtain ⟨c, e0⟩ := cfg_of h0
  obtain rfl : c0 = c.v := e0
  obtain ⟨pad, progs, pcap, rfl, hp1, hp2, hp⟩ := slice_of (sz := 1) (PrB.f (W := W)) (fun _ => rfl) (by decide) Tryz.underlying91 (by kernel_rfl) (fun _ _ _ h => progB_of h) k1 h1
  obtain ⟨rad, rounds, rcap, rfl, hr1, hr2, hr⟩ := slice_of (sz := 1) (RdR.f (W := W)) (fun _ => rfl) (by decide) Tryz.underlying109 (by kernel_rfl) (fun _ _ _ h => round_of h) k2 h2
  obtain ⟨mad, makers, mcap, rfl, hm1, hm2, hm⟩ := slice_of (sz := 1) i64C i64C_len (by decide) Tryz.underlying110 (by kernel_rfl) (fun _ _ _ h => i64_of h) k3 h3
  have hmx : maxLen = 9223372036854775807 := by decide
  have hpv := (progsB_of progs hp1 hp2 hp).1
  have hrv := rounds_of rounds hr1 hr2 hr
  have hfin : Tri Tryz.prog 6 #[.agg ⟨c.v⟩, .slice pad progs.length pcap, .slice rad rounds.length rcap, .slice mad makers.length mcap] [exact' W] fun r L => r = .bool true ∧ L = [exact' W] := by
    by_cases hb : few14B { c with first := 0 } (progs.map fun p => p.1.2) = true ∧ (rounds.map fun p => p.1.2).length ≤ 5 ∧ (rounds.map fun p => p.1.2).length ≤ makers.length
    · exact bserial_near hpv hrv ⟨mad, mcap, rfl, hm1, hm⟩ (by omega) hb.1 hb.2.1 hb.2.2
    · exact bserial_far hpv hrv (by omega) hb
  refine (tri_run (Q := fun v => v = .bool true) hfin).mono ?_
  rintro e W' ⟨v, rfl, rfl, hs, ho⟩
  exact ⟨_, rfl, post_true laid_ hW' rfl rfl Tryz.underlying4 (by kernel_rfl) rfl hs ho⟩
set_option maxRecDepth 100000 in
theorem bserial_lifted (os : Os) (started : os.Started) (H : Type) (enc : TypeId × Value → H) :
    ReturnsInHanded {} Tryz.checked os 6 .any (Rows.buildSerialSpec.pre6 enc Tryz.prog Tryz.f6 Rows.buildSerialRow.domain false) (Rows.buildSerialSpec.post enc Tryz.prog Tryz.f6 false true false false) := by
  refine returnsInHanded_of_change (C := Tryz.checked) own_ started (by kernel_rfl) Tryz.func6
    (ChangeSpec.witness6 (enc := enc) (C := Tryz.checked) false ⟨#[], #[.agg #[.int .i64 0, .int .i64 0, .int .i64 0, .int .i64 0, .int .u64 0, .int .u64 0], .slice none 0 0, .slice none 0 0, .slice none 0 0], []⟩ 8 (by kernel_rfl) (by kernel_rfl) (by kernel_rfl) (by kernel_rfl)) ?_
  intro W base args ds gs before hval hW _ _
  exact bserial_contract H enc W base args ds gs before hval hW
set_option maxRecDepth 100000 in
theorem fbs_closed : joinedFacts Tryz.prog 6 Tryz.f6 Rows.buildSerialSpec Rows.buildSerialRow = true :=
  (fbs_and (fbs_and (fbs_and (fbs_and (fbs_and (fbs_and (fbs_and (fbs_and (fbs_and (fbs_and (fbs_and (fbs_and (fbs_and (fbs_and (fbs_and (fbs_and (fbs_and (fbs_and (fbs_and (fbs_and (fbs_and (fbs_and (fbs_and (fbs_and (fbs_and (fbs_and (fbs_and (fbs_and (fbs_and (fbs_and (fbs_and fbs_0 fbs_1) fbs_2) fbs_3) fbs_4) fbs_5) fbs_6) fbs_7) fbs_8) fbs_9) fbs_10) fbs_11) fbs_12) fbs_13) fbs_14) fbs_15) fbs_16) fbs_17) fbs_18) fbs_19) fbs_20) fbs_21) fbs_22) fbs_23) fbs_24) fbs_25) fbs_26) fbs_27) fbs_28) fbs_29) fbs_30) fbs_31)
theorem bserial_holds : Rows.BuildSerialSaid :=
  OpenClaim.holds_of_wide 6 Tryz.f6 rfl rfl rfl rfl rfl rfl rfl ⟨rfl, rfl, rfl, rfl, rfl⟩ rfl rfl rfl rfl rfl (by kernel_rfl) Tryz.func6 fbs_closed
    (of_decide_eq_true (by kernel_rfl)) (by unfold Func.isWrapper; first | (rw [if_pos (by decide +kernel)]; kernel_rfl) | (rw [if_neg (by decide +kernel)]; exact ⟨rfl, rfl⟩))
    (fun os started H enc _ => bserial_lifted os started H enc)
end Go.Proofs.YthmbgodcpgkkeaaGreat
end
