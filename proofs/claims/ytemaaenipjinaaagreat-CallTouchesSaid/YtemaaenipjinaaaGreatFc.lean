/-
  The closed facts of the row, one by one.
-/
import Derived.Test.YtemaaenipjinaaaGreatRows
import Derived.ProofKit
import Derived.JoinedOf
namespace Go.Proofs.YtemaaenipjinaaaGreat
theorem fc_and {a b : Bool} (ha : a = true) (hb : b = true) : (a && b) = true := by rw [ha, hb]; rfl
theorem fc_0 : (Rows.callTouchesRow.wf (OpenSpec.ofChange Rows.callTouchesSpec)) = true := by kernel_rfl
theorem fc_1 : (laidOutB Tryz.prog) = true := by kernel_rfl
theorem fc_2 : (mapsRowed Tryz.prog) = true := by kernel_rfl
theorem fc_3 : (Tryz.f5.params.all (Tryz.prog.readableRec ·)) = true := by kernel_rfl
theorem fc_4 : (namedTie Tryz.prog Rows.callTouchesRow.named Rows.callTouchesSpec.vars) = true := by kernel_rfl
theorem fc_5 : ((Rows.callTouchesRow.stops == [])) = true := by kernel_rfl
theorem fc_6 : ((Tryz.prog.stops == [])) = true := by kernel_rfl
theorem fc_7 : ((Rows.callTouchesRow.knobs == [])) = true := by kernel_rfl
theorem fc_8 : ((Tryz.prog.stopKnobs == [])) = true := by kernel_rfl
theorem fc_9 : ((Rows.callTouchesRow.inPlace == Tryz.prog.inPlace 5)) = true := by kernel_rfl
theorem fc_10 : ((Rows.callTouchesRow.unfollowed == Tryz.prog.unfollowed 5)) = true := by kernel_rfl
theorem fc_11 : ((Rows.callTouchesRow.recurses == Tryz.prog.recurses 5)) = true := by kernel_rfl
theorem fc_12 : ((Rows.callTouchesRow.named == Tryz.prog.varsNamed 5)) = true := by kernel_rfl
theorem fc_13 : ((Rows.callTouchesRow.maps == (Tryz.f5.params.toList ++ Rows.callTouchesSpec.plain.varTypes Tryz.prog).any (Tryz.prog.mapsRec ·))) = true := by kernel_rfl
theorem fc_14 : ((Rows.callTouchesRow.ifaces == (Tryz.f5.params.toList ++ Rows.callTouchesSpec.plain.varTypes Tryz.prog).any (Tryz.prog.ifacesRec ·))) = true := by kernel_rfl
theorem fc_15 : ((Rows.callTouchesRow.mapsOut == Tryz.prog.mapsAmong Tryz.f5.resultTypes.toList)) = true := by kernel_rfl
theorem fc_16 : ((Rows.callTouchesRow.loops == (Tryz.f5.params.toList ++ Rows.callTouchesSpec.plain.varTypes Tryz.prog).any (Tryz.prog.loopsFrom ·))) = true := by kernel_rfl
theorem fc_17 : ((Rows.callTouchesRow.wideKeys == (Tryz.f5.params.toList ++ Rows.callTouchesSpec.plain.varTypes Tryz.prog ++ Tryz.f5.resultTypes.toList).any (Tryz.prog.wideKeysFrom ·))) = true := by kernel_rfl
theorem fc_18 : (Rows.callTouchesSpec.vars.all (Tryz.prog.varReadable ·)) = true := by kernel_rfl
theorem fc_19 : (Tryz.f5.resultTypes.all (fun t => Tryz.prog.readableRec t && decide (t < Tryz.prog.types.size))) = true := by kernel_rfl
theorem fc_20 : ((Rows.callTouchesRow.ifacesOut == Tryz.f5.resultTypes.toList.any (Tryz.prog.ifacesRec ·))) = true := by kernel_rfl
theorem fc_21 : ((Rows.callTouchesRow.loopsOut == Tryz.f5.resultTypes.toList.any (Tryz.prog.loopsFrom ·))) = true := by kernel_rfl
theorem fc_22 : ((Rows.callTouchesRow.plainKeys == Tryz.prog.plainKeys)) = true := by kernel_rfl
theorem fc_23 : (Rows.callTouchesRow.shortTexts.isNone) = true := by kernel_rfl
theorem fc_24 : (Tryz.prog.stopsHeard) = true := by kernel_rfl
theorem fc_25 : (Tryz.prog.mayEnter) = true := by kernel_rfl
theorem fc_26 : ((Rows.callTouchesRow.lifted == Tryz.prog.liftsFinal)) = true := by kernel_rfl
theorem fc_27 : ((Tryz.prog.make == some Rows.callTouchesRow.make)) = true := by kernel_rfl
theorem fc_28 : ((Rows.callTouchesRow.kinds == (if Rows.callTouchesRow.domain.isEmpty then [] else Tryz.f5.params.toList.map fun t => match Tryz.prog.underlying t with | some (.int k) => some k | _ => none))) = true := by kernel_rfl
theorem fc_29 : ((Rows.callTouchesRow.pinned == Rows.callTouchesRow.pinnedBy)) = true := by kernel_rfl
theorem fc_30 : ((Rows.callTouchesRow.veiled == (Tryz.f5.params.toList ++ Rows.callTouchesSpec.plain.varTypes Tryz.prog ++ Tryz.f5.resultTypes.toList).any (Tryz.prog.veiledRec ·))) = true := by kernel_rfl
theorem fc_31 : (Rows.callTouchesRow.veiledFits Tryz.prog Tryz.f5.params.toList (Tryz.f5.params.toList ++ Rows.callTouchesSpec.plain.varTypes Tryz.prog ++ Tryz.f5.resultTypes.toList)) = true := by kernel_rfl
end Go.Proofs.YtemaaenipjinaaaGreat
