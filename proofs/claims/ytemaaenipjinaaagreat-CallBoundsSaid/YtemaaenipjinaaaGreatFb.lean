/-
  The closed facts of the row, one by one.
-/
import Derived.Test.YtemaaenipjinaaaGreatRows
import Derived.ProofKit
import Derived.JoinedOf
namespace Go.Proofs.YtemaaenipjinaaaGreat
theorem fb_and {a b : Bool} (ha : a = true) (hb : b = true) : (a && b) = true := by rw [ha, hb]; rfl
theorem fb_0 : (Rows.callBoundsRow.wf (OpenSpec.ofChange Rows.callBoundsSpec)) = true := by kernel_rfl
theorem fb_1 : (laidOutB Tryz.prog) = true := by kernel_rfl
theorem fb_2 : (mapsRowed Tryz.prog) = true := by kernel_rfl
theorem fb_3 : (Tryz.f4.params.all (Tryz.prog.readableRec ·)) = true := by kernel_rfl
theorem fb_4 : (namedTie Tryz.prog Rows.callBoundsRow.named Rows.callBoundsSpec.vars) = true := by kernel_rfl
theorem fb_5 : ((Rows.callBoundsRow.stops == [])) = true := by kernel_rfl
theorem fb_6 : ((Tryz.prog.stops == [])) = true := by kernel_rfl
theorem fb_7 : ((Rows.callBoundsRow.knobs == [])) = true := by kernel_rfl
theorem fb_8 : ((Tryz.prog.stopKnobs == [])) = true := by kernel_rfl
theorem fb_9 : ((Rows.callBoundsRow.inPlace == Tryz.prog.inPlace 4)) = true := by kernel_rfl
theorem fb_10 : ((Rows.callBoundsRow.unfollowed == Tryz.prog.unfollowed 4)) = true := by kernel_rfl
theorem fb_11 : ((Rows.callBoundsRow.recurses == Tryz.prog.recurses 4)) = true := by kernel_rfl
theorem fb_12 : ((Rows.callBoundsRow.named == Tryz.prog.varsNamed 4)) = true := by kernel_rfl
theorem fb_13 : ((Rows.callBoundsRow.maps == (Tryz.f4.params.toList ++ Rows.callBoundsSpec.plain.varTypes Tryz.prog).any (Tryz.prog.mapsRec ·))) = true := by kernel_rfl
theorem fb_14 : ((Rows.callBoundsRow.ifaces == (Tryz.f4.params.toList ++ Rows.callBoundsSpec.plain.varTypes Tryz.prog).any (Tryz.prog.ifacesRec ·))) = true := by kernel_rfl
theorem fb_15 : ((Rows.callBoundsRow.mapsOut == Tryz.prog.mapsAmong Tryz.f4.resultTypes.toList)) = true := by kernel_rfl
theorem fb_16 : ((Rows.callBoundsRow.loops == (Tryz.f4.params.toList ++ Rows.callBoundsSpec.plain.varTypes Tryz.prog).any (Tryz.prog.loopsFrom ·))) = true := by kernel_rfl
theorem fb_17 : ((Rows.callBoundsRow.wideKeys == (Tryz.f4.params.toList ++ Rows.callBoundsSpec.plain.varTypes Tryz.prog ++ Tryz.f4.resultTypes.toList).any (Tryz.prog.wideKeysFrom ·))) = true := by kernel_rfl
theorem fb_18 : (Rows.callBoundsSpec.vars.all (Tryz.prog.varReadable ·)) = true := by kernel_rfl
theorem fb_19 : (Tryz.f4.resultTypes.all (fun t => Tryz.prog.readableRec t && decide (t < Tryz.prog.types.size))) = true := by kernel_rfl
theorem fb_20 : ((Rows.callBoundsRow.ifacesOut == Tryz.f4.resultTypes.toList.any (Tryz.prog.ifacesRec ·))) = true := by kernel_rfl
theorem fb_21 : ((Rows.callBoundsRow.loopsOut == Tryz.f4.resultTypes.toList.any (Tryz.prog.loopsFrom ·))) = true := by kernel_rfl
theorem fb_22 : ((Rows.callBoundsRow.plainKeys == Tryz.prog.plainKeys)) = true := by kernel_rfl
theorem fb_23 : (Rows.callBoundsRow.shortTexts.isNone) = true := by kernel_rfl
theorem fb_24 : (Tryz.prog.stopsHeard) = true := by kernel_rfl
theorem fb_25 : (Tryz.prog.mayEnter) = true := by kernel_rfl
theorem fb_26 : ((Rows.callBoundsRow.lifted == Tryz.prog.liftsFinal)) = true := by kernel_rfl
theorem fb_27 : ((Tryz.prog.make == some Rows.callBoundsRow.make)) = true := by kernel_rfl
theorem fb_28 : ((Rows.callBoundsRow.kinds == (if Rows.callBoundsRow.domain.isEmpty then [] else Tryz.f4.params.toList.map fun t => match Tryz.prog.underlying t with | some (.int k) => some k | _ => none))) = true := by kernel_rfl
theorem fb_29 : ((Rows.callBoundsRow.pinned == Rows.callBoundsRow.pinnedBy)) = true := by kernel_rfl
theorem fb_30 : ((Rows.callBoundsRow.veiled == (Tryz.f4.params.toList ++ Rows.callBoundsSpec.plain.varTypes Tryz.prog ++ Tryz.f4.resultTypes.toList).any (Tryz.prog.veiledRec ·))) = true := by kernel_rfl
theorem fb_31 : (Rows.callBoundsRow.veiledFits Tryz.prog Tryz.f4.params.toList (Tryz.f4.params.toList ++ Rows.callBoundsSpec.plain.varTypes Tryz.prog ++ Tryz.f4.resultTypes.toList)) = true := by kernel_rfl
end Go.Proofs.YtemaaenipjinaaaGreat
