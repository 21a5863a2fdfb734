/-
  The closed facts of the row, one by one.
-/
import Derived.Test.YtemaaenipjinaaaGreatRows
import Derived.ProofKit
import Derived.JoinedOf
namespace Go.Proofs.YtemaaenipjinaaaGreat
theorem fl_and {a b : Bool} (ha : a = true) (hb : b = true) : (a && b) = true := by rw [ha, hb]; rfl
theorem fl_0 : (Rows.schedLettersRow.wf (OpenSpec.ofChange Rows.schedLettersSpec)) = true := by kernel_rfl
theorem fl_1 : (laidOutB Tryz.prog) = true := by kernel_rfl
theorem fl_2 : (mapsRowed Tryz.prog) = true := by kernel_rfl
theorem fl_3 : (Tryz.f8.params.all (Tryz.prog.readableRec ·)) = true := by kernel_rfl
theorem fl_4 : (namedTie Tryz.prog Rows.schedLettersRow.named Rows.schedLettersSpec.vars) = true := by kernel_rfl
theorem fl_5 : ((Rows.schedLettersRow.stops == [])) = true := by kernel_rfl
theorem fl_6 : ((Tryz.prog.stops == [])) = true := by kernel_rfl
theorem fl_7 : ((Rows.schedLettersRow.knobs == [])) = true := by kernel_rfl
theorem fl_8 : ((Tryz.prog.stopKnobs == [])) = true := by kernel_rfl
theorem fl_9 : ((Rows.schedLettersRow.inPlace == Tryz.prog.inPlace 8)) = true := by kernel_rfl
theorem fl_10 : ((Rows.schedLettersRow.unfollowed == Tryz.prog.unfollowed 8)) = true := by kernel_rfl
theorem fl_11 : ((Rows.schedLettersRow.recurses == Tryz.prog.recurses 8)) = true := by kernel_rfl
theorem fl_12 : ((Rows.schedLettersRow.named == Tryz.prog.varsNamed 8)) = true := by kernel_rfl
theorem fl_13 : ((Rows.schedLettersRow.maps == (Tryz.f8.params.toList ++ Rows.schedLettersSpec.plain.varTypes Tryz.prog).any (Tryz.prog.mapsRec ·))) = true := by kernel_rfl
theorem fl_14 : ((Rows.schedLettersRow.ifaces == (Tryz.f8.params.toList ++ Rows.schedLettersSpec.plain.varTypes Tryz.prog).any (Tryz.prog.ifacesRec ·))) = true := by kernel_rfl
theorem fl_15 : ((Rows.schedLettersRow.mapsOut == Tryz.prog.mapsAmong Tryz.f8.resultTypes.toList)) = true := by kernel_rfl
theorem fl_16 : ((Rows.schedLettersRow.loops == (Tryz.f8.params.toList ++ Rows.schedLettersSpec.plain.varTypes Tryz.prog).any (Tryz.prog.loopsFrom ·))) = true := by kernel_rfl
theorem fl_17 : ((Rows.schedLettersRow.wideKeys == (Tryz.f8.params.toList ++ Rows.schedLettersSpec.plain.varTypes Tryz.prog ++ Tryz.f8.resultTypes.toList).any (Tryz.prog.wideKeysFrom ·))) = true := by kernel_rfl
theorem fl_18 : (Rows.schedLettersSpec.vars.all (Tryz.prog.varReadable ·)) = true := by kernel_rfl
theorem fl_19 : (Tryz.f8.resultTypes.all (fun t => Tryz.prog.readableRec t && decide (t < Tryz.prog.types.size))) = true := by kernel_rfl
theorem fl_20 : ((Rows.schedLettersRow.ifacesOut == Tryz.f8.resultTypes.toList.any (Tryz.prog.ifacesRec ·))) = true := by kernel_rfl
theorem fl_21 : ((Rows.schedLettersRow.loopsOut == Tryz.f8.resultTypes.toList.any (Tryz.prog.loopsFrom ·))) = true := by kernel_rfl
theorem fl_22 : ((Rows.schedLettersRow.plainKeys == Tryz.prog.plainKeys)) = true := by kernel_rfl
theorem fl_23 : (Rows.schedLettersRow.shortTexts.isNone) = true := by kernel_rfl
theorem fl_24 : (Tryz.prog.stopsHeard) = true := by kernel_rfl
theorem fl_25 : (Tryz.prog.mayEnter) = true := by kernel_rfl
theorem fl_26 : ((Rows.schedLettersRow.lifted == Tryz.prog.liftsFinal)) = true := by kernel_rfl
theorem fl_27 : ((Tryz.prog.make == some Rows.schedLettersRow.make)) = true := by kernel_rfl
theorem fl_28 : ((Rows.schedLettersRow.kinds == (if Rows.schedLettersRow.domain.isEmpty then [] else Tryz.f8.params.toList.map fun t => match Tryz.prog.underlying t with | some (.int k) => some k | _ => none))) = true := by kernel_rfl
theorem fl_29 : ((Rows.schedLettersRow.pinned == Rows.schedLettersRow.pinnedBy)) = true := by kernel_rfl
theorem fl_30 : ((Rows.schedLettersRow.veiled == (Tryz.f8.params.toList ++ Rows.schedLettersSpec.plain.varTypes Tryz.prog ++ Tryz.f8.resultTypes.toList).any (Tryz.prog.veiledRec ·))) = true := by kernel_rfl
theorem fl_31 : (Rows.schedLettersRow.veiledFits Tryz.prog Tryz.f8.params.toList (Tryz.f8.params.toList ++ Rows.schedLettersSpec.plain.varTypes Tryz.prog ++ Tryz.f8.resultTypes.toList)) = true := by kernel_rfl
end Go.Proofs.YtemaaenipjinaaaGreat
