/-
  The closed facts of the row, one by one.
-/
import Derived.Test.YtemaaenipjinaaaGreatRows
import Derived.ProofKit
import Derived.JoinedOf
namespace Go.Proofs.YtemaaenipjinaaaGreat
theorem fp_and {a b : Bool} (ha : a = true) (hb : b = true) : (a && b) = true := by rw [ha, hb]; rfl
theorem fp_0 : (Rows.schedPrefixRow.wf (OpenSpec.ofChange Rows.schedPrefixSpec)) = true := by kernel_rfl
theorem fp_1 : (laidOutB Tryz.prog) = true := by kernel_rfl
theorem fp_2 : (mapsRowed Tryz.prog) = true := by kernel_rfl
theorem fp_3 : (Tryz.f9.params.all (Tryz.prog.readableRec ·)) = true := by kernel_rfl
theorem fp_4 : (namedTie Tryz.prog Rows.schedPrefixRow.named Rows.schedPrefixSpec.vars) = true := by kernel_rfl
theorem fp_5 : ((Rows.schedPrefixRow.stops == [])) = true := by kernel_rfl
theorem fp_6 : ((Tryz.prog.stops == [])) = true := by kernel_rfl
theorem fp_7 : ((Rows.schedPrefixRow.knobs == [])) = true := by kernel_rfl
theorem fp_8 : ((Tryz.prog.stopKnobs == [])) = true := by kernel_rfl
theorem fp_9 : ((Rows.schedPrefixRow.inPlace == Tryz.prog.inPlace 9)) = true := by kernel_rfl
theorem fp_10 : ((Rows.schedPrefixRow.unfollowed == Tryz.prog.unfollowed 9)) = true := by kernel_rfl
theorem fp_11 : ((Rows.schedPrefixRow.recurses == Tryz.prog.recurses 9)) = true := by kernel_rfl
theorem fp_12 : ((Rows.schedPrefixRow.named == Tryz.prog.varsNamed 9)) = true := by kernel_rfl
theorem fp_13 : ((Rows.schedPrefixRow.maps == (Tryz.f9.params.toList ++ Rows.schedPrefixSpec.plain.varTypes Tryz.prog).any (Tryz.prog.mapsRec ·))) = true := by kernel_rfl
theorem fp_14 : ((Rows.schedPrefixRow.ifaces == (Tryz.f9.params.toList ++ Rows.schedPrefixSpec.plain.varTypes Tryz.prog).any (Tryz.prog.ifacesRec ·))) = true := by kernel_rfl
theorem fp_15 : ((Rows.schedPrefixRow.mapsOut == Tryz.prog.mapsAmong Tryz.f9.resultTypes.toList)) = true := by kernel_rfl
theorem fp_16 : ((Rows.schedPrefixRow.loops == (Tryz.f9.params.toList ++ Rows.schedPrefixSpec.plain.varTypes Tryz.prog).any (Tryz.prog.loopsFrom ·))) = true := by kernel_rfl
theorem fp_17 : ((Rows.schedPrefixRow.wideKeys == (Tryz.f9.params.toList ++ Rows.schedPrefixSpec.plain.varTypes Tryz.prog ++ Tryz.f9.resultTypes.toList).any (Tryz.prog.wideKeysFrom ·))) = true := by kernel_rfl
theorem fp_18 : (Rows.schedPrefixSpec.vars.all (Tryz.prog.varReadable ·)) = true := by kernel_rfl
theorem fp_19 : (Tryz.f9.resultTypes.all (fun t => Tryz.prog.readableRec t && decide (t < Tryz.prog.types.size))) = true := by kernel_rfl
theorem fp_20 : ((Rows.schedPrefixRow.ifacesOut == Tryz.f9.resultTypes.toList.any (Tryz.prog.ifacesRec ·))) = true := by kernel_rfl
theorem fp_21 : ((Rows.schedPrefixRow.loopsOut == Tryz.f9.resultTypes.toList.any (Tryz.prog.loopsFrom ·))) = true := by kernel_rfl
theorem fp_22 : ((Rows.schedPrefixRow.plainKeys == Tryz.prog.plainKeys)) = true := by kernel_rfl
theorem fp_23 : (Rows.schedPrefixRow.shortTexts.isNone) = true := by kernel_rfl
theorem fp_24 : (Tryz.prog.stopsHeard) = true := by kernel_rfl
theorem fp_25 : (Tryz.prog.mayEnter) = true := by kernel_rfl
theorem fp_26 : ((Rows.schedPrefixRow.lifted == Tryz.prog.liftsFinal)) = true := by kernel_rfl
theorem fp_27 : ((Tryz.prog.make == some Rows.schedPrefixRow.make)) = true := by kernel_rfl
theorem fp_28 : ((Rows.schedPrefixRow.kinds == (if Rows.schedPrefixRow.domain.isEmpty then [] else Tryz.f9.params.toList.map fun t => match Tryz.prog.underlying t with | some (.int k) => some k | _ => none))) = true := by kernel_rfl
theorem fp_29 : ((Rows.schedPrefixRow.pinned == Rows.schedPrefixRow.pinnedBy)) = true := by kernel_rfl
theorem fp_30 : ((Rows.schedPrefixRow.veiled == (Tryz.f9.params.toList ++ Rows.schedPrefixSpec.plain.varTypes Tryz.prog ++ Tryz.f9.resultTypes.toList).any (Tryz.prog.veiledRec ·))) = true := by kernel_rfl
theorem fp_31 : (Rows.schedPrefixRow.veiledFits Tryz.prog Tryz.f9.params.toList (Tryz.f9.params.toList ++ Rows.schedPrefixSpec.plain.varTypes Tryz.prog ++ Tryz.f9.resultTypes.toList)) = true := by kernel_rfl
end Go.Proofs.YtemaaenipjinaaaGreat
