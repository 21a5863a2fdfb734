/-
  Package tumblerlaw11: ExecSerial, of what is not few. The closed facts of the row, one by one.
-/
import Derived.Test.YthmbgodcpgkkeaaGreatEz
import Derived.Test.YthmbgodcpgkkeaaGreatRows
import Derived.ProofKit
import Derived.JoinedOf
section
namespace Go.Proofs.YthmbgodcpgkkeaaGreat
set_option maxRecDepth 100000
set_option maxHeartbeats 1000000 in
theorem serial_far {q : HProp} {c : Cfg} {jv : Value} {jobs : List Jb} (hjv : JobsR q jv jobs) (hjn : jobs.length ≤ 9223372036854775807) (hb : fewB { c with first := 0 } jobs = false) :
    Tri Tryz.prog 8 #[.agg ⟨c.v⟩, jv] [q] fun r L => r = .bool true ∧ L = [q] := by
  obtain ⟨th, bk, wr, fu, fi, la⟩ := c
  dsimp only at hb
  have hfew := few_r ⟨th, bk, wr, fu, 0, la⟩ q jv jobs hjv hjn
  rw [hb] at hfew
  obtain ⟨jad, jcap, rfl, hjr⟩ := id hjv
  unfold Cfg.v at hfew ⊢
  dsimp only at hfew ⊢
  refine Tri.of_body (vs := [_, _]) Tryz.func8 rfl rfl fun w0 F => ?_
  repeat' (first | refine Ga ?_ | (refine Gb ?_; intro b) | (refine Gd ?_; intro g cap rest hcap) | (refine Gc ?_; intro ad cap) | (refine St.draw (id := 26) [(0, 0), (1, 1), (2, 0), (3, 0), (4, 1), (5, 0), (6, 1), (7, 0), (8, 0), (9, 0), (10, 0), (11, 0), (12, 1), (13, 1), (14, 0), (15, 0), (16, 0), (17, 0), (18, 1), (19, 0), (20, 0), (21, 0), (22, 0), (23, 0), (24, 0), (25, 1), (26, 1), (27, 0), (28, 0), (29, 1), (30, 0), (31, 0), (32, 0)] [] mixed (by kernel_rfl) ?_)| refine Gl hfew ?_ | (refine Gt alive_t ?_; rintro _ _ ⟨rfl, rfl⟩) | (refine Ge ?_ ?_ <;> (intro h; try (exfalso; omega))) | fail)
  all_goals first | (exfalso; omega) | skip
  all_goals exact St.d1 Tryz.func8 ⟨_, ⟨rfl, rfl⟩, Ent.go⟩
end Go.Proofs.YthmbgodcpgkkeaaGreat
end
section
namespace Go.Proofs.YthmbgodcpgkkeaaGreat
theorem fx_and {a b : Bool} (ha : a = true) (hb : b = true) : (a && b) = true := by rw [ha, hb]; rfl
theorem fx_0 : (Rows.execSerialRow.wf (OpenSpec.ofChange Rows.execSerialSpec)) = true := by kernel_rfl
theorem fx_1 : (laidOutB Tryz.prog) = true := by kernel_rfl
theorem fx_2 : (mapsRowed Tryz.prog) = true := by kernel_rfl
theorem fx_3 : (Tryz.f8.params.all (Tryz.prog.readableRec ·)) = true := by kernel_rfl
theorem fx_4 : (namedTie Tryz.prog Rows.execSerialRow.named Rows.execSerialSpec.vars) = true := by kernel_rfl
theorem fx_5 : ((Rows.execSerialRow.stops == [])) = true := by kernel_rfl
theorem fx_6 : ((Tryz.prog.stops == [])) = true := by kernel_rfl
theorem fx_7 : ((Rows.execSerialRow.knobs == [])) = true := by kernel_rfl
theorem fx_8 : ((Tryz.prog.stopKnobs == [])) = true := by kernel_rfl
theorem fx_9 : ((Rows.execSerialRow.inPlace == Tryz.prog.inPlace 8)) = true := by kernel_rfl
theorem fx_10 : ((Rows.execSerialRow.unfollowed == Tryz.prog.unfollowed 8)) = true := by kernel_rfl
theorem fx_11 : ((Rows.execSerialRow.recurses == Tryz.prog.recurses 8)) = true := by kernel_rfl
theorem fx_12 : ((Rows.execSerialRow.named == Tryz.prog.varsNamed 8)) = true := by kernel_rfl
theorem fx_13 : ((Rows.execSerialRow.maps == (Tryz.f8.params.toList ++ Rows.execSerialSpec.plain.varTypes Tryz.prog).any (Tryz.prog.mapsRec ·))) = true := by kernel_rfl
theorem fx_14 : ((Rows.execSerialRow.ifaces == (Tryz.f8.params.toList ++ Rows.execSerialSpec.plain.varTypes Tryz.prog).any (Tryz.prog.ifacesRec ·))) = true := by kernel_rfl
theorem fx_15 : ((Rows.execSerialRow.mapsOut == Tryz.prog.mapsAmong Tryz.f8.resultTypes.toList)) = true := by kernel_rfl
theorem fx_16 : ((Rows.execSerialRow.loops == (Tryz.f8.params.toList ++ Rows.execSerialSpec.plain.varTypes Tryz.prog).any (Tryz.prog.loopsFrom ·))) = true := by kernel_rfl
theorem fx_17 : ((Rows.execSerialRow.wideKeys == (Tryz.f8.params.toList ++ Rows.execSerialSpec.plain.varTypes Tryz.prog ++ Tryz.f8.resultTypes.toList).any (Tryz.prog.wideKeysFrom ·))) = true := by kernel_rfl
theorem fx_18 : (Rows.execSerialSpec.vars.all (Tryz.prog.varReadable ·)) = true := by kernel_rfl
theorem fx_19 : (Tryz.f8.resultTypes.all (fun t => Tryz.prog.readableRec t && decide (t < Tryz.prog.types.size))) = true := by kernel_rfl
theorem fx_20 : ((Rows.execSerialRow.ifacesOut == Tryz.f8.resultTypes.toList.any (Tryz.prog.ifacesRec ·))) = true := by kernel_rfl
theorem fx_21 : ((Rows.execSerialRow.loopsOut == Tryz.f8.resultTypes.toList.any (Tryz.prog.loopsFrom ·))) = true := by kernel_rfl
theorem fx_22 : ((Rows.execSerialRow.plainKeys == Tryz.prog.plainKeys)) = true := by kernel_rfl
theorem fx_23 : (Rows.execSerialRow.shortTexts.isNone) = true := by kernel_rfl
theorem fx_24 : (Tryz.prog.stopsHeard) = true := by kernel_rfl
theorem fx_25 : (Tryz.prog.mayEnter) = true := by kernel_rfl
theorem fx_26 : ((Rows.execSerialRow.lifted == Tryz.prog.liftsFinal)) = true := by kernel_rfl
theorem fx_27 : ((Tryz.prog.make == some Rows.execSerialRow.make)) = true := by kernel_rfl
theorem fx_28 : ((Rows.execSerialRow.kinds == (if Rows.execSerialRow.domain.isEmpty then [] else Tryz.f8.params.toList.map fun t => match Tryz.prog.underlying t with | some (.int k) => some k | _ => none))) = true := by kernel_rfl
theorem fx_29 : ((Rows.execSerialRow.pinned == Rows.execSerialRow.pinnedBy)) = true := by kernel_rfl
theorem fx_30 : ((Rows.execSerialRow.veiled == (Tryz.f8.params.toList ++ Rows.execSerialSpec.plain.varTypes Tryz.prog ++ Tryz.f8.resultTypes.toList).any (Tryz.prog.veiledRec ·))) = true := by kernel_rfl
theorem fx_31 : (Rows.execSerialRow.veiledFits Tryz.prog Tryz.f8.params.toList (Tryz.f8.params.toList ++ Rows.execSerialSpec.plain.varTypes Tryz.prog ++ Tryz.f8.resultTypes.toList)) = true := by kernel_rfl
end Go.Proofs.YthmbgodcpgkkeaaGreat
end
