/-
  Package tumblerlaw11: ExecRows, of what is not few, or of more programs than threads. The closed facts of the row, one by one.
-/
import Derived.Test.YthmbgodcpgkkeaaGreatEzr
import Derived.Test.YthmbgodcpgkkeaaGreatRows
import Derived.ProofKit
import Derived.JoinedOf
section
namespace Go.Proofs.YthmbgodcpgkkeaaGreat
set_option maxRecDepth 100000
set_option maxHeartbeats 1000000 in
theorem rows_far {q : HProp} {c : Cfg} {jv : Value} {jobs : List Jb} (hjv : JobsR q jv jobs) (hjn : jobs.length ≤ 9223372036854775807) (hb : ¬ (fewB { c with first := 0 } jobs = true ∧ (jobs.length : Int) ≤ c.threads)) :
    Tri Tryz.prog 9 #[.agg ⟨c.v⟩, jv] [q] fun r L => r = .bool true ∧ L = [q] := by
  obtain ⟨th, bk, wr, fu, fi, la⟩ := c
  dsimp only at hb
  have hfew := few_r ⟨th, bk, wr, fu, 0, la⟩ q jv jobs hjv hjn
  obtain ⟨jad, jcap, rfl, hjr⟩ := id hjv
  unfold Cfg.v at hfew ⊢
  dsimp only at hfew ⊢
  cases hb1 : fewB ⟨th, bk, wr, fu, 0, la⟩ jobs with
  | false =>
    rw [hb1] at hfew
    refine Tri.of_body (vs := [_, _]) Tryz.func9 rfl rfl fun w0 F => ?_
    repeat' (first | refine Ga ?_ | (refine Gb ?_; intro b) | (refine Gd ?_; intro g cap rest hcap) | (refine Gc ?_; intro ad cap) | (refine St.draw (id := 26) [(0, 0), (1, 1), (2, 0), (3, 0), (4, 1), (5, 0), (6, 1), (7, 0), (8, 0), (9, 0), (10, 0), (11, 0), (12, 1), (13, 1), (14, 0), (15, 0), (16, 0), (17, 0), (18, 1), (19, 0), (20, 0), (21, 0), (22, 0), (23, 0), (24, 0), (25, 1), (26, 1), (27, 0), (28, 0), (29, 1), (30, 0), (31, 0), (32, 0), (33, 0), (34, 0), (35, 1), (36, 1), (37, 0), (38, 0), (39, 1), (40, 0), (41, 0), (42, 0), (43, 0)] [] mixed (by kernel_rfl) ?_)| refine Gl hfew ?_ | (refine Gt alive_t ?_; rintro _ _ ⟨rfl, rfl⟩) | (refine Ge ?_ ?_ <;> (intro h; try (exfalso; omega))) | fail)
    all_goals first | (exfalso; omega) | skip
    all_goals exact St.d1 Tryz.func9 ⟨_, ⟨rfl, rfl⟩, Ent.go⟩
  | true =>
    rw [hb1] at hfew
    have hth : ¬ (jobs.length : Int) ≤ th := fun h => hb ⟨hb1, h⟩
    refine Tri.of_body (vs := [_, _]) Tryz.func9 rfl rfl fun w0 F => ?_
    repeat' (first | refine Ga ?_ | (refine Gb ?_; intro b) | (refine Gd ?_; intro g cap rest hcap) | (refine Gc ?_; intro ad cap) | (refine St.draw (id := 26) [(0, 0), (1, 1), (2, 0), (3, 0), (4, 1), (5, 0), (6, 1), (7, 0), (8, 0), (9, 0), (10, 0), (11, 0), (12, 1), (13, 1), (14, 0), (15, 0), (16, 0), (17, 0), (18, 1), (19, 0), (20, 0), (21, 0), (22, 0), (23, 0), (24, 0), (25, 1), (26, 1), (27, 0), (28, 0), (29, 1), (30, 0), (31, 0), (32, 0), (33, 0), (34, 0), (35, 1), (36, 1), (37, 0), (38, 0), (39, 1), (40, 0), (41, 0), (42, 0), (43, 0)] [] mixed (by kernel_rfl) ?_)| refine Gl hfew ?_ | (refine Gt alive_t ?_; rintro _ _ ⟨rfl, rfl⟩) | (refine Ge ?_ ?_ <;> (intro h; try (exfalso; omega))) | fail)
    all_goals first | (exfalso; omega) | skip
    all_goals exact St.d1 Tryz.func9 ⟨_, ⟨rfl, rfl⟩, Ent.go⟩
end Go.Proofs.YthmbgodcpgkkeaaGreat
end
section
namespace Go.Proofs.YthmbgodcpgkkeaaGreat
theorem fy_and {a b : Bool} (ha : a = true) (hb : b = true) : (a && b) = true := by rw [ha, hb]; rfl
theorem fy_0 : (Rows.execRowsRow.wf (OpenSpec.ofChange Rows.execRowsSpec)) = true := by kernel_rfl
theorem fy_1 : (laidOutB Tryz.prog) = true := by kernel_rfl
theorem fy_2 : (mapsRowed Tryz.prog) = true := by kernel_rfl
theorem fy_3 : (Tryz.f9.params.all (Tryz.prog.readableRec ·)) = true := by kernel_rfl
theorem fy_4 : (namedTie Tryz.prog Rows.execRowsRow.named Rows.execRowsSpec.vars) = true := by kernel_rfl
theorem fy_5 : ((Rows.execRowsRow.stops == [])) = true := by kernel_rfl
theorem fy_6 : ((Tryz.prog.stops == [])) = true := by kernel_rfl
theorem fy_7 : ((Rows.execRowsRow.knobs == [])) = true := by kernel_rfl
theorem fy_8 : ((Tryz.prog.stopKnobs == [])) = true := by kernel_rfl
theorem fy_9 : ((Rows.execRowsRow.inPlace == Tryz.prog.inPlace 9)) = true := by kernel_rfl
theorem fy_10 : ((Rows.execRowsRow.unfollowed == Tryz.prog.unfollowed 9)) = true := by kernel_rfl
theorem fy_11 : ((Rows.execRowsRow.recurses == Tryz.prog.recurses 9)) = true := by kernel_rfl
theorem fy_12 : ((Rows.execRowsRow.named == Tryz.prog.varsNamed 9)) = true := by kernel_rfl
theorem fy_13 : ((Rows.execRowsRow.maps == (Tryz.f9.params.toList ++ Rows.execRowsSpec.plain.varTypes Tryz.prog).any (Tryz.prog.mapsRec ·))) = true := by kernel_rfl
theorem fy_14 : ((Rows.execRowsRow.ifaces == (Tryz.f9.params.toList ++ Rows.execRowsSpec.plain.varTypes Tryz.prog).any (Tryz.prog.ifacesRec ·))) = true := by kernel_rfl
theorem fy_15 : ((Rows.execRowsRow.mapsOut == Tryz.prog.mapsAmong Tryz.f9.resultTypes.toList)) = true := by kernel_rfl
theorem fy_16 : ((Rows.execRowsRow.loops == (Tryz.f9.params.toList ++ Rows.execRowsSpec.plain.varTypes Tryz.prog).any (Tryz.prog.loopsFrom ·))) = true := by kernel_rfl
theorem fy_17 : ((Rows.execRowsRow.wideKeys == (Tryz.f9.params.toList ++ Rows.execRowsSpec.plain.varTypes Tryz.prog ++ Tryz.f9.resultTypes.toList).any (Tryz.prog.wideKeysFrom ·))) = true := by kernel_rfl
theorem fy_18 : (Rows.execRowsSpec.vars.all (Tryz.prog.varReadable ·)) = true := by kernel_rfl
theorem fy_19 : (Tryz.f9.resultTypes.all (fun t => Tryz.prog.readableRec t && decide (t < Tryz.prog.types.size))) = true := by kernel_rfl
theorem fy_20 : ((Rows.execRowsRow.ifacesOut == Tryz.f9.resultTypes.toList.any (Tryz.prog.ifacesRec ·))) = true := by kernel_rfl
theorem fy_21 : ((Rows.execRowsRow.loopsOut == Tryz.f9.resultTypes.toList.any (Tryz.prog.loopsFrom ·))) = true := by kernel_rfl
theorem fy_22 : ((Rows.execRowsRow.plainKeys == Tryz.prog.plainKeys)) = true := by kernel_rfl
theorem fy_23 : (Rows.execRowsRow.shortTexts.isNone) = true := by kernel_rfl
theorem fy_24 : (Tryz.prog.stopsHeard) = true := by kernel_rfl
theorem fy_25 : (Tryz.prog.mayEnter) = true := by kernel_rfl
theorem fy_26 : ((Rows.execRowsRow.lifted == Tryz.prog.liftsFinal)) = true := by kernel_rfl
theorem fy_27 : ((Tryz.prog.make == some Rows.execRowsRow.make)) = true := by kernel_rfl
theorem fy_28 : ((Rows.execRowsRow.kinds == (if Rows.execRowsRow.domain.isEmpty then [] else Tryz.f9.params.toList.map fun t => match Tryz.prog.underlying t with | some (.int k) => some k | _ => none))) = true := by kernel_rfl
theorem fy_29 : ((Rows.execRowsRow.pinned == Rows.execRowsRow.pinnedBy)) = true := by kernel_rfl
theorem fy_30 : ((Rows.execRowsRow.veiled == (Tryz.f9.params.toList ++ Rows.execRowsSpec.plain.varTypes Tryz.prog ++ Tryz.f9.resultTypes.toList).any (Tryz.prog.veiledRec ·))) = true := by kernel_rfl
theorem fy_31 : (Rows.execRowsRow.veiledFits Tryz.prog Tryz.f9.params.toList (Tryz.f9.params.toList ++ Rows.execRowsSpec.plain.varTypes Tryz.prog ++ Tryz.f9.resultTypes.toList)) = true := by kernel_rfl
end Go.Proofs.YthmbgodcpgkkeaaGreat
end
