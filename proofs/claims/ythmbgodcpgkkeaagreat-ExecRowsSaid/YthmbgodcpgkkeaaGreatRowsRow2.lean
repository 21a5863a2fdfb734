/-
  For every configuration and all jobs the law ExecRows returns true and leaves its arguments as they were (the statement ExecRowsSaid, with no further condition).
-/
import Derived.Test.YthmbgodcpgkkeaaGreatRowp
import Derived.Test.YthmbgodcpgkkeaaGreatFxr
namespace Go.Proofs.YthmbgodcpgkkeaaGreat
open Go.ChangeShapes Go.WideShapes Go.ChangeAt Go.RowKit Go.Deep
/-- a job, as it lies -/
def JbB (W : World) : Type := { j : Jb // JbC (exact' W) j }
def JbB.f {W : World} (j : JbB W) : List Value := j.1.v
theorem jobB_of {H : Type} {enc : TypeId × Value → H} {W : World} {fuel : Nat} {cs : List Value} {x : DataW H × List MemPlace} (h : DataW.trod enc Tryz.prog W 0 (fun _ => true) true fuel 70 cs = some x) : ∃ j : JbB W, cs = j.f := by
  obtain ⟨hl, hf⟩ := trod_fld Tryz.underlying70 h 5 (by kernel_rfl)
  obtain ⟨_, _, h0⟩ := hf 0 _ 0 1 rfl rfl (by kernel_rfl)
  obtain ⟨_, _, h1⟩ := hf 1 _ 1 4 rfl rfl (by kernel_rfl)
  obtain ⟨ad, code, cap, e0, _, _, hr⟩ := slice_cs InsB.f (fun i => Ins.v_len i.1) (by decide) Tryz.underlying67 (by kernel_rfl) (fun _ _ _ h => insB_of h) h0
  obtain ⟨l, hl4, hlv, e1⟩ := fourB_of h1
  have hlen : (code.map fun i => i.1).length = code.length := List.length_map ..
  refine ⟨⟨⟨ad, cap, code.map fun i => i.1, l⟩, ⟨⟨ad, cap, rfl, ?_⟩, hl4⟩⟩, ?_⟩
  · dsimp only
    rw [hlen]
    rcases hr with hr | ⟨b, o, blk, rest, h1, h2, h3⟩
    · exact .inl hr
    · exact .inr ⟨b, o, blk, rest, h1, h2, by rw [map_f]; exact h3⟩
  · match cs, hl with
    | [c0, c1, c2, c3, c4], _ =>
      injection e0 with e0 _
      subst e0
      unfold JbB.f Jb.v
      dsimp only
      rw [hlen]
      show _ :: _ = _ :: _
      rw [← e1]; rfl
set_option maxRecDepth 100000 in
theorem rows_contract (H : Type) (enc : TypeId × Value → H) (W : World) (base : Nat) (args : Array Value) (ds gs : List (DataW H)) (before : List MemPlace)
    (hval : ∀ (j : Nat) t v, Tryz.f9.params[j]? = some t → args[j]? = some v → Value.okWide Tryz.prog W .any base t v)
    (hW : DataW.Whole enc Tryz.prog Tryz.f9.params.toList Rows.execRowsSpec.vars false W args.toList ds gs before) :
    Calls Tryz.prog 9 args W fun e W' => ∃ v, e = .returned v ∧ Rows.execRowsSpec.post enc Tryz.prog Tryz.f9 false true false false W args v W' := by
  have hW' := hW
  obtain ⟨p, q, hA0, hV, rfl, hfz, hnd⟩ := hW
  have hA : DataW.TrodAll enc Tryz.prog W 0 (fun _ => true) true Tryz.f9.params.toList args.toList ds p := hA0
  rw [Tryz.params9] at hA hval
  obtain ⟨v0, vs0, d0, ds0, p0, q0, hargs, rfl, rfl, h0, r0⟩ := trodAll_cons hA
  obtain ⟨v1, vs1, d1, ds1, p1, q1, rfl, rfl, rfl, h1, r1⟩ := trodAll_cons r0
  obtain ⟨rfl, rfl, rfl⟩ := trodAll_nil r1
  obtain rfl : args = #[v0, v1] := by cases args; simp_all
  obtain ⟨rfl, rfl⟩ := trodVars_none hV
  clear hA0 hA r0 r1
  have k0 := hval 0 _ v0 rfl rfl
  have k1 := hval 1 _ v1 rfl rfl
  obtain ⟨⟨c0⟩, rfl, _⟩ := okWide_struct Tryz.underlying24 k0
  obtain ⟨_, h0⟩ := h0
  obtain ⟨c, e0⟩ := cfg_of h0
  obtain rfl : c0 = c.v := e0
  obtain ⟨jad, jobs, jcap, rfl, j1, j2, hj⟩ := slice_of (sz := 5) (JbB.f (W := W)) (fun j => Jb.v_len j.1) (by decide) Tryz.underlying26 (by kernel_rfl) (fun _ _ _ h => jobB_of h) k1 h1
  have hlen : (jobs.map fun j => j.1).length = jobs.length := List.length_map ..
  have hjv : JobsR (exact' W) (.slice jad jobs.length jcap) (jobs.map fun j => j.1) := by
    refine ⟨jad, jcap, by rw [hlen], ?_⟩
    rw [hlen]
    rcases hj with hj | ⟨b, o, blk, rest, e1, e2, e3⟩
    · exact .inl hj
    · exact .inr ⟨b, o, blk, rest, e1, e2, by rw [map_f]; exact e3⟩
  have hjo : ∀ j ∈ (jobs.map fun j => j.1), JbC (exact' W) j := fun j hj => by
    obtain ⟨y, _, rfl⟩ := List.mem_map.1 hj
    exact y.2
  have hm : maxLen = 9223372036854775807 := by decide
  have hfin : Tri Tryz.prog 9 #[.agg ⟨c.v⟩, .slice jad jobs.length jcap] [exact' W] fun r L => r = .bool true ∧ L = [exact' W] := by
    by_cases hb : fewB { c with first := 0 } (jobs.map fun j => j.1) = true ∧ ((jobs.map fun j => j.1).length : Int) ≤ c.threads
    · have := rows_near hjv hjo hb.1 hb.2
      exact this
    · exact rows_far hjv (by rw [hlen]; omega) hb
  refine (tri_run (Q := fun v => v = .bool true) hfin).mono ?_
  rintro e W' ⟨v, rfl, rfl, hs, ho⟩
  exact ⟨_, rfl, post_true laid_ hW' rfl rfl Tryz.underlying4 (by kernel_rfl) rfl hs ho⟩
set_option maxRecDepth 100000 in
theorem rows_lifted (os : Os) (started : os.Started) (H : Type) (enc : TypeId × Value → H) :
    ReturnsInHanded {} Tryz.checked os 9 .any (Rows.execRowsSpec.pre6 enc Tryz.prog Tryz.f9 Rows.execRowsRow.domain false) (Rows.execRowsSpec.post enc Tryz.prog Tryz.f9 false true false false) := by
  refine returnsInHanded_of_change (C := Tryz.checked) own_ started (by kernel_rfl) Tryz.func9
    (ChangeSpec.witness6 (enc := enc) (C := Tryz.checked) false ⟨#[], #[.agg #[.int .i64 0, .int .i64 0, .int .i64 0, .int .i64 0, .int .u64 0, .int .u64 0], .slice none 0 0], []⟩ 8 (by kernel_rfl) (by kernel_rfl) (by kernel_rfl) (by kernel_rfl)) ?_
  intro W base args ds gs before hval hW _ _
  exact rows_contract H enc W base args ds gs before hval hW
set_option maxRecDepth 100000 in
theorem fy_closed : joinedFacts Tryz.prog 9 Tryz.f9 Rows.execRowsSpec Rows.execRowsRow = true :=
  (fy_and (fy_and (fy_and (fy_and (fy_and (fy_and (fy_and (fy_and (fy_and (fy_and (fy_and (fy_and (fy_and (fy_and (fy_and (fy_and (fy_and (fy_and (fy_and (fy_and (fy_and (fy_and (fy_and (fy_and (fy_and (fy_and (fy_and (fy_and (fy_and (fy_and (fy_and fy_0 fy_1) fy_2) fy_3) fy_4) fy_5) fy_6) fy_7) fy_8) fy_9) fy_10) fy_11) fy_12) fy_13) fy_14) fy_15) fy_16) fy_17) fy_18) fy_19) fy_20) fy_21) fy_22) fy_23) fy_24) fy_25) fy_26) fy_27) fy_28) fy_29) fy_30) fy_31)
theorem rows_holds : Rows.ExecRowsSaid :=
  OpenClaim.holds_of_wide 9 Tryz.f9 rfl rfl rfl rfl rfl rfl rfl ⟨rfl, rfl, rfl, rfl, rfl⟩ rfl rfl rfl rfl rfl (by kernel_rfl) Tryz.func9 fy_closed
    (of_decide_eq_true (by kernel_rfl)) (by unfold Func.isWrapper; first | (rw [if_pos (by decide +kernel)]; kernel_rfl) | (rw [if_neg (by decide +kernel)]; exact ⟨rfl, rfl⟩))
    (fun os started H enc _ => rows_lifted os started H enc)
end Go.Proofs.YthmbgodcpgkkeaaGreat
