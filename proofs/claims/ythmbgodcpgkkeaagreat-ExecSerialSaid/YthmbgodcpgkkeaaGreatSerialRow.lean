/-
  For every configuration and all jobs the law ExecSerial returns true and leaves its arguments as they were (the statement ExecSerialSaid, with no further condition).
-/
import Derived.Test.YthmbgodcpgkkeaaGreatRowp
import Derived.Test.YthmbgodcpgkkeaaGreatFx
namespace Go.Proofs.YthmbgodcpgkkeaaGreat
open Go.ChangeShapes Go.WideShapes Go.ChangeAt Go.RowKit Go.Deep
/-- a job, as it lies -/
def JbB (W : World) : Type := { j : Jb // JbC (exact' W) j }
def JbB.f {W : World} (j : JbB W) : List Value := j.1.v
theorem jobB_of {H : Type} {enc : TypeId × Value → H} {W : World} {fuel : Nat} {cs : List Value} {x : DataW H × List MemPlace} (h : DataW.trod enc Tryz.prog W 0 (fun _ => true) true fuel 70 cs = some x) : ∃ j : JbB W, cs = j.f := by
  obtain ⟨hl, hf⟩ := trod_fld Tryz.underlying70 h 5 (by kernel_rfl)
  obtain ⟨_, _, h0⟩ := hf 0 _ 0 1 rfl rfl (by kernel_rfl)
  obtain ⟨_, _, h1⟩ := hf 1 _ 1 4 rfl rfl (by kernel_rfl)
  obtain ⟨ad, code, cap, e0, _, _, hr⟩ := slice_cs InsB.f (fun i => Ins.v_len i.1) (by decide) Tryz.underlying67 (by kernel_rfl) (fun _ _ _ h => insB_of h) h0
  obtain ⟨l, hl4, hlv, e1⟩ := fourB_of h1
  have hlen : (code.map fun i => i.1).length = code.length := List.length_map ..
  refine ⟨⟨⟨ad, cap, code.map fun i => i.1, l⟩, ⟨⟨ad, cap, rfl, ?_⟩, hl4⟩⟩, ?_⟩
  · dsimp only
    rw [hlen]
    rcases hr with hr | ⟨b, o, blk, rest, h1, h2, h3⟩
    · exact .inl hr
    · exact .inr ⟨b, o, blk, rest, h1, h2, by rw [map_f]; exact h3⟩
  · match cs, hl with
    | [c0, c1, c2, c3, c4], _ =>
      injection e0 with e0 _
      subst e0
      unfold JbB.f Jb.v
      dsimp only
      rw [hlen]
      show _ :: _ = _ :: _
      rw [← e1]; rfl
set_option maxRecDepth 100000 in
theorem serial_contract (H : Type) (enc : TypeId × Value → H) (W : World) (base : Nat) (args : Array Value) (ds gs : List (DataW H)) (before : List MemPlace)
    (hval : ∀ (j : Nat) t v, Tryz.f8.params[j]? = some t → args[j]? = some v → Value.okWide Tryz.prog W .any base t v)
    (hW : DataW.Whole enc Tryz.prog Tryz.f8.params.toList Rows.execSerialSpec.vars false W args.toList ds gs before) :
    Calls Tryz.prog 8 args W fun e W' => ∃ v, e = .returned v ∧ Rows.execSerialSpec.post enc Tryz.prog Tryz.f8 false true false false W args v W' := by
  have hW' := hW
  obtain ⟨p, q, hA0, hV, rfl, hfz, hnd⟩ := hW
  have hA : DataW.TrodAll enc Tryz.prog W 0 (fun _ => true) true Tryz.f8.params.toList args.toList ds p := hA0
  rw [Tryz.params8] at hA hval
  obtain ⟨v0, vs0, d0, ds0, p0, q0, hargs, rfl, rfl, h0, r0⟩ := trodAll_cons hA
  obtain ⟨v1, vs1, d1, ds1, p1, q1, rfl, rfl, rfl, h1, r1⟩ := trodAll_cons r0
  obtain ⟨rfl, rfl, rfl⟩ := trodAll_nil r1
  obtain rfl : args = #[v0, v1] := by cases args; simp_all
  obtain ⟨rfl, rfl⟩ := trodVars_none hV
  clear hA0 hA r0 r1
  have k0 := hval 0 _ v0 rfl rfl
  have k1 := hval 1 _ v1 rfl rfl
  obtain ⟨⟨c0⟩, rfl, _⟩ := okWide_struct Tryz.underlying24 k0
  obtain ⟨_, h0⟩ := h0
  obtain ⟨c, e0⟩ := cfg_of h0
  obtain rfl : c0 = c.v := e0
  obtain ⟨jad, jobs, jcap, rfl, j1, j2, hj⟩ := slice_of (sz := 5) (JbB.f (W := W)) (fun j => Jb.v_len j.1) (by decide) Tryz.underlying26 (by kernel_rfl) (fun _ _ _ h => jobB_of h) k1 h1
  have hlen : (jobs.map fun j => j.1).length = jobs.length := List.length_map ..
  have hjv : JobsR (exact' W) (.slice jad jobs.length jcap) (jobs.map fun j => j.1) := by
    refine ⟨jad, jcap, by rw [hlen], ?_⟩
    rw [hlen]
    rcases hj with hj | ⟨b, o, blk, rest, e1, e2, e3⟩
    · exact .inl hj
    · exact .inr ⟨b, o, blk, rest, e1, e2, by rw [map_f]; exact e3⟩
  have hjo : ∀ j ∈ (jobs.map fun j => j.1), JbC (exact' W) j := fun j hj => by
    obtain ⟨y, _, rfl⟩ := List.mem_map.1 hj
    exact y.2
  have hm : maxLen = 9223372036854775807 := by decide
  have hfin : Tri Tryz.prog 8 #[.agg ⟨c.v⟩, .slice jad jobs.length jcap] [exact' W] fun r L => r = .bool true ∧ L = [exact' W] := by
    cases hb : fewB { c with first := 0 } (jobs.map fun j => j.1) with
    | true =>
      have := serial_near hjv hjo hb
      exact this
    | false => exact serial_far hjv (by rw [hlen]; omega) hb
  refine (tri_run (Q := fun v => v = .bool true) hfin).mono ?_
  rintro e W' ⟨v, rfl, rfl, hs, ho⟩
  exact ⟨_, rfl, post_true laid_ hW' rfl rfl Tryz.underlying4 (by kernel_rfl) rfl hs ho⟩
set_option maxRecDepth 100000 in
theorem serial_lifted (os : Os) (started : os.Started) (H : Type) (enc : TypeId × Value → H) :
    ReturnsInHanded {} Tryz.checked os 8 .any (Rows.execSerialSpec.pre6 enc Tryz.prog Tryz.f8 Rows.execSerialRow.domain false) (Rows.execSerialSpec.post enc Tryz.prog Tryz.f8 false true false false) := by
  refine returnsInHanded_of_change (C := Tryz.checked) own_ started (by kernel_rfl) Tryz.func8
    (ChangeSpec.witness6 (enc := enc) (C := Tryz.checked) false ⟨#[], #[.agg #[.int .i64 0, .int .i64 0, .int .i64 0, .int .i64 0, .int .u64 0, .int .u64 0], .slice none 0 0], []⟩ 8 (by kernel_rfl) (by kernel_rfl) (by kernel_rfl) (by kernel_rfl)) ?_
  intro W base args ds gs before hval hW _ _
  exact serial_contract H enc W base args ds gs before hval hW
set_option maxRecDepth 100000 in
theorem fx_closed : joinedFacts Tryz.prog 8 Tryz.f8 Rows.execSerialSpec Rows.execSerialRow = true :=
  (fx_and (fx_and (fx_and (fx_and (fx_and (fx_and (fx_and (fx_and (fx_and (fx_and (fx_and (fx_and (fx_and (fx_and (fx_and (fx_and (fx_and (fx_and (fx_and (fx_and (fx_and (fx_and (fx_and (fx_and (fx_and (fx_and (fx_and (fx_and (fx_and (fx_and (fx_and fx_0 fx_1) fx_2) fx_3) fx_4) fx_5) fx_6) fx_7) fx_8) fx_9) fx_10) fx_11) fx_12) fx_13) fx_14) fx_15) fx_16) fx_17) fx_18) fx_19) fx_20) fx_21) fx_22) fx_23) fx_24) fx_25) fx_26) fx_27) fx_28) fx_29) fx_30) fx_31)
theorem serial_holds : Rows.ExecSerialSaid :=
  OpenClaim.holds_of_wide 8 Tryz.f8 rfl rfl rfl rfl rfl rfl rfl ⟨rfl, rfl, rfl, rfl, rfl⟩ rfl rfl rfl rfl rfl (by kernel_rfl) Tryz.func8 fx_closed
    (of_decide_eq_true (by kernel_rfl)) (by unfold Func.isWrapper; first | (rw [if_pos (by decide +kernel)]; kernel_rfl) | (rw [if_neg (by decide +kernel)]; exact ⟨rfl, rfl⟩))
    (fun os started H enc _ => serial_lifted os started H enc)
end Go.Proofs.YthmbgodcpgkkeaaGreat
