/-
  For every configuration, number, all replies, all jobs and every room the law ExecPlays returns true and leaves its arguments as they were (the statement ExecPlaysSaid, with no further condition).
-/
import Derived.Test.YthmbgodcpgkkeaaGreatRowp
import Derived.Test.YthmbgodcpgkkeaaGreatFq
namespace Go.Proofs.YthmbgodcpgkkeaaGreat
open Go.ChangeShapes Go.WideShapes Go.ChangeAt Go.RowKit Go.Deep
/-- a job, as it lies -/
def JbB (W : World) : Type := { j : Jb // JbOk (exact' W) j }
def JbB.f {W : World} (j : JbB W) : List Value := j.1.v
theorem jobB_of {H : Type} {enc : TypeId × Value → H} {W : World} {fuel : Nat} {cs : List Value} {x : DataW H × List MemPlace} (h : DataW.trod enc Tryz.prog W 0 (fun _ => true) true fuel 70 cs = some x) : ∃ j : JbB W, cs = j.f := by
  obtain ⟨hl, hf⟩ := trod_fld Tryz.underlying70 h 5 (by kernel_rfl)
  obtain ⟨_, _, h0⟩ := hf 0 _ 0 1 rfl rfl (by kernel_rfl)
  obtain ⟨_, _, h1⟩ := hf 1 _ 1 4 rfl rfl (by kernel_rfl)
  obtain ⟨ad, code, cap, e0, _, _, hr⟩ := slice_cs InsB.f (fun i => Ins.v_len i.1) (by decide) Tryz.underlying67 (by kernel_rfl) (fun _ _ _ h => insB_of h) h0
  obtain ⟨l, hl4, hlv, e1⟩ := fourB_of h1
  have hlen : (code.map fun i => i.1).length = code.length := List.length_map ..
  refine ⟨⟨⟨ad, cap, code.map fun i => i.1, l⟩, ⟨⟨ad, cap, rfl, ?_⟩, hl4, hlv, fun i hi => ?_⟩⟩, ?_⟩
  · dsimp only
    rw [hlen]
    rcases hr with hr | ⟨b, o, blk, rest, h1, h2, h3⟩
    · exact .inl hr
    · exact .inr ⟨b, o, blk, rest, h1, h2, by rw [map_f]; exact h3⟩
  · obtain ⟨y, _, rfl⟩ := List.mem_map.1 hi
    exact y.2
  · match cs, hl with
    | [c0, c1, c2, c3, c4], _ =>
      injection e0 with e0 _
      subst e0
      unfold JbB.f Jb.v
      dsimp only
      rw [hlen]
      show _ :: _ = _ :: _
      rw [← e1]; rfl
theorem outs_of {W : World} {ad : Option Addr} {cap : Nat} (l : List OutB) (h1 : l.length ≤ cap) (h : l.length = 0 ∨ ∃ b o blk rest, ad = some ⟨b, o, none⟩ ∧ RdC (exact' W) b blk ∧ DropN o blk (l.flatMap OutB.f ++ rest)) :
    ListR Out.v (exact' W) (.slice ad l.length cap) (l.map fun o => o.1) ∧ ∀ o ∈ (l.map fun o => o.1), o.was.val < 18446744073709551616 := by
  have hlen : (l.map fun o => o.1).length = l.length := List.length_map ..
  refine ⟨⟨ad, cap, by rw [hlen], by rw [hlen]; exact h1, ?_⟩, fun o ho => ?_⟩
  · rw [hlen]
    rcases h with h | ⟨b, o, blk, rest, e1, e2, e3⟩
    · exact .inl h
    · exact .inr ⟨b, o, blk, rest, e1, e2, by rw [map_f]; exact e3⟩
  · obtain ⟨y, _, rfl⟩ := List.mem_map.1 ho
    exact y.2
set_option maxRecDepth 100000 in
theorem plays_contract (H : Type) (enc : TypeId × Value → H) (W : World) (base : Nat) (args : Array Value) (ds gs : List (DataW H)) (before : List MemPlace)
    (hval : ∀ (j : Nat) t v, Tryz.f3.params[j]? = some t → args[j]? = some v → Value.okWide Tryz.prog W .any base t v)
    (hW : DataW.Whole enc Tryz.prog Tryz.f3.params.toList Rows.execPlaysSpec.vars false W args.toList ds gs before) :
    Calls Tryz.prog 3 args W fun e W' => ∃ v, e = .returned v ∧ Rows.execPlaysSpec.post enc Tryz.prog Tryz.f3 false true false false W args v W' := by
  have hW' := hW
  obtain ⟨p, q, hA0, hV, rfl, hfz, hnd⟩ := hW
  have hA : DataW.TrodAll enc Tryz.prog W 0 (fun _ => true) true Tryz.f3.params.toList args.toList ds p := hA0
  rw [Tryz.params3] at hA hval
  obtain ⟨v0, vs0, d0, ds0, p0, q0, hargs, rfl, rfl, h0, r0⟩ := trodAll_cons hA
  obtain ⟨v1, vs1, d1, ds1, p1, q1, rfl, rfl, rfl, h1, r1⟩ := trodAll_cons r0
  obtain ⟨v2, vs2, d2, ds2, p2, q2, rfl, rfl, rfl, h2, r2⟩ := trodAll_cons r1
  obtain ⟨v3, vs3, d3, ds3, p3, q3, rfl, rfl, rfl, h3, r3⟩ := trodAll_cons r2
  obtain ⟨v4, vs4, d4, ds4, p4, q4, rfl, rfl, rfl, h4, r4⟩ := trodAll_cons r3
  obtain ⟨v5, vs5, d5, ds5, p5, q5, rfl, rfl, rfl, h5, r5⟩ := trodAll_cons r4
  obtain ⟨rfl, rfl, rfl⟩ := trodAll_nil r5
  obtain rfl : args = #[v0, v1, v2, v3, v4, v5] := by cases args; simp_all
  obtain ⟨rfl, rfl⟩ := trodVars_none hV
  clear hA0 hA r0 r1 r2 r3 r4 r5
  have k0 := hval 0 _ v0 rfl rfl
  have k1 := hval 1 _ v1 rfl rfl
  have k2 := hval 2 _ v2 rfl rfl
  have k3 := hval 3 _ v3 rfl rfl
  have k4 := hval 4 _ v4 rfl rfl
  have k5 := hval 5 _ v5 rfl rfl
  obtain ⟨⟨c0⟩, rfl, _⟩ := okWide_struct Tryz.underlying24 k0
  obtain ⟨_, h0⟩ := h0
  obtain ⟨c, e0⟩ := cfg_of h0
  obtain rfl : c0 = c.v := e0
  obtain ⟨seq, rfl⟩ : ∃ s : Nat, v1 = .int .u64 (s : Int) := by
    obtain ⟨_, h1⟩ := h1
    obtain ⟨n, rfl, hn⟩ := okWide_int Tryz.underlying22 k1
    obtain ⟨a, e, _, wa⟩ := DataW.trod_int Tryz.underlying22 h1
    injection e with e _
    have := wf_u64 wa
    exact ⟨a.toNat, by rw [e, Int.toNat_of_nonneg (by omega)]⟩
  obtain ⟨fad, first, fcap, rfl, f1, _, hf⟩ := slice_of (sz := 3) OutB.f (fun _ => rfl) (by decide) Tryz.underlying25 (by kernel_rfl) (fun _ _ _ h => outB_of h) k2 h2
  obtain ⟨jad, jobs, jcap, rfl, j1, j2, hj⟩ := slice_of (sz := 5) (JbB.f (W := W)) (fun j => Jb.v_len j.1) (by decide) Tryz.underlying26 (by kernel_rfl) (fun _ _ _ h => jobB_of h) k3 h3
  obtain ⟨oad, outs, ocap, rfl, o1, _, ho⟩ := slice_of (sz := 3) OutB.f (fun _ => rfl) (by decide) Tryz.underlying25 (by kernel_rfl) (fun _ _ _ h => outB_of h) k4 h4
  obtain ⟨room, rfl, _⟩ := okWide_int Tryz.underlying3 k5
  obtain ⟨hfv, hfo⟩ := outs_of first f1 hf
  obtain ⟨hov, hoo⟩ := outs_of outs o1 ho
  have hlen : (jobs.map fun j => j.1).length = jobs.length := List.length_map ..
  have hjv : JobsR (exact' W) (.slice jad jobs.length jcap) (jobs.map fun j => j.1) := by
    refine ⟨jad, jcap, by rw [hlen], ?_⟩
    rw [hlen]
    rcases hj with hj | ⟨b, o, blk, rest, e1, e2, e3⟩
    · exact .inl hj
    · exact .inr ⟨b, o, blk, rest, e1, e2, by rw [map_f]; exact e3⟩
  have hjo : ∀ j ∈ (jobs.map fun j => j.1), JbOk (exact' W) j := fun j hj => by
    obtain ⟨y, _, rfl⟩ := List.mem_map.1 hj
    exact y.2
  have hm : maxLen = 9223372036854775807 := by decide
  have hfin : Tri Tryz.prog 3 #[.agg ⟨c.v⟩, .int .u64 (seq : Int), .slice fad first.length fcap, .slice jad jobs.length jcap, .slice oad outs.length ocap, .int .i64 room] [exact' W] fun r L => r = .bool true ∧ L = [exact' W] := by
    by_cases hall : fewB c (jobs.map fun j => j.1) = true ∧ (first.map fun o => o.1).length ≤ 60 ∧ (outs.map fun o => o.1).length ≤ 60
    · exact plays_near seq hfv hjv hov hjo hfo hoo room hall.1 hall.2.1 hall.2.2
    · exact plays_far seq hfv hjv hov room (by rw [hlen]; omega) hall
  refine (tri_run (Q := fun v => v = .bool true) hfin).mono ?_
  rintro e W' ⟨v, rfl, rfl, hs, ho⟩
  exact ⟨_, rfl, post_true laid_ hW' rfl rfl Tryz.underlying4 (by kernel_rfl) rfl hs ho⟩
set_option maxRecDepth 100000 in
theorem plays_lifted (os : Os) (started : os.Started) (H : Type) (enc : TypeId × Value → H) :
    ReturnsInHanded {} Tryz.checked os 3 .any (Rows.execPlaysSpec.pre6 enc Tryz.prog Tryz.f3 Rows.execPlaysRow.domain false) (Rows.execPlaysSpec.post enc Tryz.prog Tryz.f3 false true false false) := by
  refine returnsInHanded_of_change (C := Tryz.checked) own_ started (by kernel_rfl) Tryz.func3
    (ChangeSpec.witness6 (enc := enc) (C := Tryz.checked) false ⟨#[], #[.agg #[.int .i64 0, .int .i64 0, .int .i64 0, .int .i64 0, .int .u64 0, .int .u64 0], .int .u64 0, .slice none 0 0, .slice none 0 0, .slice none 0 0, .int .i64 0], []⟩ 8 (by kernel_rfl) (by kernel_rfl) (by kernel_rfl) (by kernel_rfl)) ?_
  intro W base args ds gs before hval hW _ _
  exact plays_contract H enc W base args ds gs before hval hW
set_option maxRecDepth 100000 in
theorem fq_closed : joinedFacts Tryz.prog 3 Tryz.f3 Rows.execPlaysSpec Rows.execPlaysRow = true :=
  (fq_and (fq_and (fq_and (fq_and (fq_and (fq_and (fq_and (fq_and (fq_and (fq_and (fq_and (fq_and (fq_and (fq_and (fq_and (fq_and (fq_and (fq_and (fq_and (fq_and (fq_and (fq_and (fq_and (fq_and (fq_and (fq_and (fq_and (fq_and (fq_and (fq_and (fq_and fq_0 fq_1) fq_2) fq_3) fq_4) fq_5) fq_6) fq_7) fq_8) fq_9) fq_10) fq_11) fq_12) fq_13) fq_14) fq_15) fq_16) fq_17) fq_18) fq_19) fq_20) fq_21) fq_22) fq_23) fq_24) fq_25) fq_26) fq_27) fq_28) fq_29) fq_30) fq_31)

theorem plays_holds : Rows.ExecPlaysSaid :=
  OpenClaim.holds_of_wide 3 Tryz.f3 rfl rfl rfl rfl rfl rfl rfl ⟨rfl, rfl, rfl, rfl, rfl⟩ rfl rfl rfl rfl rfl (by kernel_rfl) Tryz.func3 fq_closed
    (of_decide_eq_true (by kernel_rfl)) (by unfold Func.isWrapper; first | (rw [if_pos (by decide +kernel)]; kernel_rfl) | (rw [if_neg (by decide +kernel)]; exact ⟨rfl, rfl⟩))
    (fun os started H enc _ => plays_lifted os started H enc)
end Go.Proofs.YthmbgodcpgkkeaaGreat
