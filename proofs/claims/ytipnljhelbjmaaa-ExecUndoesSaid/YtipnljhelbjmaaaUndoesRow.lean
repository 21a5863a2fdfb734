/-
  For every configuration, all replies, all that is put and every program the law ExecUndoes returns true and leaves its arguments as they were (the statement ExecUndoesSaid, with no further condition).
-/
import Derived.Test.YtipnljhelbjmaaaRowg
import Derived.Test.YtipnljhelbjmaaaLxh
namespace Go.Proofs.Ytipnljhelbjmaaa
open Go.ChangeShapes Go.WideShapes Go.ChangeAt Go.RowKit Go.Deep
section
variable {H : Type} {enc : TypeId × Value → H} {w : World} {base fuel : Nat} {spare : Nat → Bool} {held : Bool} {cs : List Value} {x : DataW H × List MemPlace}
theorem ins_of (h : DataW.trod enc Try.prog w base spare held fuel 80 cs = some x) : ∃ i : Ins, cs = i.v := by
  obtain ⟨hl, hf⟩ := trod_fld Try.underlying80 h 5 (by kernel_rfl)
  obtain ⟨_, _, h0⟩ := hf 0 _ 0 1 rfl rfl (by kernel_rfl)
  obtain ⟨_, _, h1⟩ := hf 1 _ 1 1 rfl rfl (by kernel_rfl)
  obtain ⟨_, _, h2⟩ := hf 2 _ 2 1 rfl rfl (by kernel_rfl)
  obtain ⟨_, _, h3⟩ := hf 3 _ 3 1 rfl rfl (by kernel_rfl)
  obtain ⟨_, _, h4⟩ := hf 4 _ 4 1 rfl rfl (by kernel_rfl)
  obtain ⟨a0, e0, _, _⟩ := DataW.trod_int Try.underlying3 h0
  obtain ⟨a1, e1, _, _⟩ := DataW.trod_int Try.underlying3 h1
  obtain ⟨a2, e2, _, _⟩ := DataW.trod_int Try.underlying3 h2
  obtain ⟨a3, e3, _, _⟩ := DataW.trod_int Try.underlying3 h3
  obtain ⟨a4, e4, _, w4⟩ := DataW.trod_int Try.underlying22 h4
  have := wf_u64 w4
  match cs, hl with
  | [c0, c1, c2, c3, c4], _ =>
    injection e0 with e0 _; injection e1 with e1 _; injection e2 with e2 _; injection e3 with e3 _; injection e4 with e4 _
    subst e0; subst e1; subst e2; subst e3; subst e4
    refine ⟨⟨a0, a1, a2, a3, a4.toNat⟩, ?_⟩
    unfold Ins.v
    dsimp only
    rw [Int.toNat_of_nonneg (by omega)]
theorem ent_of (h : DataW.trod enc Try.prog w base spare held fuel 53 cs = some x) : ∃ p : Int × Nat, cs = entV p := by
  obtain ⟨hl, hf⟩ := trod_fld Try.underlying53 h 2 (by kernel_rfl)
  obtain ⟨_, _, h0⟩ := hf 0 _ 0 1 rfl rfl (by kernel_rfl)
  obtain ⟨_, _, h1⟩ := hf 1 _ 1 1 rfl rfl (by kernel_rfl)
  obtain ⟨a0, e0, _, _⟩ := DataW.trod_int Try.underlying3 h0
  obtain ⟨a1, e1, _, w1⟩ := DataW.trod_int Try.underlying22 h1
  have := wf_u64 w1
  match cs, hl with
  | [c0, c1], _ =>
    injection e0 with e0 _; injection e1 with e1 _
    subst e0; subst e1
    refine ⟨⟨a0, a1.toNat⟩, ?_⟩
    unfold entV
    dsimp only
    rw [Int.toNat_of_nonneg (by omega)]
theorem four_of (h : DataW.trod enc Try.prog w base spare held fuel 28 cs = some x) : ∃ l : List Nat, l.length = 4 ∧ cs = g4 l := by
  obtain ⟨xs, m, _, _, hl, hx, hf⟩ := DataW.trod_array Try.underlying28 h
  rw [show Try.prog.cellsOf 28 = 4 by kernel_rfl] at hl
  rw [show Try.prog.cellsOf 22 = 1 by kernel_rfl] at hf
  have hi : ∀ i, i < 4 → ∃ a : Nat, (cs.drop (i * 1)).take 1 = [.int .u64 (a : Int)] := fun i hi => by
    have h1 := hf i hi
    rw [List.getElem?_eq_getElem (by omega)] at h1
    obtain ⟨a, e, _, wa⟩ := DataW.trod_int Try.underlying22 h1
    have := wf_u64 wa
    exact ⟨a.toNat, by rw [e, Int.toNat_of_nonneg (by omega)]⟩
  obtain ⟨a0, e0⟩ := hi 0 (by decide)
  obtain ⟨a1, e1⟩ := hi 1 (by decide)
  obtain ⟨a2, e2⟩ := hi 2 (by decide)
  obtain ⟨a3, e3⟩ := hi 3 (by decide)
  match cs, hl with
  | [c0, c1, c2, c3], _ =>
    injection e0 with e0 _; injection e1 with e1 _; injection e2 with e2 _; injection e3 with e3 _
    subst e0; subst e1; subst e2; subst e3
    exact ⟨[a0, a1, a2, a3], rfl, rfl⟩
end
theorem job_of {H : Type} {enc : TypeId × Value → H} {W : World} {fuel : Nat} {cs : List Value} {x : DataW H × List MemPlace} (h : DataW.trod enc Try.prog W 0 (fun _ => true) true fuel 30 cs = some x) : ∃ j : Jb, cs = j.v ∧ j.args.length = 4 ∧ InsR (exact' W) j.cv j.code := by
  obtain ⟨hl, hf⟩ := trod_fld Try.underlying30 h 5 (by kernel_rfl)
  obtain ⟨_, _, h0⟩ := hf 0 _ 0 1 rfl rfl (by kernel_rfl)
  obtain ⟨_, _, h1⟩ := hf 1 _ 1 4 rfl rfl (by kernel_rfl)
  obtain ⟨ad, code, cap, e0, _, _, hr⟩ := slice_cs Ins.v Ins.v_len (by decide) Try.underlying27 (by kernel_rfl) (fun _ _ _ h => ins_of h) h0
  obtain ⟨l, hl4, e1⟩ := four_of h1
  refine ⟨⟨ad, cap, code, l⟩, ?_, hl4, ⟨ad, cap, rfl, hr⟩⟩
  match cs, hl with
  | [c0, c1, c2, c3, c4], _ =>
    injection e0 with e0 _
    subst e0
    show _ :: _ = _ :: _
    rw [← e1]; rfl
set_option maxRecDepth 100000 in
theorem undoes_contract (H : Type) (enc : TypeId × Value → H) (W : World) (base : Nat) (args : Array Value) (ds gs : List (DataW H)) (before : List MemPlace)
    (hval : ∀ (j : Nat) t v, Try.f3.params[j]? = some t → args[j]? = some v → Value.okWide Try.prog W .any base t v)
    (hW : DataW.Whole enc Try.prog Try.f3.params.toList Rows.execUndoesSpec.vars false W args.toList ds gs before) :
    Calls Try.prog 3 args W fun e W' => ∃ v, e = .returned v ∧ Rows.execUndoesSpec.post enc Try.prog Try.f3 false true false false W args v W' := by
  have hW' := hW
  obtain ⟨p, q, hA0, hV, rfl, hfz, hnd⟩ := hW
  have hA : DataW.TrodAll enc Try.prog W 0 (fun _ => true) true Try.f3.params.toList args.toList ds p := hA0
  rw [Try.params3] at hA hval
  obtain ⟨v0, vs0, d0, ds0, p0, q0, hargs, rfl, rfl, h0, r0⟩ := trodAll_cons hA
  obtain ⟨v1, vs1, d1, ds1, p1, q1, rfl, rfl, rfl, h1, r1⟩ := trodAll_cons r0
  obtain ⟨v2, vs2, d2, ds2, p2, q2, rfl, rfl, rfl, h2, r2⟩ := trodAll_cons r1
  obtain ⟨v3, vs3, d3, ds3, p3, q3, rfl, rfl, rfl, h3, r3⟩ := trodAll_cons r2
  obtain ⟨v4, vs4, d4, ds4, p4, q4, rfl, rfl, rfl, h4, r4⟩ := trodAll_cons r3
  obtain ⟨v5, vs5, d5, ds5, p5, q5, rfl, rfl, rfl, h5, r5⟩ := trodAll_cons r4
  obtain ⟨rfl, rfl, rfl⟩ := trodAll_nil r5
  obtain rfl : args = #[v0, v1, v2, v3, v4, v5] := by cases args; simp_all
  obtain ⟨rfl, rfl⟩ := trodVars_none hV
  clear hA0 hA r0 r1 r2 r3 r4 r5
  have k0 := hval 0 _ v0 rfl rfl
  have k1 := hval 1 _ v1 rfl rfl
  have k2 := hval 2 _ v2 rfl rfl
  have k3 := hval 3 _ v3 rfl rfl
  have k4 := hval 4 _ v4 rfl rfl
  have k5 := hval 5 _ v5 rfl rfl
  obtain ⟨⟨c0⟩, rfl, _⟩ := okWide_struct Try.underlying24 k0
  obtain ⟨_, h0⟩ := h0
  obtain ⟨c, e0⟩ := cfg_of h0
  obtain rfl : c0 = c.v := e0
  obtain ⟨seq, rfl⟩ : ∃ s : Nat, v1 = .int .u64 (s : Int) := by
    obtain ⟨_, h1⟩ := h1
    obtain ⟨n, rfl, hn⟩ := okWide_int Try.underlying22 k1
    obtain ⟨a, e, _, wa⟩ := DataW.trod_int Try.underlying22 h1
    injection e with e _
    have := wf_u64 wa
    exact ⟨a.toNat, by rw [e, Int.toNat_of_nonneg (by omega)]⟩
  obtain ⟨fad, first, fcap, rfl, _, _, hf⟩ := slice_of (sz := 3) Out.v (fun _ => rfl) (by decide) Try.underlying25 (by kernel_rfl) (fun _ _ _ h => out_of h) k2 h2
  obtain ⟨pad, puts, pcap, rfl, _, _, hp⟩ := slice_of (sz := 2) entV (fun _ => rfl) (by decide) Try.underlying26 (by kernel_rfl) (fun _ _ _ h => ent_of h) k3 h3
  obtain ⟨⟨c4⟩, rfl, _⟩ := okWide_struct Try.underlying30 k4
  obtain ⟨_, h4⟩ := h4
  obtain ⟨j, e4, ha4, hcode⟩ := job_of h4
  obtain rfl : c4 = j.v := e4
  obtain ⟨oad, outs, ocap, rfl, _, _, ho⟩ := slice_of (sz := 3) Out.v (fun _ => rfl) (by decide) Try.underlying25 (by kernel_rfl) (fun _ _ _ h => out_of h) k5 h5
  have hfin : Tri Try.prog 3 #[.agg ⟨c.v⟩, .int .u64 (seq : Int), .slice fad first.length fcap, .slice pad puts.length pcap, .agg ⟨j.v⟩, .slice oad outs.length ocap] [exact' W] fun r L => r = .bool true ∧ L = [exact' W] := by
    by_cases hall : fewB c [j] = true ∧ first.length ≤ 60 ∧ puts.length ≤ 20 ∧ outs.length ≤ 60
    · exact undoes_near c seq (exact' W) _ _ _ first puts j outs ⟨fad, fcap, rfl, hf⟩ ⟨pad, pcap, rfl, hp⟩ ⟨oad, ocap, rfl, ho⟩ hcode ha4 hall.1 hall.2.1 hall.2.2.1 hall.2.2.2
    · exact undoes_far c seq (exact' W) _ _ _ first puts j outs ⟨fad, fcap, rfl, hf⟩ ⟨pad, pcap, rfl, hp⟩ ⟨oad, ocap, rfl, ho⟩ hall
  refine (tri_run (Q := fun v => v = .bool true) hfin).mono ?_
  rintro e W' ⟨v, rfl, rfl, hs, ho⟩
  exact ⟨_, rfl, post_true laid_ hW' rfl rfl Try.underlying4 (by kernel_rfl) rfl hs ho⟩
set_option maxRecDepth 100000 in
theorem undoes_lifted (os : Os) (started : os.Started) (H : Type) (enc : TypeId × Value → H) :
    ReturnsInHanded {} Try.checked os 3 .any (Rows.execUndoesSpec.pre6 enc Try.prog Try.f3 Rows.execUndoesRow.domain false) (Rows.execUndoesSpec.post enc Try.prog Try.f3 false true false false) := by
  refine returnsInHanded_of_change (C := Try.checked) own_ started (by kernel_rfl) Try.func3
    (ChangeSpec.witness6 (enc := enc) (C := Try.checked) false ⟨#[], #[.agg #[.int .i64 0, .int .i64 0, .int .i64 0, .int .i64 0, .int .u64 0, .int .u64 0], .int .u64 0, .slice none 0 0, .slice none 0 0, .agg #[.slice none 0 0, .int .u64 0, .int .u64 0, .int .u64 0, .int .u64 0], .slice none 0 0], []⟩ 8 (by kernel_rfl) (by kernel_rfl) (by kernel_rfl) (by kernel_rfl)) ?_
  intro W base args ds gs before hval hW _ _
  exact undoes_contract H enc W base args ds gs before hval hW
theorem undoes_holds : Rows.ExecUndoesSaid :=
  OpenClaim.holds_of_wide 3 Try.f3 rfl rfl rfl rfl rfl rfl rfl ⟨rfl, rfl, rfl, rfl, rfl⟩ rfl rfl rfl rfl rfl (by kernel_rfl) Try.func3 (by kernel_rfl)
    (of_decide_eq_true (by kernel_rfl)) (by unfold Func.isWrapper; first | (rw [if_pos (by decide +kernel)]; kernel_rfl) | (rw [if_neg (by decide +kernel)]; exact ⟨rfl, rfl⟩))
    (fun os started H enc _ => undoes_lifted os started H enc)
end Go.Proofs.Ytipnljhelbjmaaa
