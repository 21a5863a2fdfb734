/-
  For every configuration, thread, sequence number, all programs and all replies the law BuildOrder returns true and leaves its arguments as they were (the statement BuildOrderSaid, with no further condition).
-/
import Derived.Test.YtipnljhelbjmaaaGreatRowg
import Derived.Test.YtipnljhelbjmaaaGreatBo
namespace Go.Proofs.YtipnljhelbjmaaaGreat
open Go.ChangeShapes Go.WideShapes Go.ChangeAt Go.RowKit Go.Deep
section
variable {H : Type} {enc : TypeId × Value → H} {w : World} {base fuel : Nat} {spare : Nat → Bool} {held : Bool} {cs : List Value} {x : DataW H × List MemPlace}
theorem ins_of (h : DataW.trod enc Tryz.prog w base spare held fuel 134 cs = some x) : ∃ i : Ins, cs = i.v := by
  obtain ⟨hl, hf⟩ := trod_fld Tryz.underlying134 h 5 (by kernel_rfl)
  obtain ⟨_, _, h0⟩ := hf 0 _ 0 1 rfl rfl (by kernel_rfl)
  obtain ⟨_, _, h1⟩ := hf 1 _ 1 1 rfl rfl (by kernel_rfl)
  obtain ⟨_, _, h2⟩ := hf 2 _ 2 1 rfl rfl (by kernel_rfl)
  obtain ⟨_, _, h3⟩ := hf 3 _ 3 1 rfl rfl (by kernel_rfl)
  obtain ⟨_, _, h4⟩ := hf 4 _ 4 1 rfl rfl (by kernel_rfl)
  obtain ⟨a0, e0, _, _⟩ := DataW.trod_int Tryz.underlying3 h0
  obtain ⟨a1, e1, _, _⟩ := DataW.trod_int Tryz.underlying3 h1
  obtain ⟨a2, e2, _, _⟩ := DataW.trod_int Tryz.underlying3 h2
  obtain ⟨a3, e3, _, _⟩ := DataW.trod_int Tryz.underlying3 h3
  obtain ⟨a4, e4, _, w4⟩ := DataW.trod_int Tryz.underlying22 h4
  have := wf_u64 w4
  match cs, hl with
  | [c0, c1, c2, c3, c4], _ =>
    injection e0 with e0 _; injection e1 with e1 _; injection e2 with e2 _; injection e3 with e3 _; injection e4 with e4 _
    subst e0; subst e1; subst e2; subst e3; subst e4
    refine ⟨⟨a0, a1, a2, a3, a4.toNat⟩, ?_⟩
    unfold Ins.v
    dsimp only
    rw [Int.toNat_of_nonneg (by omega)]
end
/-- a program, as it lies -/
def PrR (W : World) : Type := { p : Value × List Ins // InsR (exact' W) p.1 p.2 }
def PrR.f {W : World} (p : PrR W) : List Value := [p.1.1]
theorem prog_of {H : Type} {enc : TypeId × Value → H} {W : World} {fuel : Nat} {cs : List Value} {x : DataW H × List MemPlace} (h : DataW.trod enc Tryz.prog W 0 (fun _ => true) true fuel 67 cs = some x) : ∃ p : PrR W, cs = p.f := by
  obtain ⟨ad, code, cap, e0, _, _, hr⟩ := slice_cs Ins.v Ins.v_len (by decide) Tryz.underlying67 (by kernel_rfl) (fun _ _ _ h => ins_of h) h
  exact ⟨⟨(.slice ad code.length cap, code), ad, cap, rfl, hr⟩, e0⟩
theorem progs_of {W : World} {ad : Option Addr} {cap : Nat} (l : List (PrR W)) (h1 : l.length ≤ cap) (h2 : cap ≤ maxLen) (h : l.length = 0 ∨ ∃ b o blk rest, ad = some ⟨b, o, none⟩ ∧ RdC (exact' W) b blk ∧ DropN o blk (l.flatMap PrR.f ++ rest)) :
    ProgsG (exact' W) (.slice ad l.length cap) (l.map fun p => p.1.2) := by
  have hm : maxLen = 9223372036854775807 := by decide
  refine ⟨ad, cap, by rw [List.length_map], by rw [List.length_map]; omega, fun i hi => ?_⟩
  rw [List.length_map] at hi
  rcases h with h | ⟨b, o, blk, rest, e1, e2, e3⟩
  · omega
  · have hd := e3.add ((DropN.flat (f := PrR.f) (sz := 1) (fun _ => rfl) hi).more rest)
    refine ⟨b, o, blk, l[i].1.1, e1, e2, ?_, ?_⟩
    · exact NthN.part (j := 0) hd (TakeN.succ .zero) .zero
    · rw [List.getElem_map]; exact l[i].2
set_option maxRecDepth 100000 in
theorem order_contract (H : Type) (enc : TypeId × Value → H) (W : World) (base : Nat) (args : Array Value) (ds gs : List (DataW H)) (before : List MemPlace)
    (hval : ∀ (j : Nat) t v, Tryz.f5.params[j]? = some t → args[j]? = some v → Value.okWide Tryz.prog W .any base t v)
    (hW : DataW.Whole enc Tryz.prog Tryz.f5.params.toList Rows.buildOrderSpec.vars false W args.toList ds gs before) :
    Calls Tryz.prog 5 args W fun e W' => ∃ v, e = .returned v ∧ Rows.buildOrderSpec.post enc Tryz.prog Tryz.f5 false true false false W args v W' := by
  have hW' := hW
  obtain ⟨p, q, hA0, hV, rfl, hfz, hnd⟩ := hW
  have hA : DataW.TrodAll enc Tryz.prog W 0 (fun _ => true) true Tryz.f5.params.toList args.toList ds p := hA0
  rw [Tryz.params5] at hA hval
  obtain ⟨v0, vs0, d0, ds0, p0, q0, hargs, rfl, rfl, h0, r0⟩ := trodAll_cons hA
  obtain ⟨v1, vs1, d1, ds1, p1, q1, rfl, rfl, rfl, h1, r1⟩ := trodAll_cons r0
  obtain ⟨v2, vs2, d2, ds2, p2, q2, rfl, rfl, rfl, h2, r2⟩ := trodAll_cons r1
  obtain ⟨v3, vs3, d3, ds3, p3, q3, rfl, rfl, rfl, h3, r3⟩ := trodAll_cons r2
  obtain ⟨v4, vs4, d4, ds4, p4, q4, rfl, rfl, rfl, h4, r4⟩ := trodAll_cons r3
  obtain ⟨rfl, rfl, rfl⟩ := trodAll_nil r4
  obtain rfl : args = #[v0, v1, v2, v3, v4] := by cases args; simp_all
  obtain ⟨rfl, rfl⟩ := trodVars_none hV
  clear hA0 hA r0 r1 r2 r3 r4
  have k0 := hval 0 _ v0 rfl rfl
  have k1 := hval 1 _ v1 rfl rfl
  have k2 := hval 2 _ v2 rfl rfl
  have k3 := hval 3 _ v3 rfl rfl
  have k4 := hval 4 _ v4 rfl rfl
  obtain ⟨⟨c0⟩, rfl, _⟩ := okWide_struct Tryz.underlying24 k0
  obtain ⟨_, h0⟩ := h0
  obtain ⟨c, e0⟩ := cfg_of h0
  obtain rfl : c0 = c.v := e0
  obtain ⟨who, rfl, _⟩ := okWide_int Tryz.underlying3 k1
  obtain ⟨seq, rfl⟩ : ∃ s : Nat, v2 = .int .u64 (s : Int) := by
    obtain ⟨_, h2⟩ := h2
    obtain ⟨n, rfl, hn⟩ := okWide_int Tryz.underlying22 k2
    obtain ⟨a, e, _, wa⟩ := DataW.trod_int Tryz.underlying22 h2
    injection e with e _
    have := wf_u64 wa
    exact ⟨a.toNat, by rw [e, Int.toNat_of_nonneg (by omega)]⟩
  obtain ⟨pad, progs, pcap, rfl, hp1, hp2, hp⟩ := slice_of (sz := 1) (PrR.f (W := W)) (fun _ => rfl) (by decide) Tryz.underlying91 (by kernel_rfl) (fun _ _ _ h => prog_of h) k3 h3
  obtain ⟨oad, outs, ocap, rfl, _, _, ho⟩ := slice_of (sz := 3) Out.v (fun _ => rfl) (by decide) Tryz.underlying25 (by kernel_rfl) (fun _ _ _ h => out_of h) k4 h4
  have hfin := order_t c who seq (exact' W) _ _ _ outs (progs_of progs hp1 hp2 hp) ⟨oad, ocap, rfl, ho⟩
  unfold orderQ at hfin
  refine (tri_run (Q := fun v => v = .bool true) hfin).mono ?_
  rintro e W' ⟨v, rfl, rfl, hs, ho⟩
  exact ⟨_, rfl, post_true laid_ hW' rfl rfl Tryz.underlying4 (by kernel_rfl) rfl hs ho⟩
set_option maxRecDepth 100000 in
theorem order_lifted (os : Os) (started : os.Started) (H : Type) (enc : TypeId × Value → H) :
    ReturnsInHanded {} Tryz.checked os 5 .any (Rows.buildOrderSpec.pre6 enc Tryz.prog Tryz.f5 Rows.buildOrderRow.domain false) (Rows.buildOrderSpec.post enc Tryz.prog Tryz.f5 false true false false) := by
  refine returnsInHanded_of_change (C := Tryz.checked) own_ started (by kernel_rfl) Tryz.func5
    (ChangeSpec.witness6 (enc := enc) (C := Tryz.checked) false ⟨#[], #[.agg #[.int .i64 0, .int .i64 0, .int .i64 0, .int .i64 0, .int .u64 0, .int .u64 0], .int .i64 0, .int .u64 0, .slice none 0 0, .slice none 0 0], []⟩ 8 (by kernel_rfl) (by kernel_rfl) (by kernel_rfl) (by kernel_rfl)) ?_
  intro W base args ds gs before hval hW _ _
  exact order_contract H enc W base args ds gs before hval hW
theorem order_holds : Rows.BuildOrderSaid :=
  OpenClaim.holds_of_wide 5 Tryz.f5 rfl rfl rfl rfl rfl rfl rfl ⟨rfl, rfl, rfl, rfl, rfl⟩ rfl rfl rfl rfl rfl (by kernel_rfl) Tryz.func5 (by kernel_rfl)
    (of_decide_eq_true (by kernel_rfl)) (by unfold Func.isWrapper; first | (rw [if_pos (by decide +kernel)]; kernel_rfl) | (rw [if_neg (by decide +kernel)]; exact ⟨rfl, rfl⟩))
    (fun os started H enc _ => order_lifted os started H enc)
end Go.Proofs.YtipnljhelbjmaaaGreat
