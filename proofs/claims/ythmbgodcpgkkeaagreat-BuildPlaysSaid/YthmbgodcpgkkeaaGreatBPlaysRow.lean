/-
  For every configuration, thread, sequence number, all programs and all replies the law BuildPlays returns true and leaves its arguments as they were (the statement BuildPlaysSaid, with no further condition).
-/
import Derived.Test.YthmbgodcpgkkeaaGreatRefa
import Derived.Test.YthmbgodcpgkkeaaGreatFr
namespace Go.Proofs.YthmbgodcpgkkeaaGreat
open Go.ChangeShapes Go.WideShapes Go.ChangeAt Go.RowKit Go.Deep
/-- a reply whose numbers are numbers -/
def OutC : Type := { o : Out // o.was.val < 18446744073709551616 ∧ o.was.seq < 18446744073709551616 }
def OutC.f (o : OutC) : List Value := o.1.v
theorem outC_of {H : Type} {enc : TypeId × Value → H} {w : World} {base fuel : Nat} {spare : Nat → Bool} {held : Bool} {cs : List Value} {x : DataW H × List MemPlace} (h : DataW.trod enc Tryz.prog w base spare held fuel 49 cs = some x) : ∃ o : OutC, cs = o.f := by
  obtain ⟨hl, hf⟩ := trod_fld Tryz.underlying49 h 3 (by kernel_rfl)
  obtain ⟨_, _, h0⟩ := hf 0 _ 0 2 rfl rfl (by kernel_rfl)
  obtain ⟨_, _, h1⟩ := hf 1 _ 2 1 rfl rfl (by kernel_rfl)
  obtain ⟨hl2, hf2⟩ := trod_fld Tryz.underlying39 h0 2 (by kernel_rfl)
  obtain ⟨_, _, g0⟩ := hf2 0 _ 0 1 rfl rfl (by kernel_rfl)
  obtain ⟨_, _, g1⟩ := hf2 1 _ 1 1 rfl rfl (by kernel_rfl)
  obtain ⟨a0, e0, _, w0⟩ := DataW.trod_int Tryz.underlying22 g0
  obtain ⟨a1, e1, _, w1⟩ := DataW.trod_int Tryz.underlying22 g1
  obtain ⟨b, e2, _⟩ := DataW.trod_bool Tryz.underlying4 h1
  have := wf_u64 w0
  have := wf_u64 w1
  match cs, hl with
  | [c0, c1, c2], _ =>
    injection e0 with e0 _; injection e1 with e1 _; injection e2 with e2 _
    subst e0; subst e1; subst e2
    refine ⟨⟨⟨⟨a0.toNat, a1.toNat⟩, b⟩, by dsimp only; omega, by dsimp only; omega⟩, ?_⟩
    unfold OutC.f Out.v
    dsimp only
    rw [Int.toNat_of_nonneg (by omega), Int.toNat_of_nonneg (by omega)]
theorem outsC_of {W : World} {ad : Option Addr} {cap : Nat} (l : List OutC) (h1 : l.length ≤ cap) (h : l.length = 0 ∨ ∃ b o blk rest, ad = some ⟨b, o, none⟩ ∧ RdC (exact' W) b blk ∧ DropN o blk (l.flatMap OutC.f ++ rest)) :
    ListR Out.v (exact' W) (.slice ad l.length cap) (l.map fun o => o.1) ∧ (∀ o ∈ (l.map fun o => o.1), o.was.val < 18446744073709551616) ∧ ∀ o ∈ (l.map fun o => o.1), o.was.seq < 18446744073709551616 := by
  have hlen : (l.map fun o => o.1).length = l.length := List.length_map ..
  refine ⟨⟨ad, cap, by rw [hlen], by rw [hlen]; exact h1, ?_⟩, fun o ho => ?_, fun o ho => ?_⟩
  · rw [hlen]
    rcases h with h | ⟨b, o, blk, rest, e1, e2, e3⟩
    · exact .inl h
    · exact .inr ⟨b, o, blk, rest, e1, e2, by rw [map_f]; exact e3⟩
  · obtain ⟨y, _, rfl⟩ := List.mem_map.1 ho
    exact y.2.1
  · obtain ⟨y, _, rfl⟩ := List.mem_map.1 ho
    exact y.2.2
/-- a program, as it lies -/
def PrB (W : World) : Type := { p : Value × List Ins // InsR (exact' W) p.1 p.2 ∧ ∀ i ∈ p.2, i.imm < 18446744073709551616 }
def PrB.f {W : World} (p : PrB W) : List Value := [p.1.1]
theorem progB_of {H : Type} {enc : TypeId × Value → H} {W : World} {fuel : Nat} {cs : List Value} {x : DataW H × List MemPlace} (h : DataW.trod enc Tryz.prog W 0 (fun _ => true) true fuel 67 cs = some x) : ∃ p : PrB W, cs = p.f := by
  obtain ⟨ad, code, cap, e0, _, _, hr⟩ := slice_cs InsB.f (fun i => Ins.v_len i.1) (by decide) Tryz.underlying67 (by kernel_rfl) (fun _ _ _ h => insB_of h) h
  have hlen : (code.map fun i => i.1).length = code.length := List.length_map ..
  refine ⟨⟨(.slice ad code.length cap, code.map fun i => i.1), ⟨ad, cap, by rw [hlen], ?_⟩, fun i hi => ?_⟩, e0⟩
  · dsimp only
    rw [hlen]
    rcases hr with hr | ⟨b, o, blk, rest, h1, h2, h3⟩
    · exact .inl hr
    · exact .inr ⟨b, o, blk, rest, h1, h2, by rw [map_f]; exact h3⟩
  · obtain ⟨y, _, rfl⟩ := List.mem_map.1 hi
    exact y.2
theorem progsB_of {W : World} {ad : Option Addr} {cap : Nat} (l : List (PrB W)) (h1 : l.length ≤ cap) (h2 : cap ≤ maxLen) (h : l.length = 0 ∨ ∃ b o blk rest, ad = some ⟨b, o, none⟩ ∧ RdC (exact' W) b blk ∧ DropN o blk (l.flatMap PrB.f ++ rest)) :
    ProgsG (exact' W) (.slice ad l.length cap) (l.map fun p => p.1.2) ∧ ∀ p ∈ (l.map fun p => p.1.2), ∀ i ∈ p, i.imm < 18446744073709551616 := by
  have hm : maxLen = 9223372036854775807 := by decide
  refine ⟨⟨ad, cap, by rw [List.length_map], by rw [List.length_map]; omega, fun i hi => ?_⟩, fun p hp => ?_⟩
  · rw [List.length_map] at hi
    rcases h with h | ⟨b, o, blk, rest, e1, e2, e3⟩
    · omega
    · have hd := e3.add ((DropN.flat (f := PrB.f) (sz := 1) (fun _ => rfl) hi).more rest)
      refine ⟨b, o, blk, l[i].1.1, e1, e2, ?_, ?_⟩
      · exact NthN.part (j := 0) hd (TakeN.succ .zero) .zero
      · rw [List.getElem_map]; exact l[i].2.1
  · obtain ⟨y, _, rfl⟩ := List.mem_map.1 hp
    exact y.2.2
set_option maxRecDepth 100000 in
theorem bplays_contract (H : Type) (enc : TypeId × Value → H) (W : World) (base : Nat) (args : Array Value) (ds gs : List (DataW H)) (before : List MemPlace)
    (hval : ∀ (j : Nat) t v, Tryz.f4.params[j]? = some t → args[j]? = some v → Value.okWide Tryz.prog W .any base t v)
    (hW : DataW.Whole enc Tryz.prog Tryz.f4.params.toList Rows.buildPlaysSpec.vars false W args.toList ds gs before) :
    Calls Tryz.prog 4 args W fun e W' => ∃ v, e = .returned v ∧ Rows.buildPlaysSpec.post enc Tryz.prog Tryz.f4 false true false false W args v W' := by
  have hW' := hW
  obtain ⟨p, q, hA0, hV, rfl, hfz, hnd⟩ := hW
  have hA : DataW.TrodAll enc Tryz.prog W 0 (fun _ => true) true Tryz.f4.params.toList args.toList ds p := hA0
  rw [Tryz.params4] at hA hval
  obtain ⟨v0, vs0, d0, ds0, p0, q0, hargs, rfl, rfl, h0, r0⟩ := trodAll_cons hA
  obtain ⟨v1, vs1, d1, ds1, p1, q1, rfl, rfl, rfl, h1, r1⟩ := trodAll_cons r0
  obtain ⟨v2, vs2, d2, ds2, p2, q2, rfl, rfl, rfl, h2, r2⟩ := trodAll_cons r1
  obtain ⟨v3, vs3, d3, ds3, p3, q3, rfl, rfl, rfl, h3, r3⟩ := trodAll_cons r2
  obtain ⟨v4, vs4, d4, ds4, p4, q4, rfl, rfl, rfl, h4, r4⟩ := trodAll_cons r3
  obtain ⟨rfl, rfl, rfl⟩ := trodAll_nil r4
  obtain rfl : args = #[v0, v1, v2, v3, v4] := by cases args; simp_all
  obtain ⟨rfl, rfl⟩ := trodVars_none hV
  clear hA0 hA r0 r1 r2 r3 r4
  have k0 := hval 0 _ v0 rfl rfl
  have k1 := hval 1 _ v1 rfl rfl
  have k2 := hval 2 _ v2 rfl rfl
  have k3 := hval 3 _ v3 rfl rfl
  have k4 := hval 4 _ v4 rfl rfl
  obtain ⟨⟨c0⟩, rfl, _⟩ := okWide_struct Tryz.underlying24 k0
  obtain ⟨_, h0⟩ := h0
  obtain ⟨c, e0⟩ := cfg_of h0
  obtain rfl : c0 = c.v := e0
  obtain ⟨who, rfl, _⟩ := okWide_int Tryz.underlying3 k1
  obtain ⟨seq, rfl⟩ : ∃ s : Nat, v2 = .int .u64 (s : Int) := by
    obtain ⟨_, h2⟩ := h2
    obtain ⟨n, rfl, hn⟩ := okWide_int Tryz.underlying22 k2
    obtain ⟨a, e, _, wa⟩ := DataW.trod_int Tryz.underlying22 h2
    injection e with e _
    have := wf_u64 wa
    exact ⟨a.toNat, by rw [e, Int.toNat_of_nonneg (by omega)]⟩
  obtain ⟨pad, progs, pcap, rfl, hp1, hp2, hp⟩ := slice_of (sz := 1) (PrB.f (W := W)) (fun _ => rfl) (by decide) Tryz.underlying91 (by kernel_rfl) (fun _ _ _ h => progB_of h) k3 h3
  obtain ⟨oad, outs, ocap, rfl, o1, _, ho⟩ := slice_of (sz := 3) OutC.f (fun _ => rfl) (by decide) Tryz.underlying25 (by kernel_rfl) (fun _ _ _ h => outC_of h) k4 h4
  obtain ⟨hpv, hpi⟩ := progsB_of progs hp1 hp2 hp
  obtain ⟨hov, hosv, hoss⟩ := outsC_of outs o1 ho
  have hfin := bplays_t c who seq (exact' W) _ _ _ _ hpv hov hpi hosv hoss
  unfold bplayQ at hfin
  refine (tri_run (Q := fun v => v = .bool true) hfin).mono ?_
  rintro e W' ⟨v, rfl, rfl, hs, ho⟩
  exact ⟨_, rfl, post_true laid_ hW' rfl rfl Tryz.underlying4 (by kernel_rfl) rfl hs ho⟩
set_option maxRecDepth 100000 in
theorem bplays_lifted (os : Os) (started : os.Started) (H : Type) (enc : TypeId × Value → H) :
    ReturnsInHanded {} Tryz.checked os 4 .any (Rows.buildPlaysSpec.pre6 enc Tryz.prog Tryz.f4 Rows.buildPlaysRow.domain false) (Rows.buildPlaysSpec.post enc Tryz.prog Tryz.f4 false true false false) := by
  refine returnsInHanded_of_change (C := Tryz.checked) own_ started (by kernel_rfl) Tryz.func4
    (ChangeSpec.witness6 (enc := enc) (C := Tryz.checked) false ⟨#[], #[.agg #[.int .i64 0, .int .i64 0, .int .i64 0, .int .i64 0, .int .u64 0, .int .u64 0], .int .i64 0, .int .u64 0, .slice none 0 0, .slice none 0 0], []⟩ 8 (by kernel_rfl) (by kernel_rfl) (by kernel_rfl) (by kernel_rfl)) ?_
  intro W base args ds gs before hval hW _ _
  exact bplays_contract H enc W base args ds gs before hval hW
set_option maxRecDepth 100000 in
theorem fr_closed : joinedFacts Tryz.prog 4 Tryz.f4 Rows.buildPlaysSpec Rows.buildPlaysRow = true :=
  (fr_and (fr_and (fr_and (fr_and (fr_and (fr_and (fr_and (fr_and (fr_and (fr_and (fr_and (fr_and (fr_and (fr_and (fr_and (fr_and (fr_and (fr_and (fr_and (fr_and (fr_and (fr_and (fr_and (fr_and (fr_and (fr_and (fr_and (fr_and (fr_and (fr_and (fr_and fr_0 fr_1) fr_2) fr_3) fr_4) fr_5) fr_6) fr_7) fr_8) fr_9) fr_10) fr_11) fr_12) fr_13) fr_14) fr_15) fr_16) fr_17) fr_18) fr_19) fr_20) fr_21) fr_22) fr_23) fr_24) fr_25) fr_26) fr_27) fr_28) fr_29) fr_30) fr_31)

theorem bplays_holds : Rows.BuildPlaysSaid :=
  OpenClaim.holds_of_wide 4 Tryz.f4 rfl rfl rfl rfl rfl rfl rfl ⟨rfl, rfl, rfl, rfl, rfl⟩ rfl rfl rfl rfl rfl (by kernel_rfl) Tryz.func4 fr_closed
    (of_decide_eq_true (by kernel_rfl)) (by unfold Func.isWrapper; first | (rw [if_pos (by decide +kernel)]; kernel_rfl) | (rw [if_neg (by decide +kernel)]; exact ⟨rfl, rfl⟩))
    (fun os started H enc _ => bplays_lifted os started H enc)
end Go.Proofs.YthmbgodcpgkkeaaGreat
