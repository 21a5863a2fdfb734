/-
  Rows of rounds in which threads ask for something. The closed facts of the row, one by one. For every configuration, all programs, rounds and makers the law BuildNone returns true and leaves its arguments as they were (the statement BuildNoneSaid, with no further condition). Package tumblerlaw14: told; what threads ask for in a round.
-/
import Derived.Test.YthmbgodcpgkkeaaGreatRowq
import Derived.Test.YthmbgodcpgkkeaaGreatWk
import Derived.Test.YthmbgodcpgkkeaaGreatRows
import Derived.ProofKit
import Derived.JoinedOf
section
namespace Go.Proofs.YthmbgodcpgkkeaaGreat
open Go.ChangeShapes Go.WideShapes Go.ChangeAt Go.RowKit Go.Deep
theorem ask_of {H : Type} {enc : TypeId × Value → H} {w : World} {base fuel : Nat} {spare : Nat → Bool} {held : Bool} {cs : List Value} {x : DataW H × List MemPlace} (h : DataW.trod enc Tryz.prog w base spare held fuel 115 cs = some x) : ∃ a : Aq, cs = a.v := by
  obtain ⟨hl, hf⟩ := trod_fld Tryz.underlying115 h 6 (by kernel_rfl)
  obtain ⟨_, _, h0⟩ := hf 0 _ 0 1 rfl rfl (by kernel_rfl)
  obtain ⟨_, _, h1⟩ := hf 1 _ 1 1 rfl rfl (by kernel_rfl)
  obtain ⟨_, _, h2⟩ := hf 2 _ 2 4 rfl rfl (by kernel_rfl)
  obtain ⟨a0, e0, _, _⟩ := DataW.trod_int Tryz.underlying3 h0
  obtain ⟨a1, e1, _, _⟩ := DataW.trod_int Tryz.underlying3 h1
  obtain ⟨l, hl4, _, e2⟩ := fourB_of h2
  obtain ⟨b0, b1, b2, b3, rfl⟩ := len4 hl4
  match cs, hl with
  | [c0, c1, c2, c3, c4, c5], _ =>
    injection e0 with e0 _; injection e1 with e1 _
    have e2 : [c2, c3, c4, c5] = [Value.int .u64 (b0 : Int), .int .u64 (b1 : Int), .int .u64 (b2 : Int), .int .u64 (b3 : Int)] := e2
    injection e2 with f0 e2; injection e2 with f1 e2; injection e2 with f2 e2; injection e2 with f3 _
    subst e0; subst e1; subst f0; subst f1; subst f2; subst f3
    exact ⟨⟨a0, a1, b0, b1, b2, b3⟩, rfl⟩
/-- a round, as it lies -/
def RdR (W : World) : Type := { p : Value × List Aq // ListR Aq.v (exact' W) p.1 p.2 }
def RdR.f {W : World} (p : RdR W) : List Value := [p.1.1]
theorem round_of {H : Type} {enc : TypeId × Value → H} {W : World} {fuel : Nat} {cs : List Value} {x : DataW H × List MemPlace} (h : DataW.trod enc Tryz.prog W 0 (fun _ => true) true fuel 113 cs = some x) : ∃ p : RdR W, cs = p.f := by
  obtain ⟨ad, l, cap, e0, hc, _, hr⟩ := slice_cs Aq.v Aq.v_len (by decide) Tryz.underlying113 (by kernel_rfl) (fun _ _ _ h => ask_of h) h
  exact ⟨⟨(.slice ad l.length cap, l), ad, cap, rfl, hc, hr⟩, e0⟩
theorem rounds_of {W : World} {ad : Option Addr} {cap : Nat} (l : List (RdR W)) (h1 : l.length ≤ cap) (h2 : cap ≤ maxLen) (h : l.length = 0 ∨ ∃ b o blk rest, ad = some ⟨b, o, none⟩ ∧ RdC (exact' W) b blk ∧ DropN o blk (l.flatMap RdR.f ++ rest)) :
    RoundsG (exact' W) (.slice ad l.length cap) (l.map fun p => p.1.2) := by
  have hm : maxLen = 9223372036854775807 := by decide
  refine ⟨ad, cap, by rw [List.length_map], by rw [List.length_map]; omega, fun i hi => ?_⟩
  rw [List.length_map] at hi
  rcases h with h | ⟨b, o, blk, rest, e1, e2, e3⟩
  · omega
  · have hd := e3.add ((DropN.flat (f := RdR.f) (sz := 1) (fun _ => rfl) hi).more rest)
    refine ⟨b, o, blk, l[i].1.1, e1, e2, ?_, ?_⟩
    · exact NthN.part (j := 0) hd (TakeN.succ .zero) .zero
    · rw [List.getElem_map]; exact l[i].2
theorem i64_of {H : Type} {enc : TypeId × Value → H} {w : World} {base fuel : Nat} {spare : Nat → Bool} {held : Bool} {cs : List Value} {x : DataW H × List MemPlace} (h : DataW.trod enc Tryz.prog w base spare held fuel 3 cs = some x) : ∃ z : Int, cs = i64C z := by
  obtain ⟨a, e, _, _⟩ := DataW.trod_int Tryz.underlying3 h
  exact ⟨a, e⟩
end Go.Proofs.YthmbgodcpgkkeaaGreat
end
section
namespace Go.Proofs.YthmbgodcpgkkeaaGreat
theorem fn_and {a b : Bool} (ha : a = true) (hb : b = true) : (a && b) = true := by rw [ha, hb]; rfl
theorem fn_0 : (Rows.buildNoneRow.wf (OpenSpec.ofChange Rows.buildNoneSpec)) = true := by kernel_rfl
theorem fn_1 : (laidOutB Tryz.prog) = true := by kernel_rfl
theorem fn_2 : (mapsRowed Tryz.prog) = true := by kernel_rfl
theorem fn_3 : (Tryz.f5.params.all (Tryz.prog.readableRec ·)) = true := by kernel_rfl
theorem fn_4 : (namedTie Tryz.prog Rows.buildNoneRow.named Rows.buildNoneSpec.vars) = true := by kernel_rfl
theorem fn_5 : ((Rows.buildNoneRow.stops == [])) = true := by kernel_rfl
theorem fn_6 : ((Tryz.prog.stops == [])) = true := by kernel_rfl
theorem fn_7 : ((Rows.buildNoneRow.knobs == [])) = true := by kernel_rfl
theorem fn_8 : ((Tryz.prog.stopKnobs == [])) = true := by kernel_rfl
theorem fn_9 : ((Rows.buildNoneRow.inPlace == Tryz.prog.inPlace 5)) = true := by kernel_rfl
theorem fn_10 : ((Rows.buildNoneRow.unfollowed == Tryz.prog.unfollowed 5)) = true := by kernel_rfl
theorem fn_11 : ((Rows.buildNoneRow.recurses == Tryz.prog.recurses 5)) = true := by kernel_rfl
theorem fn_12 : ((Rows.buildNoneRow.named == Tryz.prog.varsNamed 5)) = true := by kernel_rfl
theorem fn_13 : ((Rows.buildNoneRow.maps == (Tryz.f5.params.toList ++ Rows.buildNoneSpec.plain.varTypes Tryz.prog).any (Tryz.prog.mapsRec ·))) = true := by kernel_rfl
theorem fn_14 : ((Rows.buildNoneRow.ifaces == (Tryz.f5.params.toList ++ Rows.buildNoneSpec.plain.varTypes Tryz.prog).any (Tryz.prog.ifacesRec ·))) = true := by kernel_rfl
theorem fn_15 : ((Rows.buildNoneRow.mapsOut == Tryz.prog.mapsAmong Tryz.f5.resultTypes.toList)) = true := by kernel_rfl
theorem fn_16 : ((Rows.buildNoneRow.loops == (Tryz.f5.params.toList ++ Rows.buildNoneSpec.plain.varTypes Tryz.prog).any (Tryz.prog.loopsFrom ·))) = true := by kernel_rfl
theorem fn_17 : ((Rows.buildNoneRow.wideKeys == (Tryz.f5.params.toList ++ Rows.buildNoneSpec.plain.varTypes Tryz.prog ++ Tryz.f5.resultTypes.toList).any (Tryz.prog.wideKeysFrom ·))) = true := by kernel_rfl
theorem fn_18 : (Rows.buildNoneSpec.vars.all (Tryz.prog.varReadable ·)) = true := by kernel_rfl
theorem fn_19 : (Tryz.f5.resultTypes.all (fun t => Tryz.prog.readableRec t && decide (t < Tryz.prog.types.size))) = true := by kernel_rfl
theorem fn_20 : ((Rows.buildNoneRow.ifacesOut == Tryz.f5.resultTypes.toList.any (Tryz.prog.ifacesRec ·))) = true := by kernel_rfl
theorem fn_21 : ((Rows.buildNoneRow.loopsOut == Tryz.f5.resultTypes.toList.any (Tryz.prog.loopsFrom ·))) = true := by kernel_rfl
theorem fn_22 : ((Rows.buildNoneRow.plainKeys == Tryz.prog.plainKeys)) = true := by kernel_rfl
theorem fn_23 : (Rows.buildNoneRow.shortTexts.isNone) = true := by kernel_rfl
theorem fn_24 : (Tryz.prog.stopsHeard) = true := by kernel_rfl
theorem fn_25 : (Tryz.prog.mayEnter) = true := by kernel_rfl
theorem fn_26 : ((Rows.buildNoneRow.lifted == Tryz.prog.liftsFinal)) = true := by kernel_rfl
theorem fn_27 : ((Tryz.prog.make == some Rows.buildNoneRow.make)) = true := by kernel_rfl
theorem fn_28 : ((Rows.buildNoneRow.kinds == (if Rows.buildNoneRow.domain.isEmpty then [] else Tryz.f5.params.toList.map fun t => match Tryz.prog.underlying t with | some (.int k) => some k | _ => none))) = true := by kernel_rfl
theorem fn_29 : ((Rows.buildNoneRow.pinned == Rows.buildNoneRow.pinnedBy)) = true := by kernel_rfl
theorem fn_30 : ((Rows.buildNoneRow.veiled == (Tryz.f5.params.toList ++ Rows.buildNoneSpec.plain.varTypes Tryz.prog ++ Tryz.f5.resultTypes.toList).any (Tryz.prog.veiledRec ·))) = true := by kernel_rfl
theorem fn_31 : (Rows.buildNoneRow.veiledFits Tryz.prog Tryz.f5.params.toList (Tryz.f5.params.toList ++ Rows.buildNoneSpec.plain.varTypes Tryz.prog ++ Tryz.f5.resultTypes.toList)) = true := by kernel_rfl
end Go.Proofs.YthmbgodcpgkkeaaGreat
end
section
namespace Go.Proofs.YthmbgodcpgkkeaaGreat
open Go.ChangeShapes Go.WideShapes Go.ChangeAt Go.RowKit Go.Deep
set_option maxRecDepth 100000 in
theorem none_contract (H : Type) (enc : TypeId × Value → H) (W : World) (base : Nat) (args : Array Value) (ds gs : List (DataW H)) (before : List MemPlace)
    (hval : ∀ (j : Nat) t v, Tryz.f5.params[j]? = some t → args[j]? = some v → Value.okWide Tryz.prog W .any base t v)
    (hW : DataW.Whole enc Tryz.prog Tryz.f5.params.toList Rows.buildNoneSpec.vars false W args.toList ds gs before) :
    Calls Tryz.prog 5 args W fun e W' => ∃ v, e = .returned v ∧ Rows.buildNoneSpec.post enc Tryz.prog Tryz.f5 false true false false W args v W' := by
  have hW' := hW
  obtain ⟨p, q, hA0, hV, rfl, hfz, hnd⟩ := hW
  have hA : DataW.TrodAll enc Tryz.prog W 0 (fun _ => true) true Tryz.f5.params.toList args.toList ds p := hA0
  rw [Tryz.params5] at hA hval
  obtain ⟨v0, vs0, d0, ds0, p0, q0, hargs, rfl, rfl, h0, r0⟩ := trodAll_cons hA
  obtain ⟨v1, vs1, d1, ds1, p1, q1, rfl, rfl, rfl, h1, r1⟩ := trodAll_cons r0
  obtain ⟨v2, vs2, d2, ds2, p2, q2, rfl, rfl, rfl, h2, r2⟩ := trodAll_cons r1
  obtain ⟨v3, vs3, d3, ds3, p3, q3, rfl, rfl, rfl, h3, r3⟩ := trodAll_cons r2
  obtain ⟨rfl, rfl, rfl⟩ := trodAll_nil r3
  obtain rfl : args = #[v0, v1, v2, v3] := by cases args; simp_all
  obtain ⟨rfl, rfl⟩ := trodVars_none hV
  clear hA0 hA r0 r1 r2 r3
  have k0 := hval 0 _ v0 rfl rfl
  have k1 := hval 1 _ v1 rfl rfl
  have k2 := hval 2 _ v2 rfl rfl
  have k3 := hval 3 _ v3 rfl rfl
  obtain ⟨⟨c0⟩, rfl, _⟩ := okWide_struct Tryz.underlying24 k0
  obtain ⟨_, h0⟩ := h0
  obtain ⟨c, e0⟩ := cfg_of h0
  obtain rfl : c0 = c.v := e0
  obtain ⟨pad, progs, pcap, rfl, hp1, hp2, hp⟩ := slice_of (sz := 1) (PrB.f (W := W)) (fun _ => rfl) (by decide) Tryz.underlying91 (by kernel_rfl) (fun _ _ _ h => progB_of h) k1 h1
  obtain ⟨rad, rounds, rcap, rfl, hr1, hr2, hr⟩ := slice_of (sz := 1) (RdR.f (W := W)) (fun _ => rfl) (by decide) Tryz.underlying109 (by kernel_rfl) (fun _ _ _ h => round_of h) k2 h2
  obtain ⟨mad, makers, mcap, rfl, hm1, hm2, hm⟩ := slice_of (sz := 1) i64C i64C_len (by decide) Tryz.underlying110 (by kernel_rfl) (fun _ _ _ h => i64_of h) k3 h3
  have hmx : maxLen = 9223372036854775807 := by decide
  have hpv := (progsB_of progs hp1 hp2 hp).1
  have hrv := rounds_of rounds hr1 hr2 hr
  have hfin : Tri Tryz.prog 5 #[.agg ⟨c.v⟩, .slice pad progs.length pcap, .slice rad rounds.length rcap, .slice mad makers.length mcap] [exact' W] fun r L => r = .bool true ∧ L = [exact' W] := by
    by_cases hb : few14B { c with first := 0 } (progs.map fun p => p.1.2) = true ∧ (rounds.map fun p => p.1.2).length ≤ 5 ∧ (rounds.map fun p => p.1.2).length ≤ makers.length
    · exact none_near hpv hrv ⟨mad, mcap, rfl, hm1, hm⟩ (by omega) hb.1 hb.2.1 hb.2.2
    · exact none_far hpv hrv (by omega) hb
  refine (tri_run (Q := fun v => v = .bool true) hfin).mono ?_
  rintro e W' ⟨v, rfl, rfl, hs, ho⟩
  exact ⟨_, rfl, post_true laid_ hW' rfl rfl Tryz.underlying4 (by kernel_rfl) rfl hs ho⟩
set_option maxRecDepth 100000 in
theorem none_lifted (os : Os) (started : os.Started) (H : Type) (enc : TypeId × Value → H) :
    ReturnsInHanded {} Tryz.checked os 5 .any (Rows.buildNoneSpec.pre6 enc Tryz.prog Tryz.f5 Rows.buildNoneRow.domain false) (Rows.buildNoneSpec.post enc Tryz.prog Tryz.f5 false true false false) := by
  refine returnsInHanded_of_change (C := Tryz.checked) own_ started (by kernel_rfl) Tryz.func5
    (ChangeSpec.witness6 (enc := enc) (C := Tryz.checked) false ⟨#[], #[.agg #[.int .i64 0, .int .i64 0, .int .i64 0, .int .i64 0, .int .u64 0, .int .u64 0], .slice none 0 0, .slice none 0 0, .slice none 0 0], []⟩ 8 (by kernel_rfl) (by kernel_rfl) (by kernel_rfl) (by kernel_rfl)) ?_
  intro W base args ds gs before hval hW _ _
  exact none_contract H enc W base args ds gs before hval hW
set_option maxRecDepth 100000 in
theorem fn_closed : joinedFacts Tryz.prog 5 Tryz.f5 Rows.buildNoneSpec Rows.buildNoneRow = true :=
  (fn_and (fn_and (fn_and (fn_and (fn_and (fn_and (fn_and (fn_and (fn_and (fn_and (fn_and (fn_and (fn_and (fn_and (fn_and (fn_and (fn_and (fn_and (fn_and (fn_and (fn_and (fn_and (fn_and (fn_and (fn_and (fn_and (fn_and (fn_and (fn_and (fn_and (fn_and fn_0 fn_1) fn_2) fn_3) fn_4) fn_5) fn_6) fn_7) fn_8) fn_9) fn_10) fn_11) fn_12) fn_13) fn_14) fn_15) fn_16) fn_17) fn_18) fn_19) fn_20) fn_21) fn_22) fn_23) fn_24) fn_25) fn_26) fn_27) fn_28) fn_29) fn_30) fn_31)
theorem none_holds : Rows.BuildNoneSaid :=
  OpenClaim.holds_of_wide 5 Tryz.f5 rfl rfl rfl rfl rfl rfl rfl ⟨rfl, rfl, rfl, rfl, rfl⟩ rfl rfl rfl rfl rfl (by kernel_rfl) Tryz.func5 fn_closed
    (of_decide_eq_true (by kernel_rfl)) (by unfold Func.isWrapper; first | (rw [if_pos (by decide +kernel)]; kernel_rfl) | (rw [if_neg (by decide +kernel)]; exact ⟨rfl, rfl⟩))
    (fun os started H enc _ => none_lifted os started H enc)
end Go.Proofs.YthmbgodcpgkkeaaGreat
end
section
namespace Go.Proofs.YthmbgodcpgkkeaaGreat
set_option maxRecDepth 100000
/-- what a memory tells of a row -/
structure ToldR (c : Cfg) (cs : List Cell) (r : BRow) : Prop where
  who : 0 ≤ r.who ∧ r.who < c.threads
  rc : 0 ≤ r.rc ∧ r.rc ≤ 100
  code : (cellI cs (c.at 8 r.who 0)).val = r.rc.toNat
  val : (cellI cs (c.at 9 r.who 0)).val = r.rv
  tag : (cellI cs (c.at 7 r.who 0)).val = r.tag
set_option maxHeartbeats 2000000 in
theorem told14_t (Mb C : Nat) (c : Cfg) (hc : Small c) (M : Pm) {q : HProp} {va : Value} {xs : List RowH} (hx : ListR rowV q va xs) (hn : xs.length ≤ 1000000) (hall : ∀ x ∈ xs, ToldR c M.cs x.1) :
    Tri Tryz.prog 57 #[.agg ⟨c.m⟩, .pointer (some ⟨Mb, 0, none⟩), va] [Mm Mb C M, q] fun v L => v = .bool true ∧ L = [Mm Mb C M, q] := by
  have hat := fun k i j => at_r c hc k i j
  have hpk := fun p => mpeek_p Mb C M p
  unfold Cell.v at hpk
  obtain ⟨xad, xcap, rfl, _⟩ := id hx
  refine Tri.of_body (vs := [_, _, _]) Tryz.func57 rfl rfl fun w0 F => ?_
  repeat' (first | refine Ga ?_ | (refine Gb ?_; intro b) | (refine Gd ?_; intro g cap rest hcap) | (refine Gc ?_; intro ad cap)  | (refine Ge ?_ ?_ <;> (intro h; try (exfalso; omega))) | fail)
  refine St.loopY (Lr := ?Lr1) (ι := { k : Nat // k ≤ xs.length }) (fun x => xs.length - x.1) (fun x => [(17, .int .i64 (x.1 : Int))]) (fun _ => []) ⟨0, Nat.zero_le _⟩ ?hE1 ?hL1 ?round1
  case hE1 => exact Sub.go
  case hL1 => exact Takes.go
  case round1 =>
    rintro ⟨k, hk⟩ IH; dsimp only at hk IH ⊢
    by_cases hlt : k < xs.length
    · obtain ⟨ab, ao, al, al1, rfl, hra, hda, hta⟩ := hx.at' rowV_len k hlt
      have h := hall xs[k] (List.getElem_mem hlt)
      generalize xs[k] = x at hta h
      obtain ⟨⟨who, tag, rc, rv, news⟩, nad, ncp⟩ := x
      obtain ⟨h1, h2, h3, h4, h5⟩ := h
      unfold rowV at hta
      dsimp only at hta h1 h2 h3 h4 h5
      have hpk8 := hpk (c.at 8 who 0)
      have hpk9 := hpk (c.at 9 who 0)
      have hpk7 := hpk (c.at 7 who 0)
      rw [peek_cell hc M.cs (at_in hc (by decide) (in7 (by decide) h1))] at hpk8 hpk9 hpk7
      have hat8 := hat 8 who 0
      have hat9 := hat 9 who 0
      have hat7 := hat 7 who 0
      generalize cellI M.cs (c.at 8 who 0) = y8 at hpk8 h3
      generalize cellI M.cs (c.at 9 who 0) = y9 at hpk9 h4
      generalize cellI M.cs (c.at 7 who 0) = y7 at hpk7 h5
      generalize c.at 8 who 0 = a8 at hpk8 hat8
      generalize c.at 9 who 0 = a9 at hpk9 hat9
      generalize c.at 7 who 0 = a7 at hpk7 hat7
      obtain ⟨v8, s8⟩ := y8
      obtain ⟨v9, s9⟩ := y9
      obtain ⟨v7, s7⟩ := y7
      dsimp only at h3 h4 h5 hpk8 hpk9 hpk7
      have h3 : (v8 : Int) = rc := by omega
      subst h4 h5
      rw [h3] at hpk8
      repeat' (first | refine Ga ?_ | (refine Gb ?_; intro b) | (refine Gd ?_; intro g cap rest hcap) | (refine Gc ?_; intro ad cap) | refine Gl hat8 ?_ | refine Gl hpk8 ?_ | refine Gl hat9 ?_ | refine Gl hpk9 ?_ | refine Gl hat7 ?_ | refine Gl hpk7 ?_ | (refine Ge ?_ ?_ <;> (intro h; try (exfalso; omega))) | fail)
      all_goals first | (exfalso; omega) | (exfalso; simp at h; omega) | (exfalso; simp at h; done) | skip
      refine IH ⟨k + 1, hlt⟩ (by show xs.length - (k + 1) < xs.length - k; omega) ?_ ?_
      · exact Sub.go
      · exact Ent.go
    · obtain rfl : k = xs.length := by omega
      clear IH
      repeat' (first | refine Ga ?_ | (refine Gb ?_; intro b) | (refine Gd ?_; intro g cap rest hcap) | (refine Gc ?_; intro ad cap)  | (refine Ge ?_ ?_ <;> (intro h; try (exfalso; omega))) | fail)
      all_goals first | (exfalso; omega) | skip
      exact St.d1 Tryz.func57 ⟨_, ⟨rfl, rfl⟩, Ent.go⟩
def vId (v : Value) : Value := v
instance mapAsked : MapTy Tryz.prog 126 Int Value (Value.int .i64) vId (.agg ⟨[.int .i64 0, .int .i64 0, .int .u64 0, .int .u64 0, .int .u64 0, .int .u64 0]⟩) := MapTy.int Tryz.underlying126 Tryz.underlying3 (fun w => by rfl)
/-- what was asked for in a round, so far -/
structure DK (c : Cfg) (n : Nat) (M : Pm) (D : List (Int × Value)) : Prop where
  nod : (D.map (·.1)).Nodup
  key : ∀ k ∈ D.map (·.1), 0 ≤ k ∧ k < c.threads
  get : ∀ u v, mget D u = some v → ∃ p a0 a1 a2 a3 : Nat, v = .agg ⟨Aq.v ⟨u, p, a0, a1, a2, a3⟩⟩ ∧ p ≤ 15 ∧ annC c M.cs u = ⟨p, n + 1⟩ ∧ argsC c M.cs u = [a0, a1, a2, a3]
  no : ∀ u : Int, 0 ≤ u ∧ u < c.threads → mget D u = none → pendB c M.cs u = false
  tag : ∀ u : Int, 0 ≤ u ∧ u < c.threads → (cellI M.cs (c.at 7 u 0)).val ≤ n
section
variable {c : Cfg} {n : Nat} {M : Pm} {D : List (Int × Value)} {ms : Ms}
theorem DK.pend (h : DK c n M D) {u : Int} (hu : 0 ≤ u ∧ u < c.threads) : pendB c M.cs u = (mget D u).isSome := by
  cases e : mget D u with
  | none => exact h.no u hu e
  | some v =>
    obtain ⟨p, a0, a1, a2, a3, _, _, h1, _⟩ := h.get u v e
    have := h.tag u hu
    unfold pendB
    rw [h1]
    dsimp only
    rw [decide_eq_true (show n + 1 ≠ 0 by omega), decide_eq_true (show (cellI M.cs (c.at 7 u 0)).val ≠ n + 1 by omega)]
    rfl
theorem DK.want (hc : Small c) (hr : RN c n M ms) (h : DK c n M D) {who : Int} (hw : 0 ≤ who ∧ who < c.threads) {p : Nat} (hp : p ≤ 15) (a0 a1 a2 a3 : Nat) : DK c n (M.want c who p [a0, a1, a2, a3] (n + 1)) (mput D who (.agg ⟨Aq.v ⟨who, p, a0, a1, a2, a3⟩⟩)) := by
  obtain ⟨fs, ls, hm⟩ := hr.mem
  obtain ⟨g1, g2, g3⟩ := want_ann hc (hm.mem.sz hc) hw p (args := [a0, a1, a2, a3]) rfl (n + 1)
  have htag : ∀ u : Int, 0 ≤ u ∧ u < c.threads → cellI (M.want c who p [a0, a1, a2, a3] (n + 1)).cs (c.at 7 u 0) = cellI M.cs (c.at 7 u 0) := fun u hu => g2 _ (at_in hc (by decide) (in7 (by decide) hu))
  refine ⟨gput_nod h.nod, fun k hk => ?_, fun u v e => ?_, fun u hu e => ?_, fun u hu => ?_⟩
  · rw [gput_keys] at hk
    split at hk
    · exact h.key k hk
    · rcases List.mem_append.1 hk with hk | hk
      · exact h.key k hk
      · rw [List.mem_singleton.1 hk]; exact hw
  · rw [gput] at e
    by_cases ew : who = u
    · subst ew
      rw [if_pos rfl] at e
      injection e with e
      subst e
      obtain ⟨k1, k2⟩ := g3 who hw
      rw [if_pos rfl] at k1 k2
      exact ⟨p, a0, a1, a2, a3, rfl, hp, k1, k2⟩
    · rw [if_neg ew] at e
      obtain ⟨p', b0, b1, b2, b3, e1, e2, e3, e4⟩ := h.get u v e
      have hu := h.key u (gkey e)
      obtain ⟨k1, k2⟩ := g3 u hu
      rw [if_neg (Ne.symm ew)] at k1 k2
      exact ⟨p', b0, b1, b2, b3, e1, e2, k1.trans e3, k2.trans e4⟩
  · rw [gput] at e
    by_cases ew : who = u
    · rw [if_pos ew] at e; cases e
    · rw [if_neg ew] at e
      have h1 := h.no u hu e
      obtain ⟨k1, _⟩ := g3 u hu
      rw [if_neg (Ne.symm ew)] at k1
      have k1 : annC c (M.want c who p [a0, a1, a2, a3] (n + 1)).cs u = annC c M.cs u := k1
      unfold pendB at h1 ⊢
      rw [k1, htag u hu]
      exact h1
  · rw [htag u hu]; exact h.tag u hu
theorem DK.zero (hp : NoPend c M) (ht : ∀ u : Int, 0 ≤ u ∧ u < c.threads → (cellI M.cs (c.at 7 u 0)).val ≤ n) : DK c n M [] :=
  ⟨List.nodup_nil, fun k hk => (by cases hk), fun u v e => (by cases e), fun u hu _ => hp u hu.1 hu.2, ht⟩
theorem mget_no {κ β : Type} [DecidableEq κ] {u : κ} : ∀ {D : List (κ × β)}, mget D u = none → ¬ u ∈ D.map (·.1)
  | [], _, h => by cases h
  | (a, y) :: D, e, h => by
    unfold mget at e
    split at e
    · cases e
    · next hne =>
      rw [List.map_cons, List.mem_cons] at h
      rcases h with h | h
      · exact hne h.symm
      · exact mget_no e h
theorem mem_isSome {u : Int} : (mget D u).isSome = true ↔ u ∈ D.map (·.1) := by
  constructor
  · intro h
    obtain ⟨v, e⟩ := Option.isSome_iff_exists.1 h
    exact gkey e
  · intro h
    cases e : mget D u with
    | some v => rfl
    | none =>
      exact absurd h (mget_no e)
/-- as many rows as asks -/
theorem DK.len (h : DK c n M D) (ht : 0 ≤ c.threads) {rows : List BRow} (hw : rows.map (·.who) = ((List.range c.threads.toNat).map fun k : Nat => (k : Int)).filter (pendB c M.cs)) : rows.length = D.length := by
  have hnd : ((List.range c.threads.toNat).map fun k : Nat => (k : Int)).Nodup := by
    refine List.Pairwise.map _ (fun a b hab => ?_) (List.nodup_range (n := c.threads.toNat))
    intro e; exact hab (by omega)
  have e1 : rows.length = (((List.range c.threads.toNat).map fun k : Nat => (k : Int)).filter (pendB c M.cs)).length := by rw [← hw, List.length_map]
  have hmem : ∀ u : Int, u ∈ ((List.range c.threads.toNat).map fun k : Nat => (k : Int)).filter (pendB c M.cs) ↔ u ∈ D.map (·.1) := fun u => by
    rw [List.mem_filter, List.mem_map]
    constructor
    · rintro ⟨⟨k, hk, rfl⟩, hp⟩
      have := List.mem_range.1 hk
      rw [h.pend ⟨by omega, by omega⟩] at hp
      exact mem_isSome.1 hp
    · intro hk
      have hu := h.key u hk
      refine ⟨⟨u.toNat, List.mem_range.2 (by omega), by omega⟩, ?_⟩
      rw [h.pend hu]
      exact mem_isSome.2 hk
  have l1 := sub_len (hnd.filter (pendB c M.cs)) fun x hx => (hmem x).1 hx
  have l2 := sub_len h.nod fun x hx => (hmem x).2 hx
  rw [List.length_map] at l1 l2
  omega
/-- rows rise -/
theorem rows_rise {rows : List BRow} {T : Nat} {f : Int → Bool} (hw : rows.map (·.who) = ((List.range T).map fun k : Nat => (k : Int)).filter f) {i j : Nat} (hij : i < j) (hj : j < rows.length) : (rows[i]'(by omega)).who < rows[j].who := by
  have hp : (rows.map (·.who)).Pairwise (· < ·) := by
    rw [hw]
    refine List.Pairwise.filter _ ?_
    exact List.Pairwise.map _ (fun a b (hab : a < b) => by omega) List.pairwise_lt_range
  have := List.pairwise_iff_getElem.1 hp i j (by rw [List.length_map]; omega) (by rw [List.length_map]; exact hj) hij
  simpa using this
end
end Go.Proofs.YthmbgodcpgkkeaaGreat
end
