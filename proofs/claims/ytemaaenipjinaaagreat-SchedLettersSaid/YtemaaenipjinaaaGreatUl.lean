/-
  Package tumblerlaw16: SchedLetters.
-/
import Derived.Test.YtemaaenipjinaaaGreatUw
import Derived.Test.YtemaaenipjinaaaGreatFs
import Derived.Test.YtemaaenipjinaaaGreatSup2
namespace Go.Proofs.YtemaaenipjinaaaGreat
set_option maxRecDepth 100000
theorem letlaw_few (c : Cfg) (q0 : HProp) (pv cv : Value) (progs : Progs) (calls : List (List Jb)) (hpv : ProgsG q0 pv progs) (hcv : CallsG q0 cv calls) (kad : Option Addr) (n kcap : Nat) (noise : ByteArray) (hb : ¬ (few16B c progs calls n = true ∧ noise.data.size ≤ 100)) :
    Tri Tryz.prog 8 #[.agg ⟨c.v⟩, pv, cv, .slice kad n kcap, .string noise] [q0] (lawQ q0) := by
  have hfew := few16_r c q0 pv cv progs calls hpv hcv kad n kcap
  have hal := alive16_t
  cases hb1 : few16B c progs calls n with
  | false =>
    rw [hb1] at hfew
    refine Tri.of_body (vs := [_, _, _, _, _]) Tryz.func8 rfl rfl fun w0 F => ?_
    repeat' (first | refine Ga ?_ | (refine Gb ?_; intro b) | (refine Gd ?_; intro g cap rest hcap) | (refine Gc ?_; intro ad cap) | (refine St.draw (id := 31) [(0, 0), (1, 0), (2, 0), (3, 0), (4, 0), (5, 0), (6, 0), (7, 0), (8, 1), (9, 0), (10, 0), (11, 0), (12, 1), (13, 0), (14, 0)] [] mixed (by kernel_rfl) ?_)| refine Gl hfew ?_ | (refine Gt hal ?_; rintro _ _ ⟨rfl, rfl⟩) | (refine Ge ?_ ?_ <;> (intro h; try (exfalso; omega))) | fail)
    refine St.d1 Tryz.func8 ⟨_, ⟨rfl, rfl⟩, Ent.go⟩
  | true =>
    rw [hb1] at hfew
    have hbig : ¬ noise.data.size ≤ 100 := fun h => hb ⟨hb1, h⟩
    refine Tri.of_body (vs := [_, _, _, _, _]) Tryz.func8 rfl rfl fun w0 F => ?_
    repeat' (first | refine Ga ?_ | (refine Gb ?_; intro b) | (refine Gd ?_; intro g cap rest hcap) | (refine Gc ?_; intro ad cap) | (refine St.draw (id := 31) [(0, 0), (1, 0), (2, 0), (3, 0), (4, 0), (5, 0), (6, 0), (7, 0), (8, 1), (9, 0), (10, 0), (11, 0), (12, 1), (13, 0), (14, 0)] [] mixed (by kernel_rfl) ?_)| refine Gl hfew ?_ | (refine Gt hal ?_; rintro _ _ ⟨rfl, rfl⟩) | (refine Ge ?_ ?_ <;> (intro h; try (exfalso; omega))) | fail)
    all_goals first | (exfalso; omega) | skip
    refine St.d1 Tryz.func8 ⟨_, ⟨rfl, rfl⟩, Ent.go⟩
theorem letlaw_bad (c : Cfg) (q0 : HProp) (pv cv : Value) (progs : Progs) (calls : List (List Jb)) (hpv : ProgsG q0 pv progs) (hcv : CallsG q0 cv calls) (kad : Option Addr) (n kcap : Nat) (noise : ByteArray) (hb : few16B c progs calls n = true ∧ noise.data.size ≤ 100) (hn : ¬ (c.right = true ∧ (calls.length : Int) = c.threads)) :
    Tri Tryz.prog 8 #[.agg ⟨c.v⟩, pv, cv, .slice kad n kcap, .string noise] [q0] (lawQ q0) := by
  have hfew := few16_r c q0 pv cv progs calls hpv hcv kad n kcap
  have hal := alive16_t
  rw [hb.1] at hfew
  have hb2 := hb.2
  obtain ⟨pad, pcap, rfl, _⟩ := hpv
  obtain ⟨cad, ccap, rfl, _⟩ := hcv
  have hnb := sdnew_bad c pad progs.length pcap cad calls.length ccap hn
  refine Tri.of_body (vs := [_, _, _, _, _]) Tryz.func8 rfl rfl fun w0 F => ?_
  repeat' (first | refine Ga ?_ | (refine Gb ?_; intro b) | (refine Gd ?_; intro g cap rest hcap) | (refine Gc ?_; intro ad cap) | (refine St.draw (id := 31) [(0, 0), (1, 0), (2, 0), (3, 0), (4, 0), (5, 0), (6, 0), (7, 0), (8, 1), (9, 0), (10, 0), (11, 0), (12, 1), (13, 0), (14, 0)] [] mixed (by kernel_rfl) ?_)| refine Gl hfew ?_ | (refine Gt hal ?_; rintro _ _ ⟨rfl, rfl⟩) | (refine Gt hnb ?_; rintro _ _ ⟨rfl, rfl⟩) | (refine Ge ?_ ?_ <;> (intro h; try (exfalso; omega))) | fail)
  all_goals first | (exfalso; omega) | skip
  refine St.d1 Tryz.func8 ⟨_, ⟨rfl, rfl⟩, Ent.go⟩
/-- the picks as the law takes them -/
def mks (l : List Int) : List Nat := l.map msk
def mkI (l : List Int) : List Int := (mks l).map Int.ofNat
set_option maxHeartbeats 4000000 in
theorem letlaw_good (c : Cfg) (q0 : HProp) (pv cv : Value) (progs : Progs) (calls : List (List Jb)) (hpv : ProgsG q0 pv progs) (hcv : CallsG q0 cv calls) (hja : ∀ l ∈ calls, ∀ j ∈ l, j.args.length = 4) (kad : Option Addr) (kcap : Nat) (picks : List Int) (hk : RdS dI q0 kad picks) (noise : ByteArray) (hb : few16B c progs calls picks.length = true ∧ noise.data.size ≤ 100) (hok : c.right = true) (hn : (calls.length : Int) = c.threads) :
    Tri Tryz.prog 8 #[.agg ⟨c.v⟩, pv, cv, .slice kad picks.length kcap, .string noise] [q0] (lawQ q0) := by
  have hfew := few16_r c q0 pv cv progs calls hpv hcv kad picks.length kcap
  have hal := alive16_t
  rw [hb.1] at hfew
  have hb2 := hb.2
  obtain ⟨f1, f2, f3, f4, f5, f6⟩ := few16_e hb.1
  have hc := Cfg.small hok
  have hcd := of_decide_eq_true hok
  have hf : 0 ≤ c.fuel ∧ c.fuel ≤ 1000 := by omega
  have hlast : c.last ≤ 140737488355328 := by omega
  have ht0 := hc.t0
  have hnw := sdnew_t c q0 pv progs hpv cv calls hcv f4 f1 f2 hok hn
  have hi0 : SdI c progs (Sd.new c calls) := SdI.new hc hn hja
  have hp0 : (Sd.new c calls).picks = 0 := rfl
  have hti : TI c progs (Sd.new c calls) := TI.new hn
  have htr0 : (Sd.new c calls).mem.tr.length = (Sd.new c calls).picks := rfl
  obtain ⟨pad, pcap, rfl, _⟩ := hpv
  obtain ⟨cad, ccap, rfl, _⟩ := hcv
  refine Tri.of_body (vs := [_, _, _, _, _]) Tryz.func8 rfl rfl fun w0 F => ?_
  repeat' (first | refine St.halt 6 ?_ |refine Ga ?_ | (refine Gb ?_; intro b) | (refine Gd ?_; intro g cap rest hcap) | (refine Gc ?_; intro ad cap) | (refine St.draw (id := 31) [(0, 0), (1, 0), (2, 0), (3, 0), (4, 0), (5, 0), (6, 0), (7, 0), (8, 1), (9, 0), (10, 0), (11, 0), (12, 1), (13, 0), (14, 0)] [] mixed (by kernel_rfl) ?_)| refine Gl hfew ?_ | (refine Gt hal ?_; rintro _ _ ⟨rfl, rfl⟩) | (refine Gt hnw ?_; rintro _ _ ⟨Sa, pva, Ha, hpa, rfl, rfl⟩) | (refine Ge ?_ ?_ <;> (intro h; try (exfalso; omega))) | fail)
  all_goals first | (exfalso; omega) | skip
  apply Halt.go
  repeat' (first | refine Ga ?_ | (refine Gb ?_; intro b) | (refine Gd ?_; intro g cap rest hcap) | (refine Gc ?_; intro ad cap) | (refine St.draw (id := 31) [(0, 0), (1, 0), (2, 0), (3, 0), (4, 0), (5, 0), (6, 0), (7, 0), (8, 1), (9, 0), (10, 0), (11, 0), (12, 1), (13, 0), (14, 0)] [] mixed (by kernel_rfl) ?_) | (refine Gt hnw ?_; rintro _ _ ⟨Sz, pvz, Hz, hpz, rfl, rfl⟩) | (refine Ge ?_ ?_ <;> (intro h; try (exfalso; omega))) | fail)
  all_goals first | (exfalso; omega) | skip
  revert b; intro it
  generalize Sd.new c calls = m0 at hi0 hp0 hti htr0 ⊢
  have hinv := fun ts => runP_inv hc hf hi0 ts
  have hpks := fun ts => runP_picks c progs ts m0
  have htrr := fun ts => hti.run hc hf hi0 htr0 ts
  refine St.loopY (Lr := ?Lr0) (ι := { x : Nat × List Nat // NoL x.2 ∧ x.2.length ≤ x.1 ∧ x.2.length ≤ 100 ∧ x.1 ≤ 104 }) (fun x => 200 - x.1.1) (fun x => [(16, .string (encs x.1.2))]) (fun x => [si it noise x.1.1])
    ⟨(0, []), fun r hr => (by cases hr), Nat.le_refl _, Nat.zero_le _, Nat.zero_le _⟩ ?hE0 ?hL0 ?round0
  case hE0 => exact Sub.go
  case hL0 => exact Takes.go
  case round0 =>
    rintro ⟨⟨pos, oth⟩, hno, hol, ho1, hps⟩ IH0
    dsimp only at hno hol ho1 hps IH0 ⊢
    have hp := dec_pos noise pos
    have hmx := dec_max noise pos
    have hvd := dec_valid noise pos
    have hos : (encs oth).data.size ≤ 4 * oth.length := encs_le oth
    by_cases he : noise.data.size ≤ pos
    · clear IH0 hp hmx hvd
      repeat' (first | refine Ga ?_ | (refine Gb ?_; intro b) | (refine Gd ?_; intro g cap rest hcap) | (refine Gc ?_; intro ad cap) | (refine St.draw (id := 31) [(0, 0), (1, 0), (2, 0), (3, 0), (4, 0), (5, 0), (6, 0), (7, 0), (8, 1), (9, 0), (10, 0), (11, 0), (12, 1), (13, 0), (14, 0)] [] mixed (by kernel_rfl) ?_) | (refine Ge ?_ ?_ <;> (intro h; try (exfalso; omega))) | fail)
      refine St.loopY (Lr := ?Lr1) (ι := { k : Nat // k ≤ picks.length }) (fun x => picks.length - x.1) (fun x => [(86, .int .i64 (x.1 : Int)), (19, .int .i64 ((runP c progs m0 (mkI (picks.take x.1))).picks : Int)), (15, .string (encs (txR oth (mks (picks.take x.1)))))]) (fun x => [SdE Sa c pva (frz Ha) progs (runP c progs m0 (mkI (picks.take x.1)))]) ⟨0, Nat.zero_le _⟩ ?hE1 ?hL1 ?round1
      case hE1 =>
        have z1 : runP c progs m0 (mkI (picks.take 0)) = m0 := by rw [List.take_zero]; rfl
        have z2 : txR oth (mks (picks.take 0)) = [] := by rw [List.take_zero]; rfl
        dsimp only
        rw [z1, z2, hp0]
        exact Sub.go
      case hL1 => exact Takes.go
      case round1 =>
        rintro ⟨k, hk0⟩ IH; dsimp only at hk0 IH ⊢
        by_cases hlt : k < picks.length
        · obtain ⟨bf, fo, lc, l1, rfl, hrd, hdr, htk⟩ := ListR.at (f := dI) (sz := 1) (fun _ => rfl) hk k hlt
          have hnx : picks.take (k + 1) = picks.take k ++ [picks[k]] := List.take_succ_eq_append_getElem hlt
          have hlen : (mks (picks.take k)).length ≤ 600 := by unfold mks; rw [List.length_map, List.length_take]; omega
          have IH := fun E' L' => IH ⟨k + 1, hlt⟩ (E' := E') (L' := L') (by show _ - (k + 1) < _ - k; omega)
          dsimp only at IH
          have e1 : mks (picks.take (k + 1)) = mks (picks.take k) ++ [msk picks[k]] := by unfold mks; rw [hnx, List.map_append]; rfl
          have e2 : mkI (picks.take (k + 1)) = mkI (picks.take k) ++ [(msk picks[k] : Int)] := by unfold mkI; rw [e1, List.map_append]; rfl
          rw [e1, e2, runP_snoc] at IH
          have hand := msk_and picks[k]
          have hmk := msk_le picks[k]
          generalize msk picks[k] = u at hand hmk IH
          generalize picks[k] = t at htk hand
          unfold dI at htk
          have n0 : NthN (fo + (k : Int).toNat * 1) lc _ := NthN.part hdr htk (j := 0) .zero
          generalize mks (picks.take k) = ms at hlen IH ⊢
          have hm := hinv (mkI (picks.take k))
          generalize runP c progs m0 (mkI (picks.take k)) = m at hm IH ⊢
          have hmp := hm.picks
          have hpc := pick_cases c progs m (u : Int)
          have ha := pick_t (Sb := Sa) hc hf hlast hpa hm (u : Int)
          generalize (m.pick c progs (u : Int)) = y at hpc ha IH
          obtain ⟨m2, ok⟩ := y
          dsimp only at hpc ha IH
          by_cases h8 : u < 8
          · have e3 : encs (txR oth (ms ++ [u])) = encs (txR oth ms) ++ (Utf8.encode (97 + (u : Int)) ++ encs oth) := by
              rw [txR_app, encs_app]
              have e4 : txR oth [u] = (97 + u) :: oth := by
                unfold txR
                rw [if_pos h8]
                exact List.append_nil _
              rw [e4, encs_cons, Int.natCast_add]
              rfl
            rw [e3] at IH
            cases ok with
            | true =>
              rw [if_pos rfl] at hpc
              rw [hpc, Int.natCast_add] at IH
              repeat' (first | refine St.halt 23 ?_ |refine Ga ?_ | (refine Gb ?_; intro b) | (refine Gd ?_; intro g cap rest hcap) | (refine Gc ?_; intro ad cap) | (refine St.draw (id := 31) [(0, 0), (1, 0), (2, 0), (3, 0), (4, 0), (5, 0), (6, 0), (7, 0), (8, 1), (9, 0), (10, 0), (11, 0), (12, 1), (13, 0), (14, 0)] [] mixed (by kernel_rfl) ?_) | (refine Gt ha ?_; rintro _ _ ⟨rfl, rfl⟩) | (refine Ge ?_ ?_ <;> (intro h; try (exfalso; omega))) | fail)
              have ht1 := txR_len oth ms
              have ht2 : (encs (txR oth ms)).data.size ≤ 4 * (txR oth ms).length := encs_le _
              have ht3 : ms.length * (oth.length + 1) ≤ 600 * 101 := Nat.mul_le_mul hlen (by omega)
              have hq1 : (Utf8.encode (97 + (u : Int))).data.size ≤ 4 := enc_le (97 + (u : Int))
              have hq2 : (Utf8.encode (97 + (u : Int)) ++ encs oth).data.size = (Utf8.encode (97 + (u : Int))).data.size + (encs oth).data.size := app_dsize _ _
              repeat' (first | refine Ga ?_ | (refine Gb ?_; intro b) | (refine Gd ?_; intro g cap rest hcap) | (refine Gc ?_; intro ad cap) | (refine St.draw (id := 31) [(0, 0), (1, 0), (2, 0), (3, 0), (4, 0), (5, 0), (6, 0), (7, 0), (8, 1), (9, 0), (10, 0), (11, 0), (12, 1), (13, 0), (14, 0)] [] mixed (by kernel_rfl) ?_) | (refine Ge ?_ ?_ <;> (intro h; try (exfalso; omega))) | fail)
              all_goals first | (exfalso; omega) | skip
              refine IH _ _ ?_ ?_
              · exact Sub.go
              · exact Ent.go
            | false =>
              rw [if_neg (by decide)] at hpc
              rw [hpc, Nat.add_zero] at IH
              repeat' (first | refine St.halt 23 ?_ |refine Ga ?_ | (refine Gb ?_; intro b) | (refine Gd ?_; intro g cap rest hcap) | (refine Gc ?_; intro ad cap) | (refine St.draw (id := 31) [(0, 0), (1, 0), (2, 0), (3, 0), (4, 0), (5, 0), (6, 0), (7, 0), (8, 1), (9, 0), (10, 0), (11, 0), (12, 1), (13, 0), (14, 0)] [] mixed (by kernel_rfl) ?_) | (refine Gt ha ?_; rintro _ _ ⟨rfl, rfl⟩) | (refine Ge ?_ ?_ <;> (intro h; try (exfalso; omega))) | fail)
              have ht1 := txR_len oth ms
              have ht2 : (encs (txR oth ms)).data.size ≤ 4 * (txR oth ms).length := encs_le _
              have ht3 : ms.length * (oth.length + 1) ≤ 600 * 101 := Nat.mul_le_mul hlen (by omega)
              have hq1 : (Utf8.encode (97 + (u : Int))).data.size ≤ 4 := enc_le (97 + (u : Int))
              have hq2 : (Utf8.encode (97 + (u : Int)) ++ encs oth).data.size = (Utf8.encode (97 + (u : Int))).data.size + (encs oth).data.size := app_dsize _ _
              repeat' (first | refine Ga ?_ | (refine Gb ?_; intro b) | (refine Gd ?_; intro g cap rest hcap) | (refine Gc ?_; intro ad cap) | (refine St.draw (id := 31) [(0, 0), (1, 0), (2, 0), (3, 0), (4, 0), (5, 0), (6, 0), (7, 0), (8, 1), (9, 0), (10, 0), (11, 0), (12, 1), (13, 0), (14, 0)] [] mixed (by kernel_rfl) ?_) | (refine Ge ?_ ?_ <;> (intro h; try (exfalso; omega))) | fail)
              all_goals first | (exfalso; omega) | skip
              refine IH _ _ ?_ ?_
              · exact Sub.go
              · exact Ent.go
          · have e3 : txR oth (ms ++ [u]) = txR oth ms := by
              rw [txR_app]
              show txR oth ms ++ ((if u < 8 then (97 + u) :: oth else []) ++ []) = _
              rw [if_neg h8, List.append_nil, List.append_nil]
            rw [e3] at IH
            cases ok with
            | true =>
              rw [if_pos rfl] at hpc
              rw [hpc, Int.natCast_add] at IH
              repeat' (first | refine Ga ?_ | (refine Gb ?_; intro b) | (refine Gd ?_; intro g cap rest hcap) | (refine Gc ?_; intro ad cap) | (refine St.draw (id := 31) [(0, 0), (1, 0), (2, 0), (3, 0), (4, 0), (5, 0), (6, 0), (7, 0), (8, 1), (9, 0), (10, 0), (11, 0), (12, 1), (13, 0), (14, 0)] [] mixed (by kernel_rfl) ?_) | (refine Gt ha ?_; rintro _ _ ⟨rfl, rfl⟩) | (refine Ge ?_ ?_ <;> (intro h; try (exfalso; omega))) | fail)
              all_goals first | (exfalso; omega) | skip
              refine IH _ _ ?_ ?_
              · exact Sub.go
              · exact Ent.go
            | false =>
              rw [if_neg (by decide)] at hpc
              rw [hpc, Nat.add_zero] at IH
              repeat' (first | refine Ga ?_ | (refine Gb ?_; intro b) | (refine Gd ?_; intro g cap rest hcap) | (refine Gc ?_; intro ad cap) | (refine St.draw (id := 31) [(0, 0), (1, 0), (2, 0), (3, 0), (4, 0), (5, 0), (6, 0), (7, 0), (8, 1), (9, 0), (10, 0), (11, 0), (12, 1), (13, 0), (14, 0)] [] mixed (by kernel_rfl) ?_) | (refine Gt ha ?_; rintro _ _ ⟨rfl, rfl⟩) | (refine Ge ?_ ?_ <;> (intro h; try (exfalso; omega))) | fail)
              all_goals first | (exfalso; omega) | skip
              refine IH _ _ ?_ ?_
              · exact Sub.go
              · exact Ent.go
        · obtain rfl : k = picks.length := by omega
          clear IH
          rw [List.take_length]
          have hlen : (mks picks).length ≤ 600 := by unfold mks; rw [List.length_map]; omega
          have hm := hinv (mkI picks)
          have hmp := hpks (mkI picks)
          have hmt := htrr (mkI picks)
          have ht1 := txR_len oth (mks picks)
          have ht2 : (encs (txR oth (mks picks))).data.size ≤ 4 * (txR oth (mks picks)).length := encs_le _
          have ht3 : (mks picks).length * (oth.length + 1) ≤ 600 * 101 := Nat.mul_le_mul hlen (by omega)
          have hpl1 := play_t (Sb := Sz) hc hf hlast hpz hi0 (encs (txR oth (mks picks))) (by omega)
          have hft := fold_tx hc hf hno (mks picks) hi0
          rw [hp0] at hft
          rw [playM_encs c progs m0 (txR_ok hno (mks picks)), hft] at hpl1
          have hpl1 : Tri Tryz.prog 46 #[.pointer (some ⟨Sz, 0, none⟩), .string (encs (txR oth (mks picks)))] [SdE Sz c pvz (frz Hz) progs m0]
              fun r L => r = .int .i64 ((runP c progs m0 (mkI picks)).picks : Int) ∧ L = [SdE Sz c pvz (frz Hz) progs (runP c progs m0 (mkI picks))] := hpl1
          have hmkl : (mkI picks).length = picks.length := by unfold mkI mks; rw [List.length_map, List.length_map]
          rw [hmkl] at hmp
          generalize runP c progs m0 (mkI picks) = m at hm hmp hmt hpl1 ⊢
          have hpl2 := play_t (Sb := Sz) hc hf hlast hpz hm (encs oth) (by omega)
          rw [playM_encs c progs m (fun r hr => (hno r hr).2), fold_no hc hm 0 oth hno] at hpl2
          have hpl2 : Tri Tryz.prog 46 #[.pointer (some ⟨Sz, 0, none⟩), .string (encs oth)] [SdE Sz c pvz (frz Hz) progs m]
              fun r L => r = .int .i64 0 ∧ L = [SdE Sz c pvz (frz Hz) progs m] := hpl2
          have hra := records_t (Sb := Sa) (pv := pva) (q := frz Ha) hm
          have hrz := records_t (Sb := Sz) (pv := pvz) (q := frz Hz) hm
          have hpa2 := picks_r (Sb := Sa) (c := c) (pv := pva) (q := frz Ha) (progs := progs) (m := m)
          have hpz2 := picks_r (Sb := Sz) (c := c) (pv := pvz) (q := frz Hz) (progs := progs) (m := m)
          have hrl : m.rows.length ≤ 5400 := by have := hm.rows; omega
          have hwa := rows_s (Sb := Sa) (pv := pva) (q := frz Ha) hm (by omega)
          have hwz := rows_s (Sb := Sz) (pv := pvz) (q := frz Hz) hm (by omega)
          generalize encs (txR oth (mks picks)) = text at hpl1 ⊢
          generalize encs oth = other at hpl2 ⊢
          repeat' (first | refine Ga ?_ | (refine Gb ?_; intro b) | (refine Gd ?_; intro g cap rest hcap) | (refine Gc ?_; intro ad cap) | (refine St.draw (id := 31) [(0, 0), (1, 0), (2, 0), (3, 0), (4, 0), (5, 0), (6, 0), (7, 0), (8, 1), (9, 0), (10, 0), (11, 0), (12, 1), (13, 0), (14, 0)] [] mixed (by kernel_rfl) ?_)| refine Gl hpa2 ?_ | refine Gl hpz2 ?_ | (refine Gt hpl1 ?_; rintro _ _ ⟨rfl, rfl⟩) | (refine Gt hpl2 ?_; rintro _ _ ⟨rfl, rfl⟩) | (refine Gt hwa ?_; rintro _ _ ⟨wa, wca, rsa, hrsa, rfl, rfl⟩) | (refine Ge ?_ ?_ <;> (intro h; try (exfalso; omega))) | fail)
          have hna := sortR_news hm.news hrsa
          have hasa := as16_t (.slice wa rsa.length wca) rsa (by omega)
          repeat' (first | refine Ga ?_ | (refine Gb ?_; intro b) | (refine Gd ?_; intro g cap rest hcap) | (refine Gc ?_; intro ad cap) | (refine St.draw (id := 31) [(0, 0), (1, 0), (2, 0), (3, 0), (4, 0), (5, 0), (6, 0), (7, 0), (8, 1), (9, 0), (10, 0), (11, 0), (12, 1), (13, 0), (14, 0)] [] mixed (by kernel_rfl) ?_) | (refine Gt hasa ?_; rintro _ _ ⟨wa2, wca2, rfl, rfl⟩) | (refine Gt hwz ?_; rintro _ _ ⟨wz, wcz, rsz, hrsz, rfl, rfl⟩) | (refine Ge ?_ ?_ <;> (intro h; try (exfalso; omega))) | fail)
          have hnz := sortR_news hm.news hrsz
          have hasz := as16_t (.slice wz rsz.length wcz) rsz (by omega)
          repeat' (first | refine Ga ?_ | (refine Gb ?_; intro b) | (refine Gd ?_; intro g cap rest hcap) | (refine Gc ?_; intro ad cap) | (refine St.draw (id := 31) [(0, 0), (1, 0), (2, 0), (3, 0), (4, 0), (5, 0), (6, 0), (7, 0), (8, 1), (9, 0), (10, 0), (11, 0), (12, 1), (13, 0), (14, 0)] [] mixed (by kernel_rfl) ?_) | (refine Gt hasz ?_; rintro _ _ ⟨wz2, wcz2, rfl, rfl⟩) | (refine Ge ?_ ?_ <;> (intro h; try (exfalso; omega))) | fail)
          have hsame := same16_r (.slice wa2 rsa.length wca2) (.slice wz2 rsz.length wcz2) rsa rsz (hrsa.trans hrsz.symm) (by omega) hna.2
          repeat' (first | refine Ga ?_ | (refine Gb ?_; intro b) | (refine Gd ?_; intro g cap rest hcap) | (refine Gc ?_; intro ad cap) | (refine St.draw (id := 31) [(0, 0), (1, 0), (2, 0), (3, 0), (4, 0), (5, 0), (6, 0), (7, 0), (8, 1), (9, 0), (10, 0), (11, 0), (12, 1), (13, 0), (14, 0)] [] mixed (by kernel_rfl) ?_)| refine Gl hsame ?_ | (refine Gt hra ?_; rintro _ _ ⟨ra, rca, rfl, rfl⟩) | (refine Gt hrz ?_; rintro _ _ ⟨rz, rcz, rfl, rfl⟩) | (refine Ge ?_ ?_ <;> (intro h; try (exfalso; omega))) | fail)
          refine St.gather (ps := [Row (.slice ra m.recs.length rca) 116 13 m.recs.length (m.recs.flatMap recV), Row (.slice rz m.recs.length rcz) 116 13 m.recs.length (m.recs.flatMap recV)]) Takes.go ?_
          refine St.frz (fun H hH => ?_)
          have hH := star_sat hH
          have hla : ListR recV (frz H) (.slice ra m.recs.length rca) m.recs := ListR.frz rfl hH (.head _)
          have hlz : ListR recV (frz H) (.slice rz m.recs.length rcz) m.recs := ListR.frz rfl hH (.tail _ (.head _))
          have hrs : m.recs.length ≤ 5400 := by have := hm.recs; omega
          have hmst := hm.st
          have hmpk : m.picks ≤ 600 := by omega
          clear hH hra hrz hwa hwz hasa hasz hsame hinv hpks htrr hna hnz
          generalize hrecs : m.recs = recs at hla hlz hrs ⊢
          refine St.loopY (Lr := ?Lr3) (ι := { k : Nat // k ≤ recs.length }) (fun x => recs.length - x.1) (fun x => [(142, .int .i64 (x.1 : Int))]) (fun x => []) ⟨0, Nat.zero_le _⟩ ?hE3 ?hL3 ?round3
          case hE3 => exact Sub.go
          case hL3 => exact Takes.go
          case round3 =>
            rintro ⟨k, hk⟩ IH; dsimp only at hk IH ⊢
            by_cases hlt : k < recs.length
            · obtain ⟨ab, ao, al, al1, rfl, hard, hadr, hatk⟩ := hla.at' (f := recV) (sz := 13) recV_len k hlt
              obtain ⟨zb, zo, zl, zl1, rfl, hzrd, hzdr, hztk⟩ := hlz.at' (f := recV) (sz := 13) recV_len k hlt
              generalize recs[k] = r at hatk hztk
              obtain ⟨p1, p2, ⟨p3, p4⟩, p5, p6, p7, p8, p9, p10⟩ := r
              unfold recV jbV g4 at hatk hztk
              dsimp only [List.cons_append, List.nil_append] at hatk hztk
              have hre := rec_eq p1 p2 p3 (p4.getD 0 0) (p4.getD 1 0) (p4.getD 2 0) (p4.getD 3 0) p5 p6 p7 p8 p9 p10
              repeat' (first | refine Ga ?_ | (refine Gb ?_; intro b) | (refine Gd ?_; intro g cap rest hcap) | (refine Gc ?_; intro ad cap) | (refine St.draw (id := 31) [(0, 0), (1, 0), (2, 0), (3, 0), (4, 0), (5, 0), (6, 0), (7, 0), (8, 1), (9, 0), (10, 0), (11, 0), (12, 1), (13, 0), (14, 0)] [] mixed (by kernel_rfl) ?_) | (refine Ge ?_ ?_ <;> (intro h; try (exfalso; omega))) | fail)
              all_goals first | (exfalso; omega) | (exfalso; simp at h; done) | skip
              refine IH ⟨k + 1, hlt⟩ (by show _ - (k + 1) < _ - k; omega) ?_ ?_
              · exact Sub.go
              · exact Ent.go
            · clear IH
              refine St.conv ?_ (Sub.refl _) (Ent.of_take (p := SdE Sa c pva (frz Ha) progs m) Take.go)
              refine St.ex_out (fun x => ?_)
              have hme := sdmem_r Sa x.Mb c pva x.Tb x.xs.length x.cap m.picks (.slice x.rad m.recs.length x.rcap) (.slice x.wad x.rs.length x.wcap)
              have hto := mtotal_r x.Mb x.C m.mem hmst
              rw [hmt] at hto
              unfold sdL
              dsimp only [List.cons_append, List.nil_append]
              repeat' (first | refine Ga ?_ | (refine Gb ?_; intro b) | (refine Gd ?_; intro g cap rest hcap) | (refine Gc ?_; intro ad cap) | (refine St.draw (id := 31) [(0, 0), (1, 0), (2, 0), (3, 0), (4, 0), (5, 0), (6, 0), (7, 0), (8, 1), (9, 0), (10, 0), (11, 0), (12, 1), (13, 0), (14, 0)] [] mixed (by kernel_rfl) ?_)| refine Gl hme ?_ | refine Gl hto ?_ | (refine Ge ?_ ?_ <;> (intro h; try (exfalso; omega))) | fail)
              all_goals first | (exfalso; omega) | (exfalso; simp at h; done) | skip
              (first | refine St.dn Tryz.func8 ⟨?_, rfl⟩ Ent.go | refine St.fl Tryz.func8 ⟨?_, rfl⟩ Ent.go)
              all_goals first | rfl | (simp only [BEq.rfl]; rfl)
    · by_cases hin : (Utf8.decode noise pos).1 < 97 ∨ 104 < (Utf8.decode noise pos).1
      · have hno2 : NoL (oth ++ [(Utf8.decode noise pos).1]) := fun r hr => by
          rcases List.mem_append.1 hr with hr | hr
          · exact hno r hr
          · obtain rfl := List.mem_singleton.1 hr
            exact ⟨by omega, hvd⟩
        have hen : encs (oth ++ [(Utf8.decode noise pos).1]) = encs oth ++ Utf8.encode ((Utf8.decode noise pos).1 : Int) := by rw [encs_app, encs_one]
        have hq1 : (Utf8.encode ((Utf8.decode noise pos).1 : Int)).data.size ≤ 4 := enc_le ((Utf8.decode noise pos).1 : Int)
        generalize hdec : Utf8.decode noise pos = d at hp hmx hin hno2 hen hq1
        obtain ⟨cc, wd⟩ := d
        have hw4 : wd ≤ 4 := by
          have h := congrArg Prod.snd hdec
          rw [← show (Utf8.decode noise pos).2 = wd from h]
          unfold Utf8.decode
          dsimp only
          repeat' split
          all_goals (dsimp only; omega)
        dsimp only at hp hmx hin hno2 hen hq1
        repeat' (first | refine Ga ?_ | (refine Gb ?_; intro b) | (refine Gd ?_; intro g cap rest hcap) | (refine Gc ?_; intro ad cap) | (refine St.draw (id := 31) [(0, 0), (1, 0), (2, 0), (3, 0), (4, 0), (5, 0), (6, 0), (7, 0), (8, 1), (9, 0), (10, 0), (11, 0), (12, 1), (13, 0), (14, 0)] [] mixed (by kernel_rfl) ?_) | (refine Ge ?_ ?_ <;> (intro h; try (exfalso; omega))) | fail)
        all_goals first | (exfalso; omega) | skip
        all_goals
          refine IH0 ⟨(pos + wd, oth ++ [cc]), hno2, by dsimp only; rw [List.length_append]; show oth.length + 1 ≤ _; omega, by dsimp only; rw [List.length_append]; show oth.length + 1 ≤ _; omega, by dsimp only; omega⟩ (by show 200 - (pos + wd) < 200 - pos; omega) ?_ ?_
          · dsimp only; rw [hen]; exact Sub.go
          · exact Ent.go
      · generalize hdec : Utf8.decode noise pos = d at hp hmx hin
        obtain ⟨cc, wd⟩ := d
        have hw4 : wd ≤ 4 := by
          have h := congrArg Prod.snd hdec
          rw [← show (Utf8.decode noise pos).2 = wd from h]
          unfold Utf8.decode
          dsimp only
          repeat' split
          all_goals (dsimp only; omega)
        dsimp only at hp hmx hin
        repeat' (first | refine Ga ?_ | (refine Gb ?_; intro b) | (refine Gd ?_; intro g cap rest hcap) | (refine Gc ?_; intro ad cap) | (refine St.draw (id := 31) [(0, 0), (1, 0), (2, 0), (3, 0), (4, 0), (5, 0), (6, 0), (7, 0), (8, 1), (9, 0), (10, 0), (11, 0), (12, 1), (13, 0), (14, 0)] [] mixed (by kernel_rfl) ?_) | (refine Ge ?_ ?_ <;> (intro h; try (exfalso; omega))) | fail)
        all_goals first | (exfalso; omega) | skip
        refine IH0 ⟨(pos + wd, oth), hno, by dsimp only; omega, ho1, by dsimp only; omega⟩ (by show 200 - (pos + wd) < 200 - pos; omega) ?_ ?_
        · exact Sub.go
        · exact Ent.go
theorem letlaw_t (c : Cfg) (q0 : HProp) (pv cv : Value) (progs : Progs) (calls : List (List Jb)) (hpv : ProgsG q0 pv progs) (hcv : CallsG q0 cv calls) (hja : ∀ l ∈ calls, ∀ j ∈ l, j.args.length = 4) (kad : Option Addr) (kcap : Nat) (picks : List Int) (hk : RdS dI q0 kad picks) (noise : ByteArray) :
    Tri Tryz.prog 8 #[.agg ⟨c.v⟩, pv, cv, .slice kad picks.length kcap, .string noise] [q0] (lawQ q0) := by
  by_cases hb : few16B c progs calls picks.length = true ∧ noise.data.size ≤ 100
  · by_cases hn : c.right = true ∧ (calls.length : Int) = c.threads
    · exact letlaw_good c q0 pv cv progs calls hpv hcv hja kad kcap picks hk noise hb hn.1 hn.2
    · exact letlaw_bad c q0 pv cv progs calls hpv hcv kad picks.length kcap noise hb hn
  · exact letlaw_few c q0 pv cv progs calls hpv hcv kad picks.length kcap noise hb
end Go.Proofs.YtemaaenipjinaaaGreat
