/-
  Package tumblerlaw22: TableRuns.
-/
import Derived.Test.YtphheopbngdhhaaGreatDoorTs4
import Derived.Test.YtphheopbngdhhaaGreatDoorSr
namespace Go.Proofs.YtphheopbngdhhaaGreatDoor
set_option maxRecDepth 100000
theorem decode_rep (S : Nat) (m : Ms) (hm : MsOk m) (root own : Nat) (s : Nat × Nat × Nat) (x : Option Tb) (hr : root < 16) (hrep : Rep m.roots m.blocks root own s x) (hl : ∀ t, x = some t → t.pairs.length ≤ 1000) : Tri Tryz.prog 12 #[.pointer (some ⟨S, 0, none⟩), .int .i64 (root : Int)] [MsE S m]
    fun v L => ∃ pv H, v = .tuple ⟨[pv, .int .i64 (if x.isSome = true then 0 else 4)]⟩ ∧ TaR H pv x ∧ L = [H, MsE S m] := by
  cases x with
  | some t => exact decode_t S m hm root own s t hr hrep (hl t rfl)
  | none =>
    obtain ⟨h0, _, _⟩ := hrep
    have hrt := mroot_r S m (root : Int)
    rw [show rootOf m.roots (root : Int) = 0 by unfold rootOf; rw [if_neg (by omega), Int.toNat_natCast]; exact h0] at hrt
    refine Tri.of_body (vs := [_, _]) Tryz.func12 rfl rfl fun w0 F => ?_
    repeat' (first | refine Ga ?_ | (refine Gb ?_; intro b) | (refine Gd ?_; intro g cap rest hcap) | (refine Gc ?_; intro ad cap) | (refine St.draw (id := 13) [(0, 0), (1, 0), (2, 0), (3, 0), (4, 0), (5, 0), (6, 1), (7, 0), (8, 0), (9, 0), (10, 1), (11, 0), (12, 0), (13, 0), (14, 0), (15, 1), (16, 0), (17, 1), (18, 0), (19, 0)] [] mixed (by kernel_rfl) ?_)| refine Gl hrt ?_ | (refine Ge ?_ ?_ <;> (intro h; try (exfalso; omega))) | fail)
    all_goals first | (exfalso; omega) | skip
    refine St.d1 Tryz.func12 ⟨_, ⟨_, star [], rfl, rfl, rfl⟩, ?_⟩
    exact Ent.trans Ent.go (Ent.star_in [])
theorem lsame2_r (H1 H2 : HProp) (pv xv : Value) (q : Option Tb) (hq : TaR H1 pv q) (hx : XuT H2 xv q) (hln : ∀ y, q = some y → y.pairs.length ≤ 1000) : RTri Tryz.prog 14 #[pv, xv] [H1, H2] (.bool true) :=
  (lsame_r (star [H1, H2]) pv xv q (hq.weak fun b l h => RdC.star (p := H1) (.head _) h) (hx.weak fun b l h => RdC.star (p := H2) (.tail _ (.head _)) h) hln).ent (Ent.star_in [H1, H2] (M := []))
set_option maxHeartbeats 4000000 in
theorem qruns_t (q : HProp) (qv : Value) (root : Nat) (ops : List OpB) (hv : ListR opbV q qv ops) : Tri Tryz.prog 3 #[.int .u64 (root : Int), qv] [q] fun v L => v = .bool true ∧ L = [q] := by
  obtain ⟨oad, ocap, rfl, _, hv⟩ := hv
  by_cases h40 : 40 < ops.length
  · refine Tri.of_body (vs := [_, _]) Tryz.func3 rfl rfl fun w0 F => ?_
    repeat' (first | refine Ga ?_ | (refine Gb ?_; intro b) | (refine Gd ?_; intro g cap rest hcap) | (refine Gc ?_; intro ad cap) | (refine St.drawa (id := 12) [(0, 0), (1, 0), (2, 1), (3, 1), (4, 0), (5, 0), (6, 1), (7, 0), (8, 1), (9, 3)] [(11, 3)] [9, 11] 10 mixed rfl (by intro w; rfl) (by kernel_rfl) ?_) | (refine St.drawT (id := 13) [(0, 1), (1, 0), (2, 1), (3, 1), (4, 0), (5, 1), (6, 0), (7, 1)] (.pick [(8, 3), (9, 0), (10, 0), (11, 0)] (.pick [(12, 2), (13, 2), (14, 3), (15, 3)] .done (.pick [(13, 2), (12, 2), (14, 3), (15, 3)] .done .nope)) (.pick [(12, 2)] (.pick [(8, 3), (9, 0), (10, 0), (11, 0), (13, 2), (14, 3), (15, 3)] .done (.pick [(13, 2), (8, 3), (9, 0), (10, 0), (11, 0), (14, 3), (15, 3)] .done .nope)) (.pick [(13, 2)] (.pick [(8, 3), (9, 0), (10, 0), (11, 0), (12, 2), (14, 3), (15, 3)] .done (.pick [(12, 2), (8, 3), (9, 0), (10, 0), (11, 0), (14, 3), (15, 3)] .done .nope)) .nope))) [8, 14, 15] mixed (by kernel_rfl) ?_) | apply StD.pick | exact StD.nope  | (refine Gt alive_t ?_; rintro _ _ ⟨rfl, rfl⟩) | (refine Ge ?_ ?_ <;> (intro h; try (exfalso; omega))) | fail)
    all_goals first | (exfalso; omega) | skip
    refine St.d1 Tryz.func3 ⟨_, ⟨rfl, rfl⟩, Ent.go⟩
  obtain ⟨c, hand, hc0, hc1⟩ := AndIs.le (root : Int) 15 (by decide)
  rw [show ((15 : Nat) : Int) = 15 from rfl] at hand
  obtain ⟨rt, rfl⟩ : ∃ rt : Nat, c = rt := ⟨c.toNat, by omega⟩
  refine Tri.of_body (vs := [_, _]) Tryz.func3 rfl rfl fun w0 F => ?_
  repeat' (first | refine Ga ?_ | (refine Gb ?_; intro b) | (refine Gd ?_; intro g cap rest hcap) | (refine Gc ?_; intro ad cap) | (refine St.drawa (id := 12) [(0, 0), (1, 0), (2, 1), (3, 1), (4, 0), (5, 0), (6, 1), (7, 0), (8, 1), (9, 3)] [(11, 3)] [9, 11] 10 mixed rfl (by intro w; rfl) (by kernel_rfl) ?_) | (refine St.drawT (id := 13) [(0, 1), (1, 0), (2, 1), (3, 1), (4, 0), (5, 1), (6, 0), (7, 1)] (.pick [(8, 3), (9, 0), (10, 0), (11, 0)] (.pick [(12, 2), (13, 2), (14, 3), (15, 3)] .done (.pick [(13, 2), (12, 2), (14, 3), (15, 3)] .done .nope)) (.pick [(12, 2)] (.pick [(8, 3), (9, 0), (10, 0), (11, 0), (13, 2), (14, 3), (15, 3)] .done (.pick [(13, 2), (8, 3), (9, 0), (10, 0), (11, 0), (14, 3), (15, 3)] .done .nope)) (.pick [(13, 2)] (.pick [(8, 3), (9, 0), (10, 0), (11, 0), (12, 2), (14, 3), (15, 3)] .done (.pick [(12, 2), (8, 3), (9, 0), (10, 0), (11, 0), (14, 3), (15, 3)] .done .nope)) .nope))) [8, 14, 15] mixed (by kernel_rfl) ?_) | apply StD.pick | exact StD.nope  | (refine Gt alive_t ?_; rintro _ _ ⟨rfl, rfl⟩) | (refine Gt mnew_t ?_; rintro _ _ ⟨S, rfl, rfl⟩) | (refine Ge ?_ ?_ <;> (intro h; try (exfalso; omega))) | fail)
  all_goals first | (exfalso; omega) | skip
  revert b; intro B
  refine St.conv ?_ (Sub.refl _) (Ent.star_in [])
  refine St.loopY (Lr := ?Lr1) (ι := { x : Nat × Ms × Option Tb × Nat × (Nat × Nat × Nat) × HProp × Bool × Nat × Option Addr × Nat × Nat // x.1 ≤ ops.length ∧ QInv x.2.1 rt x.2.2.1 x.2.2.2.1 x.2.2.2.2.1 x.1 ∧ XuT x.2.2.2.2.2.1 (.agg ⟨[.bool x.2.2.2.2.2.2.1, .int .u64 (x.2.2.2.2.2.2.2.1 : Int), .slice x.2.2.2.2.2.2.2.2.1 x.2.2.2.2.2.2.2.2.2.1 x.2.2.2.2.2.2.2.2.2.2]⟩) x.2.2.1 }) (fun x => ops.length - x.1.1)
    (fun x => [(26, .int .i64 (x.1.1 : Int))]) (fun x => [MsE S x.1.2.1, x.1.2.2.2.2.2.1, bl B 29 [.bool x.1.2.2.2.2.2.2.1, .int .u64 (x.1.2.2.2.2.2.2.2.1 : Int), .slice x.1.2.2.2.2.2.2.2.2.1 x.1.2.2.2.2.2.2.2.2.2.1 x.1.2.2.2.2.2.2.2.2.2.2]]) ⟨(0, ms0, none, 0, (2, 0, 0), star [], false, 0, none, 0, 0), Nat.zero_le _, qinv0 rt, rfl⟩ ?hE1 ?hL1 ?round1
  case hE1 => exact Sub.go
  case hL1 => exact Takes.go
  case round1 =>
    rintro ⟨⟨k, m, qu, own, sg, H, xp, xn, xad, xm, xcap⟩, hk, hi, hxu⟩ IH; dsimp only at hk hi hxu IH ⊢
    by_cases hlt : k < ops.length
    · obtain ⟨bf, o, l, l1, rfl, hrd, hdr, htk⟩ := ListR.at (f := opbV) (sz := 3) (fun _ => rfl) hv k hlt
      generalize ops[k] = op at htk
      obtain ⟨⟨nm, key, val⟩, harg, hval⟩ := op
      unfold opbV at htk
      dsimp only at htk harg hval
      have hnm := qname_r nm
      by_cases hin : 0 ≤ nm ∧ nm < 6
      · obtain ⟨hn0, hn6⟩ := hin
        obtain ⟨e, h6⟩ := nameM_in hn0 hn6
        rw [e] at hnm
        generalize hj : nm.toNat = j at hnm h6
        have hql : tSize qu ≤ k := hi.n
        have hl1 : ∀ x, qu = some x → x.pairs.length ≤ 1000 := fun x hx => by subst hx; have : x.pairs.length ≤ k := hql; omega
        obtain ⟨r, hr, hran, own', hi'⟩ := hi.step (by omega) j key val h6 (by omega) harg
        have hrun := lrun_t S m hi.ok j h6 rt key val r hr
        obtain ⟨hrc, hrv⟩ := hran.res
        have hrd1 := (rdoes_t j (by omega) H (.agg ⟨[.bool xp, .int .u64 (xn : Int), .slice xad xm xcap]⟩) qu key val hxu hl1).mono (Q' := rdoesV H (doesM j qu key val)) (fun _ _ h => h.v)
        unfold doneV at hrun
        rw [hrc, hrv] at hrun
        clear hrc hrv hran
        generalize runMs m r = m' at hrun hi'
        generalize r.1.steps = st at hrun
        generalize r.1.dw = dw at hrun
        generalize r.1.news = nw at hrun
        generalize stgM sg j qu key val = sg' at hi'
        generalize doesM j qu key val = rr at hrun hi' hrd1
        obtain ⟨qu2, rc, rv⟩ := rr
        unfold rdoesV at hrd1
        dsimp only at hrun hi' hrd1
        have hqn := hi'.n
        have hl2 : ∀ x, qu2 = some x → x.pairs.length ≤ 1000 := fun x hx => by subst hx; have : x.pairs.length ≤ k + 1 := hqn; omega
        have hdec := decode_rep S m' hi'.ok rt own' sg' qu2 (by omega) hi'.rep hl2
        generalize hec : (if qu2.isSome = true then (0 : Int) else 4) = ec at hdec
        obtain ⟨hol, hol2⟩ := hi'.rep.own
        have hbl := hi'.len
        have hhd := handles_t S m' (by omega)
        refine St.joinE (κ := { x : Nat × Nat × Option Addr × Nat × Bool × Nat × Option Addr × Nat × Nat × HProp × Value × HProp // XuT x.2.2.2.2.2.2.2.2.2.1 (.agg ⟨[.bool x.2.2.2.2.1, .int .u64 (x.2.2.2.2.2.1 : Int), .slice x.2.2.2.2.2.2.1 x.2.2.2.2.2.2.2.1 x.2.2.2.2.2.2.2.2.1]⟩) qu2 ∧ TaR x.2.2.2.2.2.2.2.2.2.2.2 x.2.2.2.2.2.2.2.2.2.2.1 qu2 }) (k' := ?kx) (Lr := ?Lr2)
          (fun x => [(9, .pointer (some ⟨x.1.1, 0, none⟩)), (11, .pointer (some ⟨x.1.2.1, 0, none⟩)), (12, x.1.2.2.2.2.2.2.2.2.2.2.1), (13, .int .i64 ec)])
          [MsE S m, H, bl B 29 [.bool xp, .int .u64 (xn : Int), .slice xad xm xcap]]
          (fun x => [MsE S m', x.1.2.2.2.2.2.2.2.2.2.1, bl B 29 [.bool x.1.2.2.2.2.1, .int .u64 (x.1.2.2.2.2.2.1 : Int), .slice x.1.2.2.2.2.2.2.1 x.1.2.2.2.2.2.2.2.1 x.1.2.2.2.2.2.2.2.2.1], x.1.2.2.2.2.2.2.2.2.2.2.2,
            bl x.1.1 37 [.int .i64 rc, .int .u64 (rv : Int), .int .i64 st, .int .i64 dw, .slice x.1.2.2.1 nw.length x.1.2.2.2.1], bl x.1.2.1 34 [.int .i64 rc, .int .u64 (rv : Int)]]) ?tk ?join ?after
        case tk => exact Takes.go
        case join =>
          intro JO
          repeat' (first | refine St.halt 12 ?_ |refine Ga ?_ | (refine Gb ?_; intro b) | (refine Gd ?_; intro g cap rest hcap) | (refine Gc ?_; intro ad cap) | (refine St.drawa (id := 12) [(0, 0), (1, 0), (2, 1), (3, 1), (4, 0), (5, 0), (6, 1), (7, 0), (8, 1), (9, 3)] [(11, 3)] [9, 11] 10 mixed rfl (by intro w; rfl) (by kernel_rfl) ?_) | (refine St.drawT (id := 13) [(0, 1), (1, 0), (2, 1), (3, 1), (4, 0), (5, 1), (6, 0), (7, 1)] (.pick [(8, 3), (9, 0), (10, 0), (11, 0)] (.pick [(12, 2), (13, 2), (14, 3), (15, 3)] .done (.pick [(13, 2), (12, 2), (14, 3), (15, 3)] .done .nope)) (.pick [(12, 2)] (.pick [(8, 3), (9, 0), (10, 0), (11, 0), (13, 2), (14, 3), (15, 3)] .done (.pick [(13, 2), (8, 3), (9, 0), (10, 0), (11, 0), (14, 3), (15, 3)] .done .nope)) (.pick [(13, 2)] (.pick [(8, 3), (9, 0), (10, 0), (11, 0), (12, 2), (14, 3), (15, 3)] .done (.pick [(12, 2), (8, 3), (9, 0), (10, 0), (11, 0), (14, 3), (15, 3)] .done .nope)) .nope))) [8, 14, 15] mixed (by kernel_rfl) ?_) | apply StD.pick | exact StD.nope | refine Gl hnm ?_ | (refine Ge ?_ ?_ <;> (intro h; try (exfalso; omega))) | fail)
          all_goals first | (exfalso; omega) | skip
          apply Halt.go
          revert b; intro Bo
          apply St.seq
          refine St.drawT0 (L0 := [bl Bo 31 [.int .i64 nm, .int .u64 (key : Int), .int .u64 (val : Int)]]) (id := 12) [(0, 0), (1, 0), (2, 1), (3, 1), (4, 0), (5, 0), (6, 1), (7, 0), (8, 1)] (.pick [(9, 3), (10, 2), (11, 3)] .done (.pick [(10, 2), (9, 3), (11, 3)] .done .nope)) [9, 11] mixed (by kernel_rfl) ?_
          repeat' (first | refine St.halt 13 ?_ |refine Ga ?_ | (refine Gb ?_; intro b) | (refine Gd ?_; intro g cap rest hcap) | (refine Gc ?_; intro ad cap) | (refine St.drawa (id := 12) [(0, 0), (1, 0), (2, 1), (3, 1), (4, 0), (5, 0), (6, 1), (7, 0), (8, 1), (9, 3)] [(11, 3)] [9, 11] 10 mixed rfl (by intro w; rfl) (by kernel_rfl) ?_) | (refine St.drawT (id := 13) [(0, 1), (1, 0), (2, 1), (3, 1), (4, 0), (5, 1), (6, 0), (7, 1)] (.pick [(8, 3), (9, 0), (10, 0), (11, 0)] (.pick [(12, 2), (13, 2), (14, 3), (15, 3)] .done (.pick [(13, 2), (12, 2), (14, 3), (15, 3)] .done .nope)) (.pick [(12, 2)] (.pick [(8, 3), (9, 0), (10, 0), (11, 0), (13, 2), (14, 3), (15, 3)] .done (.pick [(13, 2), (8, 3), (9, 0), (10, 0), (11, 0), (14, 3), (15, 3)] .done .nope)) (.pick [(13, 2)] (.pick [(8, 3), (9, 0), (10, 0), (11, 0), (12, 2), (14, 3), (15, 3)] .done (.pick [(12, 2), (8, 3), (9, 0), (10, 0), (11, 0), (14, 3), (15, 3)] .done .nope)) .nope))) [8, 14, 15] mixed (by kernel_rfl) ?_) | apply StD.pick | exact StD.nope | refine Gl hnm ?_ | (refine Gt hrun ?_; rintro _ _ ⟨nad, ncap, rfl, rfl⟩) | (refine Ge ?_ ?_ <;> (intro h; try (exfalso; omega))) | fail)
          all_goals (
            apply Halt.go
            revert b; intro Bd
            apply St.seq
            refine St.drawT0 (L0 := [bl Bo 31 [.int .i64 nm, .int .u64 (key : Int), .int .u64 (val : Int)], bl B 29 [.bool xp, .int .u64 (xn : Int), .slice xad xm xcap]]) (id := 13) [(0, 1), (1, 0), (2, 1), (3, 1), (4, 0), (5, 1), (6, 0), (7, 1)] (.pick [(8, 3), (9, 0), (10, 0), (11, 0)] (.pick [(12, 2), (13, 2), (14, 3), (15, 3)] .done (.pick [(13, 2), (12, 2), (14, 3), (15, 3)] .done .nope)) (.pick [(12, 2)] (.pick [(8, 3), (9, 0), (10, 0), (11, 0), (13, 2), (14, 3), (15, 3)] .done (.pick [(13, 2), (8, 3), (9, 0), (10, 0), (11, 0), (14, 3), (15, 3)] .done .nope)) (.pick [(13, 2)] (.pick [(8, 3), (9, 0), (10, 0), (11, 0), (12, 2), (14, 3), (15, 3)] .done (.pick [(12, 2), (8, 3), (9, 0), (10, 0), (11, 0), (14, 3), (15, 3)] .done .nope)) .nope))) [8, 14, 15] mixed (by kernel_rfl) ?_)
          all_goals repeat' (first | refine St.halt 16 ?_ |refine Ga ?_ | (refine Gb ?_; intro b) | (refine Gd ?_; intro g cap rest hcap) | (refine Gc ?_; intro ad cap) | (refine St.drawa (id := 12) [(0, 0), (1, 0), (2, 1), (3, 1), (4, 0), (5, 0), (6, 1), (7, 0), (8, 1), (9, 3)] [(11, 3)] [9, 11] 10 mixed rfl (by intro w; rfl) (by kernel_rfl) ?_) | (refine St.drawT (id := 13) [(0, 1), (1, 0), (2, 1), (3, 1), (4, 0), (5, 1), (6, 0), (7, 1)] (.pick [(8, 3), (9, 0), (10, 0), (11, 0)] (.pick [(12, 2), (13, 2), (14, 3), (15, 3)] .done (.pick [(13, 2), (12, 2), (14, 3), (15, 3)] .done .nope)) (.pick [(12, 2)] (.pick [(8, 3), (9, 0), (10, 0), (11, 0), (13, 2), (14, 3), (15, 3)] .done (.pick [(13, 2), (8, 3), (9, 0), (10, 0), (11, 0), (14, 3), (15, 3)] .done .nope)) (.pick [(13, 2)] (.pick [(8, 3), (9, 0), (10, 0), (11, 0), (12, 2), (14, 3), (15, 3)] .done (.pick [(12, 2), (8, 3), (9, 0), (10, 0), (11, 0), (14, 3), (15, 3)] .done .nope)) .nope))) [8, 14, 15] mixed (by kernel_rfl) ?_) | apply StD.pick | exact StD.nope | refine Gl hnm ?_ | (refine Gt hrd1 ?_; rintro _ _ ⟨yp, yn, yad, ym, ycap, H3, rfl, hxu3, hmo3, rfl⟩) | (refine Gt hdec ?_; rintro _ _ ⟨pv2, Hd, rfl, hq2, rfl⟩) | (refine Ge ?_ ?_ <;> (intro h; try (exfalso; omega))) | fail)
          all_goals (
            apply Halt.go
            revert b; intro Br2
            revert b; intro Br1
            first
              | (refine JO ⟨(Bd, Br2, nad, ncap, yp, yn, yad, ym, ycap, H3, pv2, Hd), hxu3, hq2⟩ ?_ ?_; exact Sub.go; dsimp only; exact Ent.go)
              | (refine JO ⟨(Bd, Br1, nad, ncap, yp, yn, yad, ym, ycap, H3, pv2, Hd), hxu3, hq2⟩ ?_ ?_; exact Sub.go; dsimp only; exact Ent.go))
        case after =>
          rintro ⟨⟨Bd, Br, nad, ncap, yp, yn, yad, ym, ycap, H3, pv2, Hd⟩, hxu3, hq2⟩
          dsimp only at hxu3 hq2 ⊢
          have hs := lsame2_r Hd H3 _ _ qu2 hq2 hxu3 hl2
          have hne : ¬((!(rc == rc && ((rv : Int) == (rv : Int) && true))) = true) := by simp
          cases qu2 with
          | none =>
            have hol : own' = 0 := hi'.rep.2.1
            obtain rfl : (4 : Int) = ec := hec
            obtain ⟨rfl, rfl, rfl, rfl, rfl⟩ : yp = false ∧ yn = 0 ∧ yad = none ∧ ym = 0 ∧ ycap = 0 := by
              have hx0 : Value.agg ⟨[.bool yp, .int .u64 (yn : Int), .slice yad ym ycap]⟩ = .agg ⟨[.bool false, .int .u64 0, .slice none 0 0]⟩ := hxu3
              simpa using hx0
            repeat' (first | refine Ga ?_ | (refine Gb ?_; intro b) | (refine Gd ?_; intro g cap rest hcap) | (refine Gc ?_; intro ad cap) | (refine St.drawa (id := 12) [(0, 0), (1, 0), (2, 1), (3, 1), (4, 0), (5, 0), (6, 1), (7, 0), (8, 1), (9, 3)] [(11, 3)] [9, 11] 10 mixed rfl (by intro w; rfl) (by kernel_rfl) ?_) | (refine St.drawT (id := 13) [(0, 1), (1, 0), (2, 1), (3, 1), (4, 0), (5, 1), (6, 0), (7, 1)] (.pick [(8, 3), (9, 0), (10, 0), (11, 0)] (.pick [(12, 2), (13, 2), (14, 3), (15, 3)] .done (.pick [(13, 2), (12, 2), (14, 3), (15, 3)] .done .nope)) (.pick [(12, 2)] (.pick [(8, 3), (9, 0), (10, 0), (11, 0), (13, 2), (14, 3), (15, 3)] .done (.pick [(13, 2), (8, 3), (9, 0), (10, 0), (11, 0), (14, 3), (15, 3)] .done .nope)) (.pick [(13, 2)] (.pick [(8, 3), (9, 0), (10, 0), (11, 0), (12, 2), (14, 3), (15, 3)] .done (.pick [(12, 2), (8, 3), (9, 0), (10, 0), (11, 0), (14, 3), (15, 3)] .done .nope)) .nope))) [8, 14, 15] mixed (by kernel_rfl) ?_) | apply StD.pick | exact StD.nope | refine Gl hs ?_ | (refine Gt hhd ?_; rintro _ _ ⟨had, hcap, rfl, rfl⟩) | (refine Ge ?_ ?_ <;> (intro h; try (exfalso; first | omega | contradiction))) | fail)
            all_goals first | (exfalso; omega) | skip
            all_goals refine IH ⟨(k + 1, m', none, own', sg', H3, false, 0, none, 0, 0), hlt, hi', hxu3⟩ (by show ops.length - (k + 1) < ops.length - k; omega) ?_ ?_
            all_goals first | (exact Sub.go; done) | (exact Ent.go; done) | skip
          | some y =>
            have hol : own' ≤ y.pairs.length + 3 := hol
            have hol2 : y.pairs.length + 2 ≤ own' := hol2 (fun h => by cases h)
            obtain rfl : (0 : Int) = ec := hec
            obtain ⟨hym, hyp⟩ := hxu3.len
            have hym : ym = y.pairs.length := hym
            obtain rfl : yp = true := hyp
            subst hym
            have hqn : y.pairs.length ≤ k + 1 := hqn
            repeat' (first | refine Ga ?_ | (refine Gb ?_; intro b) | (refine Gd ?_; intro g cap rest hcap) | (refine Gc ?_; intro ad cap) | (refine St.drawa (id := 12) [(0, 0), (1, 0), (2, 1), (3, 1), (4, 0), (5, 0), (6, 1), (7, 0), (8, 1), (9, 3)] [(11, 3)] [9, 11] 10 mixed rfl (by intro w; rfl) (by kernel_rfl) ?_) | (refine St.drawT (id := 13) [(0, 1), (1, 0), (2, 1), (3, 1), (4, 0), (5, 1), (6, 0), (7, 1)] (.pick [(8, 3), (9, 0), (10, 0), (11, 0)] (.pick [(12, 2), (13, 2), (14, 3), (15, 3)] .done (.pick [(13, 2), (12, 2), (14, 3), (15, 3)] .done .nope)) (.pick [(12, 2)] (.pick [(8, 3), (9, 0), (10, 0), (11, 0), (13, 2), (14, 3), (15, 3)] .done (.pick [(13, 2), (8, 3), (9, 0), (10, 0), (11, 0), (14, 3), (15, 3)] .done .nope)) (.pick [(13, 2)] (.pick [(8, 3), (9, 0), (10, 0), (11, 0), (12, 2), (14, 3), (15, 3)] .done (.pick [(12, 2), (8, 3), (9, 0), (10, 0), (11, 0), (14, 3), (15, 3)] .done .nope)) .nope))) [8, 14, 15] mixed (by kernel_rfl) ?_) | apply StD.pick | exact StD.nope | refine Gl hs ?_ | (refine Gt hhd ?_; rintro _ _ ⟨had, hcap, rfl, rfl⟩) | (refine Ge ?_ ?_ <;> (intro h; try (exfalso; first | omega | contradiction))) | fail)
            all_goals first | (exfalso; omega) | skip
            all_goals refine IH ⟨(k + 1, m', some y, own', sg', H3, true, yn, yad, y.pairs.length, ycap), hlt, hi', hxu3⟩ (by show ops.length - (k + 1) < ops.length - k; omega) ?_ ?_
            all_goals first | (exact Sub.go; done) | (exact Ent.go; done) | skip
      · repeat' (first | refine Ga ?_ | (refine Gb ?_; intro b) | (refine Gd ?_; intro g cap rest hcap) | (refine Gc ?_; intro ad cap) | (refine St.drawa (id := 12) [(0, 0), (1, 0), (2, 1), (3, 1), (4, 0), (5, 0), (6, 1), (7, 0), (8, 1), (9, 3)] [(11, 3)] [9, 11] 10 mixed rfl (by intro w; rfl) (by kernel_rfl) ?_) | (refine St.drawT (id := 13) [(0, 1), (1, 0), (2, 1), (3, 1), (4, 0), (5, 1), (6, 0), (7, 1)] (.pick [(8, 3), (9, 0), (10, 0), (11, 0)] (.pick [(12, 2), (13, 2), (14, 3), (15, 3)] .done (.pick [(13, 2), (12, 2), (14, 3), (15, 3)] .done .nope)) (.pick [(12, 2)] (.pick [(8, 3), (9, 0), (10, 0), (11, 0), (13, 2), (14, 3), (15, 3)] .done (.pick [(13, 2), (8, 3), (9, 0), (10, 0), (11, 0), (14, 3), (15, 3)] .done .nope)) (.pick [(13, 2)] (.pick [(8, 3), (9, 0), (10, 0), (11, 0), (12, 2), (14, 3), (15, 3)] .done (.pick [(12, 2), (8, 3), (9, 0), (10, 0), (11, 0), (14, 3), (15, 3)] .done .nope)) .nope))) [8, 14, 15] mixed (by kernel_rfl) ?_) | apply StD.pick | exact StD.nope  | (refine Ge ?_ ?_ <;> (intro h; try (exfalso; omega))) | fail)
        all_goals first | (exfalso; omega) | skip
        all_goals refine IH ⟨(k + 1, m, qu, own, sg, H, xp, xn, xad, xm, xcap), hlt, hi.more, hxu⟩ (by show ops.length - (k + 1) < ops.length - k; omega) ?_ ?_
        all_goals first | (exact Sub.go; done) | (exact Ent.go; done) | skip
    · obtain rfl : k = ops.length := by omega
      clear IH
      repeat' (first | refine Ga ?_ | (refine Gb ?_; intro b) | (refine Gd ?_; intro g cap rest hcap) | (refine Gc ?_; intro ad cap) | (refine St.drawa (id := 12) [(0, 0), (1, 0), (2, 1), (3, 1), (4, 0), (5, 0), (6, 1), (7, 0), (8, 1), (9, 3)] [(11, 3)] [9, 11] 10 mixed rfl (by intro w; rfl) (by kernel_rfl) ?_) | (refine St.drawT (id := 13) [(0, 1), (1, 0), (2, 1), (3, 1), (4, 0), (5, 1), (6, 0), (7, 1)] (.pick [(8, 3), (9, 0), (10, 0), (11, 0)] (.pick [(12, 2), (13, 2), (14, 3), (15, 3)] .done (.pick [(13, 2), (12, 2), (14, 3), (15, 3)] .done .nope)) (.pick [(12, 2)] (.pick [(8, 3), (9, 0), (10, 0), (11, 0), (13, 2), (14, 3), (15, 3)] .done (.pick [(13, 2), (8, 3), (9, 0), (10, 0), (11, 0), (14, 3), (15, 3)] .done .nope)) (.pick [(13, 2)] (.pick [(8, 3), (9, 0), (10, 0), (11, 0), (12, 2), (14, 3), (15, 3)] .done (.pick [(12, 2), (8, 3), (9, 0), (10, 0), (11, 0), (14, 3), (15, 3)] .done .nope)) .nope))) [8, 14, 15] mixed (by kernel_rfl) ?_) | apply StD.pick | exact StD.nope  | (refine Ge ?_ ?_ <;> (intro h; try (exfalso; omega))) | fail)
      refine St.d1 Tryz.func3 ⟨_, ⟨rfl, rfl⟩, Ent.go⟩
end Go.Proofs.YtphheopbngdhhaaGreatDoor
