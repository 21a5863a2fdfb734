/-
  Package tumblerlaw21: ChainRuns, walked.
-/
import Derived.Test.YtalgmlhcbilicaaGreatDoorCm
import Derived.Test.YtalgmlhcbilicaaGreatDoorCq
import Derived.Test.YtalgmlhcbilicaaGreatDoorCf
namespace Go.Proofs.YtalgmlhcbilicaaGreatDoor
set_option maxRecDepth 100000
theorem XuR.cells {q : HProp} {v : Value} {x : Option Qu} (h : XuR q v x) : ∃ (p : Bool) (n : Nat) (ad : Option Addr) (m cap : Nat), v = .agg ⟨[.bool p, .int .u64 (n : Int), .slice ad m cap]⟩ := by
  cases x with
  | none => exact ⟨false, 0, none, 0, 0, h⟩
  | some x =>
    obtain ⟨lv, rfl, hsl⟩ := h
    obtain ⟨ad, cap, rfl⟩ := hsl.val
    exact ⟨true, _, _, _, _, rfl⟩
def rdoesV (H : HProp) (m : Option Qu × Int × Nat) (v : Value) (L : List HProp) : Prop :=
  ∃ (p : Bool) (n : Nat) (ad : Option Addr) (l cap : Nat) (H' : HProp), v = .tuple ⟨[.agg ⟨[.bool p, .int .u64 (n : Int), .slice ad l cap]⟩, .agg ⟨[.int .i64 m.2.1, .int .u64 (m.2.2 : Int)]⟩]⟩ ∧ XuR H' (.agg ⟨[.bool p, .int .u64 (n : Int), .slice ad l cap]⟩) m.1 ∧ (∀ b l, RdC H b l → RdC H' b l) ∧ L = [H']
theorem rdoesQ.v {H : HProp} {m : Option Qu × Int × Nat} {v : Value} {L : List HProp} (h : rdoesQ H m v L) : rdoesV H m v L := by
  obtain ⟨xv', H', rfl, h2, h3, rfl⟩ := h
  obtain ⟨p, n, ad, l, cap, rfl⟩ := h2.cells
  exact ⟨p, n, ad, l, cap, H', rfl, h2, h3, rfl⟩
theorem lsame2_r (H1 H2 : HProp) (pv xv : Value) (q x : Option Qu) (hq : QuR H1 pv q) (hx : XuR H2 xv x) (hln : ∀ y, q = some y → y.list.length ≤ 1000000) : RTri Tryz.prog 12 #[pv, xv] [H1, H2] (.bool (qEq q x)) :=
  (lsame_r (star [H1, H2]) pv xv q x (hq.weak fun b l h => RdC.star (p := H1) (.head _) h) (hx.weak fun b l h => RdC.star (p := H2) (.tail _ (.head _)) h) hln).ent (Ent.star_in [H1, H2] (M := []))
set_option maxHeartbeats 4000000 in
theorem qruns_t (q : HProp) (qv : Value) (root : Nat) (ops : List OpB) (hv : ListR opbV q qv ops) : Tri Tryz.prog 4 #[.int .u64 (root : Int), qv] [q] fun v L => v = .bool true ∧ L = [q] := by
  obtain ⟨oad, ocap, rfl, _, hv⟩ := hv
  by_cases h40 : 40 < ops.length
  · refine Tri.of_body (vs := [_, _]) Tryz.func4 rfl rfl fun w0 F => ?_
    repeat' (first | refine Ga ?_ | (refine Gb ?_; intro b) | (refine Gd ?_; intro g cap rest hcap) | (refine Gc ?_; intro ad cap) | (refine St.drawa (id := 12) [(0, 0), (1, 0), (2, 1), (3, 1), (4, 0), (5, 0), (6, 1), (7, 3)] [(9, 3)] [7, 9] 8 mixed rfl (by intro w; rfl) (by kernel_rfl) ?_) | (refine St.drawT (id := 13) [(0, 1), (1, 0), (2, 1), (3, 1), (4, 0), (5, 1)] (.pick [(6, 3), (7, 0), (8, 0), (9, 0)] (.pick [(10, 2), (11, 2), (12, 3), (13, 3)] .done (.pick [(11, 2), (10, 2), (12, 3), (13, 3)] .done .nope)) (.pick [(10, 2)] (.pick [(6, 3), (7, 0), (8, 0), (9, 0), (11, 2), (12, 3), (13, 3)] .done (.pick [(11, 2), (6, 3), (7, 0), (8, 0), (9, 0), (12, 3), (13, 3)] .done .nope)) (.pick [(11, 2)] (.pick [(6, 3), (7, 0), (8, 0), (9, 0), (10, 2), (12, 3), (13, 3)] .done (.pick [(10, 2), (6, 3), (7, 0), (8, 0), (9, 0), (12, 3), (13, 3)] .done .nope)) .nope))) [6, 12, 13] mixed (by kernel_rfl) ?_) | (refine St.draw (id := 16) [(0, 0), (1, 1), (2, 1), (3, 0), (4, 0), (5, 0), (6, 0), (7, 0), (8, 1), (9, 0), (10, 0), (11, 0), (12, 0), (13, 0), (14, 0), (15, 0), (16, 1), (17, 1), (18, 0), (19, 0), (20, 0), (21, 0), (22, 0), (23, 1), (24, 0), (25, 0), (26, 0), (27, 3), (28, 0), (29, 0), (30, 0), (31, 0), (32, 0), (33, 0), (34, 1), (35, 0), (36, 0), (39, 0), (40, 1), (41, 0), (42, 0), (37, 3), (38, 0), (43, 0), (44, 0), (45, 0)] [27, 37] mixed (by kernel_rfl) ?_) | apply StD.pick | exact StD.nope  | (refine Gt alive_t ?_; rintro _ _ ⟨rfl, rfl⟩) | (refine Ge ?_ ?_ <;> (intro h; try (exfalso; omega))) | fail)
    all_goals first | (exfalso; omega) | skip
    refine St.d1 Tryz.func4 ⟨_, ⟨rfl, rfl⟩, Ent.go⟩
  obtain ⟨c, hand, hc0, hc1⟩ := AndIs.le (root : Int) 15 (by decide)
  rw [show ((15 : Nat) : Int) = 15 from rfl] at hand
  obtain ⟨rt, rfl⟩ : ∃ rt : Nat, c = rt := ⟨c.toNat, by omega⟩
  refine Tri.of_body (vs := [_, _]) Tryz.func4 rfl rfl fun w0 F => ?_
  repeat' (first | refine Ga ?_ | (refine Gb ?_; intro b) | (refine Gd ?_; intro g cap rest hcap) | (refine Gc ?_; intro ad cap) | (refine St.drawa (id := 12) [(0, 0), (1, 0), (2, 1), (3, 1), (4, 0), (5, 0), (6, 1), (7, 3)] [(9, 3)] [7, 9] 8 mixed rfl (by intro w; rfl) (by kernel_rfl) ?_) | (refine St.drawT (id := 13) [(0, 1), (1, 0), (2, 1), (3, 1), (4, 0), (5, 1)] (.pick [(6, 3), (7, 0), (8, 0), (9, 0)] (.pick [(10, 2), (11, 2), (12, 3), (13, 3)] .done (.pick [(11, 2), (10, 2), (12, 3), (13, 3)] .done .nope)) (.pick [(10, 2)] (.pick [(6, 3), (7, 0), (8, 0), (9, 0), (11, 2), (12, 3), (13, 3)] .done (.pick [(11, 2), (6, 3), (7, 0), (8, 0), (9, 0), (12, 3), (13, 3)] .done .nope)) (.pick [(11, 2)] (.pick [(6, 3), (7, 0), (8, 0), (9, 0), (10, 2), (12, 3), (13, 3)] .done (.pick [(10, 2), (6, 3), (7, 0), (8, 0), (9, 0), (12, 3), (13, 3)] .done .nope)) .nope))) [6, 12, 13] mixed (by kernel_rfl) ?_) | (refine St.draw (id := 16) [(0, 0), (1, 1), (2, 1), (3, 0), (4, 0), (5, 0), (6, 0), (7, 0), (8, 1), (9, 0), (10, 0), (11, 0), (12, 0), (13, 0), (14, 0), (15, 0), (16, 1), (17, 1), (18, 0), (19, 0), (20, 0), (21, 0), (22, 0), (23, 1), (24, 0), (25, 0), (26, 0), (27, 3), (28, 0), (29, 0), (30, 0), (31, 0), (32, 0), (33, 0), (34, 1), (35, 0), (36, 0), (39, 0), (40, 1), (41, 0), (42, 0), (37, 3), (38, 0), (43, 0), (44, 0), (45, 0)] [27, 37] mixed (by kernel_rfl) ?_) | apply StD.pick | exact StD.nope  | (refine Gt alive_t ?_; rintro _ _ ⟨rfl, rfl⟩) | (refine Gt mnew_t ?_; rintro _ _ ⟨S, rfl, rfl⟩) | (refine Ge ?_ ?_ <;> (intro h; try (exfalso; omega))) | fail)
  all_goals first | (exfalso; omega) | skip
  revert b; intro B
  refine St.conv ?_ (Sub.refl _) (Ent.star_in [])
  refine St.loopY (Lr := ?Lr1) (ι := { x : Nat × Ms × Option Qu × List Nat × HProp × Bool × Nat × Option Addr × Nat × Nat // x.1 ≤ ops.length ∧ QInv x.2.1 rt x.2.2.1 x.2.2.2.1 x.1 ∧ XuR x.2.2.2.2.1 (.agg ⟨[.bool x.2.2.2.2.2.1, .int .u64 (x.2.2.2.2.2.2.1 : Int), .slice x.2.2.2.2.2.2.2.1 x.2.2.2.2.2.2.2.2.1 x.2.2.2.2.2.2.2.2.2]⟩) x.2.2.1 }) (fun x => ops.length - x.1.1)
    (fun x => [(25, .int .i64 (x.1.1 : Int))]) (fun x => [MsE S x.1.2.1, x.1.2.2.2.2.1, bl B 38 [.bool x.1.2.2.2.2.2.1, .int .u64 (x.1.2.2.2.2.2.2.1 : Int), .slice x.1.2.2.2.2.2.2.2.1 x.1.2.2.2.2.2.2.2.2.1 x.1.2.2.2.2.2.2.2.2.2]]) ⟨(0, ms0, none, [], star [], false, 0, none, 0, 0), Nat.zero_le _, qinv0 rt, rfl⟩ ?hE1 ?hL1 ?round1
  case hE1 => exact Sub.go
  case hL1 => exact Takes.go
  case round1 =>
    rintro ⟨⟨k, m, qu, own, H, xp, xn, xad, xm, xcap⟩, hk, hi, hxu⟩ IH; dsimp only at hk hi hxu IH ⊢
    by_cases hlt : k < ops.length
    · obtain ⟨bf, o, l, l1, rfl, hrd, hdr, htk⟩ := ListR.at (f := opbV) (sz := 2) (fun _ => rfl) hv k hlt
      generalize ops[k] = op at htk
      obtain ⟨⟨nm, arg⟩, harg⟩ := op
      unfold opbV at htk
      dsimp only at htk harg
      have hnm := qname_r nm
      by_cases hin : 0 ≤ nm ∧ nm < 7
      · obtain ⟨hn0, hn7⟩ := hin
        obtain ⟨e, h6⟩ := nameM_in hn0 hn7
        rw [e] at hnm
        generalize hj : nm.toNat = j at hnm h6
        have hql : qSize qu ≤ k := hi.n
        have hl1 : ∀ x, qu = some x → x.list.length ≤ 1000 := fun x hx => by subst hx; have : x.list.length ≤ k := hql; omega
        obtain ⟨r, hr, hran, own', hi'⟩ := hi.step (by omega) j arg h6 (by omega) harg
        have hrun := lrun_t S m hi.ok j h6 rt arg r hr
        obtain ⟨hrc, hrv⟩ := hran.res
        have hrd1 := (rdoes_t j (by omega) H (.agg ⟨[.bool xp, .int .u64 (xn : Int), .slice xad xm xcap]⟩) qu arg hxu hl1).mono (Q' := rdoesV H (doesM j qu arg)) (fun _ _ h => h.v)
        unfold doneV at hrun
        rw [hrc, hrv] at hrun
        clear hrc hrv hran
        generalize runMs m r = m' at hrun hi'
        generalize r.1.steps = st at hrun
        generalize r.1.dw = dw at hrun
        generalize r.1.news = nw at hrun
        generalize doesM j qu arg = rr at hrun hi' hrd1
        obtain ⟨qu2, rc, rv⟩ := rr
        unfold rdoesV at hrd1
        dsimp only at hrun hi' hrd1
        have hdec := decode_t S m' hi'.ok (rt : Int)
        rw [decM_rep hi'.rep (by omega) (by have := hi'.n; omega)] at hdec
        unfold decQ at hdec
        dsimp only at hdec
        generalize hec : (if qu2.isSome = true then (0 : Int) else 4) = ec at hdec
        have hol := hi'.rep.own_eq
        have hbl := hi'.len
        have hqn := hi'.n
        have hhd := handles_t S m' (by have := hi'.rep.own; omega)
        refine St.joinE (κ := { x : Nat × Nat × Option Addr × Nat × Bool × Nat × Option Addr × Nat × Nat × HProp × Value × HProp // XuR x.2.2.2.2.2.2.2.2.2.1 (.agg ⟨[.bool x.2.2.2.2.1, .int .u64 (x.2.2.2.2.2.1 : Int), .slice x.2.2.2.2.2.2.1 x.2.2.2.2.2.2.2.1 x.2.2.2.2.2.2.2.2.1]⟩) qu2 ∧ QuR x.2.2.2.2.2.2.2.2.2.2.2 x.2.2.2.2.2.2.2.2.2.2.1 qu2 }) (k' := ?kx) (Lr := ?Lr2)
          (fun x => [(9, .pointer (some ⟨x.1.1, 0, none⟩)), (11, .pointer (some ⟨x.1.2.1, 0, none⟩)), (12, x.1.2.2.2.2.2.2.2.2.2.2.1), (13, .int .i64 ec)])
          [MsE S m, H, bl B 38 [.bool xp, .int .u64 (xn : Int), .slice xad xm xcap]]
          (fun x => [MsE S m', x.1.2.2.2.2.2.2.2.2.2.1, bl B 38 [.bool x.1.2.2.2.2.1, .int .u64 (x.1.2.2.2.2.2.1 : Int), .slice x.1.2.2.2.2.2.2.1 x.1.2.2.2.2.2.2.2.1 x.1.2.2.2.2.2.2.2.2.1], x.1.2.2.2.2.2.2.2.2.2.2.2,
            bl x.1.1 50 [.int .i64 rc, .int .u64 (rv : Int), .int .i64 st, .int .i64 dw, .slice x.1.2.2.1 nw.length x.1.2.2.2.1], bl x.1.2.1 48 [.int .i64 rc, .int .u64 (rv : Int)]]) ?tk ?join ?after
        case tk => exact Takes.go
        case join =>
          intro JO
          repeat' (first | refine St.halt 12 ?_ |refine Ga ?_ | (refine Gb ?_; intro b) | (refine Gd ?_; intro g cap rest hcap) | (refine Gc ?_; intro ad cap) | (refine St.drawa (id := 12) [(0, 0), (1, 0), (2, 1), (3, 1), (4, 0), (5, 0), (6, 1), (7, 3)] [(9, 3)] [7, 9] 8 mixed rfl (by intro w; rfl) (by kernel_rfl) ?_) | (refine St.drawT (id := 13) [(0, 1), (1, 0), (2, 1), (3, 1), (4, 0), (5, 1)] (.pick [(6, 3), (7, 0), (8, 0), (9, 0)] (.pick [(10, 2), (11, 2), (12, 3), (13, 3)] .done (.pick [(11, 2), (10, 2), (12, 3), (13, 3)] .done .nope)) (.pick [(10, 2)] (.pick [(6, 3), (7, 0), (8, 0), (9, 0), (11, 2), (12, 3), (13, 3)] .done (.pick [(11, 2), (6, 3), (7, 0), (8, 0), (9, 0), (12, 3), (13, 3)] .done .nope)) (.pick [(11, 2)] (.pick [(6, 3), (7, 0), (8, 0), (9, 0), (10, 2), (12, 3), (13, 3)] .done (.pick [(10, 2), (6, 3), (7, 0), (8, 0), (9, 0), (12, 3), (13, 3)] .done .nope)) .nope))) [6, 12, 13] mixed (by kernel_rfl) ?_) | (refine St.draw (id := 16) [(0, 0), (1, 1), (2, 1), (3, 0), (4, 0), (5, 0), (6, 0), (7, 0), (8, 1), (9, 0), (10, 0), (11, 0), (12, 0), (13, 0), (14, 0), (15, 0), (16, 1), (17, 1), (18, 0), (19, 0), (20, 0), (21, 0), (22, 0), (23, 1), (24, 0), (25, 0), (26, 0), (27, 3), (28, 0), (29, 0), (30, 0), (31, 0), (32, 0), (33, 0), (34, 1), (35, 0), (36, 0), (39, 0), (40, 1), (41, 0), (42, 0), (37, 3), (38, 0), (43, 0), (44, 0), (45, 0)] [27, 37] mixed (by kernel_rfl) ?_) | apply StD.pick | exact StD.nope | refine Gl hnm ?_ | (refine Ge ?_ ?_ <;> (intro h; try (exfalso; omega))) | fail)
          all_goals first | (exfalso; omega) | skip
          apply Halt.go
          revert b; intro Bo
          apply St.seq
          refine St.drawT0 (L0 := [bl Bo 46 [.int .i64 nm, .int .u64 (arg : Int)]]) (id := 12) [(0, 0), (1, 0), (2, 1), (3, 1), (4, 0), (5, 0), (6, 1)] (.pick [(7, 3), (8, 2), (9, 3)] .done (.pick [(8, 2), (7, 3), (9, 3)] .done .nope)) [7, 9] mixed (by kernel_rfl) ?_
          repeat' (first | refine St.halt 13 ?_ |refine Ga ?_ | (refine Gb ?_; intro b) | (refine Gd ?_; intro g cap rest hcap) | (refine Gc ?_; intro ad cap) | (refine St.drawa (id := 12) [(0, 0), (1, 0), (2, 1), (3, 1), (4, 0), (5, 0), (6, 1), (7, 3)] [(9, 3)] [7, 9] 8 mixed rfl (by intro w; rfl) (by kernel_rfl) ?_) | (refine St.drawT (id := 13) [(0, 1), (1, 0), (2, 1), (3, 1), (4, 0), (5, 1)] (.pick [(6, 3), (7, 0), (8, 0), (9, 0)] (.pick [(10, 2), (11, 2), (12, 3), (13, 3)] .done (.pick [(11, 2), (10, 2), (12, 3), (13, 3)] .done .nope)) (.pick [(10, 2)] (.pick [(6, 3), (7, 0), (8, 0), (9, 0), (11, 2), (12, 3), (13, 3)] .done (.pick [(11, 2), (6, 3), (7, 0), (8, 0), (9, 0), (12, 3), (13, 3)] .done .nope)) (.pick [(11, 2)] (.pick [(6, 3), (7, 0), (8, 0), (9, 0), (10, 2), (12, 3), (13, 3)] .done (.pick [(10, 2), (6, 3), (7, 0), (8, 0), (9, 0), (12, 3), (13, 3)] .done .nope)) .nope))) [6, 12, 13] mixed (by kernel_rfl) ?_) | (refine St.draw (id := 16) [(0, 0), (1, 1), (2, 1), (3, 0), (4, 0), (5, 0), (6, 0), (7, 0), (8, 1), (9, 0), (10, 0), (11, 0), (12, 0), (13, 0), (14, 0), (15, 0), (16, 1), (17, 1), (18, 0), (19, 0), (20, 0), (21, 0), (22, 0), (23, 1), (24, 0), (25, 0), (26, 0), (27, 3), (28, 0), (29, 0), (30, 0), (31, 0), (32, 0), (33, 0), (34, 1), (35, 0), (36, 0), (39, 0), (40, 1), (41, 0), (42, 0), (37, 3), (38, 0), (43, 0), (44, 0), (45, 0)] [27, 37] mixed (by kernel_rfl) ?_) | apply StD.pick | exact StD.nope | refine Gl hnm ?_ | (refine Gt hrun ?_; rintro _ _ ⟨nad, ncap, rfl, rfl⟩) | (refine Ge ?_ ?_ <;> (intro h; try (exfalso; omega))) | fail)
          all_goals (
            apply Halt.go
            revert b; intro Bd
            apply St.seq
            refine St.drawT0 (L0 := [bl Bo 46 [.int .i64 nm, .int .u64 (arg : Int)], bl B 38 [.bool xp, .int .u64 (xn : Int), .slice xad xm xcap]]) (id := 13) [(0, 1), (1, 0), (2, 1), (3, 1), (4, 0), (5, 1)] (.pick [(6, 3), (7, 0), (8, 0), (9, 0)] (.pick [(10, 2), (11, 2), (12, 3), (13, 3)] .done (.pick [(11, 2), (10, 2), (12, 3), (13, 3)] .done .nope)) (.pick [(10, 2)] (.pick [(6, 3), (7, 0), (8, 0), (9, 0), (11, 2), (12, 3), (13, 3)] .done (.pick [(11, 2), (6, 3), (7, 0), (8, 0), (9, 0), (12, 3), (13, 3)] .done .nope)) (.pick [(11, 2)] (.pick [(6, 3), (7, 0), (8, 0), (9, 0), (10, 2), (12, 3), (13, 3)] .done (.pick [(10, 2), (6, 3), (7, 0), (8, 0), (9, 0), (12, 3), (13, 3)] .done .nope)) .nope))) [6, 12, 13] mixed (by kernel_rfl) ?_)
          all_goals repeat' (first | refine St.halt 16 ?_ |refine Ga ?_ | (refine Gb ?_; intro b) | (refine Gd ?_; intro g cap rest hcap) | (refine Gc ?_; intro ad cap) | (refine St.drawa (id := 12) [(0, 0), (1, 0), (2, 1), (3, 1), (4, 0), (5, 0), (6, 1), (7, 3)] [(9, 3)] [7, 9] 8 mixed rfl (by intro w; rfl) (by kernel_rfl) ?_) | (refine St.drawT (id := 13) [(0, 1), (1, 0), (2, 1), (3, 1), (4, 0), (5, 1)] (.pick [(6, 3), (7, 0), (8, 0), (9, 0)] (.pick [(10, 2), (11, 2), (12, 3), (13, 3)] .done (.pick [(11, 2), (10, 2), (12, 3), (13, 3)] .done .nope)) (.pick [(10, 2)] (.pick [(6, 3), (7, 0), (8, 0), (9, 0), (11, 2), (12, 3), (13, 3)] .done (.pick [(11, 2), (6, 3), (7, 0), (8, 0), (9, 0), (12, 3), (13, 3)] .done .nope)) (.pick [(11, 2)] (.pick [(6, 3), (7, 0), (8, 0), (9, 0), (10, 2), (12, 3), (13, 3)] .done (.pick [(10, 2), (6, 3), (7, 0), (8, 0), (9, 0), (12, 3), (13, 3)] .done .nope)) .nope))) [6, 12, 13] mixed (by kernel_rfl) ?_) | (refine St.draw (id := 16) [(0, 0), (1, 1), (2, 1), (3, 0), (4, 0), (5, 0), (6, 0), (7, 0), (8, 1), (9, 0), (10, 0), (11, 0), (12, 0), (13, 0), (14, 0), (15, 0), (16, 1), (17, 1), (18, 0), (19, 0), (20, 0), (21, 0), (22, 0), (23, 1), (24, 0), (25, 0), (26, 0), (27, 3), (28, 0), (29, 0), (30, 0), (31, 0), (32, 0), (33, 0), (34, 1), (35, 0), (36, 0), (39, 0), (40, 1), (41, 0), (42, 0), (37, 3), (38, 0), (43, 0), (44, 0), (45, 0)] [27, 37] mixed (by kernel_rfl) ?_) | apply StD.pick | exact StD.nope | refine Gl hnm ?_ | (refine Gt hrd1 ?_; rintro _ _ ⟨yp, yn, yad, ym, ycap, H3, rfl, hxu3, hmo3, rfl⟩) | (refine Gt hdec ?_; rintro _ _ ⟨pv2, Hd, rfl, hq2, rfl⟩) | (refine Ge ?_ ?_ <;> (intro h; try (exfalso; omega))) | fail)
          all_goals (
            apply Halt.go
            revert b; intro Br2
            revert b; intro Br1
            first
              | (refine JO ⟨(Bd, Br2, nad, ncap, yp, yn, yad, ym, ycap, H3, pv2, Hd), hxu3, hq2⟩ ?_ ?_; exact Sub.go; dsimp only; exact Ent.go)
              | (refine JO ⟨(Bd, Br1, nad, ncap, yp, yn, yad, ym, ycap, H3, pv2, Hd), hxu3, hq2⟩ ?_ ?_; exact Sub.go; dsimp only; exact Ent.go))
        case after =>
          rintro ⟨⟨Bd, Br, nad, ncap, yp, yn, yad, ym, ycap, H3, pv2, Hd⟩, hxu3, hq2⟩
          dsimp only at hxu3 hq2 ⊢
          have hs := lsame2_r Hd H3 _ _ qu2 qu2 hq2 hxu3 (fun y hy => by subst hy; have : y.list.length ≤ k + 1 := hqn; omega)
          rw [qEq_refl] at hs
          have hne : ¬((!(rc == rc && ((rv : Int) == (rv : Int) && true))) = true) := by simp
          cases qu2 with
          | none =>
            have hol : own'.length = 0 := hol
            obtain rfl : (4 : Int) = ec := hec
            obtain ⟨rfl, rfl, rfl, rfl, rfl⟩ : yp = false ∧ yn = 0 ∧ yad = none ∧ ym = 0 ∧ ycap = 0 := by
              have hx0 : Value.agg ⟨[.bool yp, .int .u64 (yn : Int), .slice yad ym ycap]⟩ = .agg ⟨[.bool false, .int .u64 0, .slice none 0 0]⟩ := hxu3
              simpa using hx0
            repeat' (first | refine Ga ?_ | (refine Gb ?_; intro b) | (refine Gd ?_; intro g cap rest hcap) | (refine Gc ?_; intro ad cap) | (refine St.drawa (id := 12) [(0, 0), (1, 0), (2, 1), (3, 1), (4, 0), (5, 0), (6, 1), (7, 3)] [(9, 3)] [7, 9] 8 mixed rfl (by intro w; rfl) (by kernel_rfl) ?_) | (refine St.drawT (id := 13) [(0, 1), (1, 0), (2, 1), (3, 1), (4, 0), (5, 1)] (.pick [(6, 3), (7, 0), (8, 0), (9, 0)] (.pick [(10, 2), (11, 2), (12, 3), (13, 3)] .done (.pick [(11, 2), (10, 2), (12, 3), (13, 3)] .done .nope)) (.pick [(10, 2)] (.pick [(6, 3), (7, 0), (8, 0), (9, 0), (11, 2), (12, 3), (13, 3)] .done (.pick [(11, 2), (6, 3), (7, 0), (8, 0), (9, 0), (12, 3), (13, 3)] .done .nope)) (.pick [(11, 2)] (.pick [(6, 3), (7, 0), (8, 0), (9, 0), (10, 2), (12, 3), (13, 3)] .done (.pick [(10, 2), (6, 3), (7, 0), (8, 0), (9, 0), (12, 3), (13, 3)] .done .nope)) .nope))) [6, 12, 13] mixed (by kernel_rfl) ?_) | (refine St.draw (id := 16) [(0, 0), (1, 1), (2, 1), (3, 0), (4, 0), (5, 0), (6, 0), (7, 0), (8, 1), (9, 0), (10, 0), (11, 0), (12, 0), (13, 0), (14, 0), (15, 0), (16, 1), (17, 1), (18, 0), (19, 0), (20, 0), (21, 0), (22, 0), (23, 1), (24, 0), (25, 0), (26, 0), (27, 2), (28, 0), (29, 0), (30, 0), (31, 0), (32, 0), (33, 0), (34, 1), (35, 0), (36, 0), (39, 0), (40, 1), (41, 0), (42, 0), (37, 2), (38, 0), (43, 0), (44, 0), (45, 0)] [] mixed (by kernel_rfl) ?_) | apply StD.pick | exact StD.nope | refine Gl hs ?_ | (apply StD.gcallt2; rfl; rfl; rfl; exact Og; exact hhd; exact Oh; rintro _ _ ⟨had, hcap, rfl, rfl⟩; refine ⟨Ent.go, ?_⟩) | (apply StD.skip2; rfl; rfl; rfl; rfl; exact Ent.go; rfl) | (apply StD.skipu2; rfl; rfl; rfl; exact Ent.go; rfl) | (refine Ge ?_ ?_ <;> (intro h; try (exfalso; first | omega | contradiction))) | fail)
            all_goals first | (exfalso; omega) | skip
            all_goals refine IH ⟨(k + 1, m', none, own', H3, false, 0, none, 0, 0), hlt, hi', hxu3⟩ (by show ops.length - (k + 1) < ops.length - k; omega) ?_ ?_
            all_goals first | (exact Sub.go; done) | (exact Ent.go; done) | skip
          | some y =>
            have hol : own'.length = y.list.length + 1 := hol
            obtain rfl : (0 : Int) = ec := hec
            have hxs := hxu3
            obtain ⟨lv, hv3, hsl3⟩ := hxs
            obtain ⟨a3, c3, rfl⟩ := hsl3.val
            obtain ⟨rfl, rfl, rfl, rfl, rfl⟩ : yp = true ∧ yn = y.cap ∧ yad = a3 ∧ ym = y.list.length ∧ ycap = c3 := by
              simp at hv3
              exact ⟨hv3.1, by omega, hv3.2.2.1, hv3.2.2.2.1, hv3.2.2.2.2⟩
            have hqn : y.list.length ≤ k + 1 := hqn
            repeat' (first | refine Ga ?_ | (refine Gb ?_; intro b) | (refine Gd ?_; intro g cap rest hcap) | (refine Gc ?_; intro ad cap) | (refine St.drawa (id := 12) [(0, 0), (1, 0), (2, 1), (3, 1), (4, 0), (5, 0), (6, 1), (7, 3)] [(9, 3)] [7, 9] 8 mixed rfl (by intro w; rfl) (by kernel_rfl) ?_) | (refine St.drawT (id := 13) [(0, 1), (1, 0), (2, 1), (3, 1), (4, 0), (5, 1)] (.pick [(6, 3), (7, 0), (8, 0), (9, 0)] (.pick [(10, 2), (11, 2), (12, 3), (13, 3)] .done (.pick [(11, 2), (10, 2), (12, 3), (13, 3)] .done .nope)) (.pick [(10, 2)] (.pick [(6, 3), (7, 0), (8, 0), (9, 0), (11, 2), (12, 3), (13, 3)] .done (.pick [(11, 2), (6, 3), (7, 0), (8, 0), (9, 0), (12, 3), (13, 3)] .done .nope)) (.pick [(11, 2)] (.pick [(6, 3), (7, 0), (8, 0), (9, 0), (10, 2), (12, 3), (13, 3)] .done (.pick [(10, 2), (6, 3), (7, 0), (8, 0), (9, 0), (12, 3), (13, 3)] .done .nope)) .nope))) [6, 12, 13] mixed (by kernel_rfl) ?_) | (refine St.draw (id := 16) [(0, 0), (1, 1), (2, 1), (3, 0), (4, 0), (5, 0), (6, 0), (7, 0), (8, 1), (9, 0), (10, 0), (11, 0), (12, 0), (13, 0), (14, 0), (15, 0), (16, 1), (17, 1), (18, 0), (19, 0), (20, 0), (21, 0), (22, 0), (23, 1), (24, 0), (25, 0), (26, 0), (27, 2), (28, 0), (29, 0), (30, 0), (31, 0), (32, 0), (33, 0), (34, 1), (35, 0), (36, 0), (39, 0), (40, 1), (41, 0), (42, 0), (37, 2), (38, 0), (43, 0), (44, 0), (45, 0)] [] mixed (by kernel_rfl) ?_) | apply StD.pick | exact StD.nope | refine Gl hs ?_ | (apply StD.gcallt2; rfl; rfl; rfl; exact Og; exact hhd; exact Oh; rintro _ _ ⟨had, hcap, rfl, rfl⟩; refine ⟨Ent.go, ?_⟩) | (apply StD.skip2; rfl; rfl; rfl; rfl; exact Ent.go; rfl) | (apply StD.skipu2; rfl; rfl; rfl; exact Ent.go; rfl) | (refine Ge ?_ ?_ <;> (intro h; try (exfalso; first | omega | contradiction))) | fail)
            all_goals first | (exfalso; omega) | skip
            all_goals refine IH ⟨(k + 1, m', some y, own', H3, true, y.cap, yad, y.list.length, ycap), hlt, hi', hxu3⟩ (by show ops.length - (k + 1) < ops.length - k; omega) ?_ ?_
            all_goals first | (exact Sub.go; done) | (exact Ent.go; done) | skip
      · repeat' (first | refine Ga ?_ | (refine Gb ?_; intro b) | (refine Gd ?_; intro g cap rest hcap) | (refine Gc ?_; intro ad cap) | (refine St.drawa (id := 12) [(0, 0), (1, 0), (2, 1), (3, 1), (4, 0), (5, 0), (6, 1), (7, 3)] [(9, 3)] [7, 9] 8 mixed rfl (by intro w; rfl) (by kernel_rfl) ?_) | (refine St.drawT (id := 13) [(0, 1), (1, 0), (2, 1), (3, 1), (4, 0), (5, 1)] (.pick [(6, 3), (7, 0), (8, 0), (9, 0)] (.pick [(10, 2), (11, 2), (12, 3), (13, 3)] .done (.pick [(11, 2), (10, 2), (12, 3), (13, 3)] .done .nope)) (.pick [(10, 2)] (.pick [(6, 3), (7, 0), (8, 0), (9, 0), (11, 2), (12, 3), (13, 3)] .done (.pick [(11, 2), (6, 3), (7, 0), (8, 0), (9, 0), (12, 3), (13, 3)] .done .nope)) (.pick [(11, 2)] (.pick [(6, 3), (7, 0), (8, 0), (9, 0), (10, 2), (12, 3), (13, 3)] .done (.pick [(10, 2), (6, 3), (7, 0), (8, 0), (9, 0), (12, 3), (13, 3)] .done .nope)) .nope))) [6, 12, 13] mixed (by kernel_rfl) ?_) | (refine St.draw (id := 16) [(0, 0), (1, 1), (2, 1), (3, 0), (4, 0), (5, 0), (6, 0), (7, 0), (8, 1), (9, 0), (10, 0), (11, 0), (12, 0), (13, 0), (14, 0), (15, 0), (16, 1), (17, 1), (18, 0), (19, 0), (20, 0), (21, 0), (22, 0), (23, 1), (24, 0), (25, 0), (26, 0), (27, 3), (28, 0), (29, 0), (30, 0), (31, 0), (32, 0), (33, 0), (34, 1), (35, 0), (36, 0), (39, 0), (40, 1), (41, 0), (42, 0), (37, 3), (38, 0), (43, 0), (44, 0), (45, 0)] [27, 37] mixed (by kernel_rfl) ?_) | apply StD.pick | exact StD.nope  | (refine Ge ?_ ?_ <;> (intro h; try (exfalso; omega))) | fail)
        all_goals first | (exfalso; omega) | skip
        all_goals refine IH ⟨(k + 1, m, qu, own, H, xp, xn, xad, xm, xcap), hlt, hi.more, hxu⟩ (by show ops.length - (k + 1) < ops.length - k; omega) ?_ ?_
        all_goals first | (exact Sub.go; done) | (exact Ent.go; done) | skip
    · obtain rfl : k = ops.length := by omega
      clear IH
      repeat' (first | refine Ga ?_ | (refine Gb ?_; intro b) | (refine Gd ?_; intro g cap rest hcap) | (refine Gc ?_; intro ad cap) | (refine St.drawa (id := 12) [(0, 0), (1, 0), (2, 1), (3, 1), (4, 0), (5, 0), (6, 1), (7, 3)] [(9, 3)] [7, 9] 8 mixed rfl (by intro w; rfl) (by kernel_rfl) ?_) | (refine St.drawT (id := 13) [(0, 1), (1, 0), (2, 1), (3, 1), (4, 0), (5, 1)] (.pick [(6, 3), (7, 0), (8, 0), (9, 0)] (.pick [(10, 2), (11, 2), (12, 3), (13, 3)] .done (.pick [(11, 2), (10, 2), (12, 3), (13, 3)] .done .nope)) (.pick [(10, 2)] (.pick [(6, 3), (7, 0), (8, 0), (9, 0), (11, 2), (12, 3), (13, 3)] .done (.pick [(11, 2), (6, 3), (7, 0), (8, 0), (9, 0), (12, 3), (13, 3)] .done .nope)) (.pick [(11, 2)] (.pick [(6, 3), (7, 0), (8, 0), (9, 0), (10, 2), (12, 3), (13, 3)] .done (.pick [(10, 2), (6, 3), (7, 0), (8, 0), (9, 0), (12, 3), (13, 3)] .done .nope)) .nope))) [6, 12, 13] mixed (by kernel_rfl) ?_) | (refine St.draw (id := 16) [(0, 0), (1, 1), (2, 1), (3, 0), (4, 0), (5, 0), (6, 0), (7, 0), (8, 1), (9, 0), (10, 0), (11, 0), (12, 0), (13, 0), (14, 0), (15, 0), (16, 1), (17, 1), (18, 0), (19, 0), (20, 0), (21, 0), (22, 0), (23, 1), (24, 0), (25, 0), (26, 0), (27, 3), (28, 0), (29, 0), (30, 0), (31, 0), (32, 0), (33, 0), (34, 1), (35, 0), (36, 0), (39, 0), (40, 1), (41, 0), (42, 0), (37, 3), (38, 0), (43, 0), (44, 0), (45, 0)] [27, 37] mixed (by kernel_rfl) ?_) | apply StD.pick | exact StD.nope  | (refine Ge ?_ ?_ <;> (intro h; try (exfalso; omega))) | fail)
      refine St.d1 Tryz.func4 ⟨_, ⟨rfl, rfl⟩, Ent.go⟩
end Go.Proofs.YtalgmlhcbilicaaGreatDoor
