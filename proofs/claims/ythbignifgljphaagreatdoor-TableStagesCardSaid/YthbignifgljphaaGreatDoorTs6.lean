/-
  Package tumblerlaw22: TableStages.
-/
import Derived.Test.YthbignifgljphaaGreatDoorTs5
namespace Go.Proofs.YthbignifgljphaaGreatDoor
set_option maxRecDepth 100000
theorem stgM_put {s : Nat × Nat × Nat} {x : Option Tb} {y : Tb} {key val : Nat} {c : Int} {v : Nat} (h : doesM 1 x key val = (some y, c, v)) (hc : c = 0) : stgM s 1 x key val = growM s (decide ((pairsO x).length < y.pairs.length)) y.pairs.length := by
  unfold stgM
  rw [h]
  exact if_pos ⟨rfl, hc⟩
theorem stgM_none {s : Nat × Nat × Nat} {k : Nat} {x : Option Tb} {key val : Nat} {c : Int} {v : Nat} (h : doesM k x key val = (none, c, v)) : stgM s k x key val = (2, 0, 0) := by
  unfold stgM
  rw [h]
theorem stgM_some {s : Nat × Nat × Nat} {k : Nat} {x : Option Tb} {y : Tb} {key val : Nat} {c : Int} {v : Nat} (h : doesM k x key val = (some y, c, v)) (hc : ¬(k = 1 ∧ c = 0)) : stgM s k x key val = s := by
  unfold stgM
  rw [h]
  exact if_neg hc
theorem put_some {x : Option Tb} {y : Option Tb} {key val v : Nat} (h : doesM 1 x key val = (y, 0, v)) : ∃ z, y = some z := by
  cases x with
  | none => rw [doesM_none] at h; simp at h
  | some t =>
    rw [doesM_some] at h
    simp at h
    split at h
    · injection h with h _; exact ⟨_, h.symm⟩
    · split at h
      · injection h with _ h; injection h with h _; cases h
      · injection h with h _; exact ⟨_, h.symm⟩
theorem nmB_put {j : Nat} (hj : j < 6) (h : j ≠ 1) : nmB j ≠ [112, 117, 116] := by
  rcases (by omega : j = 0 ∨ j = 2 ∨ j = 3 ∨ j = 4 ∨ j = 5) with rfl | rfl | rfl | rfl | rfl <;> decide
theorem XuT.len {H : HProp} {b : Bool} {n m cap : Nat} {ad : Option Addr} {x : Option Tb} (h : XuT H (.agg ⟨[.bool b, .int .u64 (n : Int), .slice ad m cap]⟩) x) : m = (pairsO x).length ∧ b = x.isSome := by
  cases x with
  | none =>
    have h : Value.agg ⟨[.bool b, .int .u64 (n : Int), .slice ad m cap]⟩ = .agg ⟨[.bool false, .int .u64 0, .slice none 0 0]⟩ := h
    simp at h
    exact ⟨h.2.2.2.1, h.1⟩
  | some t =>
    obtain ⟨lv, h1, h2⟩ := h
    obtain ⟨a, c, rfl, _⟩ := h2
    simp at h1
    exact ⟨h1.2.2.2.1, h1.1⟩
def rdoesV (H : HProp) (m : Option Tb × Int × Nat) (v : Value) (L : List HProp) : Prop :=
  ∃ (yp : Bool) (yn : Nat) (yad : Option Addr) (ym ycap : Nat) (H' : HProp), v = .tuple ⟨[.agg ⟨[.bool yp, .int .u64 (yn : Int), .slice yad ym ycap]⟩, .agg ⟨[.int .i64 m.2.1, .int .u64 (m.2.2 : Int)]⟩]⟩ ∧ XuT H' (.agg ⟨[.bool yp, .int .u64 (yn : Int), .slice yad ym ycap]⟩) m.1 ∧ (∀ b l, RdC H b l → RdC H' b l) ∧ L = [H']
theorem rdoesQ.v {H : HProp} {m : Option Tb × Int × Nat} {v : Value} {L : List HProp} (h : rdoesQ H m v L) : rdoesV H m v L := by
  obtain ⟨xv', H', rfl, hx, hmo, rfl⟩ := h
  have hx' := hx
  cases hm : m.1 with
  | none =>
    rw [hm] at hx
    have hx : xv' = .agg ⟨[.bool false, .int .u64 0, .slice none 0 0]⟩ := hx
    subst hx
    exact ⟨false, 0, none, 0, 0, H', rfl, hx', hmo, rfl⟩
  | some t =>
    rw [hm] at hx
    obtain ⟨lv, rfl, h2⟩ := hx
    obtain ⟨a, c, rfl, _⟩ := h2
    exact ⟨true, t.cap, a, t.pairs.length, c, H', rfl, hx', hmo, rfl⟩
set_option maxHeartbeats 8000000 in
theorem qstages_t (q : HProp) (qv : Value) (ops : List OpB) (hv : ListR opbV q qv ops) : Tri Tryz.prog 4 #[qv] [q] fun v L => v = .bool true ∧ L = [q] := by
  obtain ⟨oad, ocap, rfl, _, hv⟩ := hv
  by_cases h40 : 40 < ops.length
  · refine Tri.of_body (vs := [_]) Tryz.func4 rfl rfl fun w0 F => ?_
    repeat' (first | refine Ga ?_ | (refine Gb ?_; intro b) | (refine Gd ?_; intro g cap rest hcap) | (refine Gc ?_; intro ad cap) | (refine St.drawa (id := 12) [(0, 0), (1, 0), (2, 1), (3, 1), (4, 0), (5, 1), (6, 0), (7, 1), (8, 3)] [(10, 3)] [8, 10] 9 mixed rfl (by intro w; rfl) (by kernel_rfl) ?_) | (refine St.drawT (id := 13) [(0, 1), (1, 0), (2, 1), (3, 1), (4, 0), (5, 1), (6, 0), (7, 1)] (.pick [(8, 3), (9, 0), (10, 0), (11, 0)] (.pick [(12, 2), (13, 2), (14, 3), (15, 3)] .done (.pick [(13, 2), (12, 2), (14, 3), (15, 3)] .done .nope)) (.pick [(12, 2)] (.pick [(8, 3), (9, 0), (10, 0), (11, 0), (13, 2), (14, 3), (15, 3)] .done (.pick [(13, 2), (8, 3), (9, 0), (10, 0), (11, 0), (14, 3), (15, 3)] .done .nope)) (.pick [(13, 2)] (.pick [(8, 3), (9, 0), (10, 0), (11, 0), (12, 2), (14, 3), (15, 3)] .done (.pick [(12, 2), (8, 3), (9, 0), (10, 0), (11, 0), (14, 3), (15, 3)] .done .nope)) .nope))) [8, 14, 15] mixed (by kernel_rfl) ?_) | apply StD.pick | exact StD.nope  | (refine Gt alive_t ?_; rintro _ _ ⟨rfl, rfl⟩) | (refine Ge ?_ ?_ <;> (intro h; try (exfalso; omega))) | fail)
    all_goals first | (exfalso; omega) | skip
    refine St.d1 Tryz.func4 ⟨_, ⟨rfl, rfl⟩, Ent.go⟩
  refine Tri.of_body (vs := [_]) Tryz.func4 rfl rfl fun w0 F => ?_
  repeat' (first | refine Ga ?_ | (refine Gb ?_; intro b) | (refine Gd ?_; intro g cap rest hcap) | (refine Gc ?_; intro ad cap) | (refine St.drawa (id := 12) [(0, 0), (1, 0), (2, 1), (3, 1), (4, 0), (5, 1), (6, 0), (7, 1), (8, 3)] [(10, 3)] [8, 10] 9 mixed rfl (by intro w; rfl) (by kernel_rfl) ?_) | (refine St.drawT (id := 13) [(0, 1), (1, 0), (2, 1), (3, 1), (4, 0), (5, 1), (6, 0), (7, 1)] (.pick [(8, 3), (9, 0), (10, 0), (11, 0)] (.pick [(12, 2), (13, 2), (14, 3), (15, 3)] .done (.pick [(13, 2), (12, 2), (14, 3), (15, 3)] .done .nope)) (.pick [(12, 2)] (.pick [(8, 3), (9, 0), (10, 0), (11, 0), (13, 2), (14, 3), (15, 3)] .done (.pick [(13, 2), (8, 3), (9, 0), (10, 0), (11, 0), (14, 3), (15, 3)] .done .nope)) (.pick [(13, 2)] (.pick [(8, 3), (9, 0), (10, 0), (11, 0), (12, 2), (14, 3), (15, 3)] .done (.pick [(12, 2), (8, 3), (9, 0), (10, 0), (11, 0), (14, 3), (15, 3)] .done .nope)) .nope))) [8, 14, 15] mixed (by kernel_rfl) ?_) | apply StD.pick | exact StD.nope  | (refine Gt alive_t ?_; rintro _ _ ⟨rfl, rfl⟩) | (refine Gt mnew_t ?_; rintro _ _ ⟨S, rfl, rfl⟩) | (refine Ge ?_ ?_ <;> (intro h; try (exfalso; omega))) | fail)
  all_goals first | (exfalso; omega) | skip
  revert b; intro Bx
  refine St.conv ?_ (Sub.refl _) (Ent.star_in [])
  refine St.loopY (Lr := ?Lr1) (ι := { x : Nat × Ms × Option Tb × Nat × (Nat × Nat × Nat) × HProp × Bool × Nat × Option Addr × Nat × Nat // x.1 ≤ ops.length ∧ QInv x.2.1 4 x.2.2.1 x.2.2.2.1 x.2.2.2.2.1 x.1 ∧ XuT x.2.2.2.2.2.1 (.agg ⟨[.bool x.2.2.2.2.2.2.1, .int .u64 (x.2.2.2.2.2.2.2.1 : Int), .slice x.2.2.2.2.2.2.2.2.1 x.2.2.2.2.2.2.2.2.2.1 x.2.2.2.2.2.2.2.2.2.2]⟩) x.2.2.1 }) (fun x => ops.length - x.1.1)
    (fun x => [(24, .int .i64 (x.1.1 : Int)), (5, .int .u64 (x.1.2.2.2.2.1.1 : Int)), (6, .int .u64 (x.1.2.2.2.2.1.2.1 : Int)), (7, .int .u64 (x.1.2.2.2.2.1.2.2 : Int))])
    (fun x => [MsE S x.1.2.1, x.1.2.2.2.2.2.1, bl Bx 28 [.bool x.1.2.2.2.2.2.2.1, .int .u64 (x.1.2.2.2.2.2.2.2.1 : Int), .slice x.1.2.2.2.2.2.2.2.2.1 x.1.2.2.2.2.2.2.2.2.2.1 x.1.2.2.2.2.2.2.2.2.2.2]]) ⟨(0, ms0, none, 0, (2, 0, 0), star [], false, 0, none, 0, 0), Nat.zero_le _, qinv0 4, rfl⟩ ?hE1 ?hL1 ?round1
  case hE1 => exact Sub.go
  case hL1 => exact Takes.go
  case round1 =>
    rintro ⟨⟨k, m, qu, own, ⟨sn, so, sa⟩, H, xp, xn, xad, xm, xcap⟩, hk, hi, hxu⟩ IH; dsimp only at hk hi hxu IH ⊢
    by_cases hlt : k < ops.length
    · obtain ⟨bf, o, l, l1, rfl, hrd, hdr, htk⟩ := ListR.at (f := opbV) (sz := 3) (fun _ => rfl) hv k hlt
      generalize ops[k] = op at htk
      obtain ⟨⟨nm, key, val⟩, harg, hval⟩ := op
      unfold opbV at htk
      dsimp only at htk harg hval
      have hnm := qname_r nm
      by_cases hin : 0 ≤ nm ∧ nm < 6
      · obtain ⟨hn0, hn6⟩ := hin
        obtain ⟨e, h6⟩ := nameM_in hn0 hn6
        rw [e] at hnm
        generalize hj : nm.toNat = j at hnm h6
        have hqn : tSize qu ≤ k := hi.n
        have hl1 : ∀ x, qu = some x → x.pairs.length ≤ 1000 := fun x hx => by subst hx; have : x.pairs.length ≤ k := hqn; omega
        obtain ⟨r, hr, hran, own', hi'⟩ := hi.step (by omega) j key val h6 (by decide) harg
        have hrun := lrun_t S m hi.ok j h6 4 key val r hr
        obtain ⟨hrc, hrv⟩ := hran.res
        have hrd1 := (rdoes_t j (by omega) H (.agg ⟨[.bool xp, .int .u64 (xn : Int), .slice xad xm xcap]⟩) qu key val hxu hl1).mono (Q' := rdoesV H (doesM j qu key val)) (fun _ _ h => h.v)
        unfold doneV at hrun
        rw [hrc, hrv] at hrun
        rw [show ((4 : Nat) : Int) = 4 from rfl] at hrun
        clear hrc hrv hran
        generalize runMs m r = m' at hrun hi'
        generalize r.1.steps = st at hrun
        generalize r.1.dw = dw at hrun
        generalize r.1.news = nw at hrun
        generalize hrr : doesM j qu key val = rr at hrun hi' hrd1
        obtain ⟨qu2, rc, rv⟩ := rr
        unfold rdoesV at hrd1
        dsimp only at hrun hi' hrd1
        obtain ⟨hsn, hsa⟩ := hi.rep.bd
        dsimp only at hsn hsa
        obtain ⟨hxm, hxp⟩ := hxu.len
        refine St.joinE (κ := { x : Nat × Nat × Option Addr × Nat × Bool × Nat × Option Addr × Nat × Nat × HProp × Nat // XuT x.2.2.2.2.2.2.2.2.2.1 (.agg ⟨[.bool x.2.2.2.2.1, .int .u64 (x.2.2.2.2.2.1 : Int), .slice x.2.2.2.2.2.2.1 x.2.2.2.2.2.2.2.1 x.2.2.2.2.2.2.2.2.1]⟩) qu2 }) (k' := ?kx) (Lr := ?Lr2)
          (fun x => [(9, .pointer (some ⟨x.1.2.2.2.2.2.2.2.2.2.2, 0, none⟩)), (10, .pointer (some ⟨x.1.1, 0, none⟩)), (11, .pointer (some ⟨x.1.2.1, 0, none⟩))])
          [MsE S m, H]
          (fun x => [MsE S m', x.1.2.2.2.2.2.2.2.2.2.1, bl x.1.2.2.2.2.2.2.2.2.2.2 30 [.int .i64 nm, .int .u64 (key : Int), .int .u64 (val : Int)], bl x.1.1 45 [.int .i64 rc, .int .u64 (rv : Int), .int .i64 st, .int .i64 dw, .slice x.1.2.2.1 nw.length x.1.2.2.2.1], bl x.1.2.1 28 [.bool x.1.2.2.2.2.1, .int .u64 (x.1.2.2.2.2.2.1 : Int), .slice x.1.2.2.2.2.2.2.1 x.1.2.2.2.2.2.2.2.1 x.1.2.2.2.2.2.2.2.2.1]]) ?tk ?join ?after
        case tk => exact Takes.go
        case join =>
          intro JO
          repeat' (first | refine St.halt 12 ?_ |refine Ga ?_ | (refine Gb ?_; intro b) | (refine Gd ?_; intro g cap rest hcap) | (refine Gc ?_; intro ad cap) | (refine St.drawa (id := 12) [(0, 0), (1, 0), (2, 1), (3, 1), (4, 0), (5, 1), (6, 0), (7, 1), (8, 3)] [(10, 3)] [8, 10] 9 mixed rfl (by intro w; rfl) (by kernel_rfl) ?_) | (refine St.drawT (id := 13) [(0, 1), (1, 0), (2, 1), (3, 1), (4, 0), (5, 1), (6, 0), (7, 1)] (.pick [(8, 3), (9, 0), (10, 0), (11, 0)] (.pick [(12, 2), (13, 2), (14, 3), (15, 3)] .done (.pick [(13, 2), (12, 2), (14, 3), (15, 3)] .done .nope)) (.pick [(12, 2)] (.pick [(8, 3), (9, 0), (10, 0), (11, 0), (13, 2), (14, 3), (15, 3)] .done (.pick [(13, 2), (8, 3), (9, 0), (10, 0), (11, 0), (14, 3), (15, 3)] .done .nope)) (.pick [(13, 2)] (.pick [(8, 3), (9, 0), (10, 0), (11, 0), (12, 2), (14, 3), (15, 3)] .done (.pick [(12, 2), (8, 3), (9, 0), (10, 0), (11, 0), (14, 3), (15, 3)] .done .nope)) .nope))) [8, 14, 15] mixed (by kernel_rfl) ?_) | apply StD.pick | exact StD.nope | refine Gl hnm ?_ | (refine Ge ?_ ?_ <;> (intro h; try (exfalso; omega))) | fail)
          all_goals first | (exfalso; omega) | skip
          apply Halt.go
          revert b; intro Bo
          apply St.seq
          refine St.drawT0 (L0 := [bl Bo 30 [.int .i64 nm, .int .u64 (key : Int), .int .u64 (val : Int)]]) (id := 12) [(0, 0), (1, 0), (2, 1), (3, 1), (4, 0), (5, 1), (6, 0), (7, 1)] (.pick [(8, 3), (9, 2), (10, 3)] .done (.pick [(9, 2), (8, 3), (10, 3)] .done .nope)) [8, 10] mixed (by kernel_rfl) ?_
          repeat' (first | refine St.halt 13 ?_ |refine Ga ?_ | (refine Gb ?_; intro b) | (refine Gd ?_; intro g cap rest hcap) | (refine Gc ?_; intro ad cap) | (refine St.drawa (id := 12) [(0, 0), (1, 0), (2, 1), (3, 1), (4, 0), (5, 1), (6, 0), (7, 1), (8, 3)] [(10, 3)] [8, 10] 9 mixed rfl (by intro w; rfl) (by kernel_rfl) ?_) | (refine St.drawT (id := 13) [(0, 1), (1, 0), (2, 1), (3, 1), (4, 0), (5, 1), (6, 0), (7, 1)] (.pick [(8, 3), (9, 0), (10, 0), (11, 0)] (.pick [(12, 2), (13, 2), (14, 3), (15, 3)] .done (.pick [(13, 2), (12, 2), (14, 3), (15, 3)] .done .nope)) (.pick [(12, 2)] (.pick [(8, 3), (9, 0), (10, 0), (11, 0), (13, 2), (14, 3), (15, 3)] .done (.pick [(13, 2), (8, 3), (9, 0), (10, 0), (11, 0), (14, 3), (15, 3)] .done .nope)) (.pick [(13, 2)] (.pick [(8, 3), (9, 0), (10, 0), (11, 0), (12, 2), (14, 3), (15, 3)] .done (.pick [(12, 2), (8, 3), (9, 0), (10, 0), (11, 0), (14, 3), (15, 3)] .done .nope)) .nope))) [8, 14, 15] mixed (by kernel_rfl) ?_) | apply StD.pick | exact StD.nope | refine Gl hnm ?_ | (refine Gt hrun ?_; rintro _ _ ⟨nad, ncap, rfl, rfl⟩) | (refine Ge ?_ ?_ <;> (intro h; try (exfalso; omega))) | fail)
          all_goals (
            apply Halt.go
            revert b; intro Bd
            apply St.seq
            refine St.drawT0 (L0 := [bl Bo 30 [.int .i64 nm, .int .u64 (key : Int), .int .u64 (val : Int)], bl Bx 28 [.bool xp, .int .u64 (xn : Int), .slice xad xm xcap]]) (id := 13) [(0, 1), (1, 0), (2, 1), (3, 1), (4, 0), (5, 1), (6, 0), (7, 1)] (.pick [(8, 3), (9, 0), (10, 0), (11, 0)] (.pick [(12, 2), (13, 2), (14, 3), (15, 3)] .done (.pick [(13, 2), (12, 2), (14, 3), (15, 3)] .done .nope)) (.pick [(12, 2)] (.pick [(8, 3), (9, 0), (10, 0), (11, 0), (13, 2), (14, 3), (15, 3)] .done (.pick [(13, 2), (8, 3), (9, 0), (10, 0), (11, 0), (14, 3), (15, 3)] .done .nope)) (.pick [(13, 2)] (.pick [(8, 3), (9, 0), (10, 0), (11, 0), (12, 2), (14, 3), (15, 3)] .done (.pick [(12, 2), (8, 3), (9, 0), (10, 0), (11, 0), (14, 3), (15, 3)] .done .nope)) .nope))) [8, 14, 15] mixed (by kernel_rfl) ?_)
          all_goals repeat' (first | refine St.halt 14 ?_ |refine Ga ?_ | (refine Gb ?_; intro b) | (refine Gd ?_; intro g cap rest hcap) | (refine Gc ?_; intro ad cap) | (refine St.drawa (id := 12) [(0, 0), (1, 0), (2, 1), (3, 1), (4, 0), (5, 1), (6, 0), (7, 1), (8, 3)] [(10, 3)] [8, 10] 9 mixed rfl (by intro w; rfl) (by kernel_rfl) ?_) | (refine St.drawT (id := 13) [(0, 1), (1, 0), (2, 1), (3, 1), (4, 0), (5, 1), (6, 0), (7, 1)] (.pick [(8, 3), (9, 0), (10, 0), (11, 0)] (.pick [(12, 2), (13, 2), (14, 3), (15, 3)] .done (.pick [(13, 2), (12, 2), (14, 3), (15, 3)] .done .nope)) (.pick [(12, 2)] (.pick [(8, 3), (9, 0), (10, 0), (11, 0), (13, 2), (14, 3), (15, 3)] .done (.pick [(13, 2), (8, 3), (9, 0), (10, 0), (11, 0), (14, 3), (15, 3)] .done .nope)) (.pick [(13, 2)] (.pick [(8, 3), (9, 0), (10, 0), (11, 0), (12, 2), (14, 3), (15, 3)] .done (.pick [(12, 2), (8, 3), (9, 0), (10, 0), (11, 0), (14, 3), (15, 3)] .done .nope)) .nope))) [8, 14, 15] mixed (by kernel_rfl) ?_) | apply StD.pick | exact StD.nope | refine Gl hnm ?_ | (refine Gt hrd1 ?_; rintro _ _ ⟨yp, yn, yad, ym, ycap, H3, rfl, hxu3, hmo3, rfl⟩) | (refine Ge ?_ ?_ <;> (intro h; try (exfalso; omega))) | fail)
          all_goals (
            apply Halt.go
            revert b; intro Br2
            revert b; intro Br1
            first
              | (refine JO ⟨(Bd, Br2, nad, ncap, yp, yn, yad, ym, ycap, H3, Bo), hxu3⟩ ?_ ?_; exact Sub.go; dsimp only; exact Ent.go)
              | (refine JO ⟨(Bd, Br1, nad, ncap, yp, yn, yad, ym, ycap, H3, Bo), hxu3⟩ ?_ ?_; exact Sub.go; dsimp only; exact Ent.go))
        case after =>
          rintro ⟨⟨Bd, By, nad, ncap, yp, yn, yad, ym, ycap, H3, Bo⟩, hxu3⟩
          dsimp only at hxu3 ⊢
          obtain ⟨hym, hyp⟩ := hxu3.len
          have hsz := hi'.n
          by_cases hp : j = 1 ∧ rc = 0
          · obtain ⟨rfl, rfl⟩ := hp
            obtain ⟨z, rfl⟩ := put_some hrr
            rw [stgM_put hrr rfl] at hi'
            have hzl : z.pairs.length ≤ k + 1 := hsz
            have hym0 : ym = z.pairs.length := hym
            have hgr := grown_r sn so sa z.pairs.length (decide ((pairsO qu).length < z.pairs.length)) hsn hsa (by omega)
            have e2 : decide ((pairsO qu).length < z.pairs.length) = decide ((xm : Int) < (ym : Int)) := decide_eq_decide.mpr (by rw [hxm, hym0]; omega)
            rw [e2, ← hym0] at hi' hgr
            generalize growM (sn, so, sa) (decide ((xm : Int) < (ym : Int))) ym = gg at hgr hi'
            obtain ⟨gn, gd, ga⟩ := gg
            unfold growV at hgr
            dsimp only at hgr
            rw [show nmB 1 = [112, 117, 116] from rfl] at hnm
            obtain ⟨T, hpT, _, _, hpermT, _, hsT⟩ := id hi'.rep
            have hlz : z.pairs.length = (nodes T.rw).length := by rw [hpermT.length_eq, List.length_map]
            have hrt := mroot_r S m' 4
            rw [show rootOf m'.roots 4 = T.h from hpT.r] at hrt
            have hb := mblock_r S m' hi'.ok T.h
            rw [hpT.hb] at hb
            rw [show aggL ((some [3, T.hk false, T.n, T.hk true, T.od, T.at_, (nodes T.rw).length, T.cap] : Option (List Nat)).getD zero8) = .agg ⟨[.int .u64 ((3 : Nat) : Int), .int .u64 (T.hk false : Int), .int .u64 (T.n : Int), .int .u64 (T.hk true : Int), .int .u64 (T.od : Int), .int .u64 (T.at_ : Int), .int .u64 ((nodes T.rw).length : Int), .int .u64 (T.cap : Int)]⟩ from rfl] at hb
            have hz0 : T.hk true = 0 → T.od = 0 := fun h => by rcases hpT.st with ⟨_, h2, _⟩ | ⟨h1, _⟩; exact h2; exact absurd h h1
            have hz1 : T.hk true ≠ 0 → T.od ≠ 0 := fun h => by rcases hpT.st with ⟨h1, _⟩ | ⟨_, h2, _⟩; exact absurd h1 h; omega
            have hbz : (((T.hk true : Nat) : Int) == 0) = (((T.od : Nat) : Int) == 0) := by
              by_cases h : T.hk true = 0
              · rw [h, hz0 h]
              · have h2 := hz1 h
                rw [beq_false_of_ne (by omega), beq_false_of_ne (by omega)]
            injection hsT with hs1 hs2
            injection hs2 with hs2 hs3
            subst hs1 hs2 hs3
            have hyp' : yp = true := hyp
            have hym' : ym = (nodes T.rw).length := by rw [hym]; exact hlz
            have hzb : z.pairs.length ≤ k + 1 := hsz
            have hymb : ym ≤ 1000 := by omega
            subst hyp'
            repeat' (first | refine Ga ?_ | (refine Gb ?_; intro b) | (refine Gd ?_; intro g cap rest hcap) | (refine Gc ?_; intro ad cap) | (refine St.drawa (id := 12) [(0, 0), (1, 0), (2, 1), (3, 1), (4, 0), (5, 1), (6, 0), (7, 1), (8, 3)] [(10, 3)] [8, 10] 9 mixed rfl (by intro w; rfl) (by kernel_rfl) ?_) | (refine St.drawT (id := 13) [(0, 1), (1, 0), (2, 1), (3, 1), (4, 0), (5, 1), (6, 0), (7, 1)] (.pick [(8, 3), (9, 0), (10, 0), (11, 0)] (.pick [(12, 2), (13, 2), (14, 3), (15, 3)] .done (.pick [(13, 2), (12, 2), (14, 3), (15, 3)] .done .nope)) (.pick [(12, 2)] (.pick [(8, 3), (9, 0), (10, 0), (11, 0), (13, 2), (14, 3), (15, 3)] .done (.pick [(13, 2), (8, 3), (9, 0), (10, 0), (11, 0), (14, 3), (15, 3)] .done .nope)) (.pick [(13, 2)] (.pick [(8, 3), (9, 0), (10, 0), (11, 0), (12, 2), (14, 3), (15, 3)] .done (.pick [(12, 2), (8, 3), (9, 0), (10, 0), (11, 0), (14, 3), (15, 3)] .done .nope)) .nope))) [8, 14, 15] mixed (by kernel_rfl) ?_) | apply StD.pick | exact StD.nope | refine Gl hnm ?_ | refine Gl hrt ?_ | refine Gl hb ?_ | refine Gl hgr ?_ | (refine Ge ?_ ?_ <;> (intro h; try (exfalso; omega))) | fail)
            all_goals first | (exfalso; omega) | (exfalso; exact absurd hbz (by assumption)) | (exfalso; contradiction) | skip
            all_goals refine IH ⟨(k + 1, m', some z, own', (T.n, T.od, T.at_), H3, true, yn, yad, ym, ycap), hlt, hi', hxu3⟩ (by show ops.length - (k + 1) < ops.length - k; omega) ?_ ?_
            all_goals first | (exact Sub.go; done) | (exact Ent.go; done) | skip
          · by_cases hj1 : j = 1
            · subst hj1
              have hrc0 : rc ≠ 0 := fun h => hp ⟨rfl, h⟩
              rw [show nmB 1 = [112, 117, 116] from rfl] at hnm
              cases qu2 with
              | none =>
                rw [stgM_none hrr] at hi'
                have hyp' : yp = false := hyp
                subst hyp'
                repeat' (first | refine Ga ?_ | (refine Gb ?_; intro b) | (refine Gd ?_; intro g cap rest hcap) | (refine Gc ?_; intro ad cap) | (refine St.drawa (id := 12) [(0, 0), (1, 0), (2, 1), (3, 1), (4, 0), (5, 1), (6, 0), (7, 1), (8, 3)] [(10, 3)] [8, 10] 9 mixed rfl (by intro w; rfl) (by kernel_rfl) ?_) | (refine St.drawT (id := 13) [(0, 1), (1, 0), (2, 1), (3, 1), (4, 0), (5, 1), (6, 0), (7, 1)] (.pick [(8, 3), (9, 0), (10, 0), (11, 0)] (.pick [(12, 2), (13, 2), (14, 3), (15, 3)] .done (.pick [(13, 2), (12, 2), (14, 3), (15, 3)] .done .nope)) (.pick [(12, 2)] (.pick [(8, 3), (9, 0), (10, 0), (11, 0), (13, 2), (14, 3), (15, 3)] .done (.pick [(13, 2), (8, 3), (9, 0), (10, 0), (11, 0), (14, 3), (15, 3)] .done .nope)) (.pick [(13, 2)] (.pick [(8, 3), (9, 0), (10, 0), (11, 0), (12, 2), (14, 3), (15, 3)] .done (.pick [(12, 2), (8, 3), (9, 0), (10, 0), (11, 0), (14, 3), (15, 3)] .done .nope)) .nope))) [8, 14, 15] mixed (by kernel_rfl) ?_) | apply StD.pick | exact StD.nope | refine Gl hnm ?_ | (refine Ge ?_ ?_ <;> (intro h; try (exfalso; omega))) | fail)
                all_goals first | (exfalso; omega) | (exfalso; contradiction) | skip
                all_goals refine IH ⟨(k + 1, m', none, own', (2, 0, 0), H3, false, yn, yad, ym, ycap), hlt, hi', hxu3⟩ (by show ops.length - (k + 1) < ops.length - k; omega) ?_ ?_
                all_goals first | (exact Sub.go; done) | (exact Ent.go; done) | skip
              | some z =>
                rw [stgM_some hrr hp] at hi'
                obtain ⟨T, hpT, _, _, hpermT, _, hsT⟩ := id hi'.rep
                have hlz : z.pairs.length = (nodes T.rw).length := by rw [hpermT.length_eq, List.length_map]
                have hrt := mroot_r S m' 4
                rw [show rootOf m'.roots 4 = T.h from hpT.r] at hrt
                have hb := mblock_r S m' hi'.ok T.h
                rw [hpT.hb] at hb
                rw [show aggL ((some [3, T.hk false, T.n, T.hk true, T.od, T.at_, (nodes T.rw).length, T.cap] : Option (List Nat)).getD zero8) = .agg ⟨[.int .u64 ((3 : Nat) : Int), .int .u64 (T.hk false : Int), .int .u64 (T.n : Int), .int .u64 (T.hk true : Int), .int .u64 (T.od : Int), .int .u64 (T.at_ : Int), .int .u64 ((nodes T.rw).length : Int), .int .u64 (T.cap : Int)]⟩ from rfl] at hb
                have hz0 : T.hk true = 0 → T.od = 0 := fun h => by rcases hpT.st with ⟨_, h2, _⟩ | ⟨h1, _⟩; exact h2; exact absurd h h1
                have hz1 : T.hk true ≠ 0 → T.od ≠ 0 := fun h => by rcases hpT.st with ⟨h1, _⟩ | ⟨_, h2, _⟩; exact absurd h1 h; omega
                have hbz : (((T.hk true : Nat) : Int) == 0) = (((T.od : Nat) : Int) == 0) := by
                  by_cases h : T.hk true = 0
                  · rw [h, hz0 h]
                  · have h2 := hz1 h
                    rw [beq_false_of_ne (by omega), beq_false_of_ne (by omega)]
                injection hsT with hs1 hs2
                injection hs2 with hs2 hs3
                subst hs1 hs2 hs3
                have hyp' : yp = true := hyp
                have hym' : ym = (nodes T.rw).length := by rw [hym]; exact hlz
                have hzb : z.pairs.length ≤ k + 1 := hsz
                have hymb : ym ≤ 1000 := by omega
                subst hyp'
                repeat' (first | refine Ga ?_ | (refine Gb ?_; intro b) | (refine Gd ?_; intro g cap rest hcap) | (refine Gc ?_; intro ad cap) | (refine St.drawa (id := 12) [(0, 0), (1, 0), (2, 1), (3, 1), (4, 0), (5, 1), (6, 0), (7, 1), (8, 3)] [(10, 3)] [8, 10] 9 mixed rfl (by intro w; rfl) (by kernel_rfl) ?_) | (refine St.drawT (id := 13) [(0, 1), (1, 0), (2, 1), (3, 1), (4, 0), (5, 1), (6, 0), (7, 1)] (.pick [(8, 3), (9, 0), (10, 0), (11, 0)] (.pick [(12, 2), (13, 2), (14, 3), (15, 3)] .done (.pick [(13, 2), (12, 2), (14, 3), (15, 3)] .done .nope)) (.pick [(12, 2)] (.pick [(8, 3), (9, 0), (10, 0), (11, 0), (13, 2), (14, 3), (15, 3)] .done (.pick [(13, 2), (8, 3), (9, 0), (10, 0), (11, 0), (14, 3), (15, 3)] .done .nope)) (.pick [(13, 2)] (.pick [(8, 3), (9, 0), (10, 0), (11, 0), (12, 2), (14, 3), (15, 3)] .done (.pick [(12, 2), (8, 3), (9, 0), (10, 0), (11, 0), (14, 3), (15, 3)] .done .nope)) .nope))) [8, 14, 15] mixed (by kernel_rfl) ?_) | apply StD.pick | exact StD.nope | refine Gl hnm ?_ | refine Gl hrt ?_ | refine Gl hb ?_ | (refine Ge ?_ ?_ <;> (intro h; try (exfalso; omega))) | fail)
                all_goals first | (exfalso; omega) | (exfalso; exact absurd hbz (by assumption)) | (exfalso; contradiction) | skip
                all_goals refine IH ⟨(k + 1, m', some z, own', (T.n, T.od, T.at_), H3, true, yn, yad, ym, ycap), hlt, hi', hxu3⟩ (by show ops.length - (k + 1) < ops.length - k; omega) ?_ ?_
                all_goals first | (exact Sub.go; done) | (exact Ent.go; done) | skip
            · have hne := nmB_put h6 hj1
              generalize nmB j = nx at hnm hne
              cases qu2 with
              | none =>
                rw [stgM_none hrr] at hi'
                have hyp' : yp = false := hyp
                subst hyp'
                repeat' (first | refine Ga ?_ | (refine Gb ?_; intro b) | (refine Gd ?_; intro g cap rest hcap) | (refine Gc ?_; intro ad cap) | (refine St.drawa (id := 12) [(0, 0), (1, 0), (2, 1), (3, 1), (4, 0), (5, 1), (6, 0), (7, 1), (8, 3)] [(10, 3)] [8, 10] 9 mixed rfl (by intro w; rfl) (by kernel_rfl) ?_) | (refine St.drawT (id := 13) [(0, 1), (1, 0), (2, 1), (3, 1), (4, 0), (5, 1), (6, 0), (7, 1)] (.pick [(8, 3), (9, 0), (10, 0), (11, 0)] (.pick [(12, 2), (13, 2), (14, 3), (15, 3)] .done (.pick [(13, 2), (12, 2), (14, 3), (15, 3)] .done .nope)) (.pick [(12, 2)] (.pick [(8, 3), (9, 0), (10, 0), (11, 0), (13, 2), (14, 3), (15, 3)] .done (.pick [(13, 2), (8, 3), (9, 0), (10, 0), (11, 0), (14, 3), (15, 3)] .done .nope)) (.pick [(13, 2)] (.pick [(8, 3), (9, 0), (10, 0), (11, 0), (12, 2), (14, 3), (15, 3)] .done (.pick [(12, 2), (8, 3), (9, 0), (10, 0), (11, 0), (14, 3), (15, 3)] .done .nope)) .nope))) [8, 14, 15] mixed (by kernel_rfl) ?_) | apply StD.pick | exact StD.nope | refine Gl hnm ?_ | (refine Ge ?_ ?_ <;> (intro h; try (exfalso; omega))) | fail)
                all_goals first | (exfalso; omega) | (exfalso; contradiction) | skip
                all_goals refine IH ⟨(k + 1, m', none, own', (2, 0, 0), H3, false, yn, yad, ym, ycap), hlt, hi', hxu3⟩ (by show ops.length - (k + 1) < ops.length - k; omega) ?_ ?_
                all_goals first | (exact Sub.go; done) | (exact Ent.go; done) | skip
              | some z =>
                rw [stgM_some hrr hp] at hi'
                obtain ⟨T, hpT, _, _, hpermT, _, hsT⟩ := id hi'.rep
                have hlz : z.pairs.length = (nodes T.rw).length := by rw [hpermT.length_eq, List.length_map]
                have hrt := mroot_r S m' 4
                rw [show rootOf m'.roots 4 = T.h from hpT.r] at hrt
                have hb := mblock_r S m' hi'.ok T.h
                rw [hpT.hb] at hb
                rw [show aggL ((some [3, T.hk false, T.n, T.hk true, T.od, T.at_, (nodes T.rw).length, T.cap] : Option (List Nat)).getD zero8) = .agg ⟨[.int .u64 ((3 : Nat) : Int), .int .u64 (T.hk false : Int), .int .u64 (T.n : Int), .int .u64 (T.hk true : Int), .int .u64 (T.od : Int), .int .u64 (T.at_ : Int), .int .u64 ((nodes T.rw).length : Int), .int .u64 (T.cap : Int)]⟩ from rfl] at hb
                have hz0 : T.hk true = 0 → T.od = 0 := fun h => by rcases hpT.st with ⟨_, h2, _⟩ | ⟨h1, _⟩; exact h2; exact absurd h h1
                have hz1 : T.hk true ≠ 0 → T.od ≠ 0 := fun h => by rcases hpT.st with ⟨h1, _⟩ | ⟨_, h2, _⟩; exact absurd h1 h; omega
                have hbz : (((T.hk true : Nat) : Int) == 0) = (((T.od : Nat) : Int) == 0) := by
                  by_cases h : T.hk true = 0
                  · rw [h, hz0 h]
                  · have h2 := hz1 h
                    rw [beq_false_of_ne (by omega), beq_false_of_ne (by omega)]
                injection hsT with hs1 hs2
                injection hs2 with hs2 hs3
                subst hs1 hs2 hs3
                have hyp' : yp = true := hyp
                have hym' : ym = (nodes T.rw).length := by rw [hym]; exact hlz
                have hzb : z.pairs.length ≤ k + 1 := hsz
                have hymb : ym ≤ 1000 := by omega
                subst hyp'
                repeat' (first | refine Ga ?_ | (refine Gb ?_; intro b) | (refine Gd ?_; intro g cap rest hcap) | (refine Gc ?_; intro ad cap) | (refine St.drawa (id := 12) [(0, 0), (1, 0), (2, 1), (3, 1), (4, 0), (5, 1), (6, 0), (7, 1), (8, 3)] [(10, 3)] [8, 10] 9 mixed rfl (by intro w; rfl) (by kernel_rfl) ?_) | (refine St.drawT (id := 13) [(0, 1), (1, 0), (2, 1), (3, 1), (4, 0), (5, 1), (6, 0), (7, 1)] (.pick [(8, 3), (9, 0), (10, 0), (11, 0)] (.pick [(12, 2), (13, 2), (14, 3), (15, 3)] .done (.pick [(13, 2), (12, 2), (14, 3), (15, 3)] .done .nope)) (.pick [(12, 2)] (.pick [(8, 3), (9, 0), (10, 0), (11, 0), (13, 2), (14, 3), (15, 3)] .done (.pick [(13, 2), (8, 3), (9, 0), (10, 0), (11, 0), (14, 3), (15, 3)] .done .nope)) (.pick [(13, 2)] (.pick [(8, 3), (9, 0), (10, 0), (11, 0), (12, 2), (14, 3), (15, 3)] .done (.pick [(12, 2), (8, 3), (9, 0), (10, 0), (11, 0), (14, 3), (15, 3)] .done .nope)) .nope))) [8, 14, 15] mixed (by kernel_rfl) ?_) | apply StD.pick | exact StD.nope | refine Gl hnm ?_ | refine Gl hrt ?_ | refine Gl hb ?_ | (refine Ge ?_ ?_ <;> (intro h; try (exfalso; omega))) | fail)
                all_goals first | (exfalso; omega) | (exfalso; exact absurd hbz (by assumption)) | (exfalso; contradiction) | skip
                all_goals refine IH ⟨(k + 1, m', some z, own', (T.n, T.od, T.at_), H3, true, yn, yad, ym, ycap), hlt, hi', hxu3⟩ (by show ops.length - (k + 1) < ops.length - k; omega) ?_ ?_
                all_goals first | (exact Sub.go; done) | (exact Ent.go; done) | skip
      · repeat' (first | refine Ga ?_ | (refine Gb ?_; intro b) | (refine Gd ?_; intro g cap rest hcap) | (refine Gc ?_; intro ad cap) | (refine St.drawa (id := 12) [(0, 0), (1, 0), (2, 1), (3, 1), (4, 0), (5, 1), (6, 0), (7, 1), (8, 3)] [(10, 3)] [8, 10] 9 mixed rfl (by intro w; rfl) (by kernel_rfl) ?_) | (refine St.drawT (id := 13) [(0, 1), (1, 0), (2, 1), (3, 1), (4, 0), (5, 1), (6, 0), (7, 1)] (.pick [(8, 3), (9, 0), (10, 0), (11, 0)] (.pick [(12, 2), (13, 2), (14, 3), (15, 3)] .done (.pick [(13, 2), (12, 2), (14, 3), (15, 3)] .done .nope)) (.pick [(12, 2)] (.pick [(8, 3), (9, 0), (10, 0), (11, 0), (13, 2), (14, 3), (15, 3)] .done (.pick [(13, 2), (8, 3), (9, 0), (10, 0), (11, 0), (14, 3), (15, 3)] .done .nope)) (.pick [(13, 2)] (.pick [(8, 3), (9, 0), (10, 0), (11, 0), (12, 2), (14, 3), (15, 3)] .done (.pick [(12, 2), (8, 3), (9, 0), (10, 0), (11, 0), (14, 3), (15, 3)] .done .nope)) .nope))) [8, 14, 15] mixed (by kernel_rfl) ?_) | apply StD.pick | exact StD.nope  | (refine Ge ?_ ?_ <;> (intro h; try (exfalso; omega))) | fail)
        all_goals first | (exfalso; omega) | skip
        all_goals refine IH ⟨(k + 1, m, qu, own, (sn, so, sa), H, xp, xn, xad, xm, xcap), hlt, hi.more, hxu⟩ (by show ops.length - (k + 1) < ops.length - k; omega) ?_ ?_
        all_goals first | (exact Sub.go; done) | (exact Ent.go; done) | skip
    · obtain rfl : k = ops.length := by omega
      clear IH
      repeat' (first | refine Ga ?_ | (refine Gb ?_; intro b) | (refine Gd ?_; intro g cap rest hcap) | (refine Gc ?_; intro ad cap) | (refine St.drawa (id := 12) [(0, 0), (1, 0), (2, 1), (3, 1), (4, 0), (5, 1), (6, 0), (7, 1), (8, 3)] [(10, 3)] [8, 10] 9 mixed rfl (by intro w; rfl) (by kernel_rfl) ?_) | (refine St.drawT (id := 13) [(0, 1), (1, 0), (2, 1), (3, 1), (4, 0), (5, 1), (6, 0), (7, 1)] (.pick [(8, 3), (9, 0), (10, 0), (11, 0)] (.pick [(12, 2), (13, 2), (14, 3), (15, 3)] .done (.pick [(13, 2), (12, 2), (14, 3), (15, 3)] .done .nope)) (.pick [(12, 2)] (.pick [(8, 3), (9, 0), (10, 0), (11, 0), (13, 2), (14, 3), (15, 3)] .done (.pick [(13, 2), (8, 3), (9, 0), (10, 0), (11, 0), (14, 3), (15, 3)] .done .nope)) (.pick [(13, 2)] (.pick [(8, 3), (9, 0), (10, 0), (11, 0), (12, 2), (14, 3), (15, 3)] .done (.pick [(12, 2), (8, 3), (9, 0), (10, 0), (11, 0), (14, 3), (15, 3)] .done .nope)) .nope))) [8, 14, 15] mixed (by kernel_rfl) ?_) | apply StD.pick | exact StD.nope  | (refine Ge ?_ ?_ <;> (intro h; try (exfalso; omega))) | fail)
      all_goals first | (exfalso; omega) | skip
      refine St.d1 Tryz.func4 ⟨_, ⟨rfl, rfl⟩, Ent.go⟩
end Go.Proofs.YthbignifgljphaaGreatDoor
