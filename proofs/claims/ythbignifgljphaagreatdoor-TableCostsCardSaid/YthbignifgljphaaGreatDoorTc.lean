/-
  Package tumblerlaw22: TableCosts.
-/
import Derived.Test.YthbignifgljphaaGreatDoorTk
import Derived.Test.YthbignifgljphaaGreatDoorSr
namespace Go.Proofs.YthbignifgljphaaGreatDoor
set_option maxRecDepth 100000
set_option maxHeartbeats 4000000 in
theorem qcosts_t (q : HProp) (qv : Value) (ops : List OpB) (hv : ListR opbV q qv ops) : Tri Tryz.prog 8 #[qv] [q] fun v L => v = .bool true ∧ L = [q] := by
  obtain ⟨oad, ocap, rfl, _, hv⟩ := hv
  by_cases h40 : 40 < ops.length
  · refine Tri.of_body (vs := [_]) Tryz.func8 rfl rfl fun w0 F => ?_
    repeat' (first | refine Ga ?_ | (refine Gb ?_; intro b) | (refine Gd ?_; intro g cap rest hcap) | (refine Gc ?_; intro ad cap) | (refine St.drawa (id := 12) [(0, 0), (1, 0), (2, 1), (3, 1), (4, 0), (5, 1), (6, 0), (7, 1), (8, 3)] [(10, 3)] [8, 10] 9 mixed rfl (by intro w; rfl) (by kernel_rfl) ?_) | (refine Gt alive_t ?_; rintro _ _ ⟨rfl, rfl⟩) | (refine Ge ?_ ?_ <;> (intro h; try (exfalso; omega))) | fail)
    all_goals first | (exfalso; omega) | skip
    refine St.d1 Tryz.func8 ⟨_, ⟨rfl, rfl⟩, Ent.go⟩
  · refine Tri.of_body (vs := [_]) Tryz.func8 rfl rfl fun w0 F => ?_
    repeat' (first | refine Ga ?_ | (refine Gb ?_; intro b) | (refine Gd ?_; intro g cap rest hcap) | (refine Gc ?_; intro ad cap) | (refine St.drawa (id := 12) [(0, 0), (1, 0), (2, 1), (3, 1), (4, 0), (5, 1), (6, 0), (7, 1), (8, 3)] [(10, 3)] [8, 10] 9 mixed rfl (by intro w; rfl) (by kernel_rfl) ?_) | (refine Gt alive_t ?_; rintro _ _ ⟨rfl, rfl⟩) | (refine Gt mnew_t ?_; rintro _ _ ⟨S, rfl, rfl⟩) | (refine Ge ?_ ?_ <;> (intro h; try (exfalso; omega))) | fail)
    all_goals first | (exfalso; omega) | skip
    refine St.loopY (Lr := ?Lr1) (ι := { x : Nat × Ms × Option Tb × Nat × (Nat × Nat × Nat) // x.1 ≤ ops.length ∧ QInv x.2.1 5 x.2.2.1 x.2.2.2.1 x.2.2.2.2 x.1 }) (fun x => ops.length - x.1.1)
      (fun x => [(18, .int .i64 (x.1.1 : Int))]) (fun x => [MsE S x.1.2.1]) ⟨(0, ms0, none, 0, (2, 0, 0)), Nat.zero_le _, qinv0 5⟩ ?hE1 ?hL1 ?round1
    case hE1 => exact Sub.go
    case hL1 => exact Takes.go
    case round1 =>
      rintro ⟨⟨k, m, qu, own, stg⟩, hk, hi⟩ IH; dsimp only at hk hi IH ⊢
      by_cases hlt : k < ops.length
      · obtain ⟨bf, o, l, l1, rfl, hrd, hdr, htk⟩ := ListR.at (f := opbV) (sz := 3) (fun _ => rfl) hv k hlt
        generalize ops[k] = op at htk
        obtain ⟨⟨nm, key, val⟩, harg, hval⟩ := op
        unfold opbV at htk
        dsimp only at htk harg hval
        have hnm := qname_r nm
        by_cases hin : 0 ≤ nm ∧ nm < 6
        · obtain ⟨hn0, hn6⟩ := hin
          obtain ⟨e, h6⟩ := nameM_in hn0 hn6
          rw [e] at hnm
          generalize hj : nm.toNat = j at hnm h6
          have hol := hi.rep.own
          have hnq := hi.n
          have hbl := hi.len
          have hhd := handles_t S m (by omega)
          obtain ⟨r, hr, hran, own', hi'⟩ := hi.step (by omega) j key val h6 (by decide) harg
          have hrun := lrun_t S m hi.ok j h6 5 key val r hr
          have hst := hran.steps
          rw [← hbl] at hst
          have hdw := hran.dw
          have hpr := qprog_t ⟨⟨nmB j⟩⟩
          rw [show nmOf (⟨⟨nmB j⟩⟩ : ByteArray).data.toList = j from nmOf_nmB j h6] at hpr
          have hsh := qcd_short j h6
          unfold doneV at hrun
          generalize runMs m r = m' at hrun hi'
          rw [show ((5 : Nat) : Int) = 5 from rfl] at hrun
          generalize r.1.steps = st at hrun hst
          generalize r.1.dw = dw at hrun hdw
          generalize r.1.code = co at hrun
          generalize r.1.val = vl at hrun
          generalize r.1.news = nw at hrun
          generalize doesM j qu key val = qq at hi'
          generalize stgM stg j qu key val = stg2 at hi'
          repeat' (first | refine St.halt 12 ?_ |refine Ga ?_ | (refine Gb ?_; intro b) | (refine Gd ?_; intro g cap rest hcap) | (refine Gc ?_; intro ad cap) | (refine St.drawa (id := 12) [(0, 0), (1, 0), (2, 1), (3, 1), (4, 0), (5, 1), (6, 0), (7, 1), (8, 3)] [(10, 3)] [8, 10] 9 mixed rfl (by intro w; rfl) (by kernel_rfl) ?_)| refine Gl hnm ?_ | (refine Gt hpr ?_; rintro _ _ ⟨pad, pcap, rfl, rfl⟩) | (refine Gt hhd ?_; rintro _ _ ⟨had, hcap, rfl, rfl⟩) | (refine Ge ?_ ?_ <;> (intro h; try (exfalso; omega))) | fail)
          all_goals first | (exfalso; omega) | skip
          all_goals apply Halt.go
          revert b; intro Bo
          apply St.seq
          refine St.drawT0 (L0 := [bl Bo 30 [.int .i64 nm, .int .u64 (key : Int), .int .u64 (val : Int)]]) (id := 12) [(0, 0), (1, 0), (2, 1), (3, 1), (4, 0), (5, 1), (6, 0), (7, 1)] (.pick [(8, 3), (9, 2), (10, 3)] .done (.pick [(9, 2), (8, 3), (10, 3)] .done .nope)) [8, 10] mixed (by kernel_rfl) ?_
          repeat' (first | refine Ga ?_ | (refine Gb ?_; intro b) | (refine Gd ?_; intro g cap rest hcap) | (refine Gc ?_; intro ad cap) | (refine St.drawa (id := 12) [(0, 0), (1, 0), (2, 1), (3, 1), (4, 0), (5, 1), (6, 0), (7, 1), (8, 3)] [(10, 3)] [8, 10] 9 mixed rfl (by intro w; rfl) (by kernel_rfl) ?_)| refine Gl hnm ?_ | (refine Ge ?_ ?_ <;> (intro h; try (exfalso; omega))) | fail)
          refine StD.pick ?_ (StD.pick ?_ StD.nope)
          all_goals repeat' (first | refine Ga ?_ | (refine Gb ?_; intro b) | (refine Gd ?_; intro g cap rest hcap) | (refine Gc ?_; intro ad cap) | (refine St.drawa (id := 12) [(0, 0), (1, 0), (2, 1), (3, 1), (4, 0), (5, 1), (6, 0), (7, 1), (8, 3)] [(10, 3)] [8, 10] 9 mixed rfl (by intro w; rfl) (by kernel_rfl) ?_)| refine Gl hnm ?_ | (refine Gt hrun ?_; rintro _ _ ⟨nad, ncap, rfl, rfl⟩) | (refine Ge ?_ ?_ <;> (intro h; try (exfalso; omega))) | fail)
          all_goals first | (exfalso; omega) | skip
          all_goals refine IH ⟨(k + 1, m', qq.1, own', stg2), hlt, hi'⟩ (by show ops.length - (k + 1) < ops.length - k; omega) ?_ ?_
          all_goals first | (exact Sub.go; done) | (exact Ent.go; done) | skip
        · repeat' (first | refine Ga ?_ | (refine Gb ?_; intro b) | (refine Gd ?_; intro g cap rest hcap) | (refine Gc ?_; intro ad cap) | (refine St.drawa (id := 12) [(0, 0), (1, 0), (2, 1), (3, 1), (4, 0), (5, 1), (6, 0), (7, 1), (8, 3)] [(10, 3)] [8, 10] 9 mixed rfl (by intro w; rfl) (by kernel_rfl) ?_) | (refine Ge ?_ ?_ <;> (intro h; try (exfalso; omega))) | fail)
          all_goals first | (exfalso; omega) | skip
          all_goals refine IH ⟨(k + 1, m, qu, own, stg), hlt, hi.more⟩ (by show ops.length - (k + 1) < ops.length - k; omega) ?_ ?_
          all_goals first | (exact Sub.go; done) | (exact Ent.go; done) | skip
      · obtain rfl : k = ops.length := by omega
        clear IH
        repeat' (first | refine Ga ?_ | (refine Gb ?_; intro b) | (refine Gd ?_; intro g cap rest hcap) | (refine Gc ?_; intro ad cap) | (refine St.drawa (id := 12) [(0, 0), (1, 0), (2, 1), (3, 1), (4, 0), (5, 1), (6, 0), (7, 1), (8, 3)] [(10, 3)] [8, 10] 9 mixed rfl (by intro w; rfl) (by kernel_rfl) ?_) | (refine Ge ?_ ?_ <;> (intro h; try (exfalso; omega))) | fail)
        refine St.d1 Tryz.func8 ⟨_, ⟨rfl, rfl⟩, Ent.go⟩
end Go.Proofs.YthbignifgljphaaGreatDoor
