/-
  Package tumblerref11: touch.
-/
import Derived.Test.YthmbgodcpgkkeaaGreatMf
namespace Go.Proofs.YthmbgodcpgkkeaaGreat
set_option maxRecDepth 100000
theorem rblk_eq (c : Cfg) (i : Ins) (regs : List Nat) (H W : Nat) (hH : H = if i.op = 16 then rreg regs i.a else rreg regs i.b) (hW : W = if i.op = 16 then 0 else if i.op = 12 ∨ i.op = 14 then rreg regs i.c else i.imm) :
    rblk c i regs = if H < 1 ∨ c.blocks < (H : Int) ∨ 8 ≤ W then (0, 0, false) else ((H : Int) - 1, (W : Int), true) := by
  have h1 : (⟨[], 0, 0, 0, regs, 0, 0, 0, false, i, 0, 0, 0⟩ : Xs).hOf = H := by
    rw [hH]
    rfl
  have h2 : (⟨[], 0, 0, 0, regs, 0, 0, 0, false, i, 0, 0, 0⟩ : Xs).wOf = W := by
    rw [hW]
    unfold Xs.wOf
    dsimp only
    by_cases h16 : i.op = 16
    · rw [if_neg (by omega), if_pos h16, if_pos h16]
    · rw [if_neg h16, if_neg h16]; rfl
  unfold rblk Xs.block
  rw [h1, h2]
section
set_option maxHeartbeats 8000000 in
theorem rtouch_a {q : HProp} {ov : Value} {os : List Out} (hov : ListR Out.v q ov os) (hos : os.length ≤ 100000) {c : Cfg} (hc : Small c) (x : Px) (wad : Option Addr) (wcp : Nat) (t : Tp) (ht : t.at_ ≤ 100000) (r : Rr) (hxs : x.sn = r.puts.length) (hl : ListR entV q (.slice x.sa x.sn x.sc) r.puts) (hn : ListR u1V q (.slice wad r.news.length wcp) r.news) (hll : r.puts.length ≤ 900000) (hroom : x.room ≤ 1000000) (hrg : r.regs.length = 16) (hw : 0 ≤ r.writes ∧ r.writes ≤ 1000000) (hnl : 0 ≤ r.nl ∧ r.nl ≤ 1000000)
    (iop ia ib ic : Int) (imm : Nat) (ha0 : 0 ≤ ia) (ha1 : ia < 16) (hb0 : 0 ≤ ib) (hb1 : ib < 16) (hc0 : 0 ≤ ic) (hc1 : ic < 16) (ho : iop = 16) :
    Tri Tryz.prog 200 #[.agg ⟨rnV c ov x (.slice wad r.news.length wcp) t r⟩, .agg ⟨[.int .i64 iop, .int .i64 ia, .int .i64 ib, .int .i64 ic, .int .u64 (imm : Int)]⟩] [q] (RunO c q ov x (rtouch c os x.room ⟨iop, ia, ib, ic, imm⟩ r t).1 (rtouch c os x.room ⟨iop, ia, ib, ic, imm⟩ r t).2 id) := by
  have hb64 := hc.b1
  have hbb0 := hc.b0
  have hi : InsOk ⟨iop, ia, ib, ic, imm⟩ := ⟨ha0, ha1, hb0, hb1, hc0, hc1⟩
  have hwd := word6_r ⟨iop, ia, ib, ic, imm⟩ r.regs hrg hc0 hc1
  unfold Ins.v at hwd
  dsimp only at hwd
  rw [← g16_eq hrg] at hwd
  have hrx := rblk_eq c ⟨iop, ia, ib, ic, imm⟩ r.regs (rreg r.regs ia) (0) (by dsimp only; first | exact (if_pos ho).symm | exact (if_neg (show ¬ iop = 16 by omega)).symm) (by dsimp only; first | exact (if_pos ho).symm | exact (if_neg (show ¬ iop = 16 by omega)).symm)
  have hrtl := fun oad ocp => touch_tail hc oad os.length ocp x wad wcp (q := q)
  obtain ⟨xna, xnn, xnc, xma, xmn, xmc, xwt, xwl, xnt, xnl, xroom, xsa, xsn, xsc⟩ := x
  dsimp only at hxs hl hroom hrtl ⊢
  subst hxs
  have hR := rreads_r hov hos hc ⟨xna, xnn, xnc, xma, xmn, xmc, xwt, xwl, xnt, xnl, xroom, xsa, r.puts.length, xsc⟩ wad r.news.length wcp t ht r hl (by omega) hrg ⟨iop, ia, ib, ic, imm⟩ hi
  have hlv := fun b hb => rvlive_r hov hos hc r.v t ht b hb
  obtain ⟨oad, ocp, rfl, _⟩ := id hov
  have hra := rn_reg c (.slice oad os.length ocp) ⟨xna, xnn, xnc, xma, xmn, xmc, xwt, xwl, xnt, xnl, xroom, xsa, r.puts.length, xsc⟩ (.slice wad r.news.length wcp) t r ha0 ha1
  have hrb := rn_reg c (.slice oad os.length ocp) ⟨xna, xnn, xnc, xma, xmn, xmc, xwt, xwl, xnt, xnl, xroom, xsa, r.puts.length, xsc⟩ (.slice wad r.news.length wcp) t r hb0 hb1
  have hf := rfails_r c oad os.length ocp ⟨xna, xnn, xnc, xma, xmn, xmc, xwt, xwl, xnt, xnl, xroom, xsa, r.puts.length, xsc⟩ wad r.news.length wcp t r 44
  unfold rtouch
  have hgw : ((r.regs.getD ic.toNat 0 : Nat) : Int) = ((rreg r.regs ic : Nat) : Int) := rfl
  by_cases hbad : rreg r.regs ia < 1 ∨ c.blocks < ((rreg r.regs ia : Nat) : Int) ∨ 8 ≤ 0
  · rw [if_pos hbad] at hrx
    rw [hrx, if_pos (.inl rfl)]
    refine Tri.of_body (vs := [_, _]) Tryz.func200 rfl rfl fun w0 F => ?_
    repeat' (first | refine Ga ?_ | (refine Gb ?_; intro b) | (refine Gd ?_; intro g cap rest hcap) | (refine Gc ?_; intro ad cap) | refine Gl hwd ?_ | refine Gl hf ?_ | (refine StD.ok3 rfl (OpOk.ofW OpV.go) rfl ?_; rintro _ _ ⟨rfl, rfl⟩) | (refine Ge ?_ ?_ <;> (intro h; try (exfalso; omega))) | fail)
    all_goals first | (exfalso; omega) | (exfalso; unfold rreg at *; omega) | skip
    all_goals exact St.d1 Tryz.func200 ⟨_, ⟨q, xsa, xsc, wad, wcp, Gr.refl q, hl, hn, rfl, rfl⟩, Ent.go⟩
  rw [if_neg hbad] at hrx
  rw [hrx]
  dsimp only
  replace hwd : RTri Tryz.prog 260 #[.agg ⟨[.int .i64 iop, .int .i64 ia, .int .i64 ib, .int .i64 ic, .int .u64 (imm : Int)]⟩, .agg ⟨g16 r.regs⟩] [] (.int .u64 (((if iop = 12 ∨ iop = 14 then rreg r.regs ic else imm) : Nat) : Int)) := hwd
  skip
  generalize rreg r.regs ia = H at *
  replace hrx : rblk c ⟨iop, ia, ib, ic, imm⟩ r.regs = ((H : Int) - 1, (0 : Int), true) := hrx
  have hat16 := rat_r c hc 16 ((H : Int) - 1) (0 : Int)
  have hat11 := rat_r c hc 11 ((H : Int) - 1) 0
  have hget := rget_r hl (by omega) (xroom : Int) (c.at 11 ((H : Int) - 1) 0)
  have hR := fun ho room => hR ho room ((H : Int) - 1) (0 : Int) (by omega)
  have hlv := hlv ((H : Int) - 1) (by omega)
  cases hm : mget (allP r.puts) (c.at 11 ((H : Int) - 1) 0) with
  | some y =>
    rw [hm] at hget
    dsimp only [Option.isSome, Option.getD] at hget ⊢
    by_cases hy : y ≠ 1
    · rw [if_pos (.inr ⟨rfl, hy⟩)]
      have hy2 : ¬ ((y : Nat) : Int) = 1 := by omega
      refine Tri.of_body (vs := [_, _]) Tryz.func200 rfl rfl fun w0 F => ?_
      repeat' (first | refine Ga ?_ | (refine Gb ?_; intro b) | (refine Gd ?_; intro g cap rest hcap) | (refine Gc ?_; intro ad cap) | (refine St.draw (id := 10) [(0, 0), (1, 0), (2, 1), (3, 0), (4, 0), (5, 0), (6, 1), (7, 0), (8, 1), (9, 1), (10, 0), (11, 0), (12, 0), (13, 0), (14, 0)] [] mixed (by kernel_rfl) ?_) | refine Gl hwd ?_ | refine Gl hat16 ?_ | refine Gl hat11 ?_ | refine Gl hget ?_ | refine Gl hf ?_ | (refine StD.ok3 rfl (OpOk.ofW OpV.go) rfl ?_; rintro _ _ ⟨rfl, rfl⟩) | (refine Ge ?_ ?_ <;> (intro h; try (exfalso; omega))) | fail)
      all_goals first | (exfalso; omega) | skip
      all_goals exact St.d1 Tryz.func200 ⟨_, ⟨q, xsa, xsc, wad, wcp, Gr.refl q, hl, hn, rfl, rfl⟩, Ent.go⟩
    rw [if_neg (fun e => e.elim (fun e => Bool.noConfusion e) (fun e => hy e.2))]
    have hy1 : y = 1 := by omega
    subst hy1
    by_cases hrd : readsB iop = true
    · rw [if_pos hrd]
      have ho2 : iop = 11 ∨ iop = 12 := by unfold readsB at hrd; simp only [Bool.or_eq_true, beq_iff_eq] at hrd; exact hrd
      have hR := hR ho2 xroom
      obtain ⟨k1, k2⟩ := rrd_keep c os xroom (i := ⟨iop, ia, ib, ic, imm⟩) ho2 r ((H : Int) - 1) (0 : Int) t
      show Tri _ _ _ _ (RunO c q _ _ (rrd c os xroom ⟨iop, ia, ib, ic, imm⟩ r ((H : Int) - 1) (0 : Int) t).1 (rrd c os xroom ⟨iop, ia, ib, ic, imm⟩ r ((H : Int) - 1) (0 : Int) t).2 id)
      generalize rrd c os xroom ⟨iop, ia, ib, ic, imm⟩ r ((H : Int) - 1) (0 : Int) t = y at hR k1 k2 ⊢
      obtain ⟨t3, r3⟩ := y
      unfold Ins.v at hR
      dsimp only at hR k1 k2 ⊢
      refine RunO.same (r := r) rfl hl hn k1 k2 ?_
      refine Tri.of_body (vs := [_, _]) Tryz.func200 rfl rfl fun w0 F => ?_
      repeat' (first | refine Ga ?_ | (refine Gb ?_; intro b) | (refine Gd ?_; intro g cap rest hcap) | (refine Gc ?_; intro ad cap) | refine Gl hwd ?_ | refine Gl hat16 ?_ | refine Gl hat11 ?_ | refine Gl hget ?_ | refine Gl hR ?_ | (refine StD.ok3 rfl (OpOk.ofW OpV.go) rfl ?_; rintro _ _ ⟨rfl, rfl⟩) | (refine Ge ?_ ?_ <;> (intro h; try (exfalso; omega))) | fail)
      all_goals first | (exfalso; omega) | skip
      all_goals exact St.d1 Tryz.func200 ⟨_, ⟨rfl, rfl⟩, Ent.go⟩
    rw [if_neg hrd, if_pos rfl]
    have ho2 : iop = 13 ∨ iop = 14 ∨ iop = 16 := by unfold readsB at hrd; simp only [Bool.or_eq_true, beq_iff_eq] at hrd; omega
    refine Tri.of_body (vs := [_, _]) Tryz.func200 rfl rfl fun w0 F => ?_
    repeat' (first | refine St.halt 21 ?_ |refine Ga ?_ | (refine Gb ?_; intro b) | (refine Gd ?_; intro g cap rest hcap) | (refine Gc ?_; intro ad cap) | (refine St.draw (id := 10) [(0, 0), (1, 0), (2, 1), (3, 0), (4, 0), (5, 0), (6, 1), (7, 0), (8, 1), (9, 1), (10, 0), (11, 0), (12, 0), (13, 0), (14, 0)] [] mixed (by kernel_rfl) ?_) | refine Gl hwd ?_ | refine Gl hat16 ?_ | refine Gl hat11 ?_ | refine Gl hget ?_ | (refine StD.ok3 rfl (OpOk.ofW OpV.go) rfl ?_; rintro _ _ ⟨rfl, rfl⟩) | (refine Ge ?_ ?_ <;> (intro h; try (exfalso; omega))) | fail)
    all_goals first | (exfalso; omega) | skip
    all_goals exact Halt.go (St.conv (hrtl oad ocp t r rfl hl hn hll hroom hw hnl ⟨iop, ia, ib, ic, imm⟩ hi ho2 ((H : Int) - 1) (0 : Int) (by omega) (by omega) hrx _ _ _ w0 F) Sub.go Ent.go)
  | none =>
    rw [hm] at hget
    dsimp only [Option.isSome, Option.getD] at hget ⊢
    rw [if_neg (fun e => e.elim (fun e => Bool.noConfusion e) (fun e => Bool.noConfusion e.1))]
    by_cases hrd : readsB iop = true
    · rw [if_pos hrd]
      have ho2 : iop = 11 ∨ iop = 12 := by unfold readsB at hrd; simp only [Bool.or_eq_true, beq_iff_eq] at hrd; exact hrd
      have hR := hR ho2 xroom
      obtain ⟨k1, k2⟩ := rrd_keep c os xroom (i := ⟨iop, ia, ib, ic, imm⟩) ho2 r ((H : Int) - 1) (0 : Int) t
      show Tri _ _ _ _ (RunO c q _ _ (rrd c os xroom ⟨iop, ia, ib, ic, imm⟩ r ((H : Int) - 1) (0 : Int) t).1 (rrd c os xroom ⟨iop, ia, ib, ic, imm⟩ r ((H : Int) - 1) (0 : Int) t).2 id)
      generalize rrd c os xroom ⟨iop, ia, ib, ic, imm⟩ r ((H : Int) - 1) (0 : Int) t = y at hR k1 k2 ⊢
      obtain ⟨t3, r3⟩ := y
      unfold Ins.v at hR
      dsimp only at hR k1 k2 ⊢
      refine RunO.same (r := r) rfl hl hn k1 k2 ?_
      refine Tri.of_body (vs := [_, _]) Tryz.func200 rfl rfl fun w0 F => ?_
      repeat' (first | refine Ga ?_ | (refine Gb ?_; intro b) | (refine Gd ?_; intro g cap rest hcap) | (refine Gc ?_; intro ad cap) | refine Gl hwd ?_ | refine Gl hat16 ?_ | refine Gl hat11 ?_ | refine Gl hget ?_ | refine Gl hR ?_ | (refine StD.ok3 rfl (OpOk.ofW OpV.go) rfl ?_; rintro _ _ ⟨rfl, rfl⟩) | (refine Ge ?_ ?_ <;> (intro h; try (exfalso; omega))) | fail)
      all_goals first | (exfalso; omega) | skip
      all_goals exact St.d1 Tryz.func200 ⟨_, ⟨rfl, rfl⟩, Ent.go⟩
    rw [if_neg hrd, if_neg Bool.false_ne_true]
    have ho2 : iop = 13 ∨ iop = 14 ∨ iop = 16 := by unfold readsB at hrd; simp only [Bool.or_eq_true, beq_iff_eq] at hrd; omega
    unfold Rr.after
    generalize rlive c os r.v ((H : Int) - 1) t = y at hlv ⊢
    obtain ⟨t2, v2, s⟩ := y
    dsimp only at hlv ⊢
    obtain ⟨v, nt, nl, puts, regs, pc, steps, writes, news, s0, er, vl⟩ := r
    obtain ⟨who, seq, held, stale⟩ := v2
    obtain ⟨ta2, ⟨ak2, oa2, ⟨ov2a, os2a⟩, ⟨nv2b, ns2b⟩⟩, tn2⟩ := t2
    obtain ⟨who0, seq0, held0, stale0⟩ := v
    obtain ⟨ta, ⟨ak, oa, ⟨ova, osa⟩, ⟨nvb, nsb⟩⟩, tn⟩ := t
    unfold rvV tpV Cfg.v at hlv
    dsimp only [List.cons_append, List.nil_append] at hlv hget hrx hll hw hnl hl hn hwd ⊢
    by_cases h1 : s = 1
    · rw [if_pos h1]
      refine Tri.of_body (vs := [_, _]) Tryz.func200 rfl rfl fun w0 F => ?_
      repeat' (first | refine St.halt 21 ?_ |refine Ga ?_ | (refine Gb ?_; intro b) | (refine Gd ?_; intro g cap rest hcap) | (refine Gc ?_; intro ad cap) | (refine St.draw (id := 10) [(0, 0), (1, 0), (2, 1), (3, 0), (4, 0), (5, 0), (6, 1), (7, 0), (8, 1), (9, 1), (10, 0), (11, 0), (12, 0), (13, 0), (14, 0)] [] mixed (by kernel_rfl) ?_) | refine Gl hwd ?_ | refine Gl hat16 ?_ | refine Gl hat11 ?_ | refine Gl hget ?_ | refine Gl hlv ?_ | (refine StD.ok3 rfl (OpOk.ofW OpV.go) rfl ?_; rintro _ _ ⟨rfl, rfl⟩) | (refine Ge ?_ ?_ <;> (intro h; try (exfalso; omega))) | fail)
      all_goals first | (exfalso; omega) | skip
      all_goals exact Halt.go (St.conv (hrtl oad ocp ⟨ta2, ⟨ak2, oa2, ⟨ov2a, os2a⟩, ⟨nv2b, ns2b⟩⟩, tn2⟩ ⟨⟨who, seq, held, stale⟩, nt, nl, puts, regs, pc, steps, writes, news, s0, er, vl⟩ rfl hl hn hll hroom hw hnl ⟨iop, ia, ib, ic, imm⟩ hi ho2 ((H : Int) - 1) (0 : Int) (by omega) (by omega) hrx _ _ _ w0 F) Sub.go Ent.go)
    · rw [if_neg h1]
      have hen := rends_r c oad os.length ocp ⟨xna, xnn, xnc, xma, xmn, xmc, xwt, xwl, xnt, xnl, xroom, xsa, puts.length, xsc⟩ wad news.length wcp ⟨ta2, ⟨ak2, oa2, ⟨ov2a, os2a⟩, ⟨nv2b, ns2b⟩⟩, tn2⟩ ⟨⟨who, seq, held, stale⟩, nt, nl, puts, regs, pc, steps, writes, news, s0, er, vl⟩ s
      obtain ⟨k1, k2⟩ := ends_keep ⟨⟨who, seq, held, stale⟩, nt, nl, puts, regs, pc, steps, writes, news, s0, er, vl⟩ s
      refine RunO.same (r := ⟨⟨who, seq, held, stale⟩, nt, nl, puts, regs, pc, steps, writes, news, s0, er, vl⟩) rfl hl hn k1 k2 ?_
      refine Tri.of_body (vs := [_, _]) Tryz.func200 rfl rfl fun w0 F => ?_
      repeat' (first | refine Ga ?_ | (refine Gb ?_; intro b) | (refine Gd ?_; intro g cap rest hcap) | (refine Gc ?_; intro ad cap) | (refine St.draw (id := 10) [(0, 0), (1, 0), (2, 1), (3, 0), (4, 0), (5, 0), (6, 1), (7, 0), (8, 1), (9, 1), (10, 0), (11, 0), (12, 0), (13, 0), (14, 0)] [] mixed (by kernel_rfl) ?_) | refine Gl hwd ?_ | refine Gl hat16 ?_ | refine Gl hat11 ?_ | refine Gl hget ?_ | refine Gl hlv ?_ | refine Gl hen ?_ | (refine StD.ok3 rfl (OpOk.ofW OpV.go) rfl ?_; rintro _ _ ⟨rfl, rfl⟩) | (refine Ge ?_ ?_ <;> (intro h; try (exfalso; omega))) | fail)
      all_goals first | (exfalso; omega) | skip
      all_goals exact St.d1 Tryz.func200 ⟨_, ⟨rfl, rfl⟩, Ent.go⟩
set_option maxHeartbeats 8000000 in
theorem rtouch_b {q : HProp} {ov : Value} {os : List Out} (hov : ListR Out.v q ov os) (hos : os.length ≤ 100000) {c : Cfg} (hc : Small c) (x : Px) (wad : Option Addr) (wcp : Nat) (t : Tp) (ht : t.at_ ≤ 100000) (r : Rr) (hxs : x.sn = r.puts.length) (hl : ListR entV q (.slice x.sa x.sn x.sc) r.puts) (hn : ListR u1V q (.slice wad r.news.length wcp) r.news) (hll : r.puts.length ≤ 900000) (hroom : x.room ≤ 1000000) (hrg : r.regs.length = 16) (hw : 0 ≤ r.writes ∧ r.writes ≤ 1000000) (hnl : 0 ≤ r.nl ∧ r.nl ≤ 1000000)
    (iop ia ib ic : Int) (imm : Nat) (ha0 : 0 ≤ ia) (ha1 : ia < 16) (hb0 : 0 ≤ ib) (hb1 : ib < 16) (hc0 : 0 ≤ ic) (hc1 : ic < 16) (ho : iop = 11 ∨ iop = 12 ∨ iop = 13 ∨ iop = 14) :
    Tri Tryz.prog 200 #[.agg ⟨rnV c ov x (.slice wad r.news.length wcp) t r⟩, .agg ⟨[.int .i64 iop, .int .i64 ia, .int .i64 ib, .int .i64 ic, .int .u64 (imm : Int)]⟩] [q] (RunO c q ov x (rtouch c os x.room ⟨iop, ia, ib, ic, imm⟩ r t).1 (rtouch c os x.room ⟨iop, ia, ib, ic, imm⟩ r t).2 id) := by
  have hb64 := hc.b1
  have hbb0 := hc.b0
  have hi : InsOk ⟨iop, ia, ib, ic, imm⟩ := ⟨ha0, ha1, hb0, hb1, hc0, hc1⟩
  have hwd := word6_r ⟨iop, ia, ib, ic, imm⟩ r.regs hrg hc0 hc1
  unfold Ins.v at hwd
  dsimp only at hwd
  rw [← g16_eq hrg] at hwd
  have hrx := rblk_eq c ⟨iop, ia, ib, ic, imm⟩ r.regs (rreg r.regs ib) ((if iop = 12 ∨ iop = 14 then rreg r.regs ic else imm)) (by dsimp only; first | exact (if_pos ho).symm | exact (if_neg (show ¬ iop = 16 by omega)).symm) (by dsimp only; first | exact (if_pos ho).symm | exact (if_neg (show ¬ iop = 16 by omega)).symm)
  have hrtl := fun oad ocp => touch_tail hc oad os.length ocp x wad wcp (q := q)
  obtain ⟨xna, xnn, xnc, xma, xmn, xmc, xwt, xwl, xnt, xnl, xroom, xsa, xsn, xsc⟩ := x
  dsimp only at hxs hl hroom hrtl ⊢
  subst hxs
  have hR := rreads_r hov hos hc ⟨xna, xnn, xnc, xma, xmn, xmc, xwt, xwl, xnt, xnl, xroom, xsa, r.puts.length, xsc⟩ wad r.news.length wcp t ht r hl (by omega) hrg ⟨iop, ia, ib, ic, imm⟩ hi
  have hlv := fun b hb => rvlive_r hov hos hc r.v t ht b hb
  obtain ⟨oad, ocp, rfl, _⟩ := id hov
  have hra := rn_reg c (.slice oad os.length ocp) ⟨xna, xnn, xnc, xma, xmn, xmc, xwt, xwl, xnt, xnl, xroom, xsa, r.puts.length, xsc⟩ (.slice wad r.news.length wcp) t r ha0 ha1
  have hrb := rn_reg c (.slice oad os.length ocp) ⟨xna, xnn, xnc, xma, xmn, xmc, xwt, xwl, xnt, xnl, xroom, xsa, r.puts.length, xsc⟩ (.slice wad r.news.length wcp) t r hb0 hb1
  have hf := rfails_r c oad os.length ocp ⟨xna, xnn, xnc, xma, xmn, xmc, xwt, xwl, xnt, xnl, xroom, xsa, r.puts.length, xsc⟩ wad r.news.length wcp t r 44
  unfold rtouch
  have hgw : ((r.regs.getD ic.toNat 0 : Nat) : Int) = ((rreg r.regs ic : Nat) : Int) := rfl
  by_cases hbad : rreg r.regs ib < 1 ∨ c.blocks < ((rreg r.regs ib : Nat) : Int) ∨ 8 ≤ (if iop = 12 ∨ iop = 14 then rreg r.regs ic else imm)
  · rw [if_pos hbad] at hrx
    rw [hrx, if_pos (.inl rfl)]
    refine Tri.of_body (vs := [_, _]) Tryz.func200 rfl rfl fun w0 F => ?_
    repeat' (first | refine Ga ?_ | (refine Gb ?_; intro b) | (refine Gd ?_; intro g cap rest hcap) | (refine Gc ?_; intro ad cap) | refine Gl hwd ?_ | refine Gl hf ?_ | (refine StD.ok3 rfl (OpOk.ofW OpV.go) rfl ?_; rintro _ _ ⟨rfl, rfl⟩) | (refine Ge ?_ ?_ <;> (intro h; try (exfalso; omega))) | fail)
    all_goals first | (exfalso; omega) | (exfalso; unfold rreg at *; omega) | skip
    all_goals exact St.d1 Tryz.func200 ⟨_, ⟨q, xsa, xsc, wad, wcp, Gr.refl q, hl, hn, rfl, rfl⟩, Ent.go⟩
  rw [if_neg hbad] at hrx
  rw [hrx]
  dsimp only
  replace hwd : RTri Tryz.prog 260 #[.agg ⟨[.int .i64 iop, .int .i64 ia, .int .i64 ib, .int .i64 ic, .int .u64 (imm : Int)]⟩, .agg ⟨g16 r.regs⟩] [] (.int .u64 (((if iop = 12 ∨ iop = 14 then rreg r.regs ic else imm) : Nat) : Int)) := hwd
  generalize (if iop = 12 ∨ iop = 14 then rreg r.regs ic else imm) = W at *
  generalize rreg r.regs ib = H at *
  replace hrx : rblk c ⟨iop, ia, ib, ic, imm⟩ r.regs = ((H : Int) - 1, (W : Int), true) := hrx
  have hat16 := rat_r c hc 16 ((H : Int) - 1) (W : Int)
  have hat11 := rat_r c hc 11 ((H : Int) - 1) 0
  have hget := rget_r hl (by omega) (xroom : Int) (c.at 11 ((H : Int) - 1) 0)
  have hR := fun ho room => hR ho room ((H : Int) - 1) (W : Int) (by omega)
  have hlv := hlv ((H : Int) - 1) (by omega)
  cases hm : mget (allP r.puts) (c.at 11 ((H : Int) - 1) 0) with
  | some y =>
    rw [hm] at hget
    dsimp only [Option.isSome, Option.getD] at hget ⊢
    by_cases hy : y ≠ 1
    · rw [if_pos (.inr ⟨rfl, hy⟩)]
      have hy2 : ¬ ((y : Nat) : Int) = 1 := by omega
      refine Tri.of_body (vs := [_, _]) Tryz.func200 rfl rfl fun w0 F => ?_
      repeat' (first | refine Ga ?_ | (refine Gb ?_; intro b) | (refine Gd ?_; intro g cap rest hcap) | (refine Gc ?_; intro ad cap) | (refine St.draw (id := 10) [(0, 0), (1, 0), (2, 1), (3, 0), (4, 0), (5, 0), (6, 1), (7, 0), (8, 1), (9, 1), (10, 0), (11, 0), (12, 0), (13, 0), (14, 0)] [] mixed (by kernel_rfl) ?_) | refine Gl hwd ?_ | refine Gl hat16 ?_ | refine Gl hat11 ?_ | refine Gl hget ?_ | refine Gl hf ?_ | (refine StD.ok3 rfl (OpOk.ofW OpV.go) rfl ?_; rintro _ _ ⟨rfl, rfl⟩) | (refine Ge ?_ ?_ <;> (intro h; try (exfalso; omega))) | fail)
      all_goals first | (exfalso; omega) | skip
      all_goals exact St.d1 Tryz.func200 ⟨_, ⟨q, xsa, xsc, wad, wcp, Gr.refl q, hl, hn, rfl, rfl⟩, Ent.go⟩
    rw [if_neg (fun e => e.elim (fun e => Bool.noConfusion e) (fun e => hy e.2))]
    have hy1 : y = 1 := by omega
    subst hy1
    by_cases hrd : readsB iop = true
    · rw [if_pos hrd]
      have ho2 : iop = 11 ∨ iop = 12 := by unfold readsB at hrd; simp only [Bool.or_eq_true, beq_iff_eq] at hrd; exact hrd
      have hR := hR ho2 xroom
      obtain ⟨k1, k2⟩ := rrd_keep c os xroom (i := ⟨iop, ia, ib, ic, imm⟩) ho2 r ((H : Int) - 1) (W : Int) t
      show Tri _ _ _ _ (RunO c q _ _ (rrd c os xroom ⟨iop, ia, ib, ic, imm⟩ r ((H : Int) - 1) (W : Int) t).1 (rrd c os xroom ⟨iop, ia, ib, ic, imm⟩ r ((H : Int) - 1) (W : Int) t).2 id)
      generalize rrd c os xroom ⟨iop, ia, ib, ic, imm⟩ r ((H : Int) - 1) (W : Int) t = y at hR k1 k2 ⊢
      obtain ⟨t3, r3⟩ := y
      unfold Ins.v at hR
      dsimp only at hR k1 k2 ⊢
      refine RunO.same (r := r) rfl hl hn k1 k2 ?_
      refine Tri.of_body (vs := [_, _]) Tryz.func200 rfl rfl fun w0 F => ?_
      repeat' (first | refine Ga ?_ | (refine Gb ?_; intro b) | (refine Gd ?_; intro g cap rest hcap) | (refine Gc ?_; intro ad cap) | (refine St.draw (id := 10) [(0, 0), (1, 0), (2, 1), (3, 0), (4, 0), (5, 0), (6, 1), (7, 0), (8, 1), (9, 1), (10, 0), (11, 0), (12, 0), (13, 0), (14, 0)] [] mixed (by kernel_rfl) ?_) | refine Gl hwd ?_ | refine Gl hat16 ?_ | refine Gl hat11 ?_ | refine Gl hget ?_ | refine Gl hR ?_ | (refine StD.ok3 rfl (OpOk.ofW OpV.go) rfl ?_; rintro _ _ ⟨rfl, rfl⟩) | (refine Ge ?_ ?_ <;> (intro h; try (exfalso; omega))) | fail)
      all_goals first | (exfalso; omega) | skip
      all_goals exact St.d1 Tryz.func200 ⟨_, ⟨rfl, rfl⟩, Ent.go⟩
    rw [if_neg hrd, if_pos rfl]
    have ho2 : iop = 13 ∨ iop = 14 ∨ iop = 16 := by unfold readsB at hrd; simp only [Bool.or_eq_true, beq_iff_eq] at hrd; omega
    refine Tri.of_body (vs := [_, _]) Tryz.func200 rfl rfl fun w0 F => ?_
    repeat' (first | refine St.halt 21 ?_ |refine Ga ?_ | (refine Gb ?_; intro b) | (refine Gd ?_; intro g cap rest hcap) | (refine Gc ?_; intro ad cap) | (refine St.draw (id := 10) [(0, 0), (1, 0), (2, 1), (3, 0), (4, 0), (5, 0), (6, 1), (7, 0), (8, 1), (9, 1), (10, 0), (11, 0), (12, 0), (13, 0), (14, 0)] [] mixed (by kernel_rfl) ?_) | refine Gl hwd ?_ | refine Gl hat16 ?_ | refine Gl hat11 ?_ | refine Gl hget ?_ | (refine StD.ok3 rfl (OpOk.ofW OpV.go) rfl ?_; rintro _ _ ⟨rfl, rfl⟩) | (refine Ge ?_ ?_ <;> (intro h; try (exfalso; omega))) | fail)
    all_goals first | (exfalso; omega) | skip
    all_goals exact Halt.go (St.conv (hrtl oad ocp t r rfl hl hn hll hroom hw hnl ⟨iop, ia, ib, ic, imm⟩ hi ho2 ((H : Int) - 1) (W : Int) (by omega) (by omega) hrx _ _ _ w0 F) Sub.go Ent.go)
  | none =>
    rw [hm] at hget
    dsimp only [Option.isSome, Option.getD] at hget ⊢
    rw [if_neg (fun e => e.elim (fun e => Bool.noConfusion e) (fun e => Bool.noConfusion e.1))]
    by_cases hrd : readsB iop = true
    · rw [if_pos hrd]
      have ho2 : iop = 11 ∨ iop = 12 := by unfold readsB at hrd; simp only [Bool.or_eq_true, beq_iff_eq] at hrd; exact hrd
      have hR := hR ho2 xroom
      obtain ⟨k1, k2⟩ := rrd_keep c os xroom (i := ⟨iop, ia, ib, ic, imm⟩) ho2 r ((H : Int) - 1) (W : Int) t
      show Tri _ _ _ _ (RunO c q _ _ (rrd c os xroom ⟨iop, ia, ib, ic, imm⟩ r ((H : Int) - 1) (W : Int) t).1 (rrd c os xroom ⟨iop, ia, ib, ic, imm⟩ r ((H : Int) - 1) (W : Int) t).2 id)
      generalize rrd c os xroom ⟨iop, ia, ib, ic, imm⟩ r ((H : Int) - 1) (W : Int) t = y at hR k1 k2 ⊢
      obtain ⟨t3, r3⟩ := y
      unfold Ins.v at hR
      dsimp only at hR k1 k2 ⊢
      refine RunO.same (r := r) rfl hl hn k1 k2 ?_
      refine Tri.of_body (vs := [_, _]) Tryz.func200 rfl rfl fun w0 F => ?_
      repeat' (first | refine Ga ?_ | (refine Gb ?_; intro b) | (refine Gd ?_; intro g cap rest hcap) | (refine Gc ?_; intro ad cap) | (refine St.draw (id := 10) [(0, 0), (1, 0), (2, 1), (3, 0), (4, 0), (5, 0), (6, 1), (7, 0), (8, 1), (9, 1), (10, 0), (11, 0), (12, 0), (13, 0), (14, 0)] [] mixed (by kernel_rfl) ?_) | refine Gl hwd ?_ | refine Gl hat16 ?_ | refine Gl hat11 ?_ | refine Gl hget ?_ | refine Gl hR ?_ | (refine StD.ok3 rfl (OpOk.ofW OpV.go) rfl ?_; rintro _ _ ⟨rfl, rfl⟩) | (refine Ge ?_ ?_ <;> (intro h; try (exfalso; omega))) | fail)
      all_goals first | (exfalso; omega) | skip
      all_goals exact St.d1 Tryz.func200 ⟨_, ⟨rfl, rfl⟩, Ent.go⟩
    rw [if_neg hrd, if_neg Bool.false_ne_true]
    have ho2 : iop = 13 ∨ iop = 14 ∨ iop = 16 := by unfold readsB at hrd; simp only [Bool.or_eq_true, beq_iff_eq] at hrd; omega
    unfold Rr.after
    generalize rlive c os r.v ((H : Int) - 1) t = y at hlv ⊢
    obtain ⟨t2, v2, s⟩ := y
    dsimp only at hlv ⊢
    obtain ⟨v, nt, nl, puts, regs, pc, steps, writes, news, s0, er, vl⟩ := r
    obtain ⟨who, seq, held, stale⟩ := v2
    obtain ⟨ta2, ⟨ak2, oa2, ⟨ov2a, os2a⟩, ⟨nv2b, ns2b⟩⟩, tn2⟩ := t2
    obtain ⟨who0, seq0, held0, stale0⟩ := v
    obtain ⟨ta, ⟨ak, oa, ⟨ova, osa⟩, ⟨nvb, nsb⟩⟩, tn⟩ := t
    unfold rvV tpV Cfg.v at hlv
    dsimp only [List.cons_append, List.nil_append] at hlv hget hrx hll hw hnl hl hn hwd ⊢
    by_cases h1 : s = 1
    · rw [if_pos h1]
      refine Tri.of_body (vs := [_, _]) Tryz.func200 rfl rfl fun w0 F => ?_
      repeat' (first | refine St.halt 21 ?_ |refine Ga ?_ | (refine Gb ?_; intro b) | (refine Gd ?_; intro g cap rest hcap) | (refine Gc ?_; intro ad cap) | (refine St.draw (id := 10) [(0, 0), (1, 0), (2, 1), (3, 0), (4, 0), (5, 0), (6, 1), (7, 0), (8, 1), (9, 1), (10, 0), (11, 0), (12, 0), (13, 0), (14, 0)] [] mixed (by kernel_rfl) ?_) | refine Gl hwd ?_ | refine Gl hat16 ?_ | refine Gl hat11 ?_ | refine Gl hget ?_ | refine Gl hlv ?_ | (refine StD.ok3 rfl (OpOk.ofW OpV.go) rfl ?_; rintro _ _ ⟨rfl, rfl⟩) | (refine Ge ?_ ?_ <;> (intro h; try (exfalso; omega))) | fail)
      all_goals first | (exfalso; omega) | skip
      all_goals exact Halt.go (St.conv (hrtl oad ocp ⟨ta2, ⟨ak2, oa2, ⟨ov2a, os2a⟩, ⟨nv2b, ns2b⟩⟩, tn2⟩ ⟨⟨who, seq, held, stale⟩, nt, nl, puts, regs, pc, steps, writes, news, s0, er, vl⟩ rfl hl hn hll hroom hw hnl ⟨iop, ia, ib, ic, imm⟩ hi ho2 ((H : Int) - 1) (W : Int) (by omega) (by omega) hrx _ _ _ w0 F) Sub.go Ent.go)
    · rw [if_neg h1]
      have hen := rends_r c oad os.length ocp ⟨xna, xnn, xnc, xma, xmn, xmc, xwt, xwl, xnt, xnl, xroom, xsa, puts.length, xsc⟩ wad news.length wcp ⟨ta2, ⟨ak2, oa2, ⟨ov2a, os2a⟩, ⟨nv2b, ns2b⟩⟩, tn2⟩ ⟨⟨who, seq, held, stale⟩, nt, nl, puts, regs, pc, steps, writes, news, s0, er, vl⟩ s
      obtain ⟨k1, k2⟩ := ends_keep ⟨⟨who, seq, held, stale⟩, nt, nl, puts, regs, pc, steps, writes, news, s0, er, vl⟩ s
      refine RunO.same (r := ⟨⟨who, seq, held, stale⟩, nt, nl, puts, regs, pc, steps, writes, news, s0, er, vl⟩) rfl hl hn k1 k2 ?_
      refine Tri.of_body (vs := [_, _]) Tryz.func200 rfl rfl fun w0 F => ?_
      repeat' (first | refine Ga ?_ | (refine Gb ?_; intro b) | (refine Gd ?_; intro g cap rest hcap) | (refine Gc ?_; intro ad cap) | (refine St.draw (id := 10) [(0, 0), (1, 0), (2, 1), (3, 0), (4, 0), (5, 0), (6, 1), (7, 0), (8, 1), (9, 1), (10, 0), (11, 0), (12, 0), (13, 0), (14, 0)] [] mixed (by kernel_rfl) ?_) | refine Gl hwd ?_ | refine Gl hat16 ?_ | refine Gl hat11 ?_ | refine Gl hget ?_ | refine Gl hlv ?_ | refine Gl hen ?_ | (refine StD.ok3 rfl (OpOk.ofW OpV.go) rfl ?_; rintro _ _ ⟨rfl, rfl⟩) | (refine Ge ?_ ?_ <;> (intro h; try (exfalso; omega))) | fail)
      all_goals first | (exfalso; omega) | skip
      all_goals exact St.d1 Tryz.func200 ⟨_, ⟨rfl, rfl⟩, Ent.go⟩
end
end Go.Proofs.YthmbgodcpgkkeaaGreat
