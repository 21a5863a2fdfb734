/-
  Package tumblerref10: held, names. Package tumblerref10: Settle.
-/
import Derived.Test.YthmbgodcpgkkeaaGreatKc
section
namespace Go.Proofs.YthmbgodcpgkkeaaGreat
set_option maxRecDepth 100000
theorem rheld_r (n : Nat) (most : Int) (h0 : 0 ≤ most) (h1 : most ≤ 1000000) : RTri Tryz.prog 108 #[.int .u64 (n : Int), .int .i64 most] [] (.int .i64 (minI n most)) := by
  apply RTri.of_pure
  unfold minI
  by_cases h : most < (n : Int)
  · rw [if_pos h]
    refine Tri.of_body (vs := [_, _]) Tryz.func108 rfl rfl fun w0 F => ?_
    repeat' (first | refine Ga ?_ | (refine Gb ?_; intro b) | (refine Gd ?_; intro g cap rest hcap) | (refine Gc ?_; intro ad cap)  | (refine Ge ?_ ?_ <;> (intro h; try (exfalso; omega))) | fail)
    all_goals first | (exfalso; omega) | exact St.d1 Tryz.func108 ⟨_, ⟨rfl, rfl⟩, Ent.go⟩ | skip
  · rw [if_neg h]
    refine Tri.of_body (vs := [_, _]) Tryz.func108 rfl rfl fun w0 F => ?_
    repeat' (first | refine Ga ?_ | (refine Gb ?_; intro b) | (refine Gd ?_; intro g cap rest hcap) | (refine Gc ?_; intro ad cap)  | (refine Ge ?_ ?_ <;> (intro h; try (exfalso; omega))) | fail)
    all_goals first | (exfalso; omega) | exact St.d1 Tryz.func108 ⟨_, ⟨rfl, rfl⟩, Ent.go⟩ | skip
set_option maxHeartbeats 2000000 in
theorem rnames_r {q : HProp} {named : List Nat} (c : Cfg) (na : Option Addr) (nn nc : Nat) (ma : Option Addr) (mn mc : Nat) (wt wl nt nl : Int) (hn : ListR u1V q (.slice na nn nc) named) (hnl : named.length ≤ 1000000) (B : Nat) (hb : B ≤ 1000000) : RTri Tryz.prog 113 #[.agg ⟨plV c na nn nc ma mn mc wt wl nt nl⟩, .int .u64 (B : Int)] [q]
    (.bool (decide (B + 1 ∈ named))) := by
  refine RTri.of_reads fun p1 hp => ?_
  replace hn := hn.weak fun b l h => RdC.of_sat hp (ReadsC.here h)
  obtain ⟨_, _, hnn, _⟩ := id hn
  injection hnn with _ hnn _
  subst hnn
  unfold plV Cfg.v
  dsimp only [List.cons_append, List.nil_append]
  generalize hR : decide (B + 1 ∈ named) = R
  replace hR : decide (B + 1 ∈ named.drop 0) = R := hR
  refine Tri.of_body (vs := [_, _]) Tryz.func113 rfl rfl fun w0 F => ?_
  repeat' (first | refine Ga ?_ | (refine Gb ?_; intro b) | (refine Gd ?_; intro g cap rest hcap) | (refine Gc ?_; intro ad cap)  | (refine Ge ?_ ?_ <;> (intro h; try (exfalso; omega))) | fail)
  all_goals first | (exfalso; omega) | skip
  refine St.loopY (Lr := ?Lr1) (ι := { x : Nat // x ≤ named.length ∧ decide (B + 1 ∈ named.drop x) = R }) (fun x => named.length - x.1) (fun x => [(5, .int .i64 (x.1 : Int))]) (fun x => []) ⟨0, Nat.zero_le _, hR⟩ ?hE1 ?hL1 ?round1
  case hE1 => exact Sub.go
  case hL1 => exact Takes.go
  case round1 =>
    rintro ⟨k, hk, hgo⟩ IH; dsimp only at hk hgo IH ⊢
    by_cases hlt : k < named.length
    · obtain ⟨lb, lo, ll, l1, rfl, hrd, hdr, htk⟩ := hn.at' u1V_len k hlt
      rw [List.drop_eq_getElem_cons hlt] at hgo
      generalize named[k] = e at htk hgo
      unfold u1V at htk
      have hn0 : NthN (lo + (k : Int).toNat * 1) ll (.int .u64 (e : Int)) := NthN.part (j := 0) hdr htk (NthN.of rfl)
      by_cases he : e = B + 1
      · have hgo : R = true := by rw [← hgo]; subst he; exact decide_eq_true (List.mem_cons_self ..)
        subst hgo
        repeat' (first | refine Ga ?_ | (refine Gb ?_; intro b) | (refine Gd ?_; intro g cap rest hcap) | (refine Gc ?_; intro ad cap)  | (refine Ge ?_ ?_ <;> (intro h; try (exfalso; omega))) | fail)
        all_goals first | (exfalso; omega) | exact St.d1 Tryz.func113 ⟨_, ⟨rfl, rfl⟩, Ent.go⟩ | skip
      · have hgo : decide (B + 1 ∈ named.drop (k + 1)) = R := by
          rw [← hgo]
          refine decide_eq_decide.2 ⟨fun h => List.mem_cons_of_mem _ h, fun h => ?_⟩
          rcases List.mem_cons.1 h with h | h
          · exact absurd h.symm he
          · exact h
        repeat' (first | refine Ga ?_ | (refine Gb ?_; intro b) | (refine Gd ?_; intro g cap rest hcap) | (refine Gc ?_; intro ad cap)  | (refine Ge ?_ ?_ <;> (intro h; try (exfalso; omega))) | fail)
        all_goals first | (exfalso; omega) | skip
        refine IH ⟨k + 1, hlt, hgo⟩ (by show named.length - (k + 1) < named.length - k; omega) ?_ ?_
        · exact Sub.go
        · exact Ent.go
    · have hgo : R = false := by rw [← hgo, List.drop_of_length_le (by omega)]; exact decide_eq_false (fun h => by cases h)
      subst hgo
      repeat' (first | refine Ga ?_ | (refine Gb ?_; intro b) | (refine Gd ?_; intro g cap rest hcap) | (refine Gc ?_; intro ad cap)  | (refine Ge ?_ ?_ <;> (intro h; try (exfalso; omega))) | fail)
      all_goals first | (exfalso; omega) | exact St.d1 Tryz.func113 ⟨_, ⟨rfl, rfl⟩, Ent.go⟩ | skip
end Go.Proofs.YthmbgodcpgkkeaaGreat
end
section
namespace Go.Proofs.YthmbgodcpgkkeaaGreat
set_option maxRecDepth 100000
theorem cnt_mem (l : List Nat) (b : Nat) : cnt l ((b : Int) + 1) = 0 ↔ b + 1 ∉ l := by
  have h : cnt l ((b : Int) + 1) = 0 ↔ List.countP (fun (x : Nat) => decide ((x : Int) = (b : Int) + 1)) l = 0 := by
    unfold cnt
    omega
  rw [h, List.countP_eq_zero]
  refine ⟨fun h hm => ?_, fun h x hx => ?_⟩
  · have := h _ hm
    simp at this
  · simp only [decide_eq_true_eq]
    intro e
    exact h (by rw [show b + 1 = x by omega]; exact hx)
section
set_option maxHeartbeats 4000000 in
theorem rsettle_t {c : Cfg} (hc : Small c) {q : HProp} {lv : Value} {puts : List (Int × Nat)} {named limbo : List Nat} (hl : ListR entV q lv puts) (hll : puts.length ≤ 10000) (room : Nat) (hroom : room ≤ 1000000) (na : Option Addr) (nn nc : Nat) (ma : Option Addr) (mn mc : Nat) (hn : ListR u1V q (.slice na nn nc) named) (hnl : named.length ≤ 1000000) (hm : ListR u1V q (.slice ma mn mc) limbo) (hml : limbo.length ≤ 10000) (wt wl nt nl : Int) (h0 : 0 ≤ nt ∧ nt ≤ 1000000) : Tri Tryz.prog 25 #[.agg ⟨plV c na nn nc ma mn mc wt wl nt nl⟩, .agg ⟨[.int .i64 (room : Int), lv]⟩] [q]
    fun r L => ∃ q' ad n cap, Gr q q' ∧ ListR entV q' (.slice ad n cap) (setGo c room named 0 limbo ⟨0, nt, puts⟩).puts ∧ r = .tuple ⟨[.agg ⟨plV c na nn nc none 0 0 wt wl (setGo c room named 0 limbo ⟨0, nt, puts⟩).nt ((setGo c room named 0 limbo ⟨0, nt, puts⟩).kept : Int)⟩, .agg ⟨[.int .i64 (room : Int), .slice ad n cap]⟩]⟩ ∧ L = [q'] := by
  have hcb := hc.b1
  have hcb0 := hc.b0
  have hat := fun k i j => rat_r c hc k i j
  have hput := fun {q' : HProp} {lv' : Value} {puts' : List (Int × Nat)} (h' : ListR entV q' lv' puts') (hb : puts'.length ≤ 1000000) a x => rput0_t h' hb room hroom a x
  have hnm := fun {q' : HProp} (h' : ListR u1V q' (.slice na nn nc) named) nt nl B hB => rnames_r c na nn nc ma mn mc wt wl nt nl h' hnl B hB
  obtain ⟨lad, lcap, rfl, hlc, _⟩ := id hl
  obtain ⟨_, _, hmm, _⟩ := id hm
  injection hmm with _ hmm _
  subst hmm
  generalize hR : setGo c room named 0 limbo ⟨0, nt, puts⟩ = R
  unfold plV Cfg.v at hnm
  unfold Cfg.v at hat
  unfold plV Cfg.v
  dsimp only [List.cons_append, List.nil_append] at hnm ⊢
  refine Tri.of_body (vs := [_, _]) Tryz.func25 rfl rfl fun w0 F => ?_
  repeat' (first | refine Ga ?_ | (refine Gb ?_; intro b) | (refine Gd ?_; intro g cap rest hcap) | (refine Gc ?_; intro ad cap) | (refine St.draw (id := 9) [(0, 1), (1, 0), (2, 1), (3, 0), (4, 1), (5, 1), (6, 0), (7, 3), (8, 3)] [7, 8] mixed (by kernel_rfl) ?_) | (refine St.draw (id := 11) [(0, 1), (1, 0), (2, 1), (3, 0), (4, 0), (5, 1), (6, 3), (7, 3)] [6, 7] mixed (by kernel_rfl) ?_) | (refine St.draw (id := 13) [(0, 1), (1, 0), (2, 1), (3, 0), (4, 1), (5, 1), (6, 0), (7, 3), (8, 3)] [7, 8] mixed (by kernel_rfl) ?_) | (refine St.drawT (id := 16) [] (.pick [(0, 3)] (.pick [(1, 3), (2, 3), (3, 3)] .done (.pick [(2, 3), (1, 3), (3, 3)] .done .nope)) (.pick [(1, 3), (0, 3), (2, 3), (3, 3)] .done .nope)) [0, 1, 2, 3] mixed (by kernel_rfl) ?_) | apply StD.pick | exact StD.nope  | (refine StD.ok3 rfl (OpOk.ofW OpV.go) rfl ?_; rintro _ _ ⟨rfl, rfl⟩) | (refine Ge ?_ ?_ <;> (intro h; try (exfalso; omega))) | fail)
  all_goals first | (exfalso; omega) | skip
  rename_i b2 b1 b0
  refine St.loopY (Lr := ?Lr1) (ι := { x : Nat × (HProp × Option Addr × Nat × Nat) × SetS // x.1 ≤ limbo.length ∧ Gr q x.2.1.1 ∧ ListR entV x.2.1.1 (.slice x.2.1.2.1 x.2.1.2.2.1 x.2.1.2.2.2) x.2.2.puts ∧ (x.2.2.kept ≤ x.1 ∧ x.2.2.puts.length ≤ 10000 + 2 * x.1) ∧ (0 ≤ x.2.2.nt ∧ x.2.2.nt ≤ 1000000) ∧ setGo c room named x.1 (limbo.drop x.1) x.2.2 = R }) (fun x => limbo.length - x.1.1) (fun x => [(6, .int .i64 (x.1.1 : Int))])
    (fun x => [x.1.2.1.1, bl b1 61 [.int .i64 (room : Int), .slice x.1.2.1.2.1 x.1.2.1.2.2.1 x.1.2.1.2.2.2], bl b2 37 [.int .i64 c.threads, .int .i64 c.blocks, .int .i64 c.writes, .int .i64 c.fuel, .int .u64 (c.first : Int), .int .u64 (c.last : Int), .slice na nn nc, .slice ma limbo.length mc, .int .i64 wt, .int .i64 wl, .int .i64 x.1.2.2.nt, .int .i64 (x.1.2.2.kept : Int)]])
    ⟨(0, (q, lad, puts.length, lcap), ⟨0, nt, puts⟩), Nat.zero_le _, Gr.refl q, hl, ⟨Nat.le_refl _, by dsimp only; omega⟩, h0, hR⟩ ?hE1 ?hL1 ?round1
  case hE1 => exact Sub.go
  case hL1 => exact Takes.go
  case round1 =>
    rintro ⟨⟨k, ⟨qk, kad, kn, kcap⟩, ⟨kept, knt, kputs⟩⟩, hk, hgk, hlk, ⟨hkk, hkp⟩, hkt, hgo⟩ IH; dsimp only at hk hgk hlk hkk hkp hkt hgo IH ⊢
    by_cases hlt : k < limbo.length
    · obtain ⟨lb, lo, ll, l1, rfl, hrd, hdr, htk⟩ := (hm.gr hgk).at' u1V_len k hlt
      rw [List.drop_eq_getElem_cons hlt, setGo] at hgo
      generalize limbo[k] = B at htk hgo
      unfold u1V at htk
      have hn0 : NthN (lo + (k : Int).toNat * 1) ll (.int .u64 (B : Int)) := NthN.part (j := 0) hdr htk (NthN.of rfl)
      unfold setStep at hgo
      by_cases hbb : c.blocks ≤ (B : Int)
      · rw [if_pos hbb] at hgo
        repeat' (first | refine Ga ?_ | (refine Gb ?_; intro b) | (refine Gd ?_; intro g cap rest hcap) | (refine Gc ?_; intro ad cap) | (refine St.draw (id := 9) [(0, 1), (1, 0), (2, 1), (3, 0), (4, 1), (5, 1), (6, 0), (7, 3), (8, 3)] [7, 8] mixed (by kernel_rfl) ?_) | (refine St.draw (id := 11) [(0, 1), (1, 0), (2, 1), (3, 0), (4, 0), (5, 1), (6, 3), (7, 3)] [6, 7] mixed (by kernel_rfl) ?_) | (refine St.draw (id := 13) [(0, 1), (1, 0), (2, 1), (3, 0), (4, 1), (5, 1), (6, 0), (7, 3), (8, 3)] [7, 8] mixed (by kernel_rfl) ?_) | (refine St.drawT (id := 16) [] (.pick [(0, 3)] (.pick [(1, 3), (2, 3), (3, 3)] .done (.pick [(2, 3), (1, 3), (3, 3)] .done .nope)) (.pick [(1, 3), (0, 3), (2, 3), (3, 3)] .done .nope)) [0, 1, 2, 3] mixed (by kernel_rfl) ?_) | apply StD.pick | exact StD.nope  | (refine StD.ok3 rfl (OpOk.ofW OpV.go) rfl ?_; rintro _ _ ⟨rfl, rfl⟩) | (refine Ge ?_ ?_ <;> (intro h; try (exfalso; omega))) | fail)
        all_goals first | (exfalso; omega) | skip
        refine IH ⟨(k + 1, (qk, kad, kn, kcap), ⟨kept, knt, kputs⟩), hlt, hgk, hlk, ⟨by dsimp only; omega, by dsimp only; omega⟩, hkt, hgo⟩ (by show limbo.length - (k + 1) < limbo.length - k; omega) ?_ ?_
        · exact Sub.go
        · exact Ent.go
      rw [if_neg hbb] at hgo
      have hnames := hnm (hn.gr hgk) knt kept B (by omega)
      by_cases hmem : B + 1 ∈ named
      · rw [if_neg (fun e => (cnt_mem named B).1 e hmem)] at hgo
        rw [decide_eq_true hmem] at hnames
        by_cases hkk2 : kept = k
        · rw [if_neg (fun e => e hkk2)] at hgo
          subst hkk2
          repeat' (first | refine Ga ?_ | (refine Gb ?_; intro b) | (refine Gd ?_; intro g cap rest hcap) | (refine Gc ?_; intro ad cap) | (refine St.draw (id := 9) [(0, 1), (1, 0), (2, 1), (3, 0), (4, 1), (5, 1), (6, 0), (7, 3), (8, 3)] [7, 8] mixed (by kernel_rfl) ?_) | (refine St.draw (id := 11) [(0, 1), (1, 0), (2, 1), (3, 0), (4, 0), (5, 1), (6, 3), (7, 3)] [6, 7] mixed (by kernel_rfl) ?_) | (refine St.draw (id := 13) [(0, 1), (1, 0), (2, 1), (3, 0), (4, 1), (5, 1), (6, 0), (7, 3), (8, 3)] [7, 8] mixed (by kernel_rfl) ?_) | (refine St.drawT (id := 16) [] (.pick [(0, 3)] (.pick [(1, 3), (2, 3), (3, 3)] .done (.pick [(2, 3), (1, 3), (3, 3)] .done .nope)) (.pick [(1, 3), (0, 3), (2, 3), (3, 3)] .done .nope)) [0, 1, 2, 3] mixed (by kernel_rfl) ?_) | apply StD.pick | exact StD.nope | refine Gl hnames ?_ | (refine StD.ok3 rfl (OpOk.ofW OpV.go) rfl ?_; rintro _ _ ⟨rfl, rfl⟩) | (refine Ge ?_ ?_ <;> (intro h; try (exfalso; omega))) | fail)
          all_goals first | (exfalso; omega) | skip
          refine IH ⟨(kept + 1, (qk, kad, kn, kcap), ⟨kept + 1, knt, kputs⟩), hlt, hgk, hlk, ⟨by dsimp only; omega, by dsimp only; omega⟩, hkt, hgo⟩ (by show limbo.length - (kept + 1) < limbo.length - kept; omega) ?_ ?_
          · exact Sub.go
          · exact Ent.go
        · rw [if_pos hkk2] at hgo
          have h15 := hat 15 kept 0
          have hp := hput hlk (by omega) (c.at 15 kept 0) B
          have hple := putP_le room kputs (c.at 15 kept 0) B
          repeat' (first | refine Ga ?_ | (refine Gb ?_; intro b) | (refine Gd ?_; intro g cap rest hcap) | (refine Gc ?_; intro ad cap) | (refine St.draw (id := 9) [(0, 1), (1, 0), (2, 1), (3, 0), (4, 1), (5, 1), (6, 0), (7, 3), (8, 3)] [7, 8] mixed (by kernel_rfl) ?_) | (refine St.draw (id := 11) [(0, 1), (1, 0), (2, 1), (3, 0), (4, 0), (5, 1), (6, 3), (7, 3)] [6, 7] mixed (by kernel_rfl) ?_) | (refine St.draw (id := 13) [(0, 1), (1, 0), (2, 1), (3, 0), (4, 1), (5, 1), (6, 0), (7, 3), (8, 3)] [7, 8] mixed (by kernel_rfl) ?_) | (refine St.drawT (id := 16) [] (.pick [(0, 3)] (.pick [(1, 3), (2, 3), (3, 3)] .done (.pick [(2, 3), (1, 3), (3, 3)] .done .nope)) (.pick [(1, 3), (0, 3), (2, 3), (3, 3)] .done .nope)) [0, 1, 2, 3] mixed (by kernel_rfl) ?_) | apply StD.pick | exact StD.nope | refine Gl hnames ?_ | refine Gl h15 ?_ | (refine Gt hp ?_; rintro _ _ ⟨q2', ad2', n2', cap2', hg2, hl2', rfl, rfl⟩) | (refine StD.ok3 rfl (OpOk.ofW OpV.go) rfl ?_; rintro _ _ ⟨rfl, rfl⟩) | (refine Ge ?_ ?_ <;> (intro h; try (exfalso; omega))) | fail)
          all_goals first | (exfalso; omega) | skip
          refine IH ⟨(k + 1, (q2', ad2', n2', cap2'), ⟨kept + 1, knt, putP room kputs (c.at 15 kept 0) B⟩), hlt, hgk.trans hg2, hl2', ⟨by dsimp only; omega, by dsimp only; omega⟩, hkt, hgo⟩ (by show limbo.length - (k + 1) < limbo.length - k; omega) ?_ ?_
          · exact Sub.go
          · exact Ent.go
      · rw [if_pos ((cnt_mem named B).2 hmem)] at hgo
        rw [decide_eq_false hmem] at hnames
        have h11 := hat 11 B 0
        have h13 := hat 13 knt 0
        have hp := hput hlk (by omega) (c.at 11 B 0) 0
        have hple := putP_le room kputs (c.at 11 B 0) 0
        unfold relP at hgo
        by_cases hnb : knt < c.blocks
        · rw [if_pos hnb] at hgo
          repeat' (first | refine St.halt 12 ?_ |refine Ga ?_ | (refine Gb ?_; intro b) | (refine Gd ?_; intro g cap rest hcap) | (refine Gc ?_; intro ad cap) | (refine St.draw (id := 9) [(0, 1), (1, 0), (2, 1), (3, 0), (4, 1), (5, 1), (6, 0), (7, 3), (8, 3)] [7, 8] mixed (by kernel_rfl) ?_) | (refine St.draw (id := 11) [(0, 1), (1, 0), (2, 1), (3, 0), (4, 0), (5, 1), (6, 3), (7, 3)] [6, 7] mixed (by kernel_rfl) ?_) | (refine St.draw (id := 13) [(0, 1), (1, 0), (2, 1), (3, 0), (4, 1), (5, 1), (6, 0), (7, 3), (8, 3)] [7, 8] mixed (by kernel_rfl) ?_) | (refine St.drawT (id := 16) [] (.pick [(0, 3)] (.pick [(1, 3), (2, 3), (3, 3)] .done (.pick [(2, 3), (1, 3), (3, 3)] .done .nope)) (.pick [(1, 3), (0, 3), (2, 3), (3, 3)] .done .nope)) [0, 1, 2, 3] mixed (by kernel_rfl) ?_) | apply StD.pick | exact StD.nope | refine Gl hnames ?_ | refine Gl h11 ?_ | (refine Gt hp ?_; rintro _ _ ⟨q2', ad2', n2', cap2', hg2, hl2', rfl, rfl⟩) | (refine StD.ok3 rfl (OpOk.ofW OpV.go) rfl ?_; rintro _ _ ⟨rfl, rfl⟩) | (refine Ge ?_ ?_ <;> (intro h; try (exfalso; omega))) | fail)
          all_goals first | (exfalso; omega) | skip
          have hp2 := hput hl2' (by omega) (c.at 13 knt 0) B
          have hple2 := putP_le room (putP room kputs (c.at 11 B 0) 0) (c.at 13 knt 0) B
          refine Halt.go ?_
          repeat' (first | refine Ga ?_ | (refine Gb ?_; intro b) | (refine Gd ?_; intro g cap rest hcap) | (refine Gc ?_; intro ad cap) | (refine St.draw (id := 9) [(0, 1), (1, 0), (2, 1), (3, 0), (4, 1), (5, 1), (6, 0), (7, 3), (8, 3)] [7, 8] mixed (by kernel_rfl) ?_) | (refine St.draw (id := 11) [(0, 1), (1, 0), (2, 1), (3, 0), (4, 0), (5, 1), (6, 3), (7, 3)] [6, 7] mixed (by kernel_rfl) ?_) | (refine St.draw (id := 13) [(0, 1), (1, 0), (2, 1), (3, 0), (4, 1), (5, 1), (6, 0), (7, 3), (8, 3)] [7, 8] mixed (by kernel_rfl) ?_) | (refine St.drawT (id := 16) [] (.pick [(0, 3)] (.pick [(1, 3), (2, 3), (3, 3)] .done (.pick [(2, 3), (1, 3), (3, 3)] .done .nope)) (.pick [(1, 3), (0, 3), (2, 3), (3, 3)] .done .nope)) [0, 1, 2, 3] mixed (by kernel_rfl) ?_) | apply StD.pick | exact StD.nope | refine Gl h13 ?_ | (refine Gt hp2 ?_; rintro _ _ ⟨q3', ad3', n3', cap3', hg3, hl3', rfl, rfl⟩) | (refine StD.ok3 rfl (OpOk.ofW OpV.go) rfl ?_; rintro _ _ ⟨rfl, rfl⟩) | (refine Ge ?_ ?_ <;> (intro h; try (exfalso; omega))) | fail)
          all_goals first | (exfalso; omega) | skip
          refine IH ⟨(k + 1, (q3', ad3', n3', cap3'), ⟨kept, knt + 1, putP room (putP room kputs (c.at 11 B 0) 0) (c.at 13 knt 0) B⟩), hlt, (hgk.trans hg2).trans hg3, hl3', ⟨by dsimp only; omega, by dsimp only; omega⟩, ⟨by dsimp only; omega, by dsimp only; omega⟩, hgo⟩ (by show limbo.length - (k + 1) < limbo.length - k; omega) ?_ ?_
          · exact Sub.go
          · exact Ent.go
        · rw [if_neg hnb] at hgo
          repeat' (first | refine Ga ?_ | (refine Gb ?_; intro b) | (refine Gd ?_; intro g cap rest hcap) | (refine Gc ?_; intro ad cap) | (refine St.draw (id := 9) [(0, 1), (1, 0), (2, 1), (3, 0), (4, 1), (5, 1), (6, 0), (7, 3), (8, 3)] [7, 8] mixed (by kernel_rfl) ?_) | (refine St.draw (id := 11) [(0, 1), (1, 0), (2, 1), (3, 0), (4, 0), (5, 1), (6, 3), (7, 3)] [6, 7] mixed (by kernel_rfl) ?_) | (refine St.draw (id := 13) [(0, 1), (1, 0), (2, 1), (3, 0), (4, 1), (5, 1), (6, 0), (7, 3), (8, 3)] [7, 8] mixed (by kernel_rfl) ?_) | (refine St.drawT (id := 16) [] (.pick [(0, 3)] (.pick [(1, 3), (2, 3), (3, 3)] .done (.pick [(2, 3), (1, 3), (3, 3)] .done .nope)) (.pick [(1, 3), (0, 3), (2, 3), (3, 3)] .done .nope)) [0, 1, 2, 3] mixed (by kernel_rfl) ?_) | apply StD.pick | exact StD.nope | refine Gl hnames ?_ | refine Gl h11 ?_ | (refine Gt hp ?_; rintro _ _ ⟨q2', ad2', n2', cap2', hg2, hl2', rfl, rfl⟩) | (refine StD.ok3 rfl (OpOk.ofW OpV.go) rfl ?_; rintro _ _ ⟨rfl, rfl⟩) | (refine Ge ?_ ?_ <;> (intro h; try (exfalso; omega))) | fail)
          all_goals first | (exfalso; omega) | skip
          refine IH ⟨(k + 1, (q2', ad2', n2', cap2'), ⟨kept, knt, putP room kputs (c.at 11 B 0) 0⟩), hlt, hgk.trans hg2, hl2', ⟨by dsimp only; omega, by dsimp only; omega⟩, hkt, hgo⟩ (by show limbo.length - (k + 1) < limbo.length - k; omega) ?_ ?_
          · exact Sub.go
          · exact Ent.go
    · rw [List.drop_of_length_le (by omega), setGo] at hgo
      subst hgo
      repeat' (first | refine Ga ?_ | (refine Gb ?_; intro b) | (refine Gd ?_; intro g cap rest hcap) | (refine Gc ?_; intro ad cap) | (refine St.draw (id := 9) [(0, 1), (1, 0), (2, 1), (3, 0), (4, 1), (5, 1), (6, 0), (7, 3), (8, 3)] [7, 8] mixed (by kernel_rfl) ?_) | (refine St.draw (id := 11) [(0, 1), (1, 0), (2, 1), (3, 0), (4, 0), (5, 1), (6, 3), (7, 3)] [6, 7] mixed (by kernel_rfl) ?_) | (refine St.draw (id := 13) [(0, 1), (1, 0), (2, 1), (3, 0), (4, 1), (5, 1), (6, 0), (7, 3), (8, 3)] [7, 8] mixed (by kernel_rfl) ?_) | (refine St.drawT (id := 16) [] (.pick [(0, 3)] (.pick [(1, 3), (2, 3), (3, 3)] .done (.pick [(2, 3), (1, 3), (3, 3)] .done .nope)) (.pick [(1, 3), (0, 3), (2, 3), (3, 3)] .done .nope)) [0, 1, 2, 3] mixed (by kernel_rfl) ?_) | apply StD.pick | exact StD.nope  | (refine StD.ok3 rfl (OpOk.ofW OpV.go) rfl ?_; rintro _ _ ⟨rfl, rfl⟩) | (refine Ge ?_ ?_ <;> (intro h; try (exfalso; omega))) | fail)
      all_goals first | (exfalso; omega) | skip
      all_goals exact St.d1 Tryz.func25 ⟨_, ⟨qk, _, _, _, hgk, hlk, rfl, rfl⟩, Ent.go⟩
end
end Go.Proofs.YthmbgodcpgkkeaaGreat
end
