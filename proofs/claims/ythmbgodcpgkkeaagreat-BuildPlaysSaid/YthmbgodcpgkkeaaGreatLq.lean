/-
  Package tumblerref10: Settle. Package tumblerref10: Read.
-/
import Derived.Test.YthmbgodcpgkkeaaGreatLo
import Derived.Test.YthmbgodcpgkkeaaGreatKf
section
namespace Go.Proofs.YthmbgodcpgkkeaaGreat
set_option maxRecDepth 100000
theorem cnt_mem (l : List Nat) (b : Nat) : cnt l ((b : Int) + 1) = 0 ↔ b + 1 ∉ l := by
  have h : cnt l ((b : Int) + 1) = 0 ↔ List.countP (fun (x : Nat) => decide ((x : Int) = (b : Int) + 1)) l = 0 := by
    unfold cnt
    omega
  rw [h, List.countP_eq_zero]
  refine ⟨fun h hm => ?_, fun h x hx => ?_⟩
  · have := h _ hm
    simp at this
  · simp only [decide_eq_true_eq]
    intro e
    exact h (by rw [show b + 1 = x by omega]; exact hx)
section
set_option maxHeartbeats 4000000 in
theorem rsettle_t {c : Cfg} (hc : Small c) {q : HProp} {lv : Value} {puts : List (Int × Nat)} {named limbo : List Nat} (hl : ListR entV q lv puts) (hll : puts.length ≤ 10000) (room : Nat) (hroom : room ≤ 1000000) (na : Option Addr) (nn nc : Nat) (ma : Option Addr) (mn mc : Nat) (hn : ListR u1V q (.slice na nn nc) named) (hnl : named.length ≤ 1000000) (hm : ListR u1V q (.slice ma mn mc) limbo) (hml : limbo.length ≤ 10000) (wt wl nt nl : Int) (h0 : 0 ≤ nt ∧ nt ≤ 1000000) : Tri Tryz.prog 25 #[.agg ⟨plV c na nn nc ma mn mc wt wl nt nl⟩, .agg ⟨[.int .i64 (room : Int), lv]⟩] [q]
    fun r L => ∃ q' ad n cap, Gr q q' ∧ ListR entV q' (.slice ad n cap) (setGo c room named 0 limbo ⟨0, nt, puts⟩).puts ∧ r = .tuple ⟨[.agg ⟨plV c na nn nc none 0 0 wt wl (setGo c room named 0 limbo ⟨0, nt, puts⟩).nt ((setGo c room named 0 limbo ⟨0, nt, puts⟩).kept : Int)⟩, .agg ⟨[.int .i64 (room : Int), .slice ad n cap]⟩]⟩ ∧ L = [q'] := by
  have hcb := hc.b1
  have hcb0 := hc.b0
  have hat := fun k i j => rat_r c hc k i j
  have hput := fun {q' : HProp} {lv' : Value} {puts' : List (Int × Nat)} (h' : ListR entV q' lv' puts') (hb : puts'.length ≤ 1000000) a x => rput0_t h' hb room hroom a x
  have hnm := fun {q' : HProp} (h' : ListR u1V q' (.slice na nn nc) named) nt nl B hB => rnames_r c na nn nc ma mn mc wt wl nt nl h' hnl B hB
  obtain ⟨lad, lcap, rfl, hlc, _⟩ := id hl
  obtain ⟨_, _, hmm, _⟩ := id hm
  injection hmm with _ hmm _
  subst hmm
  generalize hR : setGo c room named 0 limbo ⟨0, nt, puts⟩ = R
  unfold plV Cfg.v at hnm
  unfold Cfg.v at hat
  unfold plV Cfg.v
  dsimp only [List.cons_append, List.nil_append] at hnm ⊢
  refine Tri.of_body (vs := [_, _]) Tryz.func25 rfl rfl fun w0 F => ?_
  repeat' (first | refine Ga ?_ | (refine Gb ?_; intro b) | (refine Gd ?_; intro g cap rest hcap) | (refine Gc ?_; intro ad cap) | apply StD.pick | exact StD.nope  | (refine StD.ok3 rfl (OpOk.ofW OpV.go) rfl ?_; rintro _ _ ⟨rfl, rfl⟩) | (refine Ge ?_ ?_ <;> (intro h; try (exfalso; omega))) | fail)
  all_goals first | (exfalso; omega) | skip
  rename_i b2 b1 b0
  refine St.loopY (Lr := ?Lr1) (ι := { x : Nat × (HProp × Option Addr × Nat × Nat) × SetS // x.1 ≤ limbo.length ∧ Gr q x.2.1.1 ∧ ListR entV x.2.1.1 (.slice x.2.1.2.1 x.2.1.2.2.1 x.2.1.2.2.2) x.2.2.puts ∧ (x.2.2.kept ≤ x.1 ∧ x.2.2.puts.length ≤ 10000 + 2 * x.1) ∧ (0 ≤ x.2.2.nt ∧ x.2.2.nt ≤ 1000000) ∧ setGo c room named x.1 (limbo.drop x.1) x.2.2 = R }) (fun x => limbo.length - x.1.1) (fun x => [(6, .int .i64 (x.1.1 : Int))])
    (fun x => [x.1.2.1.1, bl b1 61 [.int .i64 (room : Int), .slice x.1.2.1.2.1 x.1.2.1.2.2.1 x.1.2.1.2.2.2], bl b2 37 [.int .i64 c.threads, .int .i64 c.blocks, .int .i64 c.writes, .int .i64 c.fuel, .int .u64 (c.first : Int), .int .u64 (c.last : Int), .slice na nn nc, .slice ma limbo.length mc, .int .i64 wt, .int .i64 wl, .int .i64 x.1.2.2.nt, .int .i64 (x.1.2.2.kept : Int)]])
    ⟨(0, (q, lad, puts.length, lcap), ⟨0, nt, puts⟩), Nat.zero_le _, Gr.refl q, hl, ⟨Nat.le_refl _, by dsimp only; omega⟩, h0, hR⟩ ?hE1 ?hL1 ?round1
  case hE1 => exact Sub.go
  case hL1 => exact Takes.go
  case round1 =>
    rintro ⟨⟨k, ⟨qk, kad, kn, kcap⟩, ⟨kept, knt, kputs⟩⟩, hk, hgk, hlk, ⟨hkk, hkp⟩, hkt, hgo⟩ IH; dsimp only at hk hgk hlk hkk hkp hkt hgo IH ⊢
    by_cases hlt : k < limbo.length
    · obtain ⟨lb, lo, ll, l1, rfl, hrd, hdr, htk⟩ := (hm.gr hgk).at' u1V_len k hlt
      rw [List.drop_eq_getElem_cons hlt, setGo] at hgo
      generalize limbo[k] = B at htk hgo
      unfold u1V at htk
      have hn0 : NthN (lo + (k : Int).toNat * 1) ll (.int .u64 (B : Int)) := NthN.part (j := 0) hdr htk (NthN.of rfl)
      unfold setStep at hgo
      by_cases hbb : c.blocks ≤ (B : Int)
      · rw [if_pos hbb] at hgo
        repeat' (first | refine Ga ?_ | (refine Gb ?_; intro b) | (refine Gd ?_; intro g cap rest hcap) | (refine Gc ?_; intro ad cap) | apply StD.pick | exact StD.nope  | (refine StD.ok3 rfl (OpOk.ofW OpV.go) rfl ?_; rintro _ _ ⟨rfl, rfl⟩) | (refine Ge ?_ ?_ <;> (intro h; try (exfalso; omega))) | fail)
        all_goals first | (exfalso; omega) | skip
        refine IH ⟨(k + 1, (qk, kad, kn, kcap), ⟨kept, knt, kputs⟩), hlt, hgk, hlk, ⟨by dsimp only; omega, by dsimp only; omega⟩, hkt, hgo⟩ (by show limbo.length - (k + 1) < limbo.length - k; omega) ?_ ?_
        · exact Sub.go
        · exact Ent.go
      rw [if_neg hbb] at hgo
      have hnames := hnm (hn.gr hgk) knt kept B (by omega)
      by_cases hmem : B + 1 ∈ named
      · rw [if_neg (fun e => (cnt_mem named B).1 e hmem)] at hgo
        rw [decide_eq_true hmem] at hnames
        by_cases hkk2 : kept = k
        · rw [if_neg (fun e => e hkk2)] at hgo
          subst hkk2
          repeat' (first | refine Ga ?_ | (refine Gb ?_; intro b) | (refine Gd ?_; intro g cap rest hcap) | (refine Gc ?_; intro ad cap) | apply StD.pick | exact StD.nope | refine Gl hnames ?_ | (refine StD.ok3 rfl (OpOk.ofW OpV.go) rfl ?_; rintro _ _ ⟨rfl, rfl⟩) | (refine Ge ?_ ?_ <;> (intro h; try (exfalso; omega))) | fail)
          all_goals first | (exfalso; omega) | skip
          refine IH ⟨(kept + 1, (qk, kad, kn, kcap), ⟨kept + 1, knt, kputs⟩), hlt, hgk, hlk, ⟨by dsimp only; omega, by dsimp only; omega⟩, hkt, hgo⟩ (by show limbo.length - (kept + 1) < limbo.length - kept; omega) ?_ ?_
          · exact Sub.go
          · exact Ent.go
        · rw [if_pos hkk2] at hgo
          have h15 := hat 15 kept 0
          have hp := hput hlk (by omega) (c.at 15 kept 0) B
          have hple := putP_le room kputs (c.at 15 kept 0) B
          repeat' (first | refine Ga ?_ | (refine Gb ?_; intro b) | (refine Gd ?_; intro g cap rest hcap) | (refine Gc ?_; intro ad cap) | (refine St.draw (id := 9) [(0, 1), (1, 0), (2, 1), (3, 0), (4, 1), (5, 1), (6, 0), (7, 3), (8, 3)] [7, 8] mixed (by kernel_rfl) ?_) | apply StD.pick | exact StD.nope | refine Gl hnames ?_ | refine Gl h15 ?_ | (refine Gt hp ?_; rintro _ _ ⟨q2', ad2', n2', cap2', hg2, hl2', rfl, rfl⟩) | (refine StD.ok3 rfl (OpOk.ofW OpV.go) rfl ?_; rintro _ _ ⟨rfl, rfl⟩) | (refine Ge ?_ ?_ <;> (intro h; try (exfalso; omega))) | fail)
          all_goals first | (exfalso; omega) | skip
          refine IH ⟨(k + 1, (q2', ad2', n2', cap2'), ⟨kept + 1, knt, putP room kputs (c.at 15 kept 0) B⟩), hlt, hgk.trans hg2, hl2', ⟨by dsimp only; omega, by dsimp only; omega⟩, hkt, hgo⟩ (by show limbo.length - (k + 1) < limbo.length - k; omega) ?_ ?_
          · exact Sub.go
          · exact Ent.go
      · rw [if_pos ((cnt_mem named B).2 hmem)] at hgo
        rw [decide_eq_false hmem] at hnames
        have h11 := hat 11 B 0
        have h13 := hat 13 knt 0
        have hp := hput hlk (by omega) (c.at 11 B 0) 0
        have hple := putP_le room kputs (c.at 11 B 0) 0
        unfold relP at hgo
        by_cases hnb : knt < c.blocks
        · rw [if_pos hnb] at hgo
          repeat' (first | refine St.halt 12 ?_ |refine Ga ?_ | (refine Gb ?_; intro b) | (refine Gd ?_; intro g cap rest hcap) | (refine Gc ?_; intro ad cap) | (refine St.draw (id := 11) [(0, 1), (1, 0), (2, 1), (3, 0), (4, 0), (5, 1), (6, 3), (7, 3)] [6, 7] mixed (by kernel_rfl) ?_) | apply StD.pick | exact StD.nope | refine Gl hnames ?_ | refine Gl h11 ?_ | (refine Gt hp ?_; rintro _ _ ⟨q2', ad2', n2', cap2', hg2, hl2', rfl, rfl⟩) | (refine StD.ok3 rfl (OpOk.ofW OpV.go) rfl ?_; rintro _ _ ⟨rfl, rfl⟩) | (refine Ge ?_ ?_ <;> (intro h; try (exfalso; omega))) | fail)
          all_goals first | (exfalso; omega) | skip
          have hp2 := hput hl2' (by omega) (c.at 13 knt 0) B
          have hple2 := putP_le room (putP room kputs (c.at 11 B 0) 0) (c.at 13 knt 0) B
          refine Halt.go ?_
          repeat' (first | refine Ga ?_ | (refine Gb ?_; intro b) | (refine Gd ?_; intro g cap rest hcap) | (refine Gc ?_; intro ad cap) | (refine St.draw (id := 13) [(0, 1), (1, 0), (2, 1), (3, 0), (4, 1), (5, 1), (6, 0), (7, 3), (8, 3)] [7, 8] mixed (by kernel_rfl) ?_) | apply StD.pick | exact StD.nope | refine Gl h13 ?_ | (refine Gt hp2 ?_; rintro _ _ ⟨q3', ad3', n3', cap3', hg3, hl3', rfl, rfl⟩) | (refine StD.ok3 rfl (OpOk.ofW OpV.go) rfl ?_; rintro _ _ ⟨rfl, rfl⟩) | (refine Ge ?_ ?_ <;> (intro h; try (exfalso; omega))) | fail)
          all_goals first | (exfalso; omega) | skip
          refine IH ⟨(k + 1, (q3', ad3', n3', cap3'), ⟨kept, knt + 1, putP room (putP room kputs (c.at 11 B 0) 0) (c.at 13 knt 0) B⟩), hlt, (hgk.trans hg2).trans hg3, hl3', ⟨by dsimp only; omega, by dsimp only; omega⟩, ⟨by dsimp only; omega, by dsimp only; omega⟩, hgo⟩ (by show limbo.length - (k + 1) < limbo.length - k; omega) ?_ ?_
          · exact Sub.go
          · exact Ent.go
        · rw [if_neg hnb] at hgo
          repeat' (first | refine Ga ?_ | (refine Gb ?_; intro b) | (refine Gd ?_; intro g cap rest hcap) | (refine Gc ?_; intro ad cap) | (refine St.draw (id := 11) [(0, 1), (1, 0), (2, 1), (3, 0), (4, 0), (5, 1), (6, 3), (7, 3)] [6, 7] mixed (by kernel_rfl) ?_) | apply StD.pick | exact StD.nope | refine Gl hnames ?_ | refine Gl h11 ?_ | (refine Gt hp ?_; rintro _ _ ⟨q2', ad2', n2', cap2', hg2, hl2', rfl, rfl⟩) | (refine StD.ok3 rfl (OpOk.ofW OpV.go) rfl ?_; rintro _ _ ⟨rfl, rfl⟩) | (refine Ge ?_ ?_ <;> (intro h; try (exfalso; omega))) | fail)
          all_goals first | (exfalso; omega) | skip
          refine IH ⟨(k + 1, (q2', ad2', n2', cap2'), ⟨kept, knt, putP room kputs (c.at 11 B 0) 0⟩), hlt, hgk.trans hg2, hl2', ⟨by dsimp only; omega, by dsimp only; omega⟩, hkt, hgo⟩ (by show limbo.length - (k + 1) < limbo.length - k; omega) ?_ ?_
          · exact Sub.go
          · exact Ent.go
    · rw [List.drop_of_length_le (by omega), setGo] at hgo
      subst hgo
      repeat' (first | refine Ga ?_ | (refine Gb ?_; intro b) | (refine Gd ?_; intro g cap rest hcap) | (refine Gc ?_; intro ad cap) | (refine St.drawT (id := 16) [] (.pick [(0, 3)] (.pick [(1, 3), (2, 3), (3, 3)] .done (.pick [(2, 3), (1, 3), (3, 3)] .done .nope)) (.pick [(1, 3), (0, 3), (2, 3), (3, 3)] .done .nope)) [0, 1, 2, 3] mixed (by kernel_rfl) ?_) | apply StD.pick | exact StD.nope  | (refine StD.ok3 rfl (OpOk.ofW OpV.go) rfl ?_; rintro _ _ ⟨rfl, rfl⟩) | (refine Ge ?_ ?_ <;> (intro h; try (exfalso; omega))) | fail)
      all_goals first | (exfalso; omega) | skip
      all_goals exact St.d1 Tryz.func25 ⟨_, ⟨qk, _, _, _, hgk, hlk, rfl, rfl⟩, Ent.go⟩
end
end Go.Proofs.YthmbgodcpgkkeaaGreat
end
section
namespace Go.Proofs.YthmbgodcpgkkeaaGreat
set_option maxRecDepth 100000
/-- what Read gives back -/
abbrev ReadQ (c : Cfg) (q : HProp) (ov : Value) (X : Tp × (Rp × Int)) (r : Value) (L : List HProp) : Prop :=
  ∃ q' na nc ma mc, Gr q q' ∧ ListR u1V q' (.slice na X.2.1.named.length nc) X.2.1.named ∧ ListR u1V q' (.slice ma X.2.1.limbo.length mc) X.2.1.limbo ∧ r = .tuple ⟨[.agg ⟨plV c na X.2.1.named.length nc ma X.2.1.limbo.length mc X.2.1.wt X.2.1.wl X.2.1.wt X.2.1.wl⟩, .agg ⟨tpV ov X.1⟩, .int .i64 X.2.2]⟩ ∧ L = [q']
theorem ListR.nil (q : HProp) (f : Nat → List Value) : ListR f q (.slice none 0 0) [] := ⟨none, 0, rfl, Nat.le_refl _, .inl rfl⟩
section
set_option maxHeartbeats 4000000 in
theorem rread_t {q : HProp} {ov : Value} {os : List Out} (hov : ListR Out.v q ov os) (hos : os.length ≤ 100000) {c : Cfg} (hc : Small c) (seq : Nat) (t : Tp) (ht : t.at_ ≤ 100000) : Tri Tryz.prog 18 #[.agg ⟨c.v⟩, .int .u64 (seq : Int), .agg ⟨tpV ov t⟩] [q] (ReadQ c q ov (rread c os seq t)) := by
  have hb1 := hc.b1
  have hb0 := hc.b0
  have ht0 := hc.t0
  have ht1 := hc.t1
  have hli := hc.limit
  have hat := fun k i j => rat_r c hc k i j
  have hlim := rlimit_r c hc
  have hld := fun {q' : HProp} (g : Gr q q') t ht a => rld_r (hov.gr g) hos t ht a
  obtain ⟨adt, capt, rfl, _⟩ := id hov
  unfold Cfg.v at hat hlim
  unfold rread
  have hT : ((c.threads.toNat : Nat) : Int) = c.threads := by omega
  generalize hR : rnamed c os c.threads.toNat 0 [] t = R
  generalize hX : rread1 c os seq R.2 R.1 = X
  unfold Cfg.v
  refine Tri.of_body (vs := [_, _, _]) Tryz.func18 rfl rfl fun w0 F => ?_
  repeat' (first | refine Ga ?_ | (refine Gb ?_; intro b) | (refine Gd ?_; intro g cap rest hcap) | (refine Gc ?_; intro ad cap) | apply StD.pick | exact StD.nope  | (refine StD.ok3 rfl (OpOk.ofW OpV.go) rfl ?_; rintro _ _ ⟨rfl, rfl⟩) | (refine Ge ?_ ?_ <;> (intro h; try (exfalso; omega))) | fail)
  all_goals first | (exfalso; omega) | skip
  rename_i b3 b5 b6 b7
  revert b; intro PB
  refine St.conv ?_ (Sub.refl _) (Ent.row_nil 22 1)
  refine St.loopY (Lr := ?Lr1) (ι := { x : (Nat × List Nat × Tp) × Option Addr × Nat // x.1.1 ≤ c.threads.toNat ∧ x.1.2.1.length = x.1.1 ∧ x.1.2.2.at_ ≤ 100000 ∧ rnamed c os (c.threads.toNat - x.1.1) x.1.1 x.1.2.1 x.1.2.2 = R }) (fun x => c.threads.toNat - x.1.1.1) (fun x => [(10, .int .i64 (x.1.1.1 : Int))])
    (fun x => [bl b5 43 (tpV (.slice adt os.length capt) x.1.1.2.2), bl PB 37 [.int .i64 c.threads, .int .i64 c.blocks, .int .i64 c.writes, .int .i64 c.fuel, .int .u64 (c.first : Int), .int .u64 (c.last : Int), .slice x.1.2.1 x.1.1.2.1.length x.1.2.2, .slice none 0 0, .int .i64 0, .int .i64 0, .int .i64 0, .int .i64 0], Row (.slice x.1.2.1 x.1.1.2.1.length x.1.2.2) 22 1 x.1.1.2.1.length (x.1.1.2.1.flatMap u1V)]) ⟨((0, [], t), none, 0), Nat.zero_le _, rfl, ht, hR⟩ ?hE1 ?hL1 ?round1
  case hE1 => exact Sub.go
  case hL1 => exact Takes.go
  case round1 =>
    rintro ⟨⟨⟨k, l, t9⟩, lad, lcap⟩, hk, hlk, ht9, hgo⟩ IH; dsimp only at hk hlk ht9 hgo IH ⊢
    by_cases hlt : k < c.threads.toNat
    · obtain ⟨m, hm⟩ : ∃ m, c.threads.toNat - k = m + 1 := ⟨c.threads.toNat - k - 1, by omega⟩
      rw [hm, rnamed] at hgo
      have h3 := hat 3 k 0
      have hl1 := hld (Gr.refl q) t9 ht9 (c.at 3 k 0)
      have hx1 := tdo_at hos ht9 (mop 0 (c.at 3 k 0) 0)
      generalize tdo os t9 (mop 0 (c.at 3 k 0) 0) = y at hl1 hx1 hgo
      obtain ⟨t2, ⟨⟨wv, ws⟩, qok2⟩⟩ := y
      dsimp only at hl1 hx1 hgo
      obtain ⟨ta9, ⟨ak9, oa9, ⟨ov9a, os9a⟩, ⟨nv9b, ns9b⟩⟩, tn9⟩ := t9
      obtain ⟨ta2, ⟨ak2, oa2, ⟨ov2a, os2a⟩, ⟨nv2b, ns2b⟩⟩, tn2⟩ := t2
      unfold tpV Cell.v at hl1
      unfold tpV
      dsimp only at hl1 ⊢
      have hmk : c.threads.toNat - (k + 1) = m := by omega
      repeat' (first | refine Ga ?_ | (refine Gb ?_; intro b) | (refine Gd ?_; intro g cap rest hcap) | (refine Gc ?_; intro ad cap) | (refine St.drawT (id := 5) [(0, 1), (1, 1), (2, 0), (3, 1), (4, 1), (5, 0), (6, 0), (7, 0)] (.pick [(8, 2), (9, 2), (10, 3), (11, 3)] .done (.pick [(9, 2), (8, 2), (10, 3), (11, 3)] .done .nope)) [10, 11] mixed (by kernel_rfl) ?_) | apply StD.pick | exact StD.nope | refine Gl h3 ?_ | refine Gl hl1 ?_ | (refine StD.ok3 rfl (OpOk.ofW OpV.go) rfl ?_; rintro _ _ ⟨rfl, rfl⟩) | (refine Ge ?_ ?_ <;> (intro h; try (exfalso; omega))) | fail)
      all_goals first | (exfalso; omega) | skip
      all_goals refine IH ⟨((k + 1, l ++ [wv], ⟨ta2, ⟨ak2, oa2, ⟨ov2a, os2a⟩, ⟨nv2b, ns2b⟩⟩, tn2⟩), ad, cap), by dsimp only; omega, by dsimp only; rw [List.length_append, hlk]; rfl, hx1, by dsimp only; rw [hmk]; exact hgo⟩ (by show c.threads.toNat - (k + 1) < c.threads.toNat - k; omega) ?_ ?_
      all_goals (dsimp only; first | (exact Sub.go) | (rw [List.length_append, List.flatMap_append]; exact Ent.go))
    · rw [show c.threads.toNat - k = 0 by omega, rnamed] at hgo
      subst hgo
      try dsimp only
      refine St.conv ?_ (Sub.refl _) (Ent.of_take (p := Row (.slice lad l.length lcap) 22 1 l.length (l.flatMap u1V)) Take.go)
      refine St.rowL rfl fun R1 hR1 => ?_
      refine St.conv ?_ (Sub.refl _) (Ent.trans (Ent.of_take (p := q) Take.go) (Ent.star_in [q, R1]))
      have hg1 : Gr q (star [q, R1]) := Gr.star R1 q
      have hn1 : ListR u1V (star [q, R1]) (.slice lad l.length lcap) l := hR1.weak fun b l h => RdC.star (L := [q, R1]) (List.mem_cons_of_mem _ (List.mem_cons_self ..)) h
      generalize star [q, R1] = q1 at hg1 hn1 ⊢
      have hld := fun t ht a => hld hg1 t ht a
      have h12 := hat 12 0 0
      have h14 := hat 14 0 0
      have hl1 := hld t9 ht9 (c.at 12 0 0)
      have hx1 := tdo_at hos ht9 (mop 0 (c.at 12 0 0) 0)
      unfold rread1 at hX
      dsimp only at hX
      generalize tdo os t9 (mop 0 (c.at 12 0 0) 0) = y at hl1 hx1 hX
      obtain ⟨t2, ⟨⟨tv, ts⟩, qok2⟩⟩ := y
      dsimp only at hl1 hx1 hX
      obtain ⟨ta9, ⟨ak9, oa9, ⟨ov9a, os9a⟩, ⟨nv9b, ns9b⟩⟩, tn9⟩ := t9
      obtain ⟨ta2, ⟨ak2, oa2, ⟨ov2a, os2a⟩, ⟨nv2b, ns2b⟩⟩, tn2⟩ := t2
      unfold tpV Cell.v at hl1
      dsimp only at hl1 hX
      unfold tpV
      try dsimp only
      cases tn2 with
      | true =>
        rw [if_pos rfl] at hX
        subst hX
        repeat' (first | refine Ga ?_ | (refine Gb ?_; intro b) | (refine Gd ?_; intro g cap rest hcap) | (refine Gc ?_; intro ad cap) | (refine St.draw (id := 8) [(0, 1), (1, 1), (2, 1), (3, 1), (4, 0), (5, 0), (6, 0), (7, 2), (8, 3), (9, 3)] [8, 9] mixed (by kernel_rfl) ?_) | (refine St.drawT (id := 10) [] (.pick [(0, 3)] (.pick [(1, 3), (2, 3), (3, 3), (4, 0)] .done (.pick [(2, 3), (1, 3), (3, 3), (4, 0)] .done .nope)) (.pick [(1, 3), (0, 3), (2, 3), (3, 3), (4, 0)] .done .nope)) [0, 1, 2, 3] mixed (by kernel_rfl) ?_) | apply StD.pick | exact StD.nope | refine Gl h12 ?_ | refine Gl hl1 ?_ | (refine StD.ok3 rfl (OpOk.ofW OpV.go) rfl ?_; rintro _ _ ⟨rfl, rfl⟩) | (refine Ge ?_ ?_ <;> (intro h; try (exfalso; omega))) | fail)
        all_goals first | (exfalso; omega) | skip
        all_goals exact St.d1 Tryz.func18 ⟨_, ⟨q1, lad, lcap, none, 0, hg1, hn1, ListR.nil _ _, rfl, rfl⟩, Ent.go⟩
      | false =>
      rw [if_neg Bool.false_ne_true] at hX
      by_cases hs1 : seq < ts
      · rw [if_pos hs1] at hX
        subst hX
        repeat' (first | refine Ga ?_ | (refine Gb ?_; intro b) | (refine Gd ?_; intro g cap rest hcap) | (refine Gc ?_; intro ad cap) | (refine St.draw (id := 8) [(0, 1), (1, 1), (2, 1), (3, 1), (4, 0), (5, 0), (6, 0), (7, 2), (8, 3), (9, 3)] [8, 9] mixed (by kernel_rfl) ?_) | (refine St.drawT (id := 12) [] (.pick [(0, 3)] (.pick [(1, 3), (2, 3), (3, 3), (4, 0)] .done (.pick [(2, 3), (1, 3), (3, 3), (4, 0)] .done .nope)) (.pick [(1, 3), (0, 3), (2, 3), (3, 3), (4, 0)] .done .nope)) [0, 1, 2, 3] mixed (by kernel_rfl) ?_) | apply StD.pick | exact StD.nope | refine Gl h12 ?_ | refine Gl hl1 ?_ | (refine StD.ok3 rfl (OpOk.ofW OpV.go) rfl ?_; rintro _ _ ⟨rfl, rfl⟩) | (refine Ge ?_ ?_ <;> (intro h; try (exfalso; omega))) | fail)
        all_goals first | (exfalso; omega) | skip
        all_goals exact St.d1 Tryz.func18 ⟨_, ⟨q1, lad, lcap, none, 0, hg1, hn1, ListR.nil _ _, rfl, rfl⟩, Ent.go⟩
      rw [if_neg hs1] at hX
      unfold rread2 at hX
      have hl2 := hld ⟨ta2, ⟨ak2, oa2, ⟨ov2a, os2a⟩, ⟨nv2b, ns2b⟩⟩, false⟩ hx1 (c.at 14 0 0)
      have hx2 := tdo_at (t := ⟨ta2, ⟨ak2, oa2, ⟨ov2a, os2a⟩, ⟨nv2b, ns2b⟩⟩, false⟩) hos hx1 (mop 0 (c.at 14 0 0) 0)
      generalize tdo os ⟨ta2, ⟨ak2, oa2, ⟨ov2a, os2a⟩, ⟨nv2b, ns2b⟩⟩, false⟩ (mop 0 (c.at 14 0 0) 0) = y at hl2 hx2 hX
      obtain ⟨t3, ⟨⟨lv, ls⟩, qok3⟩⟩ := y
      dsimp only at hl2 hx2 hX
      obtain ⟨ta3, ⟨ak3, oa3, ⟨ov3a, os3a⟩, ⟨nv3b, ns3b⟩⟩, tn3⟩ := t3
      unfold tpV Cell.v at hl2
      dsimp only at hl2 hX
      cases tn3 with
      | true =>
        rw [if_pos rfl] at hX
        subst hX
        repeat' (first | refine Ga ?_ | (refine Gb ?_; intro b) | (refine Gd ?_; intro g cap rest hcap) | (refine Gc ?_; intro ad cap) | (refine St.draw (id := 8) [(0, 1), (1, 1), (2, 1), (3, 1), (4, 0), (5, 0), (6, 0), (7, 2), (8, 3), (9, 3)] [8, 9] mixed (by kernel_rfl) ?_) | (refine St.draw (id := 13) [(0, 1), (1, 1), (2, 1), (3, 1), (4, 0), (5, 0), (6, 0), (7, 2), (8, 3), (9, 3)] [8, 9] mixed (by kernel_rfl) ?_) | (refine St.drawT (id := 15) [] (.pick [(0, 3)] (.pick [(1, 3), (2, 3), (3, 3), (4, 0)] .done (.pick [(2, 3), (1, 3), (3, 3), (4, 0)] .done .nope)) (.pick [(1, 3), (0, 3), (2, 3), (3, 3), (4, 0)] .done .nope)) [0, 1, 2, 3] mixed (by kernel_rfl) ?_) | apply StD.pick | exact StD.nope | refine Gl h12 ?_ | refine Gl h14 ?_ | refine Gl hl1 ?_ | refine Gl hl2 ?_ | (refine StD.ok3 rfl (OpOk.ofW OpV.go) rfl ?_; rintro _ _ ⟨rfl, rfl⟩) | (refine Ge ?_ ?_ <;> (intro h; try (exfalso; omega))) | fail)
        all_goals first | (exfalso; omega) | skip
        all_goals exact St.d1 Tryz.func18 ⟨_, ⟨q1, lad, lcap, none, 0, hg1, hn1, ListR.nil _ _, rfl, rfl⟩, Ent.go⟩
      | false =>
      rw [if_neg Bool.false_ne_true] at hX
      by_cases hs2 : ls > seq
      · rw [if_pos hs2] at hX
        subst hX
        repeat' (first | refine Ga ?_ | (refine Gb ?_; intro b) | (refine Gd ?_; intro g cap rest hcap) | (refine Gc ?_; intro ad cap) | (refine St.draw (id := 8) [(0, 1), (1, 1), (2, 1), (3, 1), (4, 0), (5, 0), (6, 0), (7, 2), (8, 3), (9, 3)] [8, 9] mixed (by kernel_rfl) ?_) | (refine St.draw (id := 13) [(0, 1), (1, 1), (2, 1), (3, 1), (4, 0), (5, 0), (6, 0), (7, 2), (8, 3), (9, 3)] [8, 9] mixed (by kernel_rfl) ?_) | (refine St.drawT (id := 17) [] (.pick [(0, 3)] (.pick [(1, 3), (2, 3), (3, 3), (4, 0)] .done (.pick [(2, 3), (1, 3), (3, 3), (4, 0)] .done .nope)) (.pick [(1, 3), (0, 3), (2, 3), (3, 3), (4, 0)] .done .nope)) [0, 1, 2, 3] mixed (by kernel_rfl) ?_) | apply StD.pick | exact StD.nope | refine Gl h12 ?_ | refine Gl h14 ?_ | refine Gl hl1 ?_ | refine Gl hl2 ?_ | (refine StD.ok3 rfl (OpOk.ofW OpV.go) rfl ?_; rintro _ _ ⟨rfl, rfl⟩) | (refine Ge ?_ ?_ <;> (intro h; try (exfalso; omega))) | fail)
        all_goals first | (exfalso; omega) | skip
        all_goals exact St.d1 Tryz.func18 ⟨_, ⟨q1, lad, lcap, none, 0, hg1, hn1, ListR.nil _ _, rfl, rfl⟩, Ent.go⟩
      rw [if_neg hs2] at hX
      have hh1 := rheld_r tv c.blocks (by omega) (by omega)
      have hh2 := rheld_r lv c.limit (by omega) (by omega)
      have hwl : 0 ≤ minI lv c.limit ∧ minI lv c.limit ≤ 520 := by unfold minI; split <;> omega
      unfold rread3 at hX
      generalize minI tv c.blocks = wt at hh1 hX
      generalize minI lv c.limit = wl at hh2 hX hwl
      generalize hR2 : rlimbo c os seq wl.toNat 0 [] _ = R2 at hX
      repeat' (first | refine Ga ?_ | (refine Gb ?_; intro b) | (refine Gd ?_; intro g cap rest hcap) | (refine Gc ?_; intro ad cap) | (refine St.draw (id := 8) [(0, 1), (1, 1), (2, 1), (3, 1), (4, 0), (5, 0), (6, 0), (7, 2), (8, 3), (9, 3)] [8, 9] mixed (by kernel_rfl) ?_) | (refine St.draw (id := 13) [(0, 1), (1, 1), (2, 1), (3, 1), (4, 0), (5, 0), (6, 0), (7, 2), (8, 3), (9, 3)] [8, 9] mixed (by kernel_rfl) ?_) | (refine St.draw (id := 19) [(0, 0), (1, 1), (2, 1), (3, 1), (4, 1), (5, 0), (6, 3)] [6] mixed (by kernel_rfl) ?_) | apply StD.pick | exact StD.nope | refine Gl h12 ?_ | refine Gl h14 ?_ | refine Gl hl1 ?_ | refine Gl hl2 ?_ | refine Gl hh1 ?_ | refine Gl hh2 ?_ | refine Gl hlim ?_ | (refine StD.ok3 rfl (OpOk.ofW OpV.go) rfl ?_; rintro _ _ ⟨rfl, rfl⟩) | (refine Ge ?_ ?_ <;> (intro h; try (exfalso; omega))) | fail)
      all_goals first | (exfalso; omega) | skip
      refine St.conv ?_ (Sub.refl _) (Ent.row_nil 22 1)
      have hwc : ((wl.toNat : Nat) : Int) = wl := by omega
      refine St.loopY (Lr := ?Lr2) (ι := { x : (Nat × List Nat × Tp) × Option Addr × Nat // x.1.1 ≤ wl.toNat ∧ x.1.2.1.length = x.1.1 ∧ x.1.2.2.at_ ≤ 100000 ∧ rlimbo c os seq (wl.toNat - x.1.1) x.1.1 x.1.2.1 x.1.2.2 = R2 }) (fun x => wl.toNat - x.1.1.1) (fun x => [(15, .int .i64 (x.1.1.1 : Int))])
        (fun x => [bl b5 43 (tpV (.slice adt os.length capt) x.1.1.2.2), bl PB 37 [.int .i64 c.threads, .int .i64 c.blocks, .int .i64 c.writes, .int .i64 c.fuel, .int .u64 (c.first : Int), .int .u64 (c.last : Int), .slice lad l.length lcap, .slice x.1.2.1 x.1.1.2.1.length x.1.2.2, .int .i64 wt, .int .i64 wl, .int .i64 wt, .int .i64 wl], Row (.slice x.1.2.1 x.1.1.2.1.length x.1.2.2) 22 1 x.1.1.2.1.length (x.1.1.2.1.flatMap u1V)]) ⟨((0, [], ⟨ta3, ⟨ak3, oa3, ⟨ov3a, os3a⟩, ⟨nv3b, ns3b⟩⟩, false⟩), none, 0), Nat.zero_le _, rfl, hx2, hR2⟩ ?hE2 ?hL2 ?round2
      case hE2 => exact Sub.go
      case hL2 => exact Takes.go
      case round2 =>
        rintro ⟨⟨⟨k2, l2, t7⟩, mad, mcap⟩, hk2, hlk2, ht7, hgo⟩ IH2; dsimp only at hk2 hlk2 ht7 hgo IH2 ⊢
        by_cases hlt2 : k2 < wl.toNat
        · obtain ⟨m, hm⟩ : ∃ m, wl.toNat - k2 = m + 1 := ⟨wl.toNat - k2 - 1, by omega⟩
          rw [hm, rlimbo] at hgo
          have h15 := hat 15 k2 0
          have hl7 := hld t7 ht7 (c.at 15 k2 0)
          have hx7 := tdo_at hos ht7 (mop 0 (c.at 15 k2 0) 0)
          generalize tdo os t7 (mop 0 (c.at 15 k2 0) 0) = y at hl7 hx7 hgo
          obtain ⟨t8, ⟨⟨wv, ws⟩, qok8⟩⟩ := y
          dsimp only at hl7 hx7 hgo
          obtain ⟨ta7, ⟨ak7, oa7, ⟨ov7a, os7a⟩, ⟨nv7b, ns7b⟩⟩, tn7⟩ := t7
          obtain ⟨ta8, ⟨ak8, oa8, ⟨ov8a, os8a⟩, ⟨nv8b, ns8b⟩⟩, tn8⟩ := t8
          unfold tpV Cell.v at hl7
          unfold tpV
          dsimp only at hl7 hgo ⊢
          have hmk : wl.toNat - (k2 + 1) = m := by omega
          cases tn8 with
          | true =>
            rw [if_pos rfl] at hgo
            subst hgo
            subst hX
            repeat' (first | refine Ga ?_ | (refine Gb ?_; intro b) | (refine Gd ?_; intro g cap rest hcap) | (refine Gc ?_; intro ad cap) | (refine St.drawT (id := 25) [(0, 1), (1, 1), (2, 0), (3, 1), (4, 1), (5, 0), (6, 0), (7, 0)] (.pick [(8, 2), (9, 2), (10, 3), (11, 3)] .done (.pick [(9, 2), (8, 2), (10, 3), (11, 3)] .done .nope)) [10, 11] mixed (by kernel_rfl) ?_) | (refine St.drawT (id := 28) [] (.pick [(0, 3)] (.pick [(1, 3), (2, 3), (3, 3), (4, 0)] .done (.pick [(2, 3), (1, 3), (3, 3), (4, 0)] .done .nope)) (.pick [(1, 3), (0, 3), (2, 3), (3, 3), (4, 0)] .done .nope)) [0, 1, 2, 3] mixed (by kernel_rfl) ?_) | apply StD.pick | exact StD.nope | refine Gl h15 ?_ | refine Gl hl7 ?_ | (refine StD.ok3 rfl (OpOk.ofW OpV.go) rfl ?_; rintro _ _ ⟨rfl, rfl⟩) | (refine Ge ?_ ?_ <;> (intro h; try (exfalso; omega))) | fail)
            all_goals first | (exfalso; omega) | skip
            all_goals refine St.conv ?_ (Sub.refl _) (Ent.of_take (p := Row (.slice mad l2.length mcap) 22 1 l2.length (l2.flatMap u1V)) Take.go)
            all_goals refine St.rowL rfl fun R2 hR2' => ?_
            all_goals refine St.conv ?_ (Sub.refl _) (Ent.trans (Ent.of_take (p := q1) Take.go) (Ent.star_in [q1, R2]))
            all_goals exact St.d1 Tryz.func18 ⟨_, ⟨star [q1, R2], lad, lcap, mad, mcap, hg1.trans (Gr.star R2 q1), hn1.gr (Gr.star R2 q1), hR2'.weak fun b l h => RdC.star (L := [q1, R2]) (List.mem_cons_of_mem _ (List.mem_cons_self ..)) h, rfl, rfl⟩, Ent.go⟩
          | false =>
          rw [if_neg Bool.false_ne_true] at hgo
          by_cases hs7 : seq < ws
          · rw [if_pos hs7] at hgo
            subst hgo
            subst hX
            repeat' (first | refine Ga ?_ | (refine Gb ?_; intro b) | (refine Gd ?_; intro g cap rest hcap) | (refine Gc ?_; intro ad cap) | (refine St.drawT (id := 25) [(0, 1), (1, 1), (2, 0), (3, 1), (4, 1), (5, 0), (6, 0), (7, 0)] (.pick [(8, 2), (9, 2), (10, 3), (11, 3)] .done (.pick [(9, 2), (8, 2), (10, 3), (11, 3)] .done .nope)) [10, 11] mixed (by kernel_rfl) ?_) | (refine St.drawT (id := 30) [] (.pick [(0, 3)] (.pick [(1, 3), (2, 3), (3, 3), (4, 0)] .done (.pick [(2, 3), (1, 3), (3, 3), (4, 0)] .done .nope)) (.pick [(1, 3), (0, 3), (2, 3), (3, 3), (4, 0)] .done .nope)) [0, 1, 2, 3] mixed (by kernel_rfl) ?_) | apply StD.pick | exact StD.nope | refine Gl h15 ?_ | refine Gl hl7 ?_ | (refine StD.ok3 rfl (OpOk.ofW OpV.go) rfl ?_; rintro _ _ ⟨rfl, rfl⟩) | (refine Ge ?_ ?_ <;> (intro h; try (exfalso; omega))) | fail)
            all_goals first | (exfalso; omega) | skip
            all_goals refine St.conv ?_ (Sub.refl _) (Ent.of_take (p := Row (.slice mad l2.length mcap) 22 1 l2.length (l2.flatMap u1V)) Take.go)
            all_goals refine St.rowL rfl fun R2 hR2' => ?_
            all_goals refine St.conv ?_ (Sub.refl _) (Ent.trans (Ent.of_take (p := q1) Take.go) (Ent.star_in [q1, R2]))
            all_goals exact St.d1 Tryz.func18 ⟨_, ⟨star [q1, R2], lad, lcap, mad, mcap, hg1.trans (Gr.star R2 q1), hn1.gr (Gr.star R2 q1), hR2'.weak fun b l h => RdC.star (L := [q1, R2]) (List.mem_cons_of_mem _ (List.mem_cons_self ..)) h, rfl, rfl⟩, Ent.go⟩
          rw [if_neg hs7] at hgo
          repeat' (first | refine Ga ?_ | (refine Gb ?_; intro b) | (refine Gd ?_; intro g cap rest hcap) | (refine Gc ?_; intro ad cap) | (refine St.drawT (id := 25) [(0, 1), (1, 1), (2, 0), (3, 1), (4, 1), (5, 0), (6, 0), (7, 0)] (.pick [(8, 2), (9, 2), (10, 3), (11, 3)] .done (.pick [(9, 2), (8, 2), (10, 3), (11, 3)] .done .nope)) [10, 11] mixed (by kernel_rfl) ?_) | apply StD.pick | exact StD.nope | refine Gl h15 ?_ | refine Gl hl7 ?_ | (refine StD.ok3 rfl (OpOk.ofW OpV.go) rfl ?_; rintro _ _ ⟨rfl, rfl⟩) | (refine Ge ?_ ?_ <;> (intro h; try (exfalso; omega))) | fail)
          all_goals first | (exfalso; omega) | skip
          all_goals refine IH2 ⟨((k2 + 1, l2 ++ [wv], ⟨ta8, ⟨ak8, oa8, ⟨ov8a, os8a⟩, ⟨nv8b, ns8b⟩⟩, false⟩), ad, cap), by dsimp only; omega, by dsimp only; rw [List.length_append, hlk2]; rfl, hx7, by dsimp only; rw [hmk]; exact hgo⟩ (by show wl.toNat - (k2 + 1) < wl.toNat - k2; omega) ?_ ?_
          all_goals (dsimp only; first | (exact Sub.go) | (rw [List.length_append, List.flatMap_append]; exact Ent.go))
        · rw [show wl.toNat - k2 = 0 by omega, rlimbo] at hgo
          subst hgo
          subst hX
          obtain ⟨ta7, ⟨ak7, oa7, ⟨ov7a, os7a⟩, ⟨nv7b, ns7b⟩⟩, tn7⟩ := t7
          unfold tpV
          dsimp only
          repeat' (first | refine Ga ?_ | (refine Gb ?_; intro b) | (refine Gd ?_; intro g cap rest hcap) | (refine Gc ?_; intro ad cap) | (refine St.drawT (id := 32) [] (.pick [(0, 3)] (.pick [(1, 3), (2, 3), (3, 3), (4, 0)] .done (.pick [(2, 3), (1, 3), (3, 3), (4, 0)] .done .nope)) (.pick [(1, 3), (0, 3), (2, 3), (3, 3), (4, 0)] .done .nope)) [0, 1, 2, 3] mixed (by kernel_rfl) ?_) | apply StD.pick | exact StD.nope  | (refine StD.ok3 rfl (OpOk.ofW OpV.go) rfl ?_; rintro _ _ ⟨rfl, rfl⟩) | (refine Ge ?_ ?_ <;> (intro h; try (exfalso; omega))) | fail)
          all_goals first | (exfalso; omega) | skip
          all_goals refine St.conv ?_ (Sub.refl _) (Ent.of_take (p := Row (.slice mad l2.length mcap) 22 1 l2.length (l2.flatMap u1V)) Take.go)
          all_goals refine St.rowL rfl fun R2 hR2' => ?_
          all_goals refine St.conv ?_ (Sub.refl _) (Ent.trans (Ent.of_take (p := q1) Take.go) (Ent.star_in [q1, R2]))
          all_goals exact St.d1 Tryz.func18 ⟨_, ⟨star [q1, R2], lad, lcap, mad, mcap, hg1.trans (Gr.star R2 q1), hn1.gr (Gr.star R2 q1), hR2'.weak fun b l h => RdC.star (L := [q1, R2]) (List.mem_cons_of_mem _ (List.mem_cons_self ..)) h, rfl, rfl⟩, Ent.go⟩
end
end Go.Proofs.YthmbgodcpgkkeaaGreat
end
