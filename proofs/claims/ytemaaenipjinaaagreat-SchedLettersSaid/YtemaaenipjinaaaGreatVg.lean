/-
  Package call: Ask, New, Rows.
-/
import Derived.Test.YtemaaenipjinaaaGreatVf
namespace Go.Proofs.YtemaaenipjinaaaGreat
set_option maxRecDepth 100000
theorem crows_len {c : Cfg} (hc : Small c) {p : Cp} {progs : Progs} {m : Cm} (h : Cinv c p progs m) : m.rows.length ≤ 1000 := by
  unfold Cm.rows
  split
  · rename_i hd
    obtain ⟨bt, hb, hi⟩ := h.did hd
    rw [hb]
    have := hi.rows; have := hi.u; have := hc.t1
    dsimp only
    omega
  · exact Nat.zero_le _
theorem valueof_r (n : Int) (h : 5 ≤ n ∧ n ≤ 7) : RTri Tryz.prog 75 #[.int .i64 n] [] (.int .i64 (n - 5)) := by
  apply RTri.of_pure
  refine Tri.of_body (vs := [_]) Tryz.func75 rfl rfl fun w0 F => ?_
  repeat' (first | refine Ga ?_ | (refine Gb ?_; intro b) | (refine Gd ?_; intro g cap rest hcap) | (refine Gc ?_; intro ad cap)  | (refine Ge ?_ ?_ <;> (intro h; try (exfalso; omega))) | fail)
  (first | refine St.dn Tryz.func75 ⟨?_, rfl⟩ Ent.go | refine St.fl Tryz.func75 ⟨?_, rfl⟩ Ent.go)
  rfl
section
variable (Cb : Nat) (c : Cfg) (hc : Small c) (pv : Value) (p : Cp) (q : HProp) (progs : Progs) (hpv : ProgsR q pv progs) (hwho : 0 ≤ p.who ∧ p.who ≤ 1000) (hlast : c.last ≤ 140737488355328)
include hc hwho hlast in
set_option maxHeartbeats 2000000 in
theorem cask_r (m : Cm) (hi : Cinv c p progs m) : RTri Tryz.prog 19 #[.pointer (some ⟨Cb, 0, none⟩)] [ClE Cb c pv p q progs m] (.tuple ⟨[.agg ⟨(m.ask c p).1.v⟩, .bool (m.ask c p).2]⟩) := by
  have hnx := hi.nx
  obtain ⟨s, work, b0⟩ := m
  refine RTri.of_exact fun W0 hs => ?_
  obtain ⟨⟨wv, bv⟩, hs⟩ := sat_ex hs
  have hH := RdC.exact hs (ReadsC.here RdC.bl)
  have how0 := (cowner_r Cb c pv p wv bv s hc).ent (M := clL Cb c pv p q progs ⟨s, work, b0⟩ (wv, bv) ++ []) (by unfold clL; exact Ent.go)
  have how := how0.of_read (p := exact' W0) (fun k hk => by rw [show k = hpOf W0 from hk]; exact hs)
  have htk := take_cl c pv p wv bv s
  dsimp only at hnx
  have hat := fun k i j => at_r c hc k i j
  unfold Cm.ask
  dsimp only at hH htk ⊢
  by_cases h0 : s.next = 0
  · rw [if_pos h0]
    have hg := hi.given h0
    dsimp only at hg
    have ha := hat 2 p.who s.given
    unfold MOp.v
    have hn : NthN (28 + s.given.toNat * 1) (clV c pv p wv bv s) (.int .u64 ((p.args.getD s.given.toNat 0 : Nat) : Int)) := by
      have : s.given = 0 ∨ s.given = 1 ∨ s.given = 2 ∨ s.given = 3 := by omega
      rcases this with e | e | e | e <;> rw [e] <;> exact NthN.of rfl
    refine Tri.of_body (vs := [_]) Tryz.func19 rfl rfl fun w0 F => ?_
    repeat' (first | refine Ga ?_ | (refine Gb ?_; intro b) | (refine Gd ?_; intro g cap rest hcap) | (refine Gc ?_; intro ad cap) | (refine St.draw (id := 3) [(0, 0), (1, 0), (2, 0), (3, 1), (4, 0), (5, 0), (6, 0), (7, 1), (8, 0), (9, 0), (10, 0), (11, 1), (12, 1), (13, 0), (14, 0), (15, 0), (16, 0), (17, 1), (18, 0), (19, 0), (20, 0), (21, 0), (22, 1), (23, 0), (24, 0), (25, 3), (26, 0)] [25] mixed (by kernel_rfl) ?_) | (refine St.draw (id := 5) [(0, 0), (1, 0), (2, 0), (3, 1), (4, 0), (5, 0), (6, 0), (7, 1), (8, 1), (9, 0), (10, 0), (11, 0), (12, 0), (13, 1), (14, 0), (15, 0), (16, 0), (17, 0), (18, 1), (19, 0), (20, 0), (21, 3), (22, 0)] [21] mixed (by kernel_rfl) ?_) | (refine St.draw (id := 9) [(0, 0), (1, 0), (2, 0), (3, 1), (4, 0), (5, 1), (6, 1), (7, 0), (8, 3), (9, 0)] [8] mixed (by kernel_rfl) ?_) | (refine St.draw (id := 13) [(0, 0), (1, 0), (2, 0), (3, 1), (4, 0), (5, 0), (6, 0), (7, 1), (8, 1), (9, 0), (10, 0), (11, 0), (12, 0), (13, 1), (14, 1), (15, 0), (16, 3), (17, 0)] [16] mixed (by kernel_rfl) ?_) | (refine St.draw (id := 21) [(0, 0), (1, 0), (2, 0), (3, 1), (4, 1), (5, 0), (6, 0), (7, 0), (8, 1), (9, 0), (10, 0), (11, 0), (12, 1), (13, 0), (14, 0), (15, 0), (16, 0), (17, 0), (18, 1), (19, 0), (20, 0), (21, 0), (22, 3), (23, 0)] [22] mixed (by kernel_rfl) ?_)| refine Gl ha ?_ | (refine Ge ?_ ?_ <;> (intro h; try (exfalso; omega))) | fail)
    all_goals first | (exfalso; omega) | skip
    refine St.d1 Tryz.func19 ⟨_, ⟨rfl, rfl⟩, Ent.go⟩
  rw [if_neg h0]
  by_cases h1 : s.next = 1
  · rw [if_pos h1]
    have ha := hat 1 p.who 0
    have e1 : ((IntKind.u64.wrap p.prog).toNat : Int) = IntKind.u64.wrap p.prog := Int.toNat_of_nonneg (u64_nn _)
    unfold MOp.v
    dsimp only
    rw [e1]
    refine Tri.of_body (vs := [_]) Tryz.func19 rfl rfl fun w0 F => ?_
    repeat' (first | refine Ga ?_ | (refine Gb ?_; intro b) | (refine Gd ?_; intro g cap rest hcap) | (refine Gc ?_; intro ad cap) | (refine St.draw (id := 3) [(0, 0), (1, 0), (2, 0), (3, 1), (4, 0), (5, 0), (6, 0), (7, 1), (8, 0), (9, 0), (10, 0), (11, 1), (12, 1), (13, 0), (14, 0), (15, 0), (16, 0), (17, 1), (18, 0), (19, 0), (20, 0), (21, 0), (22, 1), (23, 0), (24, 0), (25, 3), (26, 0)] [25] mixed (by kernel_rfl) ?_) | (refine St.draw (id := 5) [(0, 0), (1, 0), (2, 0), (3, 1), (4, 0), (5, 0), (6, 0), (7, 1), (8, 1), (9, 0), (10, 0), (11, 0), (12, 0), (13, 1), (14, 0), (15, 0), (16, 0), (17, 0), (18, 1), (19, 0), (20, 0), (21, 3), (22, 0)] [21] mixed (by kernel_rfl) ?_) | (refine St.draw (id := 9) [(0, 0), (1, 0), (2, 0), (3, 1), (4, 0), (5, 1), (6, 1), (7, 0), (8, 3), (9, 0)] [8] mixed (by kernel_rfl) ?_) | (refine St.draw (id := 13) [(0, 0), (1, 0), (2, 0), (3, 1), (4, 0), (5, 0), (6, 0), (7, 1), (8, 1), (9, 0), (10, 0), (11, 0), (12, 0), (13, 1), (14, 1), (15, 0), (16, 3), (17, 0)] [16] mixed (by kernel_rfl) ?_) | (refine St.draw (id := 21) [(0, 0), (1, 0), (2, 0), (3, 1), (4, 1), (5, 0), (6, 0), (7, 0), (8, 1), (9, 0), (10, 0), (11, 0), (12, 1), (13, 0), (14, 0), (15, 0), (16, 0), (17, 0), (18, 1), (19, 0), (20, 0), (21, 0), (22, 3), (23, 0)] [22] mixed (by kernel_rfl) ?_)| refine Gl ha ?_ | (refine Ge ?_ ?_ <;> (intro h; try (exfalso; omega))) | fail)
    all_goals first | (exfalso; omega) | skip
    refine St.d1 Tryz.func19 ⟨_, ⟨rfl, rfl⟩, Ent.go⟩
  rw [if_neg h1]
  by_cases h2 : s.next = 2
  · rw [if_pos h2]
    have ha := hat 0 0 0
    unfold mop MOp.v
    refine Tri.of_body (vs := [_]) Tryz.func19 rfl rfl fun w0 F => ?_
    repeat' (first | refine Ga ?_ | (refine Gb ?_; intro b) | (refine Gd ?_; intro g cap rest hcap) | (refine Gc ?_; intro ad cap) | (refine St.draw (id := 3) [(0, 0), (1, 0), (2, 0), (3, 1), (4, 0), (5, 0), (6, 0), (7, 1), (8, 0), (9, 0), (10, 0), (11, 1), (12, 1), (13, 0), (14, 0), (15, 0), (16, 0), (17, 1), (18, 0), (19, 0), (20, 0), (21, 0), (22, 1), (23, 0), (24, 0), (25, 3), (26, 0)] [25] mixed (by kernel_rfl) ?_) | (refine St.draw (id := 5) [(0, 0), (1, 0), (2, 0), (3, 1), (4, 0), (5, 0), (6, 0), (7, 1), (8, 1), (9, 0), (10, 0), (11, 0), (12, 0), (13, 1), (14, 0), (15, 0), (16, 0), (17, 0), (18, 1), (19, 0), (20, 0), (21, 3), (22, 0)] [21] mixed (by kernel_rfl) ?_) | (refine St.draw (id := 9) [(0, 0), (1, 0), (2, 0), (3, 1), (4, 0), (5, 1), (6, 1), (7, 0), (8, 3), (9, 0)] [8] mixed (by kernel_rfl) ?_) | (refine St.draw (id := 13) [(0, 0), (1, 0), (2, 0), (3, 1), (4, 0), (5, 0), (6, 0), (7, 1), (8, 1), (9, 0), (10, 0), (11, 0), (12, 0), (13, 1), (14, 1), (15, 0), (16, 3), (17, 0)] [16] mixed (by kernel_rfl) ?_) | (refine St.draw (id := 21) [(0, 0), (1, 0), (2, 0), (3, 1), (4, 1), (5, 0), (6, 0), (7, 0), (8, 1), (9, 0), (10, 0), (11, 0), (12, 1), (13, 0), (14, 0), (15, 0), (16, 0), (17, 0), (18, 1), (19, 0), (20, 0), (21, 0), (22, 3), (23, 0)] [22] mixed (by kernel_rfl) ?_)| refine Gl ha ?_ | (refine Ge ?_ ?_ <;> (intro h; try (exfalso; omega))) | fail)
    all_goals first | (exfalso; omega) | skip
    refine St.d1 Tryz.func19 ⟨_, ⟨rfl, rfl⟩, Ent.go⟩
  rw [if_neg h2]
  by_cases h3 : s.next = 3
  · rw [if_pos h3]
    have ha := hat 4 (s.owner c) 0
    unfold mop MOp.v
    refine Tri.of_body (vs := [_]) Tryz.func19 rfl rfl fun w0 F => ?_
    repeat' (first | refine Ga ?_ | (refine Gb ?_; intro b) | (refine Gd ?_; intro g cap rest hcap) | (refine Gc ?_; intro ad cap) | (refine St.draw (id := 3) [(0, 0), (1, 0), (2, 0), (3, 1), (4, 0), (5, 0), (6, 0), (7, 1), (8, 0), (9, 0), (10, 0), (11, 1), (12, 1), (13, 0), (14, 0), (15, 0), (16, 0), (17, 1), (18, 0), (19, 0), (20, 0), (21, 0), (22, 1), (23, 0), (24, 0), (25, 3), (26, 0)] [25] mixed (by kernel_rfl) ?_) | (refine St.draw (id := 5) [(0, 0), (1, 0), (2, 0), (3, 1), (4, 0), (5, 0), (6, 0), (7, 1), (8, 1), (9, 0), (10, 0), (11, 0), (12, 0), (13, 1), (14, 0), (15, 0), (16, 0), (17, 0), (18, 1), (19, 0), (20, 0), (21, 3), (22, 0)] [21] mixed (by kernel_rfl) ?_) | (refine St.draw (id := 9) [(0, 0), (1, 0), (2, 0), (3, 1), (4, 0), (5, 1), (6, 1), (7, 0), (8, 3), (9, 0)] [8] mixed (by kernel_rfl) ?_) | (refine St.draw (id := 13) [(0, 0), (1, 0), (2, 0), (3, 1), (4, 0), (5, 0), (6, 0), (7, 1), (8, 1), (9, 0), (10, 0), (11, 0), (12, 0), (13, 1), (14, 1), (15, 0), (16, 3), (17, 0)] [16] mixed (by kernel_rfl) ?_) | (refine St.draw (id := 21) [(0, 0), (1, 0), (2, 0), (3, 1), (4, 1), (5, 0), (6, 0), (7, 0), (8, 1), (9, 0), (10, 0), (11, 0), (12, 1), (13, 0), (14, 0), (15, 0), (16, 0), (17, 0), (18, 1), (19, 0), (20, 0), (21, 0), (22, 3), (23, 0)] [22] mixed (by kernel_rfl) ?_)| refine Gl ha ?_ | refine Gl how ?_ | (refine Ge ?_ ?_ <;> (intro h; try (exfalso; omega))) | fail)
    all_goals first | (exfalso; omega) | skip
    refine St.d1 Tryz.func19 ⟨_, ⟨rfl, rfl⟩, Ent.go⟩
  rw [if_neg h3]
  by_cases h5 : s.next = 5 ∨ s.next = 6 ∨ s.next = 7
  · rw [if_pos h5]
    have ha := hat (7 + (s.next - 5)) p.who 0
    have hvo := valueof_r s.next (by omega)
    unfold mop MOp.v
    rcases h5 with h5 | h5 | h5
    all_goals refine Tri.of_body (vs := [_]) Tryz.func19 rfl rfl fun w0 F => ?_
    all_goals repeat' (first | refine Ga ?_ | (refine Gb ?_; intro b) | (refine Gd ?_; intro g cap rest hcap) | (refine Gc ?_; intro ad cap) | (refine St.draw (id := 3) [(0, 0), (1, 0), (2, 0), (3, 1), (4, 0), (5, 0), (6, 0), (7, 1), (8, 0), (9, 0), (10, 0), (11, 1), (12, 1), (13, 0), (14, 0), (15, 0), (16, 0), (17, 1), (18, 0), (19, 0), (20, 0), (21, 0), (22, 1), (23, 0), (24, 0), (25, 3), (26, 0)] [25] mixed (by kernel_rfl) ?_) | (refine St.draw (id := 5) [(0, 0), (1, 0), (2, 0), (3, 1), (4, 0), (5, 0), (6, 0), (7, 1), (8, 1), (9, 0), (10, 0), (11, 0), (12, 0), (13, 1), (14, 0), (15, 0), (16, 0), (17, 0), (18, 1), (19, 0), (20, 0), (21, 3), (22, 0)] [21] mixed (by kernel_rfl) ?_) | (refine St.draw (id := 9) [(0, 0), (1, 0), (2, 0), (3, 1), (4, 0), (5, 1), (6, 1), (7, 0), (8, 3), (9, 0)] [8] mixed (by kernel_rfl) ?_) | (refine St.draw (id := 13) [(0, 0), (1, 0), (2, 0), (3, 1), (4, 0), (5, 0), (6, 0), (7, 1), (8, 1), (9, 0), (10, 0), (11, 0), (12, 0), (13, 1), (14, 1), (15, 0), (16, 3), (17, 0)] [16] mixed (by kernel_rfl) ?_) | (refine St.draw (id := 21) [(0, 0), (1, 0), (2, 0), (3, 1), (4, 1), (5, 0), (6, 0), (7, 0), (8, 1), (9, 0), (10, 0), (11, 0), (12, 1), (13, 0), (14, 0), (15, 0), (16, 0), (17, 0), (18, 1), (19, 0), (20, 0), (21, 0), (22, 3), (23, 0)] [22] mixed (by kernel_rfl) ?_)| refine Gl ha ?_ | refine Gl hvo ?_ | (refine Ge ?_ ?_ <;> (intro h; try (exfalso; omega))) | fail)
    all_goals first | (exfalso; omega) | skip
    all_goals refine St.d1 Tryz.func19 ⟨_, ⟨rfl, rfl⟩, Ent.go⟩
  rw [if_neg h5]
  by_cases hw : s.next = 4 ∨ s.next = 12 ∨ s.next = 8 ∨ s.next = 9 ∨ s.next = 10
  · rw [if_pos hw]
    have hsw := hs.tail
    unfold clL at hsw
    dsimp only at hsw
    rcases (by omega : (s.next = 4 ∨ s.next = 12) ∨ s.next = 8 ∨ s.next = 9 ∨ s.next = 10) with e | e | e | e
    · obtain ⟨x0, hw0, hh, _⟩ := hi.hp e
      dsimp only at hw0
      subst hw0
      unfold WkP at hsw
      obtain ⟨⟨H, rfl⟩, hsw⟩ := sat_ex hsw
      have hk := ((hask_r H c hc x0 hh.1).ent (M := [HpE H c x0] ++ ([BkP c pv q progs bv b0] ++ [])) Ent.go).of_read (p := exact' W0) (fun k hk => by rw [show k = hpOf W0 from hk]; exact hsw)
      unfold Wk.ask
      dsimp only
      unfold MOp.v at hk ⊢
      generalize x0.ask c = y0 at hk ⊢
      obtain ⟨⟨yk, ya, ⟨yo, yp⟩, ⟨yn, ym⟩⟩, yb⟩ := y0
      dsimp only at hk ⊢
      refine Tri.of_body (vs := [_]) Tryz.func19 rfl rfl fun w0 F => ?_
      repeat' (first | refine Ga ?_ | (refine Gb ?_; intro b) | (refine Gd ?_; intro g cap rest hcap) | (refine Gc ?_; intro ad cap) | (refine St.draw (id := 3) [(0, 0), (1, 0), (2, 0), (3, 1), (4, 0), (5, 0), (6, 0), (7, 1), (8, 0), (9, 0), (10, 0), (11, 1), (12, 1), (13, 0), (14, 0), (15, 0), (16, 0), (17, 1), (18, 0), (19, 0), (20, 0), (21, 0), (22, 1), (23, 0), (24, 0), (25, 3), (26, 0)] [25] mixed (by kernel_rfl) ?_) | (refine St.draw (id := 5) [(0, 0), (1, 0), (2, 0), (3, 1), (4, 0), (5, 0), (6, 0), (7, 1), (8, 1), (9, 0), (10, 0), (11, 0), (12, 0), (13, 1), (14, 0), (15, 0), (16, 0), (17, 0), (18, 1), (19, 0), (20, 0), (21, 3), (22, 0)] [21] mixed (by kernel_rfl) ?_) | (refine St.draw (id := 9) [(0, 0), (1, 0), (2, 0), (3, 1), (4, 0), (5, 1), (6, 1), (7, 0), (8, 3), (9, 0)] [8] mixed (by kernel_rfl) ?_) | (refine St.draw (id := 13) [(0, 0), (1, 0), (2, 0), (3, 1), (4, 0), (5, 0), (6, 0), (7, 1), (8, 1), (9, 0), (10, 0), (11, 0), (12, 0), (13, 1), (14, 1), (15, 0), (16, 3), (17, 0)] [16] mixed (by kernel_rfl) ?_) | (refine St.draw (id := 21) [(0, 0), (1, 0), (2, 0), (3, 1), (4, 1), (5, 0), (6, 0), (7, 0), (8, 1), (9, 0), (10, 0), (11, 0), (12, 1), (13, 0), (14, 0), (15, 0), (16, 0), (17, 0), (18, 1), (19, 0), (20, 0), (21, 0), (22, 3), (23, 0)] [22] mixed (by kernel_rfl) ?_)| refine Ka (OpC.ifc (by rfl) Evs.go (by intro w; kernel_rfl)) hk Oh ?_ | refine Kb rfl (OpC.ifc (by rfl) Evs.go (by intro w; kernel_rfl)) hk Oi ?_ | (refine Ge ?_ ?_ <;> (intro h; try (exfalso; omega))) | fail)
      all_goals first | (exfalso; omega) | skip
      all_goals refine St.d1 Tryz.func19 ⟨_, ⟨rfl, rfl⟩, Ent.go⟩
    · obtain ⟨x0, hw0, hx0, n, hS, hX⟩ := hi.ex e
      dsimp only at hw0
      subst hw0
      have hnum := hX.num hS
      unfold WkP at hsw
      obtain ⟨⟨⟨X, V, Pb, W, cv, hins⟩, rfl⟩, hsw⟩ := sat_ex hsw
      have hk := ((xask_s X V Pb W c hc cv x0 (by omega)).ent (M := exL c q (p.code progs) x0 ⟨X, V, Pb, W, cv, hins⟩ ++ ([BkP c pv q progs bv b0] ++ [])) (by unfold exL; exact Ent.go)).of_read (p := exact' W0) (fun k hk => by rw [show k = hpOf W0 from hk]; exact hsw)
      unfold Wk.ask
      dsimp only
      unfold MOp.v at hk ⊢
      generalize x0.ask c = y0 at hk ⊢
      obtain ⟨⟨yk, ya, ⟨yo, yp⟩, ⟨yn, ym⟩⟩, yb⟩ := y0
      dsimp only at hk ⊢
      refine Tri.of_body (vs := [_]) Tryz.func19 rfl rfl fun w0 F => ?_
      repeat' (first | refine Ga ?_ | (refine Gb ?_; intro b) | (refine Gd ?_; intro g cap rest hcap) | (refine Gc ?_; intro ad cap) | (refine St.draw (id := 3) [(0, 0), (1, 0), (2, 0), (3, 1), (4, 0), (5, 0), (6, 0), (7, 1), (8, 0), (9, 0), (10, 0), (11, 1), (12, 1), (13, 0), (14, 0), (15, 0), (16, 0), (17, 1), (18, 0), (19, 0), (20, 0), (21, 0), (22, 1), (23, 0), (24, 0), (25, 3), (26, 0)] [25] mixed (by kernel_rfl) ?_) | (refine St.draw (id := 5) [(0, 0), (1, 0), (2, 0), (3, 1), (4, 0), (5, 0), (6, 0), (7, 1), (8, 1), (9, 0), (10, 0), (11, 0), (12, 0), (13, 1), (14, 0), (15, 0), (16, 0), (17, 0), (18, 1), (19, 0), (20, 0), (21, 3), (22, 0)] [21] mixed (by kernel_rfl) ?_) | (refine St.draw (id := 9) [(0, 0), (1, 0), (2, 0), (3, 1), (4, 0), (5, 1), (6, 1), (7, 0), (8, 3), (9, 0)] [8] mixed (by kernel_rfl) ?_) | (refine St.draw (id := 13) [(0, 0), (1, 0), (2, 0), (3, 1), (4, 0), (5, 0), (6, 0), (7, 1), (8, 1), (9, 0), (10, 0), (11, 0), (12, 0), (13, 1), (14, 1), (15, 0), (16, 3), (17, 0)] [16] mixed (by kernel_rfl) ?_) | (refine St.draw (id := 21) [(0, 0), (1, 0), (2, 0), (3, 1), (4, 1), (5, 0), (6, 0), (7, 0), (8, 1), (9, 0), (10, 0), (11, 0), (12, 1), (13, 0), (14, 0), (15, 0), (16, 0), (17, 0), (18, 1), (19, 0), (20, 0), (21, 0), (22, 3), (23, 0)] [22] mixed (by kernel_rfl) ?_)| refine Ka (OpC.ifc (by rfl) Evs.go (by intro w; kernel_rfl)) hk Oh ?_ | refine Kb rfl (OpC.ifc (by rfl) Evs.go (by intro w; kernel_rfl)) hk Oi ?_ | (refine Ge ?_ ?_ <;> (intro h; try (exfalso; omega))) | fail)
      all_goals first | (exfalso; omega) | skip
      all_goals refine St.d1 Tryz.func19 ⟨_, ⟨rfl, rfl⟩, Ent.go⟩
    · obtain ⟨_, x0, hw0, hb, _⟩ := hi.bd e
      dsimp only at hw0
      subst hw0
      unfold WkP at hsw
      obtain ⟨⟨B, rfl⟩, hsw⟩ := sat_ex hsw
      have hk := ((bask_r B c hc pv q progs x0 hb).ent (M := [Bd B c pv q progs x0] ++ ([BkP c pv q progs bv b0] ++ [])) Ent.go).of_read (p := exact' W0) (fun k hk => by rw [show k = hpOf W0 from hk]; exact hsw)
      unfold Wk.ask
      dsimp only
      unfold MOp.v at hk ⊢
      generalize x0.ask c = y0 at hk ⊢
      obtain ⟨⟨yk, ya, ⟨yo, yp⟩, ⟨yn, ym⟩⟩, yb⟩ := y0
      dsimp only at hk ⊢
      refine Tri.of_body (vs := [_]) Tryz.func19 rfl rfl fun w0 F => ?_
      repeat' (first | refine Ga ?_ | (refine Gb ?_; intro b) | (refine Gd ?_; intro g cap rest hcap) | (refine Gc ?_; intro ad cap) | (refine St.draw (id := 3) [(0, 0), (1, 0), (2, 0), (3, 1), (4, 0), (5, 0), (6, 0), (7, 1), (8, 0), (9, 0), (10, 0), (11, 1), (12, 1), (13, 0), (14, 0), (15, 0), (16, 0), (17, 1), (18, 0), (19, 0), (20, 0), (21, 0), (22, 1), (23, 0), (24, 0), (25, 3), (26, 0)] [25] mixed (by kernel_rfl) ?_) | (refine St.draw (id := 5) [(0, 0), (1, 0), (2, 0), (3, 1), (4, 0), (5, 0), (6, 0), (7, 1), (8, 1), (9, 0), (10, 0), (11, 0), (12, 0), (13, 1), (14, 0), (15, 0), (16, 0), (17, 0), (18, 1), (19, 0), (20, 0), (21, 3), (22, 0)] [21] mixed (by kernel_rfl) ?_) | (refine St.draw (id := 9) [(0, 0), (1, 0), (2, 0), (3, 1), (4, 0), (5, 1), (6, 1), (7, 0), (8, 3), (9, 0)] [8] mixed (by kernel_rfl) ?_) | (refine St.draw (id := 13) [(0, 0), (1, 0), (2, 0), (3, 1), (4, 0), (5, 0), (6, 0), (7, 1), (8, 1), (9, 0), (10, 0), (11, 0), (12, 0), (13, 1), (14, 1), (15, 0), (16, 3), (17, 0)] [16] mixed (by kernel_rfl) ?_) | (refine St.draw (id := 21) [(0, 0), (1, 0), (2, 0), (3, 1), (4, 1), (5, 0), (6, 0), (7, 0), (8, 1), (9, 0), (10, 0), (11, 0), (12, 1), (13, 0), (14, 0), (15, 0), (16, 0), (17, 0), (18, 1), (19, 0), (20, 0), (21, 0), (22, 3), (23, 0)] [22] mixed (by kernel_rfl) ?_)| refine Ka (OpC.ifc (by rfl) Evs.go (by intro w; kernel_rfl)) hk Oh ?_ | refine Kb rfl (OpC.ifc (by rfl) Evs.go (by intro w; kernel_rfl)) hk Oi ?_ | (refine Ge ?_ ?_ <;> (intro h; try (exfalso; omega))) | fail)
      all_goals first | (exfalso; omega) | skip
      all_goals refine St.d1 Tryz.func19 ⟨_, ⟨rfl, rfl⟩, Ent.go⟩
    · obtain ⟨_, ⟨x0, hw0, hk0, _⟩, _⟩ := hi.sc e
      dsimp only at hw0
      subst hw0
      unfold WkP at hsw
      obtain ⟨⟨S, rfl⟩, hsw⟩ := sat_ex hsw
      have hk := ((sask_r S c hc x0 hk0.1 (by have := hk0.1; have := hk0.2; omega)).ent (M := [ScE S c x0] ++ ([BkP c pv q progs bv b0] ++ [])) Ent.go).of_read (p := exact' W0) (fun k hk => by rw [show k = hpOf W0 from hk]; exact hsw)
      unfold Wk.ask
      dsimp only
      unfold MOp.v at hk ⊢
      generalize x0.ask c = y0 at hk ⊢
      obtain ⟨⟨yk, ya, ⟨yo, yp⟩, ⟨yn, ym⟩⟩, yb⟩ := y0
      dsimp only at hk ⊢
      refine Tri.of_body (vs := [_]) Tryz.func19 rfl rfl fun w0 F => ?_
      repeat' (first | refine Ga ?_ | (refine Gb ?_; intro b) | (refine Gd ?_; intro g cap rest hcap) | (refine Gc ?_; intro ad cap) | (refine St.draw (id := 3) [(0, 0), (1, 0), (2, 0), (3, 1), (4, 0), (5, 0), (6, 0), (7, 1), (8, 0), (9, 0), (10, 0), (11, 1), (12, 1), (13, 0), (14, 0), (15, 0), (16, 0), (17, 1), (18, 0), (19, 0), (20, 0), (21, 0), (22, 1), (23, 0), (24, 0), (25, 3), (26, 0)] [25] mixed (by kernel_rfl) ?_) | (refine St.draw (id := 5) [(0, 0), (1, 0), (2, 0), (3, 1), (4, 0), (5, 0), (6, 0), (7, 1), (8, 1), (9, 0), (10, 0), (11, 0), (12, 0), (13, 1), (14, 0), (15, 0), (16, 0), (17, 0), (18, 1), (19, 0), (20, 0), (21, 3), (22, 0)] [21] mixed (by kernel_rfl) ?_) | (refine St.draw (id := 9) [(0, 0), (1, 0), (2, 0), (3, 1), (4, 0), (5, 1), (6, 1), (7, 0), (8, 3), (9, 0)] [8] mixed (by kernel_rfl) ?_) | (refine St.draw (id := 13) [(0, 0), (1, 0), (2, 0), (3, 1), (4, 0), (5, 0), (6, 0), (7, 1), (8, 1), (9, 0), (10, 0), (11, 0), (12, 0), (13, 1), (14, 1), (15, 0), (16, 3), (17, 0)] [16] mixed (by kernel_rfl) ?_) | (refine St.draw (id := 21) [(0, 0), (1, 0), (2, 0), (3, 1), (4, 1), (5, 0), (6, 0), (7, 0), (8, 1), (9, 0), (10, 0), (11, 0), (12, 1), (13, 0), (14, 0), (15, 0), (16, 0), (17, 0), (18, 1), (19, 0), (20, 0), (21, 0), (22, 3), (23, 0)] [22] mixed (by kernel_rfl) ?_)| refine Ka (OpC.ifc (by rfl) Evs.go (by intro w; kernel_rfl)) hk Oh ?_ | refine Kb rfl (OpC.ifc (by rfl) Evs.go (by intro w; kernel_rfl)) hk Oi ?_ | (refine Ge ?_ ?_ <;> (intro h; try (exfalso; omega))) | fail)
      all_goals first | (exfalso; omega) | skip
      all_goals refine St.d1 Tryz.func19 ⟨_, ⟨rfl, rfl⟩, Ent.go⟩
  rw [if_neg hw]
  by_cases h11 : s.next = 11
  · rw [if_pos h11]
    have ha := hat 0 0 0
    obtain ⟨hsq, _⟩ := hi.sw h11
    dsimp only at hsq
    have e1 : ((p.who.toNat : Nat) : Int) = p.who := by omega
    unfold MOp.v
    dsimp only
    rw [e1]
    refine Tri.of_body (vs := [_]) Tryz.func19 rfl rfl fun w0 F => ?_
    repeat' (first | refine Ga ?_ | (refine Gb ?_; intro b) | (refine Gd ?_; intro g cap rest hcap) | (refine Gc ?_; intro ad cap) | (refine St.draw (id := 3) [(0, 0), (1, 0), (2, 0), (3, 1), (4, 0), (5, 0), (6, 0), (7, 1), (8, 0), (9, 0), (10, 0), (11, 1), (12, 1), (13, 0), (14, 0), (15, 0), (16, 0), (17, 1), (18, 0), (19, 0), (20, 0), (21, 0), (22, 1), (23, 0), (24, 0), (25, 3), (26, 0)] [25] mixed (by kernel_rfl) ?_) | (refine St.draw (id := 5) [(0, 0), (1, 0), (2, 0), (3, 1), (4, 0), (5, 0), (6, 0), (7, 1), (8, 1), (9, 0), (10, 0), (11, 0), (12, 0), (13, 1), (14, 0), (15, 0), (16, 0), (17, 0), (18, 1), (19, 0), (20, 0), (21, 3), (22, 0)] [21] mixed (by kernel_rfl) ?_) | (refine St.draw (id := 9) [(0, 0), (1, 0), (2, 0), (3, 1), (4, 0), (5, 1), (6, 1), (7, 0), (8, 3), (9, 0)] [8] mixed (by kernel_rfl) ?_) | (refine St.draw (id := 13) [(0, 0), (1, 0), (2, 0), (3, 1), (4, 0), (5, 0), (6, 0), (7, 1), (8, 1), (9, 0), (10, 0), (11, 0), (12, 0), (13, 1), (14, 1), (15, 0), (16, 3), (17, 0)] [16] mixed (by kernel_rfl) ?_) | (refine St.draw (id := 21) [(0, 0), (1, 0), (2, 0), (3, 1), (4, 1), (5, 0), (6, 0), (7, 0), (8, 1), (9, 0), (10, 0), (11, 0), (12, 1), (13, 0), (14, 0), (15, 0), (16, 0), (17, 0), (18, 1), (19, 0), (20, 0), (21, 0), (22, 3), (23, 0)] [22] mixed (by kernel_rfl) ?_)| refine Gl ha ?_ | (refine Ge ?_ ?_ <;> (intro h; try (exfalso; omega))) | fail)
    all_goals first | (exfalso; omega) | skip
    refine St.d1 Tryz.func19 ⟨_, ⟨rfl, rfl⟩, Ent.go⟩
  · rw [if_neg h11]
    unfold mop MOp.v
    refine Tri.of_body (vs := [_]) Tryz.func19 rfl rfl fun w0 F => ?_
    repeat' (first | refine Ga ?_ | (refine Gb ?_; intro b) | (refine Gd ?_; intro g cap rest hcap) | (refine Gc ?_; intro ad cap) | (refine St.draw (id := 3) [(0, 0), (1, 0), (2, 0), (3, 1), (4, 0), (5, 0), (6, 0), (7, 1), (8, 0), (9, 0), (10, 0), (11, 1), (12, 1), (13, 0), (14, 0), (15, 0), (16, 0), (17, 1), (18, 0), (19, 0), (20, 0), (21, 0), (22, 1), (23, 0), (24, 0), (25, 3), (26, 0)] [25] mixed (by kernel_rfl) ?_) | (refine St.draw (id := 5) [(0, 0), (1, 0), (2, 0), (3, 1), (4, 0), (5, 0), (6, 0), (7, 1), (8, 1), (9, 0), (10, 0), (11, 0), (12, 0), (13, 1), (14, 0), (15, 0), (16, 0), (17, 0), (18, 1), (19, 0), (20, 0), (21, 3), (22, 0)] [21] mixed (by kernel_rfl) ?_) | (refine St.draw (id := 9) [(0, 0), (1, 0), (2, 0), (3, 1), (4, 0), (5, 1), (6, 1), (7, 0), (8, 3), (9, 0)] [8] mixed (by kernel_rfl) ?_) | (refine St.draw (id := 13) [(0, 0), (1, 0), (2, 0), (3, 1), (4, 0), (5, 0), (6, 0), (7, 1), (8, 1), (9, 0), (10, 0), (11, 0), (12, 0), (13, 1), (14, 1), (15, 0), (16, 3), (17, 0)] [16] mixed (by kernel_rfl) ?_) | (refine St.draw (id := 21) [(0, 0), (1, 0), (2, 0), (3, 1), (4, 1), (5, 0), (6, 0), (7, 0), (8, 1), (9, 0), (10, 0), (11, 0), (12, 1), (13, 0), (14, 0), (15, 0), (16, 0), (17, 0), (18, 1), (19, 0), (20, 0), (21, 0), (22, 3), (23, 0)] [22] mixed (by kernel_rfl) ?_) | (refine Ge ?_ ?_ <;> (intro h; try (exfalso; omega))) | fail)
    all_goals first | (exfalso; omega) | skip
    refine St.d1 Tryz.func19 ⟨_, ⟨rfl, rfl⟩, Ent.go⟩
end
end Go.Proofs.YtemaaenipjinaaaGreat
