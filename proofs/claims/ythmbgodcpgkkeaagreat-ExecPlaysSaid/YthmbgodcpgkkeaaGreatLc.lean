/-
  Package tumblerref09: Live, Word.
-/
import Derived.Test.YthmbgodcpgkkeaaGreatLb
namespace Go.Proofs.YthmbgodcpgkkeaaGreat
set_option maxRecDepth 100000
theorem tdo_at {os : List Out} (hos : os.length ≤ 100000) {t : Tp} (ht : t.at_ ≤ 100000) (o : MOp) : (tdo os t o).1.at_ ≤ 100000 := by
  unfold tdo
  split
  · exact ht
  split
  · exact ht
  · dsimp only; omega
theorem rload_at {os : List Out} (hos : os.length ≤ 100000) {t : Tp} (ht : t.at_ ≤ 100000) (v : Rv) (a : Int) : (rload os v a t).1.at_ ≤ 100000 := by
  have h := tdo_at hos ht (mop 0 a 0)
  unfold rload
  split
  · exact h
  split <;> exact h
theorem rlive_at {os : List Out} (hos : os.length ≤ 100000) {t : Tp} (ht : t.at_ ≤ 100000) (c : Cfg) (v : Rv) (b : Int) : (rlive c os v b t).1.at_ ≤ 100000 := by
  unfold rlive
  split
  · exact ht
  split
  · exact ht
  split
  · exact ht
  split
  · exact tdo_at hos ht _
  · exact rload_at hos (tdo_at hos ht _) _ _
section
set_option maxHeartbeats 2000000 in
theorem rvlive_r {q : HProp} {ov : Value} {os : List Out} (hov : ListR Out.v q ov os) (hos : os.length ≤ 100000) {c : Cfg} (hc : Small c) (v : Rv) (t : Tp) (ht : t.at_ ≤ 100000) (b : Int) (hb : b ≤ 1000000) : RTri Tryz.prog 262 #[.agg ⟨rvV c v⟩, .agg ⟨tpV ov t⟩, .int .i64 b] [q]
    (.tuple ⟨[.agg ⟨rvV c (rlive c os v b t).2.1⟩, .agg ⟨tpV ov (rlive c os v b t).1⟩, .int .i64 (rlive c os v b t).2.2]⟩) := by
  have hat3 := rat_r c hc 3 v.who 0
  have hat11 := rat_r c hc 11 b 0
  have hstt := rst_r hov hos t ht (c.at 3 v.who 0) ⟨(b + 1).toNat, 0⟩
  have hx := tdo_at hos ht (mop 1 (c.at 3 v.who 0) (b + 1).toNat)
  have hd := rvload_r hov hos c { v with held := -1 } (tdo os t (mop 1 (c.at 3 v.who 0) (b + 1).toNat)).1 hx (c.at 11 b 0)
  unfold rlive
  rw [show (⟨1, c.at 3 v.who 0, ⟨0, 0⟩, ⟨(b + 1).toNat, 0⟩⟩ : MOp) = mop 1 (c.at 3 v.who 0) (b + 1).toNat from rfl] at hstt
  generalize tdo os t (mop 1 (c.at 3 v.who 0) (b + 1).toNat) = x at hstt hd hx ⊢
  obtain ⟨⟨xa, ⟨xk, xoa, ⟨xv1, xs1⟩, ⟨xv2, xs2⟩⟩, xn⟩, xo⟩ := x
  dsimp only at hstt hd hx ⊢
  generalize rload os { v with held := -1 } (c.at 11 b 0) _ = y at hd ⊢
  obtain ⟨⟨ya, ⟨yk, yoa, ⟨yv1, ys1⟩, ⟨yv2, ys2⟩⟩, yn⟩, ⟨⟨yw, yq, yh, yst⟩, yval, ys⟩⟩ := y
  obtain ⟨ta, ⟨k, oa, ⟨ov1, os1⟩, ⟨nv1, ns1⟩⟩, tn⟩ := t
  obtain ⟨who, seq, held, stale⟩ := v
  refine RTri.of_reads fun p1 hp => ?_
  replace hd := hd.of_read hp
  replace hstt := hstt.of_read hp
  obtain ⟨ad, cap, rfl, _⟩ := hov
  unfold tpV rvV Cfg.v at hd
  unfold tpV Cell.v at hstt
  unfold Cfg.v at hat3 hat11
  unfold tpV rvV Cfg.v rlife
  dsimp only [List.cons_append, List.nil_append] at hd hstt hat3 hat11 ⊢
  cases stale with
  | true =>
    rw [if_pos rfl]
    refine Tri.of_body (vs := [_, _, _]) Tryz.func262 rfl rfl fun w0 F => ?_
    repeat' (first | refine Ga ?_ | (refine Gb ?_; intro b) | (refine Gd ?_; intro g cap rest hcap) | (refine Gc ?_; intro ad cap) | (refine St.drawT (id := 2) [] (.pick [(0, 3)] (.pick [(1, 3), (2, 3), (3, 3), (4, 0)] .done (.pick [(2, 3), (1, 3), (3, 3), (4, 0)] .done .nope)) (.pick [(1, 3), (0, 3), (2, 3), (3, 3), (4, 0)] .done .nope)) [0, 1, 2, 3] mixed (by kernel_rfl) ?_) | (refine St.drawT (id := 4) [] (.pick [(0, 3)] (.pick [(1, 3), (2, 3), (3, 3), (4, 0)] .done (.pick [(2, 3), (1, 3), (3, 3), (4, 0)] .done .nope)) (.pick [(1, 3), (0, 3), (2, 3), (3, 3), (4, 0)] .done .nope)) [0, 1, 2, 3] mixed (by kernel_rfl) ?_) | (refine St.drawT (id := 6) [] (.pick [(0, 3)] (.pick [(1, 3), (2, 3), (3, 3), (4, 0)] .done (.pick [(2, 3), (1, 3), (3, 3), (4, 0)] .done .nope)) (.pick [(1, 3), (0, 3), (2, 3), (3, 3), (4, 0)] .done .nope)) [0, 1, 2, 3] mixed (by kernel_rfl) ?_) | (refine St.draw (id := 7) [(0, 1), (1, 0), (2, 1), (3, 0), (4, 1), (5, 1), (6, 0), (7, 0), (8, 0), (9, 0), (10, 1), (11, 3)] [11] mixed (by kernel_rfl) ?_) | (refine St.drawT (id := 9) [] (.pick [(0, 3)] (.pick [(1, 3), (2, 3), (3, 3), (4, 0)] .done (.pick [(2, 3), (1, 3), (3, 3), (4, 0)] .done .nope)) (.pick [(1, 3), (0, 3), (2, 3), (3, 3), (4, 0)] .done .nope)) [0, 1, 2, 3] mixed (by kernel_rfl) ?_) | (refine St.draw (id := 11) [(0, 1), (1, 1), (2, 0), (3, 1), (4, 0), (5, 1), (6, 1), (7, 0), (8, 0), (9, 0), (10, 0), (11, 0), (12, 3), (13, 3), (14, 0), (15, 0)] [12, 13] mixed (by kernel_rfl) ?_) | (refine St.drawT (id := 13) [] (.pick [(0, 3)] (.pick [(1, 3), (2, 3), (3, 3), (4, 0)] .done (.pick [(2, 3), (1, 3), (3, 3), (4, 0)] .done .nope)) (.pick [(1, 3), (0, 3), (2, 3), (3, 3), (4, 0)] .done .nope)) [0, 1, 2, 3] mixed (by kernel_rfl) ?_) | (refine St.drawT (id := 16) [(2, 0)] (.pick [(0, 3)] (.pick [(1, 3), (3, 3), (4, 3), (5, 0)] .done (.pick [(3, 3), (1, 3), (4, 3), (5, 0)] .done .nope)) (.pick [(1, 3), (0, 3), (3, 3), (4, 3), (5, 0)] .done .nope)) [0, 1, 3, 4] mixed (by kernel_rfl) ?_) | apply StD.pick | exact StD.nope  | (refine StD.ok3 rfl (OpOk.ofW OpV.go) rfl ?_; rintro _ _ ⟨rfl, rfl⟩) | (refine Ge ?_ ?_ <;> (intro h; try (exfalso; omega))) | fail)
    all_goals first | (exfalso; omega) | exact St.d1 Tryz.func262 ⟨_, ⟨rfl, rfl⟩, Ent.go⟩ | skip
  | false =>
    rw [if_neg Bool.false_ne_true]
    by_cases h1 : b < 0 ∨ c.blocks ≤ b
    · rw [if_pos h1]
      refine Tri.of_body (vs := [_, _, _]) Tryz.func262 rfl rfl fun w0 F => ?_
      repeat' (first | refine Ga ?_ | (refine Gb ?_; intro b) | (refine Gd ?_; intro g cap rest hcap) | (refine Gc ?_; intro ad cap) | (refine St.drawT (id := 2) [] (.pick [(0, 3)] (.pick [(1, 3), (2, 3), (3, 3), (4, 0)] .done (.pick [(2, 3), (1, 3), (3, 3), (4, 0)] .done .nope)) (.pick [(1, 3), (0, 3), (2, 3), (3, 3), (4, 0)] .done .nope)) [0, 1, 2, 3] mixed (by kernel_rfl) ?_) | (refine St.drawT (id := 4) [] (.pick [(0, 3)] (.pick [(1, 3), (2, 3), (3, 3), (4, 0)] .done (.pick [(2, 3), (1, 3), (3, 3), (4, 0)] .done .nope)) (.pick [(1, 3), (0, 3), (2, 3), (3, 3), (4, 0)] .done .nope)) [0, 1, 2, 3] mixed (by kernel_rfl) ?_) | (refine St.drawT (id := 6) [] (.pick [(0, 3)] (.pick [(1, 3), (2, 3), (3, 3), (4, 0)] .done (.pick [(2, 3), (1, 3), (3, 3), (4, 0)] .done .nope)) (.pick [(1, 3), (0, 3), (2, 3), (3, 3), (4, 0)] .done .nope)) [0, 1, 2, 3] mixed (by kernel_rfl) ?_) | (refine St.draw (id := 7) [(0, 1), (1, 0), (2, 1), (3, 0), (4, 1), (5, 1), (6, 0), (7, 0), (8, 0), (9, 0), (10, 1), (11, 3)] [11] mixed (by kernel_rfl) ?_) | (refine St.drawT (id := 9) [] (.pick [(0, 3)] (.pick [(1, 3), (2, 3), (3, 3), (4, 0)] .done (.pick [(2, 3), (1, 3), (3, 3), (4, 0)] .done .nope)) (.pick [(1, 3), (0, 3), (2, 3), (3, 3), (4, 0)] .done .nope)) [0, 1, 2, 3] mixed (by kernel_rfl) ?_) | (refine St.draw (id := 11) [(0, 1), (1, 1), (2, 0), (3, 1), (4, 0), (5, 1), (6, 1), (7, 0), (8, 0), (9, 0), (10, 0), (11, 0), (12, 3), (13, 3), (14, 0), (15, 0)] [12, 13] mixed (by kernel_rfl) ?_) | (refine St.drawT (id := 13) [] (.pick [(0, 3)] (.pick [(1, 3), (2, 3), (3, 3), (4, 0)] .done (.pick [(2, 3), (1, 3), (3, 3), (4, 0)] .done .nope)) (.pick [(1, 3), (0, 3), (2, 3), (3, 3), (4, 0)] .done .nope)) [0, 1, 2, 3] mixed (by kernel_rfl) ?_) | (refine St.drawT (id := 16) [(2, 0)] (.pick [(0, 3)] (.pick [(1, 3), (3, 3), (4, 3), (5, 0)] .done (.pick [(3, 3), (1, 3), (4, 3), (5, 0)] .done .nope)) (.pick [(1, 3), (0, 3), (3, 3), (4, 3), (5, 0)] .done .nope)) [0, 1, 3, 4] mixed (by kernel_rfl) ?_) | apply StD.pick | exact StD.nope  | (refine StD.ok3 rfl (OpOk.ofW OpV.go) rfl ?_; rintro _ _ ⟨rfl, rfl⟩) | (refine Ge ?_ ?_ <;> (intro h; try (exfalso; omega))) | fail)
      all_goals first | (exfalso; omega) | exact St.d1 Tryz.func262 ⟨_, ⟨rfl, rfl⟩, Ent.go⟩ | skip
    rw [if_neg h1]
    by_cases h2 : held = b
    · subst h2
      rw [if_pos rfl]
      refine Tri.of_body (vs := [_, _, _]) Tryz.func262 rfl rfl fun w0 F => ?_
      repeat' (first | refine Ga ?_ | (refine Gb ?_; intro b) | (refine Gd ?_; intro g cap rest hcap) | (refine Gc ?_; intro ad cap) | (refine St.drawT (id := 2) [] (.pick [(0, 3)] (.pick [(1, 3), (2, 3), (3, 3), (4, 0)] .done (.pick [(2, 3), (1, 3), (3, 3), (4, 0)] .done .nope)) (.pick [(1, 3), (0, 3), (2, 3), (3, 3), (4, 0)] .done .nope)) [0, 1, 2, 3] mixed (by kernel_rfl) ?_) | (refine St.drawT (id := 4) [] (.pick [(0, 3)] (.pick [(1, 3), (2, 3), (3, 3), (4, 0)] .done (.pick [(2, 3), (1, 3), (3, 3), (4, 0)] .done .nope)) (.pick [(1, 3), (0, 3), (2, 3), (3, 3), (4, 0)] .done .nope)) [0, 1, 2, 3] mixed (by kernel_rfl) ?_) | (refine St.drawT (id := 6) [] (.pick [(0, 3)] (.pick [(1, 3), (2, 3), (3, 3), (4, 0)] .done (.pick [(2, 3), (1, 3), (3, 3), (4, 0)] .done .nope)) (.pick [(1, 3), (0, 3), (2, 3), (3, 3), (4, 0)] .done .nope)) [0, 1, 2, 3] mixed (by kernel_rfl) ?_) | (refine St.draw (id := 7) [(0, 1), (1, 0), (2, 1), (3, 0), (4, 1), (5, 1), (6, 0), (7, 0), (8, 0), (9, 0), (10, 1), (11, 3)] [11] mixed (by kernel_rfl) ?_) | (refine St.drawT (id := 9) [] (.pick [(0, 3)] (.pick [(1, 3), (2, 3), (3, 3), (4, 0)] .done (.pick [(2, 3), (1, 3), (3, 3), (4, 0)] .done .nope)) (.pick [(1, 3), (0, 3), (2, 3), (3, 3), (4, 0)] .done .nope)) [0, 1, 2, 3] mixed (by kernel_rfl) ?_) | (refine St.draw (id := 11) [(0, 1), (1, 1), (2, 0), (3, 1), (4, 0), (5, 1), (6, 1), (7, 0), (8, 0), (9, 0), (10, 0), (11, 0), (12, 3), (13, 3), (14, 0), (15, 0)] [12, 13] mixed (by kernel_rfl) ?_) | (refine St.drawT (id := 13) [] (.pick [(0, 3)] (.pick [(1, 3), (2, 3), (3, 3), (4, 0)] .done (.pick [(2, 3), (1, 3), (3, 3), (4, 0)] .done .nope)) (.pick [(1, 3), (0, 3), (2, 3), (3, 3), (4, 0)] .done .nope)) [0, 1, 2, 3] mixed (by kernel_rfl) ?_) | (refine St.drawT (id := 16) [(2, 0)] (.pick [(0, 3)] (.pick [(1, 3), (3, 3), (4, 3), (5, 0)] .done (.pick [(3, 3), (1, 3), (4, 3), (5, 0)] .done .nope)) (.pick [(1, 3), (0, 3), (3, 3), (4, 3), (5, 0)] .done .nope)) [0, 1, 3, 4] mixed (by kernel_rfl) ?_) | apply StD.pick | exact StD.nope  | (refine StD.ok3 rfl (OpOk.ofW OpV.go) rfl ?_; rintro _ _ ⟨rfl, rfl⟩) | (refine Ge ?_ ?_ <;> (intro h; try (exfalso; omega))) | fail)
      all_goals first | (exfalso; omega) | exact St.d1 Tryz.func262 ⟨_, ⟨rfl, rfl⟩, Ent.go⟩ | skip
    rw [if_neg h2]
    have he : ((b + 1).toNat : Int) = b + 1 := by omega
    rw [he] at hstt
    cases xn with
    | true =>
      rw [if_pos rfl]
      refine Tri.of_body (vs := [_, _, _]) Tryz.func262 rfl rfl fun w0 F => ?_
      repeat' (first | refine Ga ?_ | (refine Gb ?_; intro b) | (refine Gd ?_; intro g cap rest hcap) | (refine Gc ?_; intro ad cap) | (refine St.drawT (id := 2) [] (.pick [(0, 3)] (.pick [(1, 3), (2, 3), (3, 3), (4, 0)] .done (.pick [(2, 3), (1, 3), (3, 3), (4, 0)] .done .nope)) (.pick [(1, 3), (0, 3), (2, 3), (3, 3), (4, 0)] .done .nope)) [0, 1, 2, 3] mixed (by kernel_rfl) ?_) | (refine St.drawT (id := 4) [] (.pick [(0, 3)] (.pick [(1, 3), (2, 3), (3, 3), (4, 0)] .done (.pick [(2, 3), (1, 3), (3, 3), (4, 0)] .done .nope)) (.pick [(1, 3), (0, 3), (2, 3), (3, 3), (4, 0)] .done .nope)) [0, 1, 2, 3] mixed (by kernel_rfl) ?_) | (refine St.drawT (id := 6) [] (.pick [(0, 3)] (.pick [(1, 3), (2, 3), (3, 3), (4, 0)] .done (.pick [(2, 3), (1, 3), (3, 3), (4, 0)] .done .nope)) (.pick [(1, 3), (0, 3), (2, 3), (3, 3), (4, 0)] .done .nope)) [0, 1, 2, 3] mixed (by kernel_rfl) ?_) | (refine St.draw (id := 7) [(0, 1), (1, 0), (2, 1), (3, 0), (4, 1), (5, 1), (6, 0), (7, 0), (8, 0), (9, 0), (10, 1), (11, 3)] [11] mixed (by kernel_rfl) ?_) | (refine St.drawT (id := 9) [] (.pick [(0, 3)] (.pick [(1, 3), (2, 3), (3, 3), (4, 0)] .done (.pick [(2, 3), (1, 3), (3, 3), (4, 0)] .done .nope)) (.pick [(1, 3), (0, 3), (2, 3), (3, 3), (4, 0)] .done .nope)) [0, 1, 2, 3] mixed (by kernel_rfl) ?_) | (refine St.draw (id := 11) [(0, 1), (1, 1), (2, 0), (3, 1), (4, 0), (5, 1), (6, 1), (7, 0), (8, 0), (9, 0), (10, 0), (11, 0), (12, 3), (13, 3), (14, 0), (15, 0)] [12, 13] mixed (by kernel_rfl) ?_) | (refine St.drawT (id := 13) [] (.pick [(0, 3)] (.pick [(1, 3), (2, 3), (3, 3), (4, 0)] .done (.pick [(2, 3), (1, 3), (3, 3), (4, 0)] .done .nope)) (.pick [(1, 3), (0, 3), (2, 3), (3, 3), (4, 0)] .done .nope)) [0, 1, 2, 3] mixed (by kernel_rfl) ?_) | (refine St.drawT (id := 16) [(2, 0)] (.pick [(0, 3)] (.pick [(1, 3), (3, 3), (4, 3), (5, 0)] .done (.pick [(3, 3), (1, 3), (4, 3), (5, 0)] .done .nope)) (.pick [(1, 3), (0, 3), (3, 3), (4, 3), (5, 0)] .done .nope)) [0, 1, 3, 4] mixed (by kernel_rfl) ?_) | apply StD.pick | exact StD.nope | refine Gl hat3 ?_ | refine Gl hstt ?_ | (refine StD.ok3 rfl (OpOk.ofW OpV.go) rfl ?_; rintro _ _ ⟨rfl, rfl⟩) | (refine Ge ?_ ?_ <;> (intro h; try (exfalso; omega))) | fail)
      all_goals first | (exfalso; omega) | exact St.d1 Tryz.func262 ⟨_, ⟨rfl, rfl⟩, Ent.go⟩ | skip
    | false =>
      rw [if_neg Bool.false_ne_true]
      by_cases hs : ys = 1
      · subst hs
        by_cases hv : yval = 1
        · subst hv
          rw [if_neg (fun e => e.2 rfl), if_pos rfl]
          refine Tri.of_body (vs := [_, _, _]) Tryz.func262 rfl rfl fun w0 F => ?_
          repeat' (first | refine Ga ?_ | (refine Gb ?_; intro b) | (refine Gd ?_; intro g cap rest hcap) | (refine Gc ?_; intro ad cap) | (refine St.drawT (id := 2) [] (.pick [(0, 3)] (.pick [(1, 3), (2, 3), (3, 3), (4, 0)] .done (.pick [(2, 3), (1, 3), (3, 3), (4, 0)] .done .nope)) (.pick [(1, 3), (0, 3), (2, 3), (3, 3), (4, 0)] .done .nope)) [0, 1, 2, 3] mixed (by kernel_rfl) ?_) | (refine St.drawT (id := 4) [] (.pick [(0, 3)] (.pick [(1, 3), (2, 3), (3, 3), (4, 0)] .done (.pick [(2, 3), (1, 3), (3, 3), (4, 0)] .done .nope)) (.pick [(1, 3), (0, 3), (2, 3), (3, 3), (4, 0)] .done .nope)) [0, 1, 2, 3] mixed (by kernel_rfl) ?_) | (refine St.drawT (id := 6) [] (.pick [(0, 3)] (.pick [(1, 3), (2, 3), (3, 3), (4, 0)] .done (.pick [(2, 3), (1, 3), (3, 3), (4, 0)] .done .nope)) (.pick [(1, 3), (0, 3), (2, 3), (3, 3), (4, 0)] .done .nope)) [0, 1, 2, 3] mixed (by kernel_rfl) ?_) | (refine St.draw (id := 7) [(0, 1), (1, 0), (2, 1), (3, 0), (4, 1), (5, 1), (6, 0), (7, 0), (8, 0), (9, 0), (10, 1), (11, 3)] [11] mixed (by kernel_rfl) ?_) | (refine St.drawT (id := 9) [] (.pick [(0, 3)] (.pick [(1, 3), (2, 3), (3, 3), (4, 0)] .done (.pick [(2, 3), (1, 3), (3, 3), (4, 0)] .done .nope)) (.pick [(1, 3), (0, 3), (2, 3), (3, 3), (4, 0)] .done .nope)) [0, 1, 2, 3] mixed (by kernel_rfl) ?_) | (refine St.draw (id := 11) [(0, 1), (1, 1), (2, 0), (3, 1), (4, 0), (5, 1), (6, 1), (7, 0), (8, 0), (9, 0), (10, 0), (11, 0), (12, 3), (13, 3), (14, 0), (15, 0)] [12, 13] mixed (by kernel_rfl) ?_) | (refine St.drawT (id := 13) [] (.pick [(0, 3)] (.pick [(1, 3), (2, 3), (3, 3), (4, 0)] .done (.pick [(2, 3), (1, 3), (3, 3), (4, 0)] .done .nope)) (.pick [(1, 3), (0, 3), (2, 3), (3, 3), (4, 0)] .done .nope)) [0, 1, 2, 3] mixed (by kernel_rfl) ?_) | (refine St.drawT (id := 16) [(2, 0)] (.pick [(0, 3)] (.pick [(1, 3), (3, 3), (4, 3), (5, 0)] .done (.pick [(3, 3), (1, 3), (4, 3), (5, 0)] .done .nope)) (.pick [(1, 3), (0, 3), (3, 3), (4, 3), (5, 0)] .done .nope)) [0, 1, 3, 4] mixed (by kernel_rfl) ?_) | apply StD.pick | exact StD.nope | refine Gl hat3 ?_ | refine Gl hstt ?_ | refine Gl hat11 ?_ | refine Gl hd ?_ | (refine StD.ok3 rfl (OpOk.ofW OpV.go) rfl ?_; rintro _ _ ⟨rfl, rfl⟩) | (refine Ge ?_ ?_ <;> (intro h; try (exfalso; omega))) | fail)
          all_goals first | (exfalso; omega) | exact St.d1 Tryz.func262 ⟨_, ⟨rfl, rfl⟩, Ent.go⟩ | skip
        · rw [if_pos ⟨rfl, hv⟩]
          refine Tri.of_body (vs := [_, _, _]) Tryz.func262 rfl rfl fun w0 F => ?_
          repeat' (first | refine Ga ?_ | (refine Gb ?_; intro b) | (refine Gd ?_; intro g cap rest hcap) | (refine Gc ?_; intro ad cap) | (refine St.drawT (id := 2) [] (.pick [(0, 3)] (.pick [(1, 3), (2, 3), (3, 3), (4, 0)] .done (.pick [(2, 3), (1, 3), (3, 3), (4, 0)] .done .nope)) (.pick [(1, 3), (0, 3), (2, 3), (3, 3), (4, 0)] .done .nope)) [0, 1, 2, 3] mixed (by kernel_rfl) ?_) | (refine St.drawT (id := 4) [] (.pick [(0, 3)] (.pick [(1, 3), (2, 3), (3, 3), (4, 0)] .done (.pick [(2, 3), (1, 3), (3, 3), (4, 0)] .done .nope)) (.pick [(1, 3), (0, 3), (2, 3), (3, 3), (4, 0)] .done .nope)) [0, 1, 2, 3] mixed (by kernel_rfl) ?_) | (refine St.drawT (id := 6) [] (.pick [(0, 3)] (.pick [(1, 3), (2, 3), (3, 3), (4, 0)] .done (.pick [(2, 3), (1, 3), (3, 3), (4, 0)] .done .nope)) (.pick [(1, 3), (0, 3), (2, 3), (3, 3), (4, 0)] .done .nope)) [0, 1, 2, 3] mixed (by kernel_rfl) ?_) | (refine St.draw (id := 7) [(0, 1), (1, 0), (2, 1), (3, 0), (4, 1), (5, 1), (6, 0), (7, 0), (8, 0), (9, 0), (10, 1), (11, 3)] [11] mixed (by kernel_rfl) ?_) | (refine St.drawT (id := 9) [] (.pick [(0, 3)] (.pick [(1, 3), (2, 3), (3, 3), (4, 0)] .done (.pick [(2, 3), (1, 3), (3, 3), (4, 0)] .done .nope)) (.pick [(1, 3), (0, 3), (2, 3), (3, 3), (4, 0)] .done .nope)) [0, 1, 2, 3] mixed (by kernel_rfl) ?_) | (refine St.draw (id := 11) [(0, 1), (1, 1), (2, 0), (3, 1), (4, 0), (5, 1), (6, 1), (7, 0), (8, 0), (9, 0), (10, 0), (11, 0), (12, 3), (13, 3), (14, 0), (15, 0)] [12, 13] mixed (by kernel_rfl) ?_) | (refine St.drawT (id := 13) [] (.pick [(0, 3)] (.pick [(1, 3), (2, 3), (3, 3), (4, 0)] .done (.pick [(2, 3), (1, 3), (3, 3), (4, 0)] .done .nope)) (.pick [(1, 3), (0, 3), (2, 3), (3, 3), (4, 0)] .done .nope)) [0, 1, 2, 3] mixed (by kernel_rfl) ?_) | (refine St.drawT (id := 16) [(2, 0)] (.pick [(0, 3)] (.pick [(1, 3), (3, 3), (4, 3), (5, 0)] .done (.pick [(3, 3), (1, 3), (4, 3), (5, 0)] .done .nope)) (.pick [(1, 3), (0, 3), (3, 3), (4, 3), (5, 0)] .done .nope)) [0, 1, 3, 4] mixed (by kernel_rfl) ?_) | apply StD.pick | exact StD.nope | refine Gl hat3 ?_ | refine Gl hstt ?_ | refine Gl hat11 ?_ | refine Gl hd ?_ | (refine StD.ok3 rfl (OpOk.ofW OpV.go) rfl ?_; rintro _ _ ⟨rfl, rfl⟩) | (refine Ge ?_ ?_ <;> (intro h; try (exfalso; omega))) | fail)
          all_goals first | (exfalso; omega) | exact St.d1 Tryz.func262 ⟨_, ⟨rfl, rfl⟩, Ent.go⟩ | skip
      · rw [if_neg (fun e => hs e.1), if_neg hs]
        refine Tri.of_body (vs := [_, _, _]) Tryz.func262 rfl rfl fun w0 F => ?_
        repeat' (first | refine Ga ?_ | (refine Gb ?_; intro b) | (refine Gd ?_; intro g cap rest hcap) | (refine Gc ?_; intro ad cap) | (refine St.drawT (id := 2) [] (.pick [(0, 3)] (.pick [(1, 3), (2, 3), (3, 3), (4, 0)] .done (.pick [(2, 3), (1, 3), (3, 3), (4, 0)] .done .nope)) (.pick [(1, 3), (0, 3), (2, 3), (3, 3), (4, 0)] .done .nope)) [0, 1, 2, 3] mixed (by kernel_rfl) ?_) | (refine St.drawT (id := 4) [] (.pick [(0, 3)] (.pick [(1, 3), (2, 3), (3, 3), (4, 0)] .done (.pick [(2, 3), (1, 3), (3, 3), (4, 0)] .done .nope)) (.pick [(1, 3), (0, 3), (2, 3), (3, 3), (4, 0)] .done .nope)) [0, 1, 2, 3] mixed (by kernel_rfl) ?_) | (refine St.drawT (id := 6) [] (.pick [(0, 3)] (.pick [(1, 3), (2, 3), (3, 3), (4, 0)] .done (.pick [(2, 3), (1, 3), (3, 3), (4, 0)] .done .nope)) (.pick [(1, 3), (0, 3), (2, 3), (3, 3), (4, 0)] .done .nope)) [0, 1, 2, 3] mixed (by kernel_rfl) ?_) | (refine St.draw (id := 7) [(0, 1), (1, 0), (2, 1), (3, 0), (4, 1), (5, 1), (6, 0), (7, 0), (8, 0), (9, 0), (10, 1), (11, 3)] [11] mixed (by kernel_rfl) ?_) | (refine St.drawT (id := 9) [] (.pick [(0, 3)] (.pick [(1, 3), (2, 3), (3, 3), (4, 0)] .done (.pick [(2, 3), (1, 3), (3, 3), (4, 0)] .done .nope)) (.pick [(1, 3), (0, 3), (2, 3), (3, 3), (4, 0)] .done .nope)) [0, 1, 2, 3] mixed (by kernel_rfl) ?_) | (refine St.draw (id := 11) [(0, 1), (1, 1), (2, 0), (3, 1), (4, 0), (5, 1), (6, 1), (7, 0), (8, 0), (9, 0), (10, 0), (11, 0), (12, 3), (13, 3), (14, 0), (15, 0)] [12, 13] mixed (by kernel_rfl) ?_) | (refine St.drawT (id := 13) [] (.pick [(0, 3)] (.pick [(1, 3), (2, 3), (3, 3), (4, 0)] .done (.pick [(2, 3), (1, 3), (3, 3), (4, 0)] .done .nope)) (.pick [(1, 3), (0, 3), (2, 3), (3, 3), (4, 0)] .done .nope)) [0, 1, 2, 3] mixed (by kernel_rfl) ?_) | (refine St.drawT (id := 16) [(2, 0)] (.pick [(0, 3)] (.pick [(1, 3), (3, 3), (4, 3), (5, 0)] .done (.pick [(3, 3), (1, 3), (4, 3), (5, 0)] .done .nope)) (.pick [(1, 3), (0, 3), (3, 3), (4, 3), (5, 0)] .done .nope)) [0, 1, 3, 4] mixed (by kernel_rfl) ?_) | apply StD.pick | exact StD.nope | refine Gl hat3 ?_ | refine Gl hstt ?_ | refine Gl hat11 ?_ | refine Gl hd ?_ | (refine StD.ok3 rfl (OpOk.ofW OpV.go) rfl ?_; rintro _ _ ⟨rfl, rfl⟩) | (refine Ge ?_ ?_ <;> (intro h; try (exfalso; omega))) | fail)
        all_goals first | (exfalso; omega) | exact St.d1 Tryz.func262 ⟨_, ⟨rfl, rfl⟩, Ent.go⟩ | skip
set_option maxHeartbeats 2000000 in
theorem rvword_r {q : HProp} {ov : Value} {os : List Out} (hov : ListR Out.v q ov os) (hos : os.length ≤ 100000) {c : Cfg} (hc : Small c) (v : Rv) (t : Tp) (ht : t.at_ ≤ 100000) (b w : Int) (hb : b ≤ 1000000) : RTri Tryz.prog 293 #[.agg ⟨rvV c v⟩, .agg ⟨tpV ov t⟩, .int .i64 b, .int .i64 w] [q]
    (.tuple ⟨[.agg ⟨rvV c (rword c os v b w t).2.1⟩, .agg ⟨tpV ov (rword c os v b w t).1⟩, .int .u64 ((rword c os v b w t).2.2.1 : Int), .int .i64 (rword c os v b w t).2.2.2]⟩) := by
  have hat16 := rat_r c hc 16 b w
  have hl := rvlive_r hov hos hc v t ht b hb
  have hx := rlive_at hos ht c v b
  have hd := rvload_r hov hos c (rlive c os v b t).2.1 (rlive c os v b t).1 hx (c.at 16 b w)
  unfold rword
  generalize rlive c os v b t = x at hl hd hx ⊢
  obtain ⟨⟨xa, ⟨xk, xoa, ⟨xv1, xs1⟩, ⟨xv2, xs2⟩⟩, xn⟩, ⟨⟨xw, xq, xh, xst⟩, xs⟩⟩ := x
  dsimp only at hl hd hx ⊢
  generalize rload os _ (c.at 16 b w) _ = y at hd ⊢
  obtain ⟨⟨ya, ⟨yk, yoa, ⟨yv1, ys1⟩, ⟨yv2, ys2⟩⟩, yn⟩, ⟨⟨yw, yq, yh, yst⟩, yval, ys⟩⟩ := y
  obtain ⟨ta, ⟨k, oa, ⟨ov1, os1⟩, ⟨nv1, ns1⟩⟩, tn⟩ := t
  obtain ⟨who, seq, held, stale⟩ := v
  refine RTri.of_reads fun p1 hp => ?_
  replace hd := hd.of_read hp
  replace hl := hl.of_read hp
  obtain ⟨ad, cap, rfl, _⟩ := hov
  unfold tpV rvV Cfg.v at hd hl
  unfold Cfg.v at hat16
  unfold tpV rvV Cfg.v
  dsimp only [List.cons_append, List.nil_append] at hd hl hat16 ⊢
  generalize c.at 16 b w = a16 at hat16 hd ⊢
  cases stale with
  | true =>
    rw [if_pos rfl]
    refine Tri.of_body (vs := [_, _, _, _]) Tryz.func293 rfl rfl fun w0 F => ?_
    repeat' (first | refine Ga ?_ | (refine Gb ?_; intro b) | (refine Gd ?_; intro g cap rest hcap) | (refine Gc ?_; intro ad cap) | (refine St.drawT (id := 2) [] (.pick [(0, 3)] (.pick [(1, 3), (2, 3), (3, 3), (4, 0), (5, 0)] .done (.pick [(2, 3), (1, 3), (3, 3), (4, 0), (5, 0)] .done .nope)) (.pick [(1, 3), (0, 3), (2, 3), (3, 3), (4, 0), (5, 0)] .done .nope)) [0, 1, 2, 3] mixed (by kernel_rfl) ?_) | (refine St.drawT (id := 5) [] (.pick [(0, 3)] (.pick [(1, 3), (2, 3), (3, 3), (4, 0), (5, 0)] .done (.pick [(2, 3), (1, 3), (3, 3), (4, 0), (5, 0)] .done .nope)) (.pick [(1, 3), (0, 3), (2, 3), (3, 3), (4, 0), (5, 0)] .done .nope)) [0, 1, 2, 3] mixed (by kernel_rfl) ?_) | (refine St.drawT (id := 8) [(2, 0)] (.pick [(0, 3)] (.pick [(1, 3), (3, 3), (4, 3), (5, 0), (6, 0)] .done (.pick [(3, 3), (1, 3), (4, 3), (5, 0), (6, 0)] .done .nope)) (.pick [(1, 3), (0, 3), (3, 3), (4, 3), (5, 0), (6, 0)] .done .nope)) [0, 1, 3, 4] mixed (by kernel_rfl) ?_) | apply StD.pick | exact StD.nope  | (refine StD.ok3 rfl (OpOk.ofW OpV.go) rfl ?_; rintro _ _ ⟨rfl, rfl⟩) | (refine Ge ?_ ?_ <;> (intro h; try (exfalso; omega))) | fail)
    all_goals first | (exfalso; omega) | exact St.d1 Tryz.func293 ⟨_, ⟨rfl, rfl⟩, Ent.go⟩ | skip
  | false =>
    rw [if_neg Bool.false_ne_true]
    by_cases h1 : a16 < 0
    · rw [if_pos h1]
      refine Tri.of_body (vs := [_, _, _, _]) Tryz.func293 rfl rfl fun w0 F => ?_
      repeat' (first | refine Ga ?_ | (refine Gb ?_; intro b) | (refine Gd ?_; intro g cap rest hcap) | (refine Gc ?_; intro ad cap) | (refine St.drawT (id := 2) [] (.pick [(0, 3)] (.pick [(1, 3), (2, 3), (3, 3), (4, 0), (5, 0)] .done (.pick [(2, 3), (1, 3), (3, 3), (4, 0), (5, 0)] .done .nope)) (.pick [(1, 3), (0, 3), (2, 3), (3, 3), (4, 0), (5, 0)] .done .nope)) [0, 1, 2, 3] mixed (by kernel_rfl) ?_) | (refine St.drawT (id := 5) [] (.pick [(0, 3)] (.pick [(1, 3), (2, 3), (3, 3), (4, 0), (5, 0)] .done (.pick [(2, 3), (1, 3), (3, 3), (4, 0), (5, 0)] .done .nope)) (.pick [(1, 3), (0, 3), (2, 3), (3, 3), (4, 0), (5, 0)] .done .nope)) [0, 1, 2, 3] mixed (by kernel_rfl) ?_) | (refine St.drawT (id := 8) [(2, 0)] (.pick [(0, 3)] (.pick [(1, 3), (3, 3), (4, 3), (5, 0), (6, 0)] .done (.pick [(3, 3), (1, 3), (4, 3), (5, 0), (6, 0)] .done .nope)) (.pick [(1, 3), (0, 3), (3, 3), (4, 3), (5, 0), (6, 0)] .done .nope)) [0, 1, 3, 4] mixed (by kernel_rfl) ?_) | apply StD.pick | exact StD.nope | refine Gl hat16 ?_ | (refine StD.ok3 rfl (OpOk.ofW OpV.go) rfl ?_; rintro _ _ ⟨rfl, rfl⟩) | (refine Ge ?_ ?_ <;> (intro h; try (exfalso; omega))) | fail)
      all_goals first | (exfalso; omega) | exact St.d1 Tryz.func293 ⟨_, ⟨rfl, rfl⟩, Ent.go⟩ | skip
    rw [if_neg h1]
    by_cases hs : xs = 1
    · subst hs
      rw [if_neg (fun e => e rfl)]
      refine Tri.of_body (vs := [_, _, _, _]) Tryz.func293 rfl rfl fun w0 F => ?_
      repeat' (first | refine Ga ?_ | (refine Gb ?_; intro b) | (refine Gd ?_; intro g cap rest hcap) | (refine Gc ?_; intro ad cap) | (refine St.drawT (id := 2) [] (.pick [(0, 3)] (.pick [(1, 3), (2, 3), (3, 3), (4, 0), (5, 0)] .done (.pick [(2, 3), (1, 3), (3, 3), (4, 0), (5, 0)] .done .nope)) (.pick [(1, 3), (0, 3), (2, 3), (3, 3), (4, 0), (5, 0)] .done .nope)) [0, 1, 2, 3] mixed (by kernel_rfl) ?_) | (refine St.drawT (id := 5) [] (.pick [(0, 3)] (.pick [(1, 3), (2, 3), (3, 3), (4, 0), (5, 0)] .done (.pick [(2, 3), (1, 3), (3, 3), (4, 0), (5, 0)] .done .nope)) (.pick [(1, 3), (0, 3), (2, 3), (3, 3), (4, 0), (5, 0)] .done .nope)) [0, 1, 2, 3] mixed (by kernel_rfl) ?_) | (refine St.drawT (id := 8) [(2, 0)] (.pick [(0, 3)] (.pick [(1, 3), (3, 3), (4, 3), (5, 0), (6, 0)] .done (.pick [(3, 3), (1, 3), (4, 3), (5, 0), (6, 0)] .done .nope)) (.pick [(1, 3), (0, 3), (3, 3), (4, 3), (5, 0), (6, 0)] .done .nope)) [0, 1, 3, 4] mixed (by kernel_rfl) ?_) | apply StD.pick | exact StD.nope | refine Gl hat16 ?_ | refine Gl hl ?_ | refine Gl hd ?_ | (refine StD.ok3 rfl (OpOk.ofW OpV.go) rfl ?_; rintro _ _ ⟨rfl, rfl⟩) | (refine Ge ?_ ?_ <;> (intro h; try (exfalso; omega))) | fail)
      all_goals first | (exfalso; omega) | exact St.d1 Tryz.func293 ⟨_, ⟨rfl, rfl⟩, Ent.go⟩ | skip
    · rw [if_pos hs]
      refine Tri.of_body (vs := [_, _, _, _]) Tryz.func293 rfl rfl fun w0 F => ?_
      repeat' (first | refine Ga ?_ | (refine Gb ?_; intro b) | (refine Gd ?_; intro g cap rest hcap) | (refine Gc ?_; intro ad cap) | (refine St.drawT (id := 2) [] (.pick [(0, 3)] (.pick [(1, 3), (2, 3), (3, 3), (4, 0), (5, 0)] .done (.pick [(2, 3), (1, 3), (3, 3), (4, 0), (5, 0)] .done .nope)) (.pick [(1, 3), (0, 3), (2, 3), (3, 3), (4, 0), (5, 0)] .done .nope)) [0, 1, 2, 3] mixed (by kernel_rfl) ?_) | (refine St.drawT (id := 5) [] (.pick [(0, 3)] (.pick [(1, 3), (2, 3), (3, 3), (4, 0), (5, 0)] .done (.pick [(2, 3), (1, 3), (3, 3), (4, 0), (5, 0)] .done .nope)) (.pick [(1, 3), (0, 3), (2, 3), (3, 3), (4, 0), (5, 0)] .done .nope)) [0, 1, 2, 3] mixed (by kernel_rfl) ?_) | (refine St.drawT (id := 8) [(2, 0)] (.pick [(0, 3)] (.pick [(1, 3), (3, 3), (4, 3), (5, 0), (6, 0)] .done (.pick [(3, 3), (1, 3), (4, 3), (5, 0), (6, 0)] .done .nope)) (.pick [(1, 3), (0, 3), (3, 3), (4, 3), (5, 0), (6, 0)] .done .nope)) [0, 1, 3, 4] mixed (by kernel_rfl) ?_) | apply StD.pick | exact StD.nope | refine Gl hat16 ?_ | refine Gl hl ?_ | refine Gl hd ?_ | (refine StD.ok3 rfl (OpOk.ofW OpV.go) rfl ?_; rintro _ _ ⟨rfl, rfl⟩) | (refine Ge ?_ ?_ <;> (intro h; try (exfalso; omega))) | fail)
      all_goals first | (exfalso; omega) | exact St.d1 Tryz.func293 ⟨_, ⟨rfl, rfl⟩, Ent.go⟩ | skip
end
end Go.Proofs.YthmbgodcpgkkeaaGreat
