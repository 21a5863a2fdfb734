/-
  Package queue: Does.
-/
import Derived.Test.YtphheopbngdhhaaGreatDoorQc
namespace Go.Proofs.YtphheopbngdhhaaGreatDoor
set_option maxRecDepth 100000
theorem SlR.val {q : HProp} {v : Value} {xs : List Nat} (h : SlR q v xs) : ∃ ad cap, v = .slice ad xs.length cap := by
  rcases h with ⟨h, rfl⟩ | ⟨b, o, l, r, cap, h, _⟩
  · exact ⟨none, 0, h⟩
  · exact ⟨_, _, h⟩
/-- behind what is done -/
def doesQ (H : HProp) (m : Option Qu × Int × Nat) (v : Value) (L : List HProp) : Prop :=
  ∃ pv' H', v = .tuple ⟨[pv', .agg ⟨[.int .i64 m.2.1, .int .u64 (m.2.2 : Int)]⟩]⟩ ∧ QuR H' pv' m.1 ∧ (∀ b l, RdC H b l → RdC H' b l) ∧ L = [H']
theorem does_0 (H : HProp) (pv : Value) (q : Option Qu) (arg : Nat) (hq : QuR H pv q) : Tri Tryz.prog 51 #[pv, bs (nmB 0), .int .u64 (arg : Int)] [H] (doesQ H (doesM 0 q arg)) := by
  have hg := gives_r 4
  unfold doesM nmB
  cases q with
  | none =>
    have hq : pv = .pointer none := hq
    subst hq
    dsimp only
    refine Tri.of_body (vs := [_, _, _]) Tryz.func51 rfl rfl fun w0 F => ?_
    repeat' (first | refine Ga ?_ | (refine Gb ?_; intro b) | (refine Gd ?_; intro g cap rest hcap) | (refine Gc ?_; intro ad cap) | (refine St.drawT (id := 14) [(0, 0), (1, 0), (2, 0), (3, 1), (4, 0), (5, 0), (6, 0), (7, 1), (9, 0), (14, 0), (15, 0), (16, 0)] (.pick [(8, 3), (10, 2), (11, 3), (12, 0), (13, 2), (17, 0), (18, 3)] .done (.pick [(10, 2), (8, 3), (11, 3), (12, 0), (13, 2), (17, 0), (18, 3)] .done .nope)) [8, 11, 18] mixed (by kernel_rfl) ?_) | (refine St.draw (id := 24) [(0, 0), (1, 0), (2, 0), (3, 0), (4, 1), (5, 0), (6, 1), (7, 0), (8, 0), (9, 3)] [9] mixed (by kernel_rfl) ?_) | (refine St.draw (id := 25) [(0, 0), (1, 0), (2, 0), (3, 1), (4, 0), (5, 0), (6, 0), (7, 1), (8, 0), (12, 0), (13, 0), (14, 0), (15, 1), (16, 0), (17, 1), (18, 0), (9, 3), (10, 0), (11, 2), (19, 0), (20, 3)] [9, 20] mixed (by kernel_rfl) ?_) | apply StD.pick | exact StD.nope | refine Gl hg ?_ | (refine Ge ?_ ?_ <;> (intro h; try (exfalso; omega))) | fail)
    refine St.d1 Tryz.func51 ⟨_, ⟨_, star [bl b 125 [.int .u64 (arg : Int), .slice none 0 0], H], rfl, ⟨b, _, rfl, RdC.star (p := bl b 125 [.int .u64 (arg : Int), .slice none 0 0]) (.head _) RdC.bl, .inl ⟨rfl, rfl⟩⟩, fun b l h => RdC.star (.tail _ (.head _)) h, rfl⟩, ?_⟩
    refine Ent.trans ?_ (Ent.star_in _)
    exact Ent.go
  | some x =>
    have hq' := hq
    obtain ⟨b, lv, rfl, hrd, hsl⟩ := hq
    dsimp only
    refine Tri.of_body (vs := [_, _, _]) Tryz.func51 rfl rfl fun w0 F => ?_
    repeat' (first | refine Ga ?_ | (refine Gb ?_; intro b) | (refine Gd ?_; intro g cap rest hcap) | (refine Gc ?_; intro ad cap) | (refine St.drawT (id := 14) [(0, 0), (1, 0), (2, 0), (3, 1), (4, 0), (5, 0), (6, 0), (7, 1), (9, 0), (14, 0), (15, 0), (16, 0)] (.pick [(8, 3), (10, 2), (11, 3), (12, 0), (13, 2), (17, 0), (18, 3)] .done (.pick [(10, 2), (8, 3), (11, 3), (12, 0), (13, 2), (17, 0), (18, 3)] .done .nope)) [8, 11, 18] mixed (by kernel_rfl) ?_) | (refine St.draw (id := 24) [(0, 0), (1, 0), (2, 0), (3, 0), (4, 1), (5, 0), (6, 1), (7, 0), (8, 0), (9, 3)] [9] mixed (by kernel_rfl) ?_) | (refine St.draw (id := 25) [(0, 0), (1, 0), (2, 0), (3, 1), (4, 0), (5, 0), (6, 0), (7, 1), (8, 0), (12, 0), (13, 0), (14, 0), (15, 1), (16, 0), (17, 1), (18, 0), (9, 3), (10, 0), (11, 2), (19, 0), (20, 3)] [9, 20] mixed (by kernel_rfl) ?_) | apply StD.pick | exact StD.nope | refine Gl hg ?_ | (refine Ge ?_ ?_ <;> (intro h; try (exfalso; omega))) | fail)
    refine St.d1 Tryz.func51 ⟨_, ⟨_, H, rfl, hq', fun b l h => h, rfl⟩, ?_⟩
    exact Ent.go
theorem does_6 (H : HProp) (pv : Value) (q : Option Qu) (arg : Nat) (hq : QuR H pv q) : Tri Tryz.prog 51 #[pv, bs (nmB 6), .int .u64 (arg : Int)] [H] (doesQ H (doesM 6 q arg)) := by
  have hn := names_t
  have hc := contains_6
  unfold namesL at hc
  unfold doesM nmB at *
  refine Tri.of_body (vs := [_, _, _]) Tryz.func51 rfl rfl fun w0 F => ?_
  repeat' (first | refine Ga ?_ | (refine Gb ?_; intro b) | (refine Gd ?_; intro g cap rest hcap) | (refine Gc ?_; intro ad cap) | (refine St.drawT (id := 14) [(0, 0), (1, 0), (2, 0), (3, 1), (4, 0), (5, 0), (6, 0), (7, 1), (9, 0), (14, 0), (15, 0), (16, 0)] (.pick [(8, 3), (10, 2), (11, 3), (12, 0), (13, 2), (17, 0), (18, 3)] .done (.pick [(10, 2), (8, 3), (11, 3), (12, 0), (13, 2), (17, 0), (18, 3)] .done .nope)) [8, 11, 18] mixed (by kernel_rfl) ?_) | (refine St.draw (id := 24) [(0, 0), (1, 0), (2, 0), (3, 0), (4, 1), (5, 0), (6, 1), (7, 0), (8, 0), (9, 3)] [9] mixed (by kernel_rfl) ?_) | (refine St.draw (id := 25) [(0, 0), (1, 0), (2, 0), (3, 1), (4, 0), (5, 0), (6, 0), (7, 1), (8, 0), (12, 0), (13, 0), (14, 0), (15, 1), (16, 0), (17, 1), (18, 0), (9, 3), (10, 0), (11, 2), (19, 0), (20, 3)] [9, 20] mixed (by kernel_rfl) ?_) | apply StD.pick | exact StD.nope  | (refine Gt hn ?_; rintro _ _ ⟨nb, rfl, rfl⟩) | (refine Gt (hc nb) ?_; rintro _ _ ⟨rfl, rfl⟩) | (refine Ge ?_ ?_ <;> (intro h; try (exfalso; omega))) | fail)
  refine St.d1 Tryz.func51 ⟨_, ⟨_, H, rfl, hq, fun b l h => h, rfl⟩, ?_⟩
  exact Ent.go
theorem does_1n (H : HProp) (arg : Nat) : Tri Tryz.prog 51 #[.pointer none, bs (nmB 1), .int .u64 (arg : Int)] [H] (doesQ H (doesM 1 none arg)) := by
  have hn := names_t
  have hc := contains_1
  have hg := gives_r 3
  unfold namesL at hc
  unfold doesM nmB at *
  refine Tri.of_body (vs := [_, _, _]) Tryz.func51 rfl rfl fun w0 F => ?_
  repeat' (first | refine Ga ?_ | (refine Gb ?_; intro b) | (refine Gd ?_; intro g cap rest hcap) | (refine Gc ?_; intro ad cap) | (refine St.drawT (id := 14) [(0, 0), (1, 0), (2, 0), (3, 1), (4, 0), (5, 0), (6, 0), (7, 1), (9, 0), (14, 0), (15, 0), (16, 0)] (.pick [(8, 3), (10, 2), (11, 3), (12, 0), (13, 2), (17, 0), (18, 3)] .done (.pick [(10, 2), (8, 3), (11, 3), (12, 0), (13, 2), (17, 0), (18, 3)] .done .nope)) [8, 11, 18] mixed (by kernel_rfl) ?_) | (refine St.draw (id := 24) [(0, 0), (1, 0), (2, 0), (3, 0), (4, 1), (5, 0), (6, 1), (7, 0), (8, 0), (9, 3)] [9] mixed (by kernel_rfl) ?_) | (refine St.draw (id := 25) [(0, 0), (1, 0), (2, 0), (3, 1), (4, 0), (5, 0), (6, 0), (7, 1), (8, 0), (12, 0), (13, 0), (14, 0), (15, 1), (16, 0), (17, 1), (18, 0), (9, 3), (10, 0), (11, 2), (19, 0), (20, 3)] [9, 20] mixed (by kernel_rfl) ?_) | apply StD.pick | exact StD.nope | refine Gl hg ?_ | (refine Gt hn ?_; rintro _ _ ⟨nb, rfl, rfl⟩) | (refine Gt (hc nb) ?_; rintro _ _ ⟨rfl, rfl⟩) | (refine Ge ?_ ?_ <;> (intro h; try (exfalso; omega))) | fail)
  refine St.d1 Tryz.func51 ⟨_, ⟨_, H, rfl, rfl, fun b l h => h, rfl⟩, ?_⟩
  exact Ent.go
theorem does_2n (H : HProp) (arg : Nat) : Tri Tryz.prog 51 #[.pointer none, bs (nmB 2), .int .u64 (arg : Int)] [H] (doesQ H (doesM 2 none arg)) := by
  have hn := names_t
  have hc := contains_2
  have hg := gives_r 3
  unfold namesL at hc
  unfold doesM nmB at *
  refine Tri.of_body (vs := [_, _, _]) Tryz.func51 rfl rfl fun w0 F => ?_
  repeat' (first | refine Ga ?_ | (refine Gb ?_; intro b) | (refine Gd ?_; intro g cap rest hcap) | (refine Gc ?_; intro ad cap) | (refine St.drawT (id := 14) [(0, 0), (1, 0), (2, 0), (3, 1), (4, 0), (5, 0), (6, 0), (7, 1), (9, 0), (14, 0), (15, 0), (16, 0)] (.pick [(8, 3), (10, 2), (11, 3), (12, 0), (13, 2), (17, 0), (18, 3)] .done (.pick [(10, 2), (8, 3), (11, 3), (12, 0), (13, 2), (17, 0), (18, 3)] .done .nope)) [8, 11, 18] mixed (by kernel_rfl) ?_) | (refine St.draw (id := 24) [(0, 0), (1, 0), (2, 0), (3, 0), (4, 1), (5, 0), (6, 1), (7, 0), (8, 0), (9, 3)] [9] mixed (by kernel_rfl) ?_) | (refine St.draw (id := 25) [(0, 0), (1, 0), (2, 0), (3, 1), (4, 0), (5, 0), (6, 0), (7, 1), (8, 0), (12, 0), (13, 0), (14, 0), (15, 1), (16, 0), (17, 1), (18, 0), (9, 3), (10, 0), (11, 2), (19, 0), (20, 3)] [9, 20] mixed (by kernel_rfl) ?_) | apply StD.pick | exact StD.nope | refine Gl hg ?_ | (refine Gt hn ?_; rintro _ _ ⟨nb, rfl, rfl⟩) | (refine Gt (hc nb) ?_; rintro _ _ ⟨rfl, rfl⟩) | (refine Ge ?_ ?_ <;> (intro h; try (exfalso; omega))) | fail)
  refine St.d1 Tryz.func51 ⟨_, ⟨_, H, rfl, rfl, fun b l h => h, rfl⟩, ?_⟩
  exact Ent.go
theorem does_3n (H : HProp) (arg : Nat) : Tri Tryz.prog 51 #[.pointer none, bs (nmB 3), .int .u64 (arg : Int)] [H] (doesQ H (doesM 3 none arg)) := by
  have hn := names_t
  have hc := contains_3
  have hg := gives_r 3
  unfold namesL at hc
  unfold doesM nmB at *
  refine Tri.of_body (vs := [_, _, _]) Tryz.func51 rfl rfl fun w0 F => ?_
  repeat' (first | refine Ga ?_ | (refine Gb ?_; intro b) | (refine Gd ?_; intro g cap rest hcap) | (refine Gc ?_; intro ad cap) | (refine St.drawT (id := 14) [(0, 0), (1, 0), (2, 0), (3, 1), (4, 0), (5, 0), (6, 0), (7, 1), (9, 0), (14, 0), (15, 0), (16, 0)] (.pick [(8, 3), (10, 2), (11, 3), (12, 0), (13, 2), (17, 0), (18, 3)] .done (.pick [(10, 2), (8, 3), (11, 3), (12, 0), (13, 2), (17, 0), (18, 3)] .done .nope)) [8, 11, 18] mixed (by kernel_rfl) ?_) | (refine St.draw (id := 24) [(0, 0), (1, 0), (2, 0), (3, 0), (4, 1), (5, 0), (6, 1), (7, 0), (8, 0), (9, 3)] [9] mixed (by kernel_rfl) ?_) | (refine St.draw (id := 25) [(0, 0), (1, 0), (2, 0), (3, 1), (4, 0), (5, 0), (6, 0), (7, 1), (8, 0), (12, 0), (13, 0), (14, 0), (15, 1), (16, 0), (17, 1), (18, 0), (9, 3), (10, 0), (11, 2), (19, 0), (20, 3)] [9, 20] mixed (by kernel_rfl) ?_) | apply StD.pick | exact StD.nope | refine Gl hg ?_ | (refine Gt hn ?_; rintro _ _ ⟨nb, rfl, rfl⟩) | (refine Gt (hc nb) ?_; rintro _ _ ⟨rfl, rfl⟩) | (refine Ge ?_ ?_ <;> (intro h; try (exfalso; omega))) | fail)
  refine St.d1 Tryz.func51 ⟨_, ⟨_, H, rfl, rfl, fun b l h => h, rfl⟩, ?_⟩
  exact Ent.go
theorem does_4n (H : HProp) (arg : Nat) : Tri Tryz.prog 51 #[.pointer none, bs (nmB 4), .int .u64 (arg : Int)] [H] (doesQ H (doesM 4 none arg)) := by
  have hn := names_t
  have hc := contains_4
  have hg := gives_r 3
  unfold namesL at hc
  unfold doesM nmB at *
  refine Tri.of_body (vs := [_, _, _]) Tryz.func51 rfl rfl fun w0 F => ?_
  repeat' (first | refine Ga ?_ | (refine Gb ?_; intro b) | (refine Gd ?_; intro g cap rest hcap) | (refine Gc ?_; intro ad cap) | (refine St.drawT (id := 14) [(0, 0), (1, 0), (2, 0), (3, 1), (4, 0), (5, 0), (6, 0), (7, 1), (9, 0), (14, 0), (15, 0), (16, 0)] (.pick [(8, 3), (10, 2), (11, 3), (12, 0), (13, 2), (17, 0), (18, 3)] .done (.pick [(10, 2), (8, 3), (11, 3), (12, 0), (13, 2), (17, 0), (18, 3)] .done .nope)) [8, 11, 18] mixed (by kernel_rfl) ?_) | (refine St.draw (id := 24) [(0, 0), (1, 0), (2, 0), (3, 0), (4, 1), (5, 0), (6, 1), (7, 0), (8, 0), (9, 3)] [9] mixed (by kernel_rfl) ?_) | (refine St.draw (id := 25) [(0, 0), (1, 0), (2, 0), (3, 1), (4, 0), (5, 0), (6, 0), (7, 1), (8, 0), (12, 0), (13, 0), (14, 0), (15, 1), (16, 0), (17, 1), (18, 0), (9, 3), (10, 0), (11, 2), (19, 0), (20, 3)] [9, 20] mixed (by kernel_rfl) ?_) | apply StD.pick | exact StD.nope | refine Gl hg ?_ | (refine Gt hn ?_; rintro _ _ ⟨nb, rfl, rfl⟩) | (refine Gt (hc nb) ?_; rintro _ _ ⟨rfl, rfl⟩) | (refine Ge ?_ ?_ <;> (intro h; try (exfalso; omega))) | fail)
  refine St.d1 Tryz.func51 ⟨_, ⟨_, H, rfl, rfl, fun b l h => h, rfl⟩, ?_⟩
  exact Ent.go
theorem does_5n (H : HProp) (arg : Nat) : Tri Tryz.prog 51 #[.pointer none, bs (nmB 5), .int .u64 (arg : Int)] [H] (doesQ H (doesM 5 none arg)) := by
  have hn := names_t
  have hc := contains_5
  have hg := gives_r 3
  unfold namesL at hc
  unfold doesM nmB at *
  refine Tri.of_body (vs := [_, _, _]) Tryz.func51 rfl rfl fun w0 F => ?_
  repeat' (first | refine Ga ?_ | (refine Gb ?_; intro b) | (refine Gd ?_; intro g cap rest hcap) | (refine Gc ?_; intro ad cap) | (refine St.drawT (id := 14) [(0, 0), (1, 0), (2, 0), (3, 1), (4, 0), (5, 0), (6, 0), (7, 1), (9, 0), (14, 0), (15, 0), (16, 0)] (.pick [(8, 3), (10, 2), (11, 3), (12, 0), (13, 2), (17, 0), (18, 3)] .done (.pick [(10, 2), (8, 3), (11, 3), (12, 0), (13, 2), (17, 0), (18, 3)] .done .nope)) [8, 11, 18] mixed (by kernel_rfl) ?_) | (refine St.draw (id := 24) [(0, 0), (1, 0), (2, 0), (3, 0), (4, 1), (5, 0), (6, 1), (7, 0), (8, 0), (9, 3)] [9] mixed (by kernel_rfl) ?_) | (refine St.draw (id := 25) [(0, 0), (1, 0), (2, 0), (3, 1), (4, 0), (5, 0), (6, 0), (7, 1), (8, 0), (12, 0), (13, 0), (14, 0), (15, 1), (16, 0), (17, 1), (18, 0), (9, 3), (10, 0), (11, 2), (19, 0), (20, 3)] [9, 20] mixed (by kernel_rfl) ?_) | apply StD.pick | exact StD.nope | refine Gl hg ?_ | (refine Gt hn ?_; rintro _ _ ⟨nb, rfl, rfl⟩) | (refine Gt (hc nb) ?_; rintro _ _ ⟨rfl, rfl⟩) | (refine Ge ?_ ?_ <;> (intro h; try (exfalso; omega))) | fail)
  refine St.d1 Tryz.func51 ⟨_, ⟨_, H, rfl, rfl, fun b l h => h, rfl⟩, ?_⟩
  exact Ent.go
theorem does_1 (H : HProp) (pv : Value) (x : Qu) (arg : Nat) (hq : QuR H pv (some x)) (hl : x.list.length ≤ 1000) : Tri Tryz.prog 51 #[pv, bs (nmB 1), .int .u64 (arg : Int)] [H] (doesQ H (doesM 1 (some x) arg)) := by
  have hn := names_t
  have hc := contains_1
  have hg := gives_r 2
  have hq' := hq
  obtain ⟨b, lv, rfl, hrd, hsl⟩ := hq
  obtain ⟨ad, cap, rfl⟩ := hsl.val
  have hcl := clone_s H ad x.list.length cap x.list hsl (by omega)
  unfold namesL at hc
  unfold doesM nmB at *
  dsimp only
  by_cases hf : x.cap ≤ x.list.length
  · rw [if_pos hf]
    refine Tri.of_body (vs := [_, _, _]) Tryz.func51 rfl rfl fun w0 F => ?_
    repeat' (first | refine Ga ?_ | (refine Gb ?_; intro b) | (refine Gd ?_; intro g cap rest hcap) | (refine Gc ?_; intro ad cap) | (refine St.drawT (id := 14) [(0, 0), (1, 0), (2, 0), (3, 1), (4, 0), (5, 0), (6, 0), (7, 1), (9, 0), (14, 0), (15, 0), (16, 0)] (.pick [(8, 3), (10, 2), (11, 3), (12, 0), (13, 2), (17, 0), (18, 3)] .done (.pick [(10, 2), (8, 3), (11, 3), (12, 0), (13, 2), (17, 0), (18, 3)] .done .nope)) [8, 11, 18] mixed (by kernel_rfl) ?_) | (refine St.draw (id := 24) [(0, 0), (1, 0), (2, 0), (3, 0), (4, 1), (5, 0), (6, 1), (7, 0), (8, 0), (9, 3)] [9] mixed (by kernel_rfl) ?_) | (refine St.draw (id := 25) [(0, 0), (1, 0), (2, 0), (3, 1), (4, 0), (5, 0), (6, 0), (7, 1), (8, 0), (12, 0), (13, 0), (14, 0), (15, 1), (16, 0), (17, 1), (18, 0), (9, 3), (10, 0), (11, 2), (19, 0), (20, 3)] [9, 20] mixed (by kernel_rfl) ?_) | apply StD.pick | exact StD.nope | refine Gl hg ?_ | (refine Gt hn ?_; rintro _ _ ⟨nb, rfl, rfl⟩) | (refine Gt (hc nb) ?_; rintro _ _ ⟨rfl, rfl⟩) | (refine Ge ?_ ?_ <;> (intro h; try (exfalso; omega))) | fail)
    refine St.d1 Tryz.func51 ⟨_, ⟨_, H, rfl, hq', fun b l h => h, rfl⟩, ?_⟩
    exact Ent.go
  · rw [if_neg hf]
    refine Tri.of_body (vs := [_, _, _]) Tryz.func51 rfl rfl fun w0 F => ?_
    repeat' (first | refine Ga ?_ | (refine Gb ?_; intro b) | (refine Gd ?_; intro g cap rest hcap) | (refine Gc ?_; intro ad cap) | (refine St.drawT (id := 14) [(0, 0), (1, 0), (2, 0), (3, 1), (4, 0), (5, 0), (6, 0), (7, 1), (9, 0), (14, 0), (15, 0), (16, 0)] (.pick [(8, 2), (10, 2), (11, 2), (12, 0), (13, 2), (17, 0), (18, 3)] .done (.pick [(10, 2), (8, 2), (11, 2), (12, 0), (13, 2), (17, 0), (18, 3)] .done .nope)) [18] mixed (by kernel_rfl) ?_) | (refine St.draw (id := 24) [(0, 0), (1, 0), (2, 0), (3, 0), (4, 1), (5, 0), (6, 1), (7, 0), (8, 0), (9, 3)] [9] mixed (by kernel_rfl) ?_) | (refine St.draw (id := 25) [(0, 0), (1, 0), (2, 0), (3, 1), (4, 0), (5, 0), (6, 0), (7, 1), (8, 0), (12, 0), (13, 0), (14, 0), (15, 1), (16, 0), (17, 1), (18, 0), (9, 2), (10, 0), (11, 2), (19, 0), (20, 3)] [20] mixed (by kernel_rfl) ?_) | apply StD.pick | exact StD.nope | refine Gl hg ?_ | (refine Gt hn ?_; rintro _ _ ⟨nb, rfl, rfl⟩) | (refine Gu hn ?_; rintro _ _ ⟨nb, rfl, rfl⟩; refine ⟨Ent.go, ?_⟩) | (refine Gt (hc nb) ?_; rintro _ _ ⟨rfl, rfl⟩) | (refine Gu (hc nb) ?_; rintro _ _ ⟨rfl, rfl⟩; refine ⟨Ent.go, ?_⟩) | (refine Gt hcl ?_; rintro _ _ ⟨nad, ncap, rfl, rfl⟩) | (refine Gu hcl ?_; rintro _ _ ⟨nad, ncap, rfl, rfl⟩; refine ⟨Ent.go, ?_⟩) | (refine Ge ?_ ?_ <;> (intro h; try (exfalso; omega))) | fail)
    all_goals (apply StD.ok2; rfl; exact OpOk.ga; rfl; rintro _ _ ⟨ad, cap, rfl, rfl⟩; refine ⟨Ent.go, ?_⟩)
    all_goals repeat' (first | refine Ga ?_ | (refine Gb ?_; intro b) | (refine Gd ?_; intro g cap rest hcap) | (refine Gc ?_; intro ad cap) | (refine St.drawT (id := 14) [(0, 0), (1, 0), (2, 0), (3, 1), (4, 0), (5, 0), (6, 0), (7, 1), (9, 0), (14, 0), (15, 0), (16, 0)] (.pick [(8, 2), (10, 2), (11, 2), (12, 0), (13, 2), (17, 0), (18, 3)] .done (.pick [(10, 2), (8, 2), (11, 2), (12, 0), (13, 2), (17, 0), (18, 3)] .done .nope)) [18] mixed (by kernel_rfl) ?_) | (refine St.draw (id := 24) [(0, 0), (1, 0), (2, 0), (3, 0), (4, 1), (5, 0), (6, 1), (7, 0), (8, 0), (9, 3)] [9] mixed (by kernel_rfl) ?_) | (refine St.draw (id := 25) [(0, 0), (1, 0), (2, 0), (3, 1), (4, 0), (5, 0), (6, 0), (7, 1), (8, 0), (12, 0), (13, 0), (14, 0), (15, 1), (16, 0), (17, 1), (18, 0), (9, 2), (10, 0), (11, 2), (19, 0), (20, 3)] [20] mixed (by kernel_rfl) ?_) | apply StD.pick | exact StD.nope | refine Gl hg ?_ | (refine Gt hn ?_; rintro _ _ ⟨nb, rfl, rfl⟩) | (refine Gu hn ?_; rintro _ _ ⟨nb, rfl, rfl⟩; refine ⟨Ent.go, ?_⟩) | (refine Gt (hc nb) ?_; rintro _ _ ⟨rfl, rfl⟩) | (refine Gu (hc nb) ?_; rintro _ _ ⟨rfl, rfl⟩; refine ⟨Ent.go, ?_⟩) | (refine Gt hcl ?_; rintro _ _ ⟨nad, ncap, rfl, rfl⟩) | (refine Gu hcl ?_; rintro _ _ ⟨nad, ncap, rfl, rfl⟩; refine ⟨Ent.go, ?_⟩) | (refine Ge ?_ ?_ <;> (intro h; try (exfalso; omega))) | fail)
    all_goals (
      revert b; intro B
      refine St.conv ?_ (Sub.refl _) (Ent.of_take (p := Row (.slice ad (x.list.length + 1) cap) 22 1 (x.list.length + 1) (u64s x.list ++ [.int .u64 (arg : Int)])) Take.go)
      have e1 : u64s x.list ++ [.int .u64 (arg : Int)] = u64s (x.list ++ [arg]) := by simp [u64s]
      have e2 : x.list.length + 1 = (x.list ++ [arg]).length := by simp
      rw [e1]
      have hrow : ∀ {P : Program} {C : Cx} {k : List Item} {E : Env} {L : List HProp}, (∀ R, SlR R (.slice ad (x.list.length + 1) cap) (x.list ++ [arg]) → St P C k E (R :: L)) → St P C k E (Row (.slice ad (x.list.length + 1) cap) 22 1 (x.list.length + 1) (u64s (x.list ++ [arg])) :: L) := by
        rw [e2]; intro P C k E L h; exact St.rowS h
      refine hrow fun R hR => ?_
      refine St.d1 Tryz.func51 ⟨_, ⟨_, star [bl B 125 [.int .u64 (x.cap : Int), .slice ad (x.list.length + 1) cap], R, H], rfl, ⟨B, _, rfl, RdC.star (p := bl B 125 [.int .u64 (x.cap : Int), .slice ad (x.list.length + 1) cap]) (.head _) RdC.bl, hR.weak fun b l h => RdC.star (.tail _ (.head _)) h⟩, fun b l h => RdC.star (.tail _ (.tail _ (.head _))) h, rfl⟩, ?_⟩
      refine Ent.trans ?_ (Ent.star_in _)
      exact Ent.go)
theorem does_2 (H : HProp) (pv : Value) (x : Qu) (arg : Nat) (hq : QuR H pv (some x)) (hl : x.list.length ≤ 1000) : Tri Tryz.prog 51 #[pv, bs (nmB 2), .int .u64 (arg : Int)] [H] (doesQ H (doesM 2 (some x) arg)) := by
  have hn := names_t
  have hc := contains_2
  have hg := gives_r 1
  have hq' := hq
  obtain ⟨b, lv, rfl, hrd, hsl⟩ := hq
  obtain ⟨qc, ql⟩ := x
  dsimp only at hrd hsl hl
  unfold namesL at hc
  unfold doesM nmB at *
  dsimp only
  obtain ⟨ad, cap, rfl⟩ := hsl.val
  cases ql with
  | nil =>
    dsimp only
    refine Tri.of_body (vs := [_, _, _]) Tryz.func51 rfl rfl fun w0 F => ?_
    repeat' (first | refine Ga ?_ | (refine Gb ?_; intro b) | (refine Gd ?_; intro g cap rest hcap) | (refine Gc ?_; intro ad cap) | (refine St.drawT (id := 14) [(0, 0), (1, 0), (2, 0), (3, 1), (4, 0), (5, 0), (6, 0), (7, 1), (9, 0), (14, 0), (15, 0), (16, 0)] (.pick [(8, 3), (10, 2), (11, 3), (12, 0), (13, 2), (17, 0), (18, 3)] .done (.pick [(10, 2), (8, 3), (11, 3), (12, 0), (13, 2), (17, 0), (18, 3)] .done .nope)) [8, 11, 18] mixed (by kernel_rfl) ?_) | (refine St.draw (id := 24) [(0, 0), (1, 0), (2, 0), (3, 0), (4, 1), (5, 0), (6, 1), (7, 0), (8, 0), (9, 3)] [9] mixed (by kernel_rfl) ?_) | (refine St.draw (id := 25) [(0, 0), (1, 0), (2, 0), (3, 1), (4, 0), (5, 0), (6, 0), (7, 1), (8, 0), (12, 0), (13, 0), (14, 0), (15, 1), (16, 0), (17, 1), (18, 0), (9, 3), (10, 0), (11, 2), (19, 0), (20, 3)] [9, 20] mixed (by kernel_rfl) ?_) | apply StD.pick | exact StD.nope | refine Gl hg ?_ | (refine Gt hn ?_; rintro _ _ ⟨nb, rfl, rfl⟩) | (refine Gt (hc nb) ?_; rintro _ _ ⟨rfl, rfl⟩) | (refine Ge ?_ ?_ <;> (intro h; try (exfalso; omega))) | fail)
    refine St.d1 Tryz.func51 ⟨_, ⟨_, H, rfl, hq', fun b l h => h, rfl⟩, ?_⟩
    exact Ent.go
  | cons y ys =>
    dsimp only
    have hln : (y :: ys).length = ys.length + 1 := rfl
    have htl := hsl.tail
    obtain ⟨_, bf, o, l, r, rfl, hrd2, hdr, htk⟩ := hsl.at0
    have hn0 : NthN (o + (0 : Int).toNat * 1) l (.int .u64 (y : Int)) := NthN.part hdr (TakeN.succ TakeN.zero : TakeN 1 (Value.int .u64 (y : Int) :: r) [Value.int .u64 (y : Int)]) (j := 0) (NthN.of rfl)
    have hcl := clone_s H _ _ _ ys htl (by omega)
    refine Tri.of_body (vs := [_, _, _]) Tryz.func51 rfl rfl fun w0 F => ?_
    repeat' (first | refine Ga ?_ | (refine Gb ?_; intro b) | (refine Gd ?_; intro g cap rest hcap) | (refine Gc ?_; intro ad cap) | (refine St.drawT (id := 14) [(0, 0), (1, 0), (2, 0), (3, 1), (4, 0), (5, 0), (6, 0), (7, 1), (9, 0), (14, 0), (15, 0), (16, 0)] (.pick [(8, 2), (10, 2), (11, 3), (12, 0), (13, 2), (17, 0), (18, 3)] .done (.pick [(10, 2), (8, 2), (11, 3), (12, 0), (13, 2), (17, 0), (18, 3)] .done .nope)) [11, 18] mixed (by kernel_rfl) ?_) | (refine St.draw (id := 24) [(0, 0), (1, 0), (2, 0), (3, 0), (4, 1), (5, 0), (6, 1), (7, 0), (8, 0), (9, 3)] [9] mixed (by kernel_rfl) ?_) | (refine St.draw (id := 25) [(0, 0), (1, 0), (2, 0), (3, 1), (4, 0), (5, 0), (6, 0), (7, 1), (8, 0), (12, 0), (13, 0), (14, 0), (15, 1), (16, 0), (17, 1), (18, 0), (9, 2), (10, 0), (11, 2), (19, 0), (20, 3)] [20] mixed (by kernel_rfl) ?_) | apply StD.pick | exact StD.nope | refine Gl hg ?_ | (refine Gt hn ?_; rintro _ _ ⟨nb, rfl, rfl⟩) | (refine Gu hn ?_; rintro _ _ ⟨nb, rfl, rfl⟩; refine ⟨Ent.go, ?_⟩) | (refine Gt (hc nb) ?_; rintro _ _ ⟨rfl, rfl⟩) | (refine Gu (hc nb) ?_; rintro _ _ ⟨rfl, rfl⟩; refine ⟨Ent.go, ?_⟩) | (refine Gt hcl ?_; rintro _ _ ⟨nad, ncap, rfl, rfl⟩) | (refine Gu hcl ?_; rintro _ _ ⟨nad, ncap, rfl, rfl⟩; refine ⟨Ent.go, ?_⟩) | (refine Ge ?_ ?_ <;> (intro h; try (exfalso; omega))) | fail)
    all_goals (
      revert b; intro B
      refine St.conv ?_ (Sub.refl _) (Ent.of_take (p := Row (.slice nad ys.length ncap) 22 1 ys.length (u64s ys)) Take.go)
      refine St.rowS fun R hR => ?_
      refine St.d1 Tryz.func51 ⟨_, ⟨_, star [bl B 125 [.int .u64 (qc : Int), .slice nad ys.length ncap], R, H], rfl, ⟨B, _, rfl, RdC.star (p := bl B 125 [.int .u64 (qc : Int), .slice nad ys.length ncap]) (.head _) RdC.bl, hR.weak fun b l h => RdC.star (.tail _ (.head _)) h⟩, fun b l h => RdC.star (.tail _ (.tail _ (.head _))) h, rfl⟩, ?_⟩
      refine Ent.trans ?_ (Ent.star_in _)
      exact Ent.go)
theorem does_3 (H : HProp) (pv : Value) (x : Qu) (arg : Nat) (hq : QuR H pv (some x)) (hl : x.list.length ≤ 1000) : Tri Tryz.prog 51 #[pv, bs (nmB 3), .int .u64 (arg : Int)] [H] (doesQ H (doesM 3 (some x) arg)) := by
  have hn := names_t
  have hc := contains_3
  have hg := gives_r 1
  have hq' := hq
  obtain ⟨b, lv, rfl, hrd, hsl⟩ := hq
  obtain ⟨qc, ql⟩ := x
  dsimp only at hrd hsl hl
  unfold namesL at hc
  unfold doesM nmB at *
  dsimp only
  obtain ⟨ad, cap, rfl⟩ := hsl.val
  cases ql with
  | nil =>
    dsimp only
    refine Tri.of_body (vs := [_, _, _]) Tryz.func51 rfl rfl fun w0 F => ?_
    repeat' (first | refine Ga ?_ | (refine Gb ?_; intro b) | (refine Gd ?_; intro g cap rest hcap) | (refine Gc ?_; intro ad cap) | (refine St.drawT (id := 14) [(0, 0), (1, 0), (2, 0), (3, 1), (4, 0), (5, 0), (6, 0), (7, 1), (9, 0), (14, 0), (15, 0), (16, 0)] (.pick [(8, 3), (10, 2), (11, 3), (12, 0), (13, 2), (17, 0), (18, 3)] .done (.pick [(10, 2), (8, 3), (11, 3), (12, 0), (13, 2), (17, 0), (18, 3)] .done .nope)) [8, 11, 18] mixed (by kernel_rfl) ?_) | (refine St.draw (id := 24) [(0, 0), (1, 0), (2, 0), (3, 0), (4, 1), (5, 0), (6, 1), (7, 0), (8, 0), (9, 3)] [9] mixed (by kernel_rfl) ?_) | (refine St.draw (id := 25) [(0, 0), (1, 0), (2, 0), (3, 1), (4, 0), (5, 0), (6, 0), (7, 1), (8, 0), (12, 0), (13, 0), (14, 0), (15, 1), (16, 0), (17, 1), (18, 0), (9, 3), (10, 0), (11, 2), (19, 0), (20, 3)] [9, 20] mixed (by kernel_rfl) ?_) | apply StD.pick | exact StD.nope | refine Gl hg ?_ | (refine Gt hn ?_; rintro _ _ ⟨nb, rfl, rfl⟩) | (refine Gt (hc nb) ?_; rintro _ _ ⟨rfl, rfl⟩) | (refine Ge ?_ ?_ <;> (intro h; try (exfalso; omega))) | fail)
    refine St.d1 Tryz.func51 ⟨_, ⟨_, H, rfl, hq', fun b l h => h, rfl⟩, ?_⟩
    exact Ent.go
  | cons y ys =>
    dsimp only
    have hln : (y :: ys).length = ys.length + 1 := rfl
    obtain ⟨_, bf, o, l, r, rfl, hrd2, hdr, htk⟩ := hsl.at0
    have hn0 : NthN (o + (0 : Int).toNat * 1) l (.int .u64 (y : Int)) := NthN.part hdr (TakeN.succ TakeN.zero : TakeN 1 (Value.int .u64 (y : Int) :: r) [Value.int .u64 (y : Int)]) (j := 0) (NthN.of rfl)
    refine Tri.of_body (vs := [_, _, _]) Tryz.func51 rfl rfl fun w0 F => ?_
    repeat' (first | refine Ga ?_ | (refine Gb ?_; intro b) | (refine Gd ?_; intro g cap rest hcap) | (refine Gc ?_; intro ad cap) | (refine St.drawT (id := 14) [(0, 0), (1, 0), (2, 0), (3, 1), (4, 0), (5, 0), (6, 0), (7, 1), (9, 0), (14, 0), (15, 0), (16, 0)] (.pick [(8, 3), (10, 2), (11, 3), (12, 0), (13, 2), (17, 0), (18, 3)] .done (.pick [(10, 2), (8, 3), (11, 3), (12, 0), (13, 2), (17, 0), (18, 3)] .done .nope)) [8, 11, 18] mixed (by kernel_rfl) ?_) | (refine St.draw (id := 24) [(0, 0), (1, 0), (2, 0), (3, 0), (4, 1), (5, 0), (6, 1), (7, 0), (8, 0), (9, 3)] [9] mixed (by kernel_rfl) ?_) | (refine St.draw (id := 25) [(0, 0), (1, 0), (2, 0), (3, 1), (4, 0), (5, 0), (6, 0), (7, 1), (8, 0), (12, 0), (13, 0), (14, 0), (15, 1), (16, 0), (17, 1), (18, 0), (9, 3), (10, 0), (11, 2), (19, 0), (20, 3)] [9, 20] mixed (by kernel_rfl) ?_) | apply StD.pick | exact StD.nope | refine Gl hg ?_ | (refine Gt hn ?_; rintro _ _ ⟨nb, rfl, rfl⟩) | (refine Gt (hc nb) ?_; rintro _ _ ⟨rfl, rfl⟩) | (refine Ge ?_ ?_ <;> (intro h; try (exfalso; omega))) | fail)
    all_goals refine St.d1 Tryz.func51 ⟨_, ⟨_, H, rfl, hq', fun b l h => h, rfl⟩, ?_⟩
    all_goals exact Ent.go
theorem does_4 (H : HProp) (pv : Value) (x : Qu) (arg : Nat) (hq : QuR H pv (some x)) (hl : x.list.length ≤ 1000) : Tri Tryz.prog 51 #[pv, bs (nmB 4), .int .u64 (arg : Int)] [H] (doesQ H (doesM 4 (some x) arg)) := by
  have hn := names_t
  have hc := contains_4
  have hq' := hq
  obtain ⟨b, lv, rfl, hrd, hsl⟩ := hq
  obtain ⟨ad, cap, rfl⟩ := hsl.val
  unfold namesL at hc
  unfold doesM nmB at *
  dsimp only
  refine Tri.of_body (vs := [_, _, _]) Tryz.func51 rfl rfl fun w0 F => ?_
  repeat' (first | refine Ga ?_ | (refine Gb ?_; intro b) | (refine Gd ?_; intro g cap rest hcap) | (refine Gc ?_; intro ad cap) | (refine St.drawT (id := 14) [(0, 0), (1, 0), (2, 0), (3, 1), (4, 0), (5, 0), (6, 0), (7, 1), (9, 0), (14, 0), (15, 0), (16, 0)] (.pick [(8, 3), (10, 2), (11, 3), (12, 0), (13, 2), (17, 0), (18, 3)] .done (.pick [(10, 2), (8, 3), (11, 3), (12, 0), (13, 2), (17, 0), (18, 3)] .done .nope)) [8, 11, 18] mixed (by kernel_rfl) ?_) | (refine St.draw (id := 24) [(0, 0), (1, 0), (2, 0), (3, 0), (4, 1), (5, 0), (6, 1), (7, 0), (8, 0), (9, 3)] [9] mixed (by kernel_rfl) ?_) | (refine St.draw (id := 25) [(0, 0), (1, 0), (2, 0), (3, 1), (4, 0), (5, 0), (6, 0), (7, 1), (8, 0), (12, 0), (13, 0), (14, 0), (15, 1), (16, 0), (17, 1), (18, 0), (9, 3), (10, 0), (11, 2), (19, 0), (20, 3)] [9, 20] mixed (by kernel_rfl) ?_) | apply StD.pick | exact StD.nope  | (refine Gt hn ?_; rintro _ _ ⟨nb, rfl, rfl⟩) | (refine Gt (hc nb) ?_; rintro _ _ ⟨rfl, rfl⟩) | (refine Ge ?_ ?_ <;> (intro h; try (exfalso; omega))) | fail)
  all_goals refine St.d1 Tryz.func51 ⟨_, ⟨_, H, rfl, hq', fun b l h => h, rfl⟩, ?_⟩
  all_goals exact Ent.go
theorem does_5 (H : HProp) (pv : Value) (x : Qu) (arg : Nat) (hq : QuR H pv (some x)) (hl : x.list.length ≤ 1000) : Tri Tryz.prog 51 #[pv, bs (nmB 5), .int .u64 (arg : Int)] [H] (doesQ H (doesM 5 (some x) arg)) := by
  have hn := names_t
  have hc := contains_5
  have hg := gives_r 5
  have hq' := hq
  obtain ⟨b, lv, rfl, hrd, hsl⟩ := hq
  obtain ⟨qc, ql⟩ := x
  dsimp only at hrd hsl hl
  unfold namesL at hc
  unfold doesM nmB at *
  dsimp only
  obtain ⟨ad, cap, rfl⟩ := hsl.val
  cases ql with
  | nil =>
    dsimp only
    refine Tri.of_body (vs := [_, _, _]) Tryz.func51 rfl rfl fun w0 F => ?_
    repeat' (first | refine Ga ?_ | (refine Gb ?_; intro b) | (refine Gd ?_; intro g cap rest hcap) | (refine Gc ?_; intro ad cap) | (refine St.drawT (id := 14) [(0, 0), (1, 0), (2, 0), (3, 1), (4, 0), (5, 0), (6, 0), (7, 1), (9, 0), (14, 0), (15, 0), (16, 0)] (.pick [(8, 3), (10, 2), (11, 3), (12, 0), (13, 2), (17, 0), (18, 3)] .done (.pick [(10, 2), (8, 3), (11, 3), (12, 0), (13, 2), (17, 0), (18, 3)] .done .nope)) [8, 11, 18] mixed (by kernel_rfl) ?_) | (refine St.draw (id := 24) [(0, 0), (1, 0), (2, 0), (3, 0), (4, 1), (5, 0), (6, 1), (7, 0), (8, 0), (9, 3)] [9] mixed (by kernel_rfl) ?_) | (refine St.draw (id := 25) [(0, 0), (1, 0), (2, 0), (3, 1), (4, 0), (5, 0), (6, 0), (7, 1), (8, 0), (12, 0), (13, 0), (14, 0), (15, 1), (16, 0), (17, 1), (18, 0), (9, 3), (10, 0), (11, 2), (19, 0), (20, 3)] [9, 20] mixed (by kernel_rfl) ?_) | apply StD.pick | exact StD.nope | refine Gl hg ?_ | (refine Gt hn ?_; rintro _ _ ⟨nb, rfl, rfl⟩) | (refine Gt (hc nb) ?_; rintro _ _ ⟨rfl, rfl⟩) | (refine Ge ?_ ?_ <;> (intro h; try (exfalso; omega))) | fail)
    refine St.d1 Tryz.func51 ⟨_, ⟨_, H, rfl, rfl, fun b l h => h, rfl⟩, ?_⟩
    exact Ent.go
  | cons y ys =>
    dsimp only
    have hln : (y :: ys).length = ys.length + 1 := rfl
    refine Tri.of_body (vs := [_, _, _]) Tryz.func51 rfl rfl fun w0 F => ?_
    repeat' (first | refine Ga ?_ | (refine Gb ?_; intro b) | (refine Gd ?_; intro g cap rest hcap) | (refine Gc ?_; intro ad cap) | (refine St.drawT (id := 14) [(0, 0), (1, 0), (2, 0), (3, 1), (4, 0), (5, 0), (6, 0), (7, 1), (9, 0), (14, 0), (15, 0), (16, 0)] (.pick [(8, 3), (10, 2), (11, 3), (12, 0), (13, 2), (17, 0), (18, 3)] .done (.pick [(10, 2), (8, 3), (11, 3), (12, 0), (13, 2), (17, 0), (18, 3)] .done .nope)) [8, 11, 18] mixed (by kernel_rfl) ?_) | (refine St.draw (id := 24) [(0, 0), (1, 0), (2, 0), (3, 0), (4, 1), (5, 0), (6, 1), (7, 0), (8, 0), (9, 3)] [9] mixed (by kernel_rfl) ?_) | (refine St.draw (id := 25) [(0, 0), (1, 0), (2, 0), (3, 1), (4, 0), (5, 0), (6, 0), (7, 1), (8, 0), (12, 0), (13, 0), (14, 0), (15, 1), (16, 0), (17, 1), (18, 0), (9, 3), (10, 0), (11, 2), (19, 0), (20, 3)] [9, 20] mixed (by kernel_rfl) ?_) | apply StD.pick | exact StD.nope | refine Gl hg ?_ | (refine Gt hn ?_; rintro _ _ ⟨nb, rfl, rfl⟩) | (refine Gt (hc nb) ?_; rintro _ _ ⟨rfl, rfl⟩) | (refine Ge ?_ ?_ <;> (intro h; try (exfalso; omega))) | fail)
    all_goals refine St.d1 Tryz.func51 ⟨_, ⟨_, H, rfl, hq', fun b l h => h, rfl⟩, ?_⟩
    all_goals exact Ent.go
theorem does_t (k : Nat) (hk : k ≤ 6) (H : HProp) (pv : Value) (q : Option Qu) (arg : Nat) (hq : QuR H pv q) (hl : ∀ x, q = some x → x.list.length ≤ 1000) : Tri Tryz.prog 51 #[pv, bs (nmB k), .int .u64 (arg : Int)] [H] (doesQ H (doesM k q arg)) := by
  rcases (by omega : k = 0 ∨ k = 1 ∨ k = 2 ∨ k = 3 ∨ k = 4 ∨ k = 5 ∨ k = 6) with rfl | rfl | rfl | rfl | rfl | rfl | rfl
  · exact does_0 H pv q arg hq
  · cases q with
    | none => obtain rfl : pv = .pointer none := hq; exact does_1n H arg
    | some x => exact does_1 H pv x arg hq (hl x rfl)
  · cases q with
    | none => obtain rfl : pv = .pointer none := hq; exact does_2n H arg
    | some x => exact does_2 H pv x arg hq (hl x rfl)
  · cases q with
    | none => obtain rfl : pv = .pointer none := hq; exact does_3n H arg
    | some x => exact does_3 H pv x arg hq (hl x rfl)
  · cases q with
    | none => obtain rfl : pv = .pointer none := hq; exact does_4n H arg
    | some x => exact does_4 H pv x arg hq (hl x rfl)
  · cases q with
    | none => obtain rfl : pv = .pointer none := hq; exact does_5n H arg
    | some x => exact does_5 H pv x arg hq (hl x rfl)
  · exact does_6 H pv q arg hq
end Go.Proofs.YtphheopbngdhhaaGreatDoor
