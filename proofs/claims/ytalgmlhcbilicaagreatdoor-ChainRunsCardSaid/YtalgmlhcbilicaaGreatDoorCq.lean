/-
  Package tumblerref21: Does.
-/
import Derived.Test.YtalgmlhcbilicaaGreatDoorCp
namespace Go.Proofs.YtalgmlhcbilicaaGreatDoor
set_option maxRecDepth 100000
theorem OpOk.ofV {P : Program} {n' : Fi} {op : Op} {ty : TypeId} {E : Env} {L : List HProp} {v : Value} (h : OpV P n' op ty E L v) : OpOk P n' op ty E L (fun v' L' => v' = v ∧ L' = L) := by
  unfold OpV at h
  unfold OpOk
  exact fun d ps af g a w ha X hs => ⟨v, w, L, .inl (h d ps af g a w ha hs.head_of), ⟨rfl, rfl⟩, hs, Old.refl w⟩
theorem rdoes_0 (H : HProp) (xv : Value) (q : Option Qu) (arg : Nat) (hq : XuR H xv q) (hl : ∀ x, q = some x → x.list.length ≤ 1000) : Tri Tryz.prog 16 #[xv, bs (nmB 0), .int .u64 (arg : Int)] [H] (rdoesQ H (doesM 0 q arg)) := by
  have hg := rgives_r 4
  unfold doesM nmB
  cases q with
  | none =>
    have hq : xv = .agg ⟨[.bool false, .int .u64 0, .slice none 0 0]⟩ := hq
    subst hq
    dsimp only
    refine Tri.of_body (vs := [_, _, _]) Tryz.func16 rfl rfl fun w0 F => ?_
    repeat' (first | refine Ga ?_ | (refine Gb ?_; intro b) | (refine Gd ?_; intro g cap rest hcap) | (refine Gc ?_; intro ad cap) | (refine St.draw (id := 3) [(0, 1), (1, 1), (2, 3), (3, 3)] [2, 3] mixed (by kernel_rfl) ?_) | (refine St.draw (id := 9) [(0, 1), (1, 1), (2, 3), (3, 3)] [2, 3] mixed (by kernel_rfl) ?_) | (refine St.draw (id := 12) [(0, 1), (1, 0), (2, 1), (3, 3), (4, 3)] [3, 4] mixed (by kernel_rfl) ?_) | (refine St.draw (id := 16) [(0, 1), (1, 1), (2, 3), (3, 3)] [2, 3] mixed (by kernel_rfl) ?_) | (refine St.draw (id := 18) [(0, 1), (1, 0), (2, 1), (3, 0), (4, 1), (5, 0), (6, 3), (7, 3)] [6, 7] mixed (by kernel_rfl) ?_) | (refine St.draw (id := 20) [(0, 1), (1, 1), (2, 3), (3, 3)] [2, 3] mixed (by kernel_rfl) ?_) | (refine St.draw (id := 24) [(0, 0), (1, 1), (2, 0), (3, 1), (4, 0), (7, 0), (5, 2), (6, 0), (8, 1), (9, 3), (10, 3)] [9, 10] mixed (by kernel_rfl) ?_) | (refine St.draw (id := 28) [(0, 1), (1, 1), (2, 3), (3, 3)] [2, 3] mixed (by kernel_rfl) ?_) | (refine St.draw (id := 29) [(0, 0), (1, 1), (2, 0), (3, 1), (4, 0), (7, 0), (5, 2), (6, 0), (8, 3), (9, 3)] [8, 9] mixed (by kernel_rfl) ?_)| refine Gl hg ?_ | (refine Ge ?_ ?_ <;> (intro h; try (exfalso; omega))) | fail)
    refine St.d1 Tryz.func16 ⟨_, ⟨_, H, rfl, ⟨_, rfl, .inl ⟨rfl, rfl⟩⟩, fun b l h => h, rfl⟩, ?_⟩
    exact Ent.go
  | some x =>
    have hx := hl x rfl
    have hq' := hq
    obtain ⟨lv, rfl, hsl⟩ := hq
    obtain ⟨ad, cap, rfl⟩ := hsl.val
    dsimp only
    refine Tri.of_body (vs := [_, _, _]) Tryz.func16 rfl rfl fun w0 F => ?_
    repeat' (first | refine Ga ?_ | (refine Gb ?_; intro b) | (refine Gd ?_; intro g cap rest hcap) | (refine Gc ?_; intro ad cap) | (refine St.draw (id := 3) [(0, 1), (1, 1), (2, 3), (3, 3)] [2, 3] mixed (by kernel_rfl) ?_) | (refine St.draw (id := 9) [(0, 1), (1, 1), (2, 3), (3, 3)] [2, 3] mixed (by kernel_rfl) ?_) | (refine St.draw (id := 12) [(0, 1), (1, 0), (2, 1), (3, 3), (4, 3)] [3, 4] mixed (by kernel_rfl) ?_) | (refine St.draw (id := 16) [(0, 1), (1, 1), (2, 3), (3, 3)] [2, 3] mixed (by kernel_rfl) ?_) | (refine St.draw (id := 18) [(0, 1), (1, 0), (2, 1), (3, 0), (4, 1), (5, 0), (6, 3), (7, 3)] [6, 7] mixed (by kernel_rfl) ?_) | (refine St.draw (id := 20) [(0, 1), (1, 1), (2, 3), (3, 3)] [2, 3] mixed (by kernel_rfl) ?_) | (refine St.draw (id := 24) [(0, 0), (1, 1), (2, 0), (3, 1), (4, 0), (7, 0), (5, 2), (6, 0), (8, 1), (9, 3), (10, 3)] [9, 10] mixed (by kernel_rfl) ?_) | (refine St.draw (id := 28) [(0, 1), (1, 1), (2, 3), (3, 3)] [2, 3] mixed (by kernel_rfl) ?_) | (refine St.draw (id := 29) [(0, 0), (1, 1), (2, 0), (3, 1), (4, 0), (7, 0), (5, 2), (6, 0), (8, 3), (9, 3)] [8, 9] mixed (by kernel_rfl) ?_)| refine Gl hg ?_ | (refine Ge ?_ ?_ <;> (intro h; try (exfalso; omega))) | fail)
    refine St.d1 Tryz.func16 ⟨_, ⟨_, H, rfl, hq', fun b l h => h, rfl⟩, ?_⟩
    exact Ent.go
theorem rdoes_1n (H : HProp) (arg : Nat) : Tri Tryz.prog 16 #[.agg ⟨[.bool false, .int .u64 0, .slice none 0 0]⟩, bs (nmB 1), .int .u64 (arg : Int)] [H] (rdoesQ H (doesM 1 none arg)) := by
  have hg := rgives_r 3
  unfold doesM nmB at *
  refine Tri.of_body (vs := [_, _, _]) Tryz.func16 rfl rfl fun w0 F => ?_
  repeat' (first | refine Ga ?_ | (refine Gb ?_; intro b) | (refine Gd ?_; intro g cap rest hcap) | (refine Gc ?_; intro ad cap) | (refine St.draw (id := 3) [(0, 1), (1, 1), (2, 3), (3, 3)] [2, 3] mixed (by kernel_rfl) ?_) | (refine St.draw (id := 9) [(0, 1), (1, 1), (2, 3), (3, 3)] [2, 3] mixed (by kernel_rfl) ?_) | (refine St.draw (id := 12) [(0, 1), (1, 0), (2, 1), (3, 3), (4, 3)] [3, 4] mixed (by kernel_rfl) ?_) | (refine St.draw (id := 16) [(0, 1), (1, 1), (2, 3), (3, 3)] [2, 3] mixed (by kernel_rfl) ?_) | (refine St.draw (id := 18) [(0, 1), (1, 0), (2, 1), (3, 0), (4, 1), (5, 0), (6, 3), (7, 3)] [6, 7] mixed (by kernel_rfl) ?_) | (refine St.draw (id := 20) [(0, 1), (1, 1), (2, 3), (3, 3)] [2, 3] mixed (by kernel_rfl) ?_) | (refine St.draw (id := 24) [(0, 0), (1, 1), (2, 0), (3, 1), (4, 0), (7, 0), (5, 2), (6, 0), (8, 1), (9, 3), (10, 3)] [9, 10] mixed (by kernel_rfl) ?_) | (refine St.draw (id := 28) [(0, 1), (1, 1), (2, 3), (3, 3)] [2, 3] mixed (by kernel_rfl) ?_) | (refine St.draw (id := 29) [(0, 0), (1, 1), (2, 0), (3, 1), (4, 0), (7, 0), (5, 2), (6, 0), (8, 3), (9, 3)] [8, 9] mixed (by kernel_rfl) ?_)| refine Gl hg ?_ | (refine Ge ?_ ?_ <;> (intro h; try (exfalso; omega))) | fail)
  refine St.d1 Tryz.func16 ⟨_, ⟨_, H, rfl, rfl, fun b l h => h, rfl⟩, ?_⟩
  exact Ent.go
theorem rdoes_2n (H : HProp) (arg : Nat) : Tri Tryz.prog 16 #[.agg ⟨[.bool false, .int .u64 0, .slice none 0 0]⟩, bs (nmB 2), .int .u64 (arg : Int)] [H] (rdoesQ H (doesM 2 none arg)) := by
  have hg := rgives_r 3
  unfold doesM nmB at *
  refine Tri.of_body (vs := [_, _, _]) Tryz.func16 rfl rfl fun w0 F => ?_
  repeat' (first | refine Ga ?_ | (refine Gb ?_; intro b) | (refine Gd ?_; intro g cap rest hcap) | (refine Gc ?_; intro ad cap) | (refine St.draw (id := 3) [(0, 1), (1, 1), (2, 3), (3, 3)] [2, 3] mixed (by kernel_rfl) ?_) | (refine St.draw (id := 9) [(0, 1), (1, 1), (2, 3), (3, 3)] [2, 3] mixed (by kernel_rfl) ?_) | (refine St.draw (id := 12) [(0, 1), (1, 0), (2, 1), (3, 3), (4, 3)] [3, 4] mixed (by kernel_rfl) ?_) | (refine St.draw (id := 16) [(0, 1), (1, 1), (2, 3), (3, 3)] [2, 3] mixed (by kernel_rfl) ?_) | (refine St.draw (id := 18) [(0, 1), (1, 0), (2, 1), (3, 0), (4, 1), (5, 0), (6, 3), (7, 3)] [6, 7] mixed (by kernel_rfl) ?_) | (refine St.draw (id := 20) [(0, 1), (1, 1), (2, 3), (3, 3)] [2, 3] mixed (by kernel_rfl) ?_) | (refine St.draw (id := 24) [(0, 0), (1, 1), (2, 0), (3, 1), (4, 0), (7, 0), (5, 2), (6, 0), (8, 1), (9, 3), (10, 3)] [9, 10] mixed (by kernel_rfl) ?_) | (refine St.draw (id := 28) [(0, 1), (1, 1), (2, 3), (3, 3)] [2, 3] mixed (by kernel_rfl) ?_) | (refine St.draw (id := 29) [(0, 0), (1, 1), (2, 0), (3, 1), (4, 0), (7, 0), (5, 2), (6, 0), (8, 3), (9, 3)] [8, 9] mixed (by kernel_rfl) ?_)| refine Gl hg ?_ | (refine Ge ?_ ?_ <;> (intro h; try (exfalso; omega))) | fail)
  refine St.d1 Tryz.func16 ⟨_, ⟨_, H, rfl, rfl, fun b l h => h, rfl⟩, ?_⟩
  exact Ent.go
theorem rdoes_3n (H : HProp) (arg : Nat) : Tri Tryz.prog 16 #[.agg ⟨[.bool false, .int .u64 0, .slice none 0 0]⟩, bs (nmB 3), .int .u64 (arg : Int)] [H] (rdoesQ H (doesM 3 none arg)) := by
  have hg := rgives_r 3
  unfold doesM nmB at *
  refine Tri.of_body (vs := [_, _, _]) Tryz.func16 rfl rfl fun w0 F => ?_
  repeat' (first | refine Ga ?_ | (refine Gb ?_; intro b) | (refine Gd ?_; intro g cap rest hcap) | (refine Gc ?_; intro ad cap) | (refine St.draw (id := 3) [(0, 1), (1, 1), (2, 3), (3, 3)] [2, 3] mixed (by kernel_rfl) ?_) | (refine St.draw (id := 9) [(0, 1), (1, 1), (2, 3), (3, 3)] [2, 3] mixed (by kernel_rfl) ?_) | (refine St.draw (id := 12) [(0, 1), (1, 0), (2, 1), (3, 3), (4, 3)] [3, 4] mixed (by kernel_rfl) ?_) | (refine St.draw (id := 16) [(0, 1), (1, 1), (2, 3), (3, 3)] [2, 3] mixed (by kernel_rfl) ?_) | (refine St.draw (id := 18) [(0, 1), (1, 0), (2, 1), (3, 0), (4, 1), (5, 0), (6, 3), (7, 3)] [6, 7] mixed (by kernel_rfl) ?_) | (refine St.draw (id := 20) [(0, 1), (1, 1), (2, 3), (3, 3)] [2, 3] mixed (by kernel_rfl) ?_) | (refine St.draw (id := 24) [(0, 0), (1, 1), (2, 0), (3, 1), (4, 0), (7, 0), (5, 2), (6, 0), (8, 1), (9, 3), (10, 3)] [9, 10] mixed (by kernel_rfl) ?_) | (refine St.draw (id := 28) [(0, 1), (1, 1), (2, 3), (3, 3)] [2, 3] mixed (by kernel_rfl) ?_) | (refine St.draw (id := 29) [(0, 0), (1, 1), (2, 0), (3, 1), (4, 0), (7, 0), (5, 2), (6, 0), (8, 3), (9, 3)] [8, 9] mixed (by kernel_rfl) ?_)| refine Gl hg ?_ | (refine Ge ?_ ?_ <;> (intro h; try (exfalso; omega))) | fail)
  refine St.d1 Tryz.func16 ⟨_, ⟨_, H, rfl, rfl, fun b l h => h, rfl⟩, ?_⟩
  exact Ent.go
theorem rdoes_4n (H : HProp) (arg : Nat) : Tri Tryz.prog 16 #[.agg ⟨[.bool false, .int .u64 0, .slice none 0 0]⟩, bs (nmB 4), .int .u64 (arg : Int)] [H] (rdoesQ H (doesM 4 none arg)) := by
  have hg := rgives_r 3
  unfold doesM nmB at *
  refine Tri.of_body (vs := [_, _, _]) Tryz.func16 rfl rfl fun w0 F => ?_
  repeat' (first | refine Ga ?_ | (refine Gb ?_; intro b) | (refine Gd ?_; intro g cap rest hcap) | (refine Gc ?_; intro ad cap) | (refine St.draw (id := 3) [(0, 1), (1, 1), (2, 3), (3, 3)] [2, 3] mixed (by kernel_rfl) ?_) | (refine St.draw (id := 9) [(0, 1), (1, 1), (2, 3), (3, 3)] [2, 3] mixed (by kernel_rfl) ?_) | (refine St.draw (id := 12) [(0, 1), (1, 0), (2, 1), (3, 3), (4, 3)] [3, 4] mixed (by kernel_rfl) ?_) | (refine St.draw (id := 16) [(0, 1), (1, 1), (2, 3), (3, 3)] [2, 3] mixed (by kernel_rfl) ?_) | (refine St.draw (id := 18) [(0, 1), (1, 0), (2, 1), (3, 0), (4, 1), (5, 0), (6, 3), (7, 3)] [6, 7] mixed (by kernel_rfl) ?_) | (refine St.draw (id := 20) [(0, 1), (1, 1), (2, 3), (3, 3)] [2, 3] mixed (by kernel_rfl) ?_) | (refine St.draw (id := 24) [(0, 0), (1, 1), (2, 0), (3, 1), (4, 0), (7, 0), (5, 2), (6, 0), (8, 1), (9, 3), (10, 3)] [9, 10] mixed (by kernel_rfl) ?_) | (refine St.draw (id := 28) [(0, 1), (1, 1), (2, 3), (3, 3)] [2, 3] mixed (by kernel_rfl) ?_) | (refine St.draw (id := 29) [(0, 0), (1, 1), (2, 0), (3, 1), (4, 0), (7, 0), (5, 2), (6, 0), (8, 3), (9, 3)] [8, 9] mixed (by kernel_rfl) ?_)| refine Gl hg ?_ | (refine Ge ?_ ?_ <;> (intro h; try (exfalso; omega))) | fail)
  refine St.d1 Tryz.func16 ⟨_, ⟨_, H, rfl, rfl, fun b l h => h, rfl⟩, ?_⟩
  exact Ent.go
theorem rdoes_5n (H : HProp) (arg : Nat) : Tri Tryz.prog 16 #[.agg ⟨[.bool false, .int .u64 0, .slice none 0 0]⟩, bs (nmB 5), .int .u64 (arg : Int)] [H] (rdoesQ H (doesM 5 none arg)) := by
  have hg := rgives_r 3
  unfold doesM nmB at *
  refine Tri.of_body (vs := [_, _, _]) Tryz.func16 rfl rfl fun w0 F => ?_
  repeat' (first | refine Ga ?_ | (refine Gb ?_; intro b) | (refine Gd ?_; intro g cap rest hcap) | (refine Gc ?_; intro ad cap) | (refine St.draw (id := 3) [(0, 1), (1, 1), (2, 3), (3, 3)] [2, 3] mixed (by kernel_rfl) ?_) | (refine St.draw (id := 9) [(0, 1), (1, 1), (2, 3), (3, 3)] [2, 3] mixed (by kernel_rfl) ?_) | (refine St.draw (id := 12) [(0, 1), (1, 0), (2, 1), (3, 3), (4, 3)] [3, 4] mixed (by kernel_rfl) ?_) | (refine St.draw (id := 16) [(0, 1), (1, 1), (2, 3), (3, 3)] [2, 3] mixed (by kernel_rfl) ?_) | (refine St.draw (id := 18) [(0, 1), (1, 0), (2, 1), (3, 0), (4, 1), (5, 0), (6, 3), (7, 3)] [6, 7] mixed (by kernel_rfl) ?_) | (refine St.draw (id := 20) [(0, 1), (1, 1), (2, 3), (3, 3)] [2, 3] mixed (by kernel_rfl) ?_) | (refine St.draw (id := 24) [(0, 0), (1, 1), (2, 0), (3, 1), (4, 0), (7, 0), (5, 2), (6, 0), (8, 1), (9, 3), (10, 3)] [9, 10] mixed (by kernel_rfl) ?_) | (refine St.draw (id := 28) [(0, 1), (1, 1), (2, 3), (3, 3)] [2, 3] mixed (by kernel_rfl) ?_) | (refine St.draw (id := 29) [(0, 0), (1, 1), (2, 0), (3, 1), (4, 0), (7, 0), (5, 2), (6, 0), (8, 3), (9, 3)] [8, 9] mixed (by kernel_rfl) ?_)| refine Gl hg ?_ | (refine Ge ?_ ?_ <;> (intro h; try (exfalso; omega))) | fail)
  refine St.d1 Tryz.func16 ⟨_, ⟨_, H, rfl, rfl, fun b l h => h, rfl⟩, ?_⟩
  exact Ent.go
theorem rdoes_6n (H : HProp) (arg : Nat) : Tri Tryz.prog 16 #[.agg ⟨[.bool false, .int .u64 0, .slice none 0 0]⟩, bs (nmB 6), .int .u64 (arg : Int)] [H] (rdoesQ H (doesM 6 none arg)) := by
  have hg := rgives_r 3
  unfold doesM nmB at *
  refine Tri.of_body (vs := [_, _, _]) Tryz.func16 rfl rfl fun w0 F => ?_
  repeat' (first | refine Ga ?_ | (refine Gb ?_; intro b) | (refine Gd ?_; intro g cap rest hcap) | (refine Gc ?_; intro ad cap) | (refine St.draw (id := 3) [(0, 1), (1, 1), (2, 3), (3, 3)] [2, 3] mixed (by kernel_rfl) ?_) | (refine St.draw (id := 9) [(0, 1), (1, 1), (2, 3), (3, 3)] [2, 3] mixed (by kernel_rfl) ?_) | (refine St.draw (id := 12) [(0, 1), (1, 0), (2, 1), (3, 3), (4, 3)] [3, 4] mixed (by kernel_rfl) ?_) | (refine St.draw (id := 16) [(0, 1), (1, 1), (2, 3), (3, 3)] [2, 3] mixed (by kernel_rfl) ?_) | (refine St.draw (id := 18) [(0, 1), (1, 0), (2, 1), (3, 0), (4, 1), (5, 0), (6, 3), (7, 3)] [6, 7] mixed (by kernel_rfl) ?_) | (refine St.draw (id := 20) [(0, 1), (1, 1), (2, 3), (3, 3)] [2, 3] mixed (by kernel_rfl) ?_) | (refine St.draw (id := 24) [(0, 0), (1, 1), (2, 0), (3, 1), (4, 0), (7, 0), (5, 2), (6, 0), (8, 1), (9, 3), (10, 3)] [9, 10] mixed (by kernel_rfl) ?_) | (refine St.draw (id := 28) [(0, 1), (1, 1), (2, 3), (3, 3)] [2, 3] mixed (by kernel_rfl) ?_) | (refine St.draw (id := 29) [(0, 0), (1, 1), (2, 0), (3, 1), (4, 0), (7, 0), (5, 2), (6, 0), (8, 3), (9, 3)] [8, 9] mixed (by kernel_rfl) ?_)| refine Gl hg ?_ | (refine Ge ?_ ?_ <;> (intro h; try (exfalso; omega))) | fail)
  refine St.d1 Tryz.func16 ⟨_, ⟨_, H, rfl, rfl, fun b l h => h, rfl⟩, ?_⟩
  exact Ent.go
theorem rdoes_7n (H : HProp) (arg : Nat) : Tri Tryz.prog 16 #[.agg ⟨[.bool false, .int .u64 0, .slice none 0 0]⟩, bs (nmB 7), .int .u64 (arg : Int)] [H] (rdoesQ H (doesM 7 none arg)) := by
  have hg := rgives_r 3
  unfold doesM nmB at *
  refine Tri.of_body (vs := [_, _, _]) Tryz.func16 rfl rfl fun w0 F => ?_
  repeat' (first | refine Ga ?_ | (refine Gb ?_; intro b) | (refine Gd ?_; intro g cap rest hcap) | (refine Gc ?_; intro ad cap) | (refine St.draw (id := 3) [(0, 1), (1, 1), (2, 3), (3, 3)] [2, 3] mixed (by kernel_rfl) ?_) | (refine St.draw (id := 9) [(0, 1), (1, 1), (2, 3), (3, 3)] [2, 3] mixed (by kernel_rfl) ?_) | (refine St.draw (id := 12) [(0, 1), (1, 0), (2, 1), (3, 3), (4, 3)] [3, 4] mixed (by kernel_rfl) ?_) | (refine St.draw (id := 16) [(0, 1), (1, 1), (2, 3), (3, 3)] [2, 3] mixed (by kernel_rfl) ?_) | (refine St.draw (id := 18) [(0, 1), (1, 0), (2, 1), (3, 0), (4, 1), (5, 0), (6, 3), (7, 3)] [6, 7] mixed (by kernel_rfl) ?_) | (refine St.draw (id := 20) [(0, 1), (1, 1), (2, 3), (3, 3)] [2, 3] mixed (by kernel_rfl) ?_) | (refine St.draw (id := 24) [(0, 0), (1, 1), (2, 0), (3, 1), (4, 0), (7, 0), (5, 2), (6, 0), (8, 1), (9, 3), (10, 3)] [9, 10] mixed (by kernel_rfl) ?_) | (refine St.draw (id := 28) [(0, 1), (1, 1), (2, 3), (3, 3)] [2, 3] mixed (by kernel_rfl) ?_) | (refine St.draw (id := 29) [(0, 0), (1, 1), (2, 0), (3, 1), (4, 0), (7, 0), (5, 2), (6, 0), (8, 3), (9, 3)] [8, 9] mixed (by kernel_rfl) ?_)| refine Gl hg ?_ | (refine Ge ?_ ?_ <;> (intro h; try (exfalso; omega))) | fail)
  refine St.d1 Tryz.func16 ⟨_, ⟨_, H, rfl, rfl, fun b l h => h, rfl⟩, ?_⟩
  exact Ent.go
theorem rdoes_7 (H : HProp) (xv : Value) (x : Qu) (arg : Nat) (hq : XuR H xv (some x)) (hl : x.list.length ≤ 1000) : Tri Tryz.prog 16 #[xv, bs (nmB 7), .int .u64 (arg : Int)] [H] (rdoesQ H (doesM 7 (some x) arg)) := by
  have hq' := hq
  obtain ⟨lv, rfl, hsl⟩ := hq
  obtain ⟨ad, cap, rfl⟩ := hsl.val
  unfold doesM nmB at *
  refine Tri.of_body (vs := [_, _, _]) Tryz.func16 rfl rfl fun w0 F => ?_
  repeat' (first | refine Ga ?_ | (refine Gb ?_; intro b) | (refine Gd ?_; intro g cap rest hcap) | (refine Gc ?_; intro ad cap) | (refine St.draw (id := 3) [(0, 1), (1, 1), (2, 3), (3, 3)] [2, 3] mixed (by kernel_rfl) ?_) | (refine St.draw (id := 9) [(0, 1), (1, 1), (2, 3), (3, 3)] [2, 3] mixed (by kernel_rfl) ?_) | (refine St.draw (id := 12) [(0, 1), (1, 0), (2, 1), (3, 3), (4, 3)] [3, 4] mixed (by kernel_rfl) ?_) | (refine St.draw (id := 16) [(0, 1), (1, 1), (2, 3), (3, 3)] [2, 3] mixed (by kernel_rfl) ?_) | (refine St.draw (id := 18) [(0, 1), (1, 0), (2, 1), (3, 0), (4, 1), (5, 0), (6, 3), (7, 3)] [6, 7] mixed (by kernel_rfl) ?_) | (refine St.draw (id := 20) [(0, 1), (1, 1), (2, 3), (3, 3)] [2, 3] mixed (by kernel_rfl) ?_) | (refine St.draw (id := 24) [(0, 0), (1, 1), (2, 0), (3, 1), (4, 0), (7, 0), (5, 2), (6, 0), (8, 1), (9, 3), (10, 3)] [9, 10] mixed (by kernel_rfl) ?_) | (refine St.draw (id := 28) [(0, 1), (1, 1), (2, 3), (3, 3)] [2, 3] mixed (by kernel_rfl) ?_) | (refine St.draw (id := 29) [(0, 0), (1, 1), (2, 0), (3, 1), (4, 0), (7, 0), (5, 2), (6, 0), (8, 3), (9, 3)] [8, 9] mixed (by kernel_rfl) ?_) | (refine Ge ?_ ?_ <;> (intro h; try (exfalso; omega))) | fail)
  refine St.d1 Tryz.func16 ⟨_, ⟨_, H, rfl, hq', fun b l h => h, rfl⟩, ?_⟩
  exact Ent.go
theorem rdoes_5 (H : HProp) (xv : Value) (x : Qu) (arg : Nat) (hq : XuR H xv (some x)) (hl : x.list.length ≤ 1000) : Tri Tryz.prog 16 #[xv, bs (nmB 5), .int .u64 (arg : Int)] [H] (rdoesQ H (doesM 5 (some x) arg)) := by
  have hq' := hq
  obtain ⟨lv, rfl, hsl⟩ := hq
  obtain ⟨ad, cap, rfl⟩ := hsl.val
  have hh := rhas_r H _ _ arg hsl (by omega)
  unfold doesM nmB at *
  refine Tri.of_body (vs := [_, _, _]) Tryz.func16 rfl rfl fun w0 F => ?_
  repeat' (first | refine Ga ?_ | (refine Gb ?_; intro b) | (refine Gd ?_; intro g cap rest hcap) | (refine Gc ?_; intro ad cap) | (refine St.draw (id := 3) [(0, 1), (1, 1), (2, 3), (3, 3)] [2, 3] mixed (by kernel_rfl) ?_) | (refine St.draw (id := 9) [(0, 1), (1, 1), (2, 3), (3, 3)] [2, 3] mixed (by kernel_rfl) ?_) | (refine St.draw (id := 12) [(0, 1), (1, 0), (2, 1), (3, 3), (4, 3)] [3, 4] mixed (by kernel_rfl) ?_) | (refine St.draw (id := 16) [(0, 1), (1, 1), (2, 3), (3, 3)] [2, 3] mixed (by kernel_rfl) ?_) | (refine St.draw (id := 18) [(0, 1), (1, 0), (2, 1), (3, 0), (4, 1), (5, 0), (6, 3), (7, 3)] [6, 7] mixed (by kernel_rfl) ?_) | (refine St.draw (id := 20) [(0, 1), (1, 1), (2, 3), (3, 3)] [2, 3] mixed (by kernel_rfl) ?_) | (refine St.draw (id := 24) [(0, 0), (1, 1), (2, 0), (3, 1), (4, 0), (7, 0), (5, 2), (6, 0), (8, 1), (9, 3), (10, 3)] [9, 10] mixed (by kernel_rfl) ?_) | (refine St.draw (id := 28) [(0, 1), (1, 1), (2, 3), (3, 3)] [2, 3] mixed (by kernel_rfl) ?_) | (refine St.draw (id := 29) [(0, 0), (1, 1), (2, 0), (3, 1), (4, 0), (7, 0), (5, 2), (6, 0), (8, 3), (9, 3)] [8, 9] mixed (by kernel_rfl) ?_)| refine Gl hh ?_ | (refine Ge ?_ ?_ <;> (intro h; try (exfalso; omega))) | fail)
  refine St.d1 Tryz.func16 ⟨_, ⟨_, H, rfl, hq', fun b l h => h, rfl⟩, ?_⟩
  exact Ent.go
set_option maxHeartbeats 1000000 in
theorem rdoes_4 (H : HProp) (xv : Value) (x : Qu) (arg : Nat) (hq : XuR H xv (some x)) (hl : x.list.length ≤ 1000) : Tri Tryz.prog 16 #[xv, bs (nmB 4), .int .u64 (arg : Int)] [H] (rdoesQ H (doesM 4 (some x) arg)) := by
  have hg := rgives_r 1
  have hq' := hq
  obtain ⟨lv, rfl, hsl⟩ := hq
  obtain ⟨qc, ql⟩ := x
  dsimp only at hsl hl
  obtain ⟨ad, cap, rfl⟩ := hsl.val
  have hh := rhas_r H _ _ arg hsl (by omega)
  unfold doesM nmB at *
  dsimp only
  cases ql with
  | nil =>
    dsimp only
    refine Tri.of_body (vs := [_, _, _]) Tryz.func16 rfl rfl fun w0 F => ?_
    repeat' (first | refine Ga ?_ | (refine Gb ?_; intro b) | (refine Gd ?_; intro g cap rest hcap) | (refine Gc ?_; intro ad cap) | (refine St.draw (id := 3) [(0, 1), (1, 1), (2, 3), (3, 3)] [2, 3] mixed (by kernel_rfl) ?_) | (refine St.draw (id := 9) [(0, 1), (1, 1), (2, 3), (3, 3)] [2, 3] mixed (by kernel_rfl) ?_) | (refine St.draw (id := 12) [(0, 1), (1, 0), (2, 1), (3, 3), (4, 3)] [3, 4] mixed (by kernel_rfl) ?_) | (refine St.draw (id := 16) [(0, 1), (1, 1), (2, 3), (3, 3)] [2, 3] mixed (by kernel_rfl) ?_) | (refine St.draw (id := 18) [(0, 1), (1, 0), (2, 1), (3, 0), (4, 1), (5, 0), (6, 3), (7, 3)] [6, 7] mixed (by kernel_rfl) ?_) | (refine St.draw (id := 20) [(0, 1), (1, 1), (2, 3), (3, 3)] [2, 3] mixed (by kernel_rfl) ?_) | (refine St.draw (id := 24) [(0, 0), (1, 1), (2, 0), (3, 1), (4, 0), (7, 0), (5, 2), (6, 0), (8, 1), (9, 3), (10, 3)] [9, 10] mixed (by kernel_rfl) ?_) | (refine St.draw (id := 28) [(0, 1), (1, 1), (2, 3), (3, 3)] [2, 3] mixed (by kernel_rfl) ?_) | (refine St.draw (id := 29) [(0, 0), (1, 1), (2, 0), (3, 1), (4, 0), (7, 0), (5, 2), (6, 0), (8, 3), (9, 3)] [8, 9] mixed (by kernel_rfl) ?_)| refine Gl hh ?_ | refine Gl hg ?_ | (refine Ge ?_ ?_ <;> (intro h; try (exfalso; omega))) | fail)
    refine St.d1 Tryz.func16 ⟨_, ⟨_, H, rfl, ?_, fun b l h => h, rfl⟩, Ent.go⟩
    first | exact hq' | exact rfl
  | cons y ys =>
    dsimp only
    have hln : (y :: ys).length = ys.length + 1 := rfl
    obtain ⟨_, bf, o, l, r, rfl, hrd2, hdr, htk⟩ := hsl.at0
    have hn0 : NthN (o + (0 : Int).toNat * 1) l (.int .u64 (y : Int)) := NthN.part hdr (TakeN.succ TakeN.zero : TakeN 1 (Value.int .u64 (y : Int) :: r) [Value.int .u64 (y : Int)]) (j := 0) (NthN.of rfl)
    refine Tri.of_body (vs := [_, _, _]) Tryz.func16 rfl rfl fun w0 F => ?_
    repeat' (first | refine Ga ?_ | (refine Gb ?_; intro b) | (refine Gd ?_; intro g cap rest hcap) | (refine Gc ?_; intro ad cap) | (refine St.draw (id := 3) [(0, 1), (1, 1), (2, 3), (3, 3)] [2, 3] mixed (by kernel_rfl) ?_) | (refine St.draw (id := 9) [(0, 1), (1, 1), (2, 3), (3, 3)] [2, 3] mixed (by kernel_rfl) ?_) | (refine St.draw (id := 12) [(0, 1), (1, 0), (2, 1), (3, 3), (4, 3)] [3, 4] mixed (by kernel_rfl) ?_) | (refine St.draw (id := 16) [(0, 1), (1, 1), (2, 3), (3, 3)] [2, 3] mixed (by kernel_rfl) ?_) | (refine St.drawT (id := 18) [(1, 0)] (.pick [(0, 3)] (.pick [(2, 3), (3, 0)] (.pick [(4, 3), (5, 0), (6, 3), (7, 3)] .done (.pick [(6, 3), (4, 3), (5, 0), (7, 3)] .done .nope)) (.pick [(6, 3), (2, 3), (3, 0), (4, 3), (5, 0), (7, 3)] .done .nope)) (.pick [(2, 3), (3, 0)] (.pick [(0, 3)] (.pick [(4, 3), (5, 0), (6, 3), (7, 3)] .done (.pick [(6, 3), (4, 3), (5, 0), (7, 3)] .done .nope)) (.pick [(4, 3), (5, 0), (0, 3), (6, 3), (7, 3)] .done .nope)) .nope)) [0, 2, 4, 6, 7] mixed (by kernel_rfl) ?_) | (refine St.draw (id := 20) [(0, 1), (1, 1), (2, 3), (3, 3)] [2, 3] mixed (by kernel_rfl) ?_) | (refine St.draw (id := 24) [(0, 0), (1, 1), (2, 0), (3, 1), (4, 0), (7, 0), (5, 2), (6, 0), (8, 1), (9, 3), (10, 3)] [9, 10] mixed (by kernel_rfl) ?_) | (refine St.draw (id := 28) [(0, 1), (1, 1), (2, 3), (3, 3)] [2, 3] mixed (by kernel_rfl) ?_) | (refine St.draw (id := 29) [(0, 0), (1, 1), (2, 0), (3, 1), (4, 0), (7, 0), (5, 2), (6, 0), (8, 3), (9, 3)] [8, 9] mixed (by kernel_rfl) ?_) | apply StD.pick | exact StD.nope | refine Gl hh ?_ | refine Gl hg ?_ | (refine Ge ?_ ?_ <;> (intro h; try (exfalso; omega))) | fail)
    iterate 3
      all_goals try (refine StD.ok3 rfl (OpOk.ofV OpV.go) rfl ?_; rintro _ _ ⟨rfl, rfl⟩)
      all_goals repeat' (first | refine Ga ?_ | (refine Gb ?_; intro b) | (refine Gd ?_; intro g cap rest hcap) | (refine Gc ?_; intro ad cap) | (refine St.draw (id := 3) [(0, 1), (1, 1), (2, 3), (3, 3)] [2, 3] mixed (by kernel_rfl) ?_) | (refine St.draw (id := 9) [(0, 1), (1, 1), (2, 3), (3, 3)] [2, 3] mixed (by kernel_rfl) ?_) | (refine St.draw (id := 12) [(0, 1), (1, 0), (2, 1), (3, 3), (4, 3)] [3, 4] mixed (by kernel_rfl) ?_) | (refine St.draw (id := 16) [(0, 1), (1, 1), (2, 3), (3, 3)] [2, 3] mixed (by kernel_rfl) ?_) | (refine St.drawT (id := 18) [(1, 0)] (.pick [(0, 3)] (.pick [(2, 3), (3, 0)] (.pick [(4, 3), (5, 0), (6, 3), (7, 3)] .done (.pick [(6, 3), (4, 3), (5, 0), (7, 3)] .done .nope)) (.pick [(6, 3), (2, 3), (3, 0), (4, 3), (5, 0), (7, 3)] .done .nope)) (.pick [(2, 3), (3, 0)] (.pick [(0, 3)] (.pick [(4, 3), (5, 0), (6, 3), (7, 3)] .done (.pick [(6, 3), (4, 3), (5, 0), (7, 3)] .done .nope)) (.pick [(4, 3), (5, 0), (0, 3), (6, 3), (7, 3)] .done .nope)) .nope)) [0, 2, 4, 6, 7] mixed (by kernel_rfl) ?_) | (refine St.draw (id := 20) [(0, 1), (1, 1), (2, 3), (3, 3)] [2, 3] mixed (by kernel_rfl) ?_) | (refine St.draw (id := 24) [(0, 0), (1, 1), (2, 0), (3, 1), (4, 0), (7, 0), (5, 2), (6, 0), (8, 1), (9, 3), (10, 3)] [9, 10] mixed (by kernel_rfl) ?_) | (refine St.draw (id := 28) [(0, 1), (1, 1), (2, 3), (3, 3)] [2, 3] mixed (by kernel_rfl) ?_) | (refine St.draw (id := 29) [(0, 0), (1, 1), (2, 0), (3, 1), (4, 0), (7, 0), (5, 2), (6, 0), (8, 3), (9, 3)] [8, 9] mixed (by kernel_rfl) ?_) | apply StD.pick | exact StD.nope | refine Gl hh ?_ | refine Gl hg ?_ | (refine Ge ?_ ?_ <;> (intro h; try (exfalso; omega))) | fail)
    all_goals first | (exfalso; omega) | skip
    all_goals refine St.d1 Tryz.func16 ⟨_, ⟨_, H, rfl, hq', fun b l h => h, rfl⟩, Ent.go⟩
set_option maxHeartbeats 1000000 in
theorem rdoes_6 (H : HProp) (xv : Value) (x : Qu) (arg : Nat) (hq : XuR H xv (some x)) (hl : x.list.length ≤ 1000) : Tri Tryz.prog 16 #[xv, bs (nmB 6), .int .u64 (arg : Int)] [H] (rdoesQ H (doesM 6 (some x) arg)) := by
  have hg := rgives_r 5
  have hq' := hq
  obtain ⟨lv, rfl, hsl⟩ := hq
  obtain ⟨qc, ql⟩ := x
  dsimp only at hsl hl
  obtain ⟨ad, cap, rfl⟩ := hsl.val
  have hh := rhas_r H _ _ arg hsl (by omega)
  unfold doesM nmB at *
  dsimp only
  cases ql with
  | nil =>
    dsimp only
    refine Tri.of_body (vs := [_, _, _]) Tryz.func16 rfl rfl fun w0 F => ?_
    repeat' (first | refine Ga ?_ | (refine Gb ?_; intro b) | (refine Gd ?_; intro g cap rest hcap) | (refine Gc ?_; intro ad cap) | (refine St.draw (id := 3) [(0, 1), (1, 1), (2, 3), (3, 3)] [2, 3] mixed (by kernel_rfl) ?_) | (refine St.draw (id := 9) [(0, 1), (1, 1), (2, 3), (3, 3)] [2, 3] mixed (by kernel_rfl) ?_) | (refine St.draw (id := 12) [(0, 1), (1, 0), (2, 1), (3, 3), (4, 3)] [3, 4] mixed (by kernel_rfl) ?_) | (refine St.draw (id := 16) [(0, 1), (1, 1), (2, 3), (3, 3)] [2, 3] mixed (by kernel_rfl) ?_) | (refine St.draw (id := 18) [(0, 1), (1, 0), (2, 1), (3, 0), (4, 1), (5, 0), (6, 3), (7, 3)] [6, 7] mixed (by kernel_rfl) ?_) | (refine St.draw (id := 20) [(0, 1), (1, 1), (2, 3), (3, 3)] [2, 3] mixed (by kernel_rfl) ?_) | (refine St.draw (id := 24) [(0, 0), (1, 1), (2, 0), (3, 1), (4, 0), (7, 0), (5, 2), (6, 0), (8, 1), (9, 3), (10, 3)] [9, 10] mixed (by kernel_rfl) ?_) | (refine St.draw (id := 28) [(0, 1), (1, 1), (2, 3), (3, 3)] [2, 3] mixed (by kernel_rfl) ?_) | (refine St.draw (id := 29) [(0, 0), (1, 1), (2, 0), (3, 1), (4, 0), (7, 0), (5, 2), (6, 0), (8, 3), (9, 3)] [8, 9] mixed (by kernel_rfl) ?_)| refine Gl hh ?_ | refine Gl hg ?_ | (refine Ge ?_ ?_ <;> (intro h; try (exfalso; omega))) | fail)
    refine St.d1 Tryz.func16 ⟨_, ⟨_, H, rfl, ?_, fun b l h => h, rfl⟩, Ent.go⟩
    first | exact hq' | exact rfl
  | cons y ys =>
    dsimp only
    have hln : (y :: ys).length = ys.length + 1 := rfl
    obtain ⟨_, bf, o, l, r, rfl, hrd2, hdr, htk⟩ := hsl.at0
    have hn0 : NthN (o + (0 : Int).toNat * 1) l (.int .u64 (y : Int)) := NthN.part hdr (TakeN.succ TakeN.zero : TakeN 1 (Value.int .u64 (y : Int) :: r) [Value.int .u64 (y : Int)]) (j := 0) (NthN.of rfl)
    refine Tri.of_body (vs := [_, _, _]) Tryz.func16 rfl rfl fun w0 F => ?_
    repeat' (first | refine Ga ?_ | (refine Gb ?_; intro b) | (refine Gd ?_; intro g cap rest hcap) | (refine Gc ?_; intro ad cap) | (refine St.draw (id := 3) [(0, 1), (1, 1), (2, 3), (3, 3)] [2, 3] mixed (by kernel_rfl) ?_) | (refine St.draw (id := 9) [(0, 1), (1, 1), (2, 3), (3, 3)] [2, 3] mixed (by kernel_rfl) ?_) | (refine St.draw (id := 12) [(0, 1), (1, 0), (2, 1), (3, 3), (4, 3)] [3, 4] mixed (by kernel_rfl) ?_) | (refine St.draw (id := 16) [(0, 1), (1, 1), (2, 3), (3, 3)] [2, 3] mixed (by kernel_rfl) ?_) | (refine St.draw (id := 18) [(0, 1), (1, 0), (2, 1), (3, 0), (4, 1), (5, 0), (6, 3), (7, 3)] [6, 7] mixed (by kernel_rfl) ?_) | (refine St.draw (id := 20) [(0, 1), (1, 1), (2, 3), (3, 3)] [2, 3] mixed (by kernel_rfl) ?_) | (refine St.draw (id := 24) [(0, 0), (1, 1), (2, 0), (3, 1), (4, 0), (7, 0), (5, 2), (6, 0), (8, 1), (9, 3), (10, 3)] [9, 10] mixed (by kernel_rfl) ?_) | (refine St.draw (id := 28) [(0, 1), (1, 1), (2, 3), (3, 3)] [2, 3] mixed (by kernel_rfl) ?_) | (refine St.draw (id := 29) [(0, 0), (1, 1), (2, 0), (3, 1), (4, 0), (7, 0), (5, 2), (6, 0), (8, 3), (9, 3)] [8, 9] mixed (by kernel_rfl) ?_)| refine Gl hh ?_ | refine Gl hg ?_ | (refine Ge ?_ ?_ <;> (intro h; try (exfalso; omega))) | fail)
    iterate 3
      all_goals try (refine StD.ok3 rfl (OpOk.ofV OpV.go) rfl ?_; rintro _ _ ⟨rfl, rfl⟩)
      all_goals repeat' (first | refine Ga ?_ | (refine Gb ?_; intro b) | (refine Gd ?_; intro g cap rest hcap) | (refine Gc ?_; intro ad cap) | (refine St.draw (id := 3) [(0, 1), (1, 1), (2, 3), (3, 3)] [2, 3] mixed (by kernel_rfl) ?_) | (refine St.draw (id := 9) [(0, 1), (1, 1), (2, 3), (3, 3)] [2, 3] mixed (by kernel_rfl) ?_) | (refine St.draw (id := 12) [(0, 1), (1, 0), (2, 1), (3, 3), (4, 3)] [3, 4] mixed (by kernel_rfl) ?_) | (refine St.draw (id := 16) [(0, 1), (1, 1), (2, 3), (3, 3)] [2, 3] mixed (by kernel_rfl) ?_) | (refine St.draw (id := 18) [(0, 1), (1, 0), (2, 1), (3, 0), (4, 1), (5, 0), (6, 3), (7, 3)] [6, 7] mixed (by kernel_rfl) ?_) | (refine St.draw (id := 20) [(0, 1), (1, 1), (2, 3), (3, 3)] [2, 3] mixed (by kernel_rfl) ?_) | (refine St.draw (id := 24) [(0, 0), (1, 1), (2, 0), (3, 1), (4, 0), (7, 0), (5, 2), (6, 0), (8, 1), (9, 3), (10, 3)] [9, 10] mixed (by kernel_rfl) ?_) | (refine St.draw (id := 28) [(0, 1), (1, 1), (2, 3), (3, 3)] [2, 3] mixed (by kernel_rfl) ?_) | (refine St.draw (id := 29) [(0, 0), (1, 1), (2, 0), (3, 1), (4, 0), (7, 0), (5, 2), (6, 0), (8, 3), (9, 3)] [8, 9] mixed (by kernel_rfl) ?_)| refine Gl hh ?_ | refine Gl hg ?_ | (refine Ge ?_ ?_ <;> (intro h; try (exfalso; omega))) | fail)
    all_goals first | (exfalso; omega) | skip
    all_goals refine St.d1 Tryz.func16 ⟨_, ⟨_, H, rfl, hq', fun b l h => h, rfl⟩, Ent.go⟩
theorem rdoes_3 (H : HProp) (xv : Value) (x : Qu) (arg : Nat) (hq : XuR H xv (some x)) (hl : x.list.length ≤ 1000) : Tri Tryz.prog 16 #[xv, bs (nmB 3), .int .u64 (arg : Int)] [H] (rdoesQ H (doesM 3 (some x) arg)) := by
  have hq' := hq
  obtain ⟨lv, rfl, hsl⟩ := hq
  obtain ⟨ad, cap, rfl⟩ := hsl.val
  have hh := rhas_r H _ _ arg hsl (by omega)
  by_cases hm : arg ∈ x.list
  · have hi := is_r true
    rw [decide_eq_true hm] at hh
    have hd : doesM 3 (some x) arg = (some x, 0, 1) := by show (some x, (0 : Int), if arg ∈ x.list then 1 else 0) = _; rw [if_pos hm]
    rw [hd]
    unfold nmB rdoesQ
    dsimp only
    refine Tri.of_body (vs := [_, _, _]) Tryz.func16 rfl rfl fun w0 F => ?_
    repeat' (first | refine Ga ?_ | (refine Gb ?_; intro b) | (refine Gd ?_; intro g cap rest hcap) | (refine Gc ?_; intro ad cap) | (refine St.draw (id := 3) [(0, 1), (1, 1), (2, 3), (3, 3)] [2, 3] mixed (by kernel_rfl) ?_) | (refine St.draw (id := 9) [(0, 1), (1, 1), (2, 3), (3, 3)] [2, 3] mixed (by kernel_rfl) ?_) | (refine St.draw (id := 12) [(0, 1), (1, 0), (2, 1), (3, 3), (4, 3)] [3, 4] mixed (by kernel_rfl) ?_) | (refine St.draw (id := 16) [(0, 1), (1, 1), (2, 3), (3, 3)] [2, 3] mixed (by kernel_rfl) ?_) | (refine St.draw (id := 18) [(0, 1), (1, 0), (2, 1), (3, 0), (4, 1), (5, 0), (6, 3), (7, 3)] [6, 7] mixed (by kernel_rfl) ?_) | (refine St.draw (id := 20) [(0, 1), (1, 1), (2, 3), (3, 3)] [2, 3] mixed (by kernel_rfl) ?_) | (refine St.draw (id := 24) [(0, 0), (1, 1), (2, 0), (3, 1), (4, 0), (7, 0), (5, 2), (6, 0), (8, 1), (9, 3), (10, 3)] [9, 10] mixed (by kernel_rfl) ?_) | (refine St.draw (id := 28) [(0, 1), (1, 1), (2, 3), (3, 3)] [2, 3] mixed (by kernel_rfl) ?_) | (refine St.draw (id := 29) [(0, 0), (1, 1), (2, 0), (3, 1), (4, 0), (7, 0), (5, 2), (6, 0), (8, 3), (9, 3)] [8, 9] mixed (by kernel_rfl) ?_)| refine Gl hh ?_ | refine Gl hi ?_ | (refine Ge ?_ ?_ <;> (intro h; try (exfalso; omega))) | fail)
    refine St.d1 Tryz.func16 ⟨_, ⟨_, H, rfl, hq', fun b l h => h, rfl⟩, ?_⟩
    exact Ent.go
  · have hi := is_r false
    rw [decide_eq_false hm] at hh
    have hd : doesM 3 (some x) arg = (some x, 0, 0) := by show (some x, (0 : Int), if arg ∈ x.list then 1 else 0) = _; rw [if_neg hm]
    rw [hd]
    unfold nmB rdoesQ
    dsimp only
    refine Tri.of_body (vs := [_, _, _]) Tryz.func16 rfl rfl fun w0 F => ?_
    repeat' (first | refine Ga ?_ | (refine Gb ?_; intro b) | (refine Gd ?_; intro g cap rest hcap) | (refine Gc ?_; intro ad cap) | (refine St.draw (id := 3) [(0, 1), (1, 1), (2, 3), (3, 3)] [2, 3] mixed (by kernel_rfl) ?_) | (refine St.draw (id := 9) [(0, 1), (1, 1), (2, 3), (3, 3)] [2, 3] mixed (by kernel_rfl) ?_) | (refine St.draw (id := 12) [(0, 1), (1, 0), (2, 1), (3, 3), (4, 3)] [3, 4] mixed (by kernel_rfl) ?_) | (refine St.draw (id := 16) [(0, 1), (1, 1), (2, 3), (3, 3)] [2, 3] mixed (by kernel_rfl) ?_) | (refine St.draw (id := 18) [(0, 1), (1, 0), (2, 1), (3, 0), (4, 1), (5, 0), (6, 3), (7, 3)] [6, 7] mixed (by kernel_rfl) ?_) | (refine St.draw (id := 20) [(0, 1), (1, 1), (2, 3), (3, 3)] [2, 3] mixed (by kernel_rfl) ?_) | (refine St.draw (id := 24) [(0, 0), (1, 1), (2, 0), (3, 1), (4, 0), (7, 0), (5, 2), (6, 0), (8, 1), (9, 3), (10, 3)] [9, 10] mixed (by kernel_rfl) ?_) | (refine St.draw (id := 28) [(0, 1), (1, 1), (2, 3), (3, 3)] [2, 3] mixed (by kernel_rfl) ?_) | (refine St.draw (id := 29) [(0, 0), (1, 1), (2, 0), (3, 1), (4, 0), (7, 0), (5, 2), (6, 0), (8, 3), (9, 3)] [8, 9] mixed (by kernel_rfl) ?_)| refine Gl hh ?_ | refine Gl hi ?_ | (refine Ge ?_ ?_ <;> (intro h; try (exfalso; omega))) | fail)
    refine St.d1 Tryz.func16 ⟨_, ⟨_, H, rfl, hq', fun b l h => h, rfl⟩, ?_⟩
    exact Ent.go
theorem delL_none {a : Nat} {l : List Nat} (h : a ∉ l) : delL a l = l := by
  unfold delL
  refine List.filter_eq_self.mpr fun x hx => decide_eq_true fun e => h (by rw [← e]; exact hx)
set_option maxHeartbeats 1000000 in
theorem rdoes_2 (H : HProp) (xv : Value) (x : Qu) (arg : Nat) (hq : XuR H xv (some x)) (hl : x.list.length ≤ 1000) : Tri Tryz.prog 16 #[xv, bs (nmB 2), .int .u64 (arg : Int)] [H] (rdoesQ H (doesM 2 (some x) arg)) := by
  obtain ⟨lv, rfl, hsl⟩ := hq
  obtain ⟨ad0, cap0, rfl⟩ := hsl.val
  have hh := rhas_r H _ _ arg hsl (by omega)
  have hwo := rwithout_t H _ _ arg hsl hl
  by_cases hm : arg ∈ x.list
  · have hi := is_r true
    rw [decide_eq_true hm] at hh
    have hd : doesM 2 (some x) arg = (some ⟨x.cap, delL arg x.list⟩, 0, 1) := if_pos hm
    rw [hd]
    unfold nmB rdoesQ
    dsimp only
    refine Tri.of_body (vs := [_, _, _]) Tryz.func16 rfl rfl fun w0 F => ?_
    repeat' (first | refine Ga ?_ | (refine Gb ?_; intro b) | (refine Gd ?_; intro g cap rest hcap) | (refine Gc ?_; intro ad cap) | (refine St.draw (id := 3) [(0, 1), (1, 1), (2, 3), (3, 3)] [2, 3] mixed (by kernel_rfl) ?_) | (refine St.draw (id := 9) [(0, 1), (1, 1), (2, 3), (3, 3)] [2, 3] mixed (by kernel_rfl) ?_) | (refine St.draw (id := 12) [(0, 1), (1, 0), (2, 1), (3, 3), (4, 3)] [3, 4] mixed (by kernel_rfl) ?_) | (refine St.draw (id := 16) [(0, 1), (1, 1), (2, 3), (3, 3)] [2, 3] mixed (by kernel_rfl) ?_) | (refine St.draw (id := 18) [(0, 1), (1, 0), (2, 1), (3, 0), (4, 1), (5, 0), (6, 3), (7, 3)] [6, 7] mixed (by kernel_rfl) ?_) | (refine St.draw (id := 20) [(0, 1), (1, 1), (2, 3), (3, 3)] [2, 3] mixed (by kernel_rfl) ?_) | (refine St.draw (id := 24) [(0, 0), (1, 1), (2, 0), (3, 1), (4, 0), (7, 0), (5, 2), (6, 0), (8, 1), (9, 3), (10, 3)] [9, 10] mixed (by kernel_rfl) ?_) | (refine St.draw (id := 28) [(0, 1), (1, 1), (2, 3), (3, 3)] [2, 3] mixed (by kernel_rfl) ?_) | (refine St.draw (id := 29) [(0, 0), (1, 1), (2, 0), (3, 1), (4, 0), (7, 0), (5, 2), (6, 0), (8, 3), (9, 3)] [8, 9] mixed (by kernel_rfl) ?_)| refine Gl hh ?_ | refine Gl hi ?_ | (refine Gt hwo ?_; rintro _ _ ⟨ad, cap, rfl, rfl⟩) | (refine Gu hwo ?_; rintro _ _ ⟨ad, cap, rfl, rfl⟩; refine ⟨Ent.go, ?_⟩) | (refine Ge ?_ ?_ <;> (intro h; try (exfalso; omega))) | fail)
    all_goals (
      refine St.conv ?_ (Sub.refl _) (Ent.of_take (p := Row (.slice ad (delL arg x.list).length cap) 25 1 (delL arg x.list).length (u64s (delL arg x.list))) Take.go)
      refine St.rowS fun R hR => ?_
      refine St.d1 Tryz.func16 ⟨_, ⟨_, star [R, H], rfl, ⟨_, rfl, hR.weak fun b l h => RdC.star (.head _) h⟩, fun b l h => RdC.star (.tail _ (.head _)) h, rfl⟩, ?_⟩
      refine Ent.trans ?_ (Ent.star_in _)
      exact Ent.go)
  · have hi := is_r false
    rw [decide_eq_false hm] at hh
    have hd : doesM 2 (some x) arg = (some x, 0, 0) := if_neg hm
    rw [hd]
    unfold nmB rdoesQ
    dsimp only
    rw [delL_none hm] at hwo
    refine Tri.of_body (vs := [_, _, _]) Tryz.func16 rfl rfl fun w0 F => ?_
    repeat' (first | refine Ga ?_ | (refine Gb ?_; intro b) | (refine Gd ?_; intro g cap rest hcap) | (refine Gc ?_; intro ad cap) | (refine St.draw (id := 3) [(0, 1), (1, 1), (2, 3), (3, 3)] [2, 3] mixed (by kernel_rfl) ?_) | (refine St.draw (id := 9) [(0, 1), (1, 1), (2, 3), (3, 3)] [2, 3] mixed (by kernel_rfl) ?_) | (refine St.draw (id := 12) [(0, 1), (1, 0), (2, 1), (3, 3), (4, 3)] [3, 4] mixed (by kernel_rfl) ?_) | (refine St.draw (id := 16) [(0, 1), (1, 1), (2, 3), (3, 3)] [2, 3] mixed (by kernel_rfl) ?_) | (refine St.draw (id := 18) [(0, 1), (1, 0), (2, 1), (3, 0), (4, 1), (5, 0), (6, 3), (7, 3)] [6, 7] mixed (by kernel_rfl) ?_) | (refine St.draw (id := 20) [(0, 1), (1, 1), (2, 3), (3, 3)] [2, 3] mixed (by kernel_rfl) ?_) | (refine St.draw (id := 24) [(0, 0), (1, 1), (2, 0), (3, 1), (4, 0), (7, 0), (5, 2), (6, 0), (8, 1), (9, 3), (10, 3)] [9, 10] mixed (by kernel_rfl) ?_) | (refine St.draw (id := 28) [(0, 1), (1, 1), (2, 3), (3, 3)] [2, 3] mixed (by kernel_rfl) ?_) | (refine St.draw (id := 29) [(0, 0), (1, 1), (2, 0), (3, 1), (4, 0), (7, 0), (5, 2), (6, 0), (8, 3), (9, 3)] [8, 9] mixed (by kernel_rfl) ?_)| refine Gl hh ?_ | refine Gl hi ?_ | (refine Gt hwo ?_; rintro _ _ ⟨ad, cap, rfl, rfl⟩) | (refine Gu hwo ?_; rintro _ _ ⟨ad, cap, rfl, rfl⟩; refine ⟨Ent.go, ?_⟩) | (refine Ge ?_ ?_ <;> (intro h; try (exfalso; omega))) | fail)
    all_goals (
      refine St.conv ?_ (Sub.refl _) (Ent.of_take (p := Row (.slice ad x.list.length cap) 25 1 x.list.length (u64s x.list)) Take.go)
      refine St.rowS fun R hR => ?_
      refine St.d1 Tryz.func16 ⟨_, ⟨_, star [R, H], rfl, ⟨_, rfl, hR.weak fun b l h => RdC.star (.head _) h⟩, fun b l h => RdC.star (.tail _ (.head _)) h, rfl⟩, ?_⟩
      refine Ent.trans ?_ (Ent.star_in _)
      exact Ent.go)
set_option maxHeartbeats 1000000 in
theorem rdoes_1 (H : HProp) (xv : Value) (x : Qu) (arg : Nat) (hq : XuR H xv (some x)) (hl : x.list.length ≤ 1000) : Tri Tryz.prog 16 #[xv, bs (nmB 1), .int .u64 (arg : Int)] [H] (rdoesQ H (doesM 1 (some x) arg)) := by
  have hg := rgives_r 2
  have hq' := hq
  obtain ⟨lv, rfl, hsl⟩ := hq
  obtain ⟨ad0, cap0, rfl⟩ := hsl.val
  have hh := rhas_r H _ _ arg hsl (by omega)
  have hwi := rwith_t H _ _ arg hsl hl
  by_cases hm : arg ∈ x.list
  · rw [decide_eq_true hm] at hh
    have hd : doesM 1 (some x) arg = (some x, 0, 0) := if_pos hm
    rw [hd]
    unfold nmB rdoesQ
    dsimp only
    refine Tri.of_body (vs := [_, _, _]) Tryz.func16 rfl rfl fun w0 F => ?_
    repeat' (first | refine Ga ?_ | (refine Gb ?_; intro b) | (refine Gd ?_; intro g cap rest hcap) | (refine Gc ?_; intro ad cap) | (refine St.draw (id := 3) [(0, 1), (1, 1), (2, 3), (3, 3)] [2, 3] mixed (by kernel_rfl) ?_) | (refine St.draw (id := 9) [(0, 1), (1, 1), (2, 3), (3, 3)] [2, 3] mixed (by kernel_rfl) ?_) | (refine St.draw (id := 12) [(0, 1), (1, 0), (2, 1), (3, 3), (4, 3)] [3, 4] mixed (by kernel_rfl) ?_) | (refine St.draw (id := 16) [(0, 1), (1, 1), (2, 3), (3, 3)] [2, 3] mixed (by kernel_rfl) ?_) | (refine St.draw (id := 18) [(0, 1), (1, 0), (2, 1), (3, 0), (4, 1), (5, 0), (6, 3), (7, 3)] [6, 7] mixed (by kernel_rfl) ?_) | (refine St.draw (id := 20) [(0, 1), (1, 1), (2, 3), (3, 3)] [2, 3] mixed (by kernel_rfl) ?_) | (refine St.draw (id := 24) [(0, 0), (1, 1), (2, 0), (3, 1), (4, 0), (7, 0), (5, 2), (6, 0), (8, 1), (9, 3), (10, 3)] [9, 10] mixed (by kernel_rfl) ?_) | (refine St.draw (id := 28) [(0, 1), (1, 1), (2, 3), (3, 3)] [2, 3] mixed (by kernel_rfl) ?_) | (refine St.draw (id := 29) [(0, 0), (1, 1), (2, 0), (3, 1), (4, 0), (7, 0), (5, 2), (6, 0), (8, 3), (9, 3)] [8, 9] mixed (by kernel_rfl) ?_)| refine Gl hh ?_ | (refine Ge ?_ ?_ <;> (intro h; try (exfalso; omega))) | fail)
    refine St.d1 Tryz.func16 ⟨_, ⟨_, H, rfl, hq', fun b l h => h, rfl⟩, ?_⟩
    exact Ent.go
  · rw [decide_eq_false hm] at hh
    by_cases hf : x.cap ≤ x.list.length
    · have hd : doesM 1 (some x) arg = (some x, 40, 2) := (if_neg hm).trans (if_pos hf)
      rw [hd]
      unfold nmB rdoesQ
      dsimp only
      refine Tri.of_body (vs := [_, _, _]) Tryz.func16 rfl rfl fun w0 F => ?_
      repeat' (first | refine Ga ?_ | (refine Gb ?_; intro b) | (refine Gd ?_; intro g cap rest hcap) | (refine Gc ?_; intro ad cap) | (refine St.draw (id := 3) [(0, 1), (1, 1), (2, 3), (3, 3)] [2, 3] mixed (by kernel_rfl) ?_) | (refine St.draw (id := 9) [(0, 1), (1, 1), (2, 3), (3, 3)] [2, 3] mixed (by kernel_rfl) ?_) | (refine St.draw (id := 12) [(0, 1), (1, 0), (2, 1), (3, 3), (4, 3)] [3, 4] mixed (by kernel_rfl) ?_) | (refine St.draw (id := 16) [(0, 1), (1, 1), (2, 3), (3, 3)] [2, 3] mixed (by kernel_rfl) ?_) | (refine St.draw (id := 18) [(0, 1), (1, 0), (2, 1), (3, 0), (4, 1), (5, 0), (6, 3), (7, 3)] [6, 7] mixed (by kernel_rfl) ?_) | (refine St.draw (id := 20) [(0, 1), (1, 1), (2, 3), (3, 3)] [2, 3] mixed (by kernel_rfl) ?_) | (refine St.draw (id := 24) [(0, 0), (1, 1), (2, 0), (3, 1), (4, 0), (7, 0), (5, 2), (6, 0), (8, 1), (9, 3), (10, 3)] [9, 10] mixed (by kernel_rfl) ?_) | (refine St.draw (id := 28) [(0, 1), (1, 1), (2, 3), (3, 3)] [2, 3] mixed (by kernel_rfl) ?_) | (refine St.draw (id := 29) [(0, 0), (1, 1), (2, 0), (3, 1), (4, 0), (7, 0), (5, 2), (6, 0), (8, 3), (9, 3)] [8, 9] mixed (by kernel_rfl) ?_)| refine Gl hh ?_ | refine Gl hg ?_ | (refine Ge ?_ ?_ <;> (intro h; try (exfalso; omega))) | fail)
      all_goals first | (exfalso; omega) | skip
      refine St.d1 Tryz.func16 ⟨_, ⟨_, H, rfl, hq', fun b l h => h, rfl⟩, ?_⟩
      exact Ent.go
    · have hd : doesM 1 (some x) arg = (some ⟨x.cap, insL arg x.list⟩, 0, 1) := (if_neg hm).trans (if_neg hf)
      rw [hd]
      unfold nmB rdoesQ
      dsimp only
      refine Tri.of_body (vs := [_, _, _]) Tryz.func16 rfl rfl fun w0 F => ?_
      repeat' (first | refine Ga ?_ | (refine Gb ?_; intro b) | (refine Gd ?_; intro g cap rest hcap) | (refine Gc ?_; intro ad cap) | (refine St.draw (id := 3) [(0, 1), (1, 1), (2, 3), (3, 3)] [2, 3] mixed (by kernel_rfl) ?_) | (refine St.draw (id := 9) [(0, 1), (1, 1), (2, 3), (3, 3)] [2, 3] mixed (by kernel_rfl) ?_) | (refine St.draw (id := 12) [(0, 1), (1, 0), (2, 1), (3, 3), (4, 3)] [3, 4] mixed (by kernel_rfl) ?_) | (refine St.draw (id := 16) [(0, 1), (1, 1), (2, 3), (3, 3)] [2, 3] mixed (by kernel_rfl) ?_) | (refine St.draw (id := 18) [(0, 1), (1, 0), (2, 1), (3, 0), (4, 1), (5, 0), (6, 3), (7, 3)] [6, 7] mixed (by kernel_rfl) ?_) | (refine St.draw (id := 20) [(0, 1), (1, 1), (2, 3), (3, 3)] [2, 3] mixed (by kernel_rfl) ?_) | (refine St.draw (id := 24) [(0, 0), (1, 1), (2, 0), (3, 1), (4, 0), (7, 0), (5, 2), (6, 0), (8, 1), (9, 3), (10, 3)] [9, 10] mixed (by kernel_rfl) ?_) | (refine St.draw (id := 28) [(0, 1), (1, 1), (2, 3), (3, 3)] [2, 3] mixed (by kernel_rfl) ?_) | (refine St.draw (id := 29) [(0, 0), (1, 1), (2, 0), (3, 1), (4, 0), (7, 0), (5, 2), (6, 0), (8, 3), (9, 3)] [8, 9] mixed (by kernel_rfl) ?_)| refine Gl hh ?_ | (refine Gt hwi ?_; rintro _ _ ⟨ad, cap, rfl, rfl⟩) | (refine Gu hwi ?_; rintro _ _ ⟨ad, cap, rfl, rfl⟩; refine ⟨Ent.go, ?_⟩) | (refine Ge ?_ ?_ <;> (intro h; try (exfalso; omega))) | fail)
      all_goals first | (exfalso; omega) | skip
      all_goals (
        refine St.conv ?_ (Sub.refl _) (Ent.of_take (p := Row (.slice ad (insL arg x.list).length cap) 25 1 (insL arg x.list).length (u64s (insL arg x.list))) Take.go)
        refine St.rowS fun R hR => ?_
        refine St.d1 Tryz.func16 ⟨_, ⟨_, star [R, H], rfl, ⟨_, rfl, hR.weak fun b l h => RdC.star (.head _) h⟩, fun b l h => RdC.star (.tail _ (.head _)) h, rfl⟩, ?_⟩
        refine Ent.trans ?_ (Ent.star_in _)
        exact Ent.go)
theorem rdoes_t (k : Nat) (hk : k ≤ 7) (H : HProp) (xv : Value) (q : Option Qu) (arg : Nat) (hq : XuR H xv q) (hl : ∀ x, q = some x → x.list.length ≤ 1000) : Tri Tryz.prog 16 #[xv, bs (nmB k), .int .u64 (arg : Int)] [H] (rdoesQ H (doesM k q arg)) := by
  rcases (by omega : k = 0 ∨ k = 1 ∨ k = 2 ∨ k = 3 ∨ k = 4 ∨ k = 5 ∨ k = 6 ∨ k = 7) with rfl | rfl | rfl | rfl | rfl | rfl | rfl | rfl
  · exact rdoes_0 H xv q arg hq hl
  · cases q with
    | none => obtain rfl : xv = .agg ⟨[.bool false, .int .u64 0, .slice none 0 0]⟩ := hq; exact rdoes_1n H arg
    | some x => exact rdoes_1 H xv x arg hq (hl x rfl)
  · cases q with
    | none => obtain rfl : xv = .agg ⟨[.bool false, .int .u64 0, .slice none 0 0]⟩ := hq; exact rdoes_2n H arg
    | some x => exact rdoes_2 H xv x arg hq (hl x rfl)
  · cases q with
    | none => obtain rfl : xv = .agg ⟨[.bool false, .int .u64 0, .slice none 0 0]⟩ := hq; exact rdoes_3n H arg
    | some x => exact rdoes_3 H xv x arg hq (hl x rfl)
  · cases q with
    | none => obtain rfl : xv = .agg ⟨[.bool false, .int .u64 0, .slice none 0 0]⟩ := hq; exact rdoes_4n H arg
    | some x => exact rdoes_4 H xv x arg hq (hl x rfl)
  · cases q with
    | none => obtain rfl : xv = .agg ⟨[.bool false, .int .u64 0, .slice none 0 0]⟩ := hq; exact rdoes_5n H arg
    | some x => exact rdoes_5 H xv x arg hq (hl x rfl)
  · cases q with
    | none => obtain rfl : xv = .agg ⟨[.bool false, .int .u64 0, .slice none 0 0]⟩ := hq; exact rdoes_6n H arg
    | some x => exact rdoes_6 H xv x arg hq (hl x rfl)
  · cases q with
    | none => obtain rfl : xv = .agg ⟨[.bool false, .int .u64 0, .slice none 0 0]⟩ := hq; exact rdoes_7n H arg
    | some x => exact rdoes_7 H xv x arg hq (hl x rfl)
end Go.Proofs.YtalgmlhcbilicaaGreatDoor
