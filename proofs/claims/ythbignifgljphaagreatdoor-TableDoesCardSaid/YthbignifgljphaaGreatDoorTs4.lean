/-
  Package tumblerref22: Does.
-/
import Derived.Test.YthbignifgljphaaGreatDoorTs3
namespace Go.Proofs.YthbignifgljphaaGreatDoor
set_option maxRecDepth 100000
theorem OpOk.ofV {P : Program} {n' : Fi} {op : Op} {ty : TypeId} {E : Env} {L : List HProp} {v : Value} (h : OpV P n' op ty E L v) : OpOk P n' op ty E L (fun v' L' => v' = v ∧ L' = L) := by
  unfold OpV at h
  unfold OpOk
  exact fun d ps af g a w ha X hs => ⟨v, w, L, .inl (h d ps af g a w ha hs.head_of), ⟨rfl, rfl⟩, hs, Old.refl w⟩
theorem rgives_r (w : Nat) : RTri Tryz.prog 29 #[.int .u64 (w : Int)] [] (.agg ⟨[.int .i64 40, .int .u64 (w : Int)]⟩) := by
  apply RTri.of_pure
  refine Tri.of_body (vs := [_]) Tryz.func29 rfl rfl fun w0 F => ?_
  repeat' (first | refine Ga ?_ | (refine Gb ?_; intro b) | (refine Gd ?_; intro g cap rest hcap) | (refine Gc ?_; intro ad cap)  | (refine Ge ?_ ?_ <;> (intro h; try (exfalso; omega))) | fail)
  refine St.d1 Tryz.func29 ⟨_, ⟨rfl, rfl⟩, Ent.go⟩
theorem rbit_r (b : Bool) : RTri Tryz.prog 33 #[.bool b] [] (.int .u64 ((if b then 1 else 0 : Nat) : Int)) := by
  apply RTri.of_pure
  cases b
  · refine Tri.of_body (vs := [_]) Tryz.func33 rfl rfl fun w0 F => ?_
    repeat' (first | refine Ga ?_ | (refine Gb ?_; intro b) | (refine Gd ?_; intro g cap rest hcap) | (refine Gc ?_; intro ad cap)  | (refine Ge ?_ ?_ <;> (intro h; try (exfalso; omega))) | fail)
    refine St.d1 Tryz.func33 ⟨_, ⟨rfl, rfl⟩, Ent.go⟩
  · refine Tri.of_body (vs := [_]) Tryz.func33 rfl rfl fun w0 F => ?_
    repeat' (first | refine Ga ?_ | (refine Gb ?_; intro b) | (refine Gd ?_; intro g cap rest hcap) | (refine Gc ?_; intro ad cap)  | (refine Ge ?_ ?_ <;> (intro h; try (exfalso; omega))) | fail)
    refine St.d1 Tryz.func33 ⟨_, ⟨rfl, rfl⟩, Ent.go⟩
/-- the document's map -/
def XuT (q : HProp) (v : Value) : Option Tb → Prop
  | none => v = .agg ⟨[.bool false, .int .u64 0, .slice none 0 0]⟩
  | some x => ∃ lv, v = .agg ⟨[.bool true, .int .u64 (x.cap : Int), lv]⟩ ∧ ListR prV q lv x.pairs
theorem XuT.weak {q q' : HProp} {v : Value} {x : Option Tb} (h : XuT q v x) (hq : ∀ b l, RdC q b l → RdC q' b l) : XuT q' v x := by
  cases x with
  | none => exact h
  | some x =>
    obtain ⟨lv, h1, h3⟩ := h
    exact ⟨lv, h1, h3.weak hq⟩
def rdoesQ (H : HProp) (m : Option Tb × Int × Nat) (v : Value) (L : List HProp) : Prop :=
  ∃ xv' H', v = .tuple ⟨[xv', .agg ⟨[.int .i64 m.2.1, .int .u64 (m.2.2 : Int)]⟩]⟩ ∧ XuT H' xv' m.1 ∧ (∀ b l, RdC H b l → RdC H' b l) ∧ L = [H']
theorem rdoes_0 (H : HProp) (xv : Value) (q : Option Tb) (key val : Nat) (hq : XuT H xv q) (hl : ∀ x, q = some x → x.pairs.length ≤ 1000) : Tri Tryz.prog 12 #[xv, bs (nmB 0), .int .u64 (key : Int), .int .u64 (val : Int)] [H] (rdoesQ H (doesM 0 q key val)) := by
  have hg := rgives_r 4
  unfold doesM nmB
  cases q with
  | none =>
    have hq : xv = .agg ⟨[.bool false, .int .u64 0, .slice none 0 0]⟩ := hq
    subst hq
    dsimp only
    refine Tri.of_body (vs := [_, _, _, _]) Tryz.func12 rfl rfl fun w0 F => ?_
    repeat' (first | refine Ga ?_ | (refine Gb ?_; intro b) | (refine Gd ?_; intro g cap rest hcap) | (refine Gc ?_; intro ad cap) | (refine St.draw (id := 3) [(0, 1), (1, 1), (2, 3), (3, 3)] [2, 3] mixed (by kernel_rfl) ?_) | (refine St.draw (id := 9) [(0, 1), (1, 1), (2, 3), (3, 3)] [2, 3] mixed (by kernel_rfl) ?_) | (refine St.draw (id := 14) [(0, 1), (1, 1), (2, 3), (3, 3)] [2, 3] mixed (by kernel_rfl) ?_) | (refine St.draw (id := 18) [(0, 1), (1, 1), (2, 3), (3, 3)] [2, 3] mixed (by kernel_rfl) ?_) | (refine St.draw (id := 20) [(0, 1), (1, 0), (2, 1), (3, 0), (4, 0), (5, 0), (6, 1), (7, 0), (8, 3), (9, 3)] [8, 9] mixed (by kernel_rfl) ?_) | (refine St.draw (id := 24) [(0, 0), (1, 1), (2, 0), (3, 1), (4, 0), (7, 0), (5, 2), (6, 0), (8, 3), (9, 3)] [8, 9] mixed (by kernel_rfl) ?_) | (refine St.draw (id := 26) [(0, 1), (1, 1), (2, 3), (3, 3)] [2, 3] mixed (by kernel_rfl) ?_) | (refine St.draw (id := 27) [(0, 0), (1, 1), (2, 0), (3, 1), (4, 0), (5, 0), (6, 0), (9, 0), (10, 0), (7, 2), (8, 0), (11, 1), (12, 0), (13, 3), (14, 3)] [13, 14] mixed (by kernel_rfl) ?_)| refine Gl hg ?_ | (refine Ge ?_ ?_ <;> (intro h; try (exfalso; omega))) | fail)
    refine St.d1 Tryz.func12 ⟨_, ⟨_, H, rfl, ⟨_, rfl, ⟨none, 0, rfl, Nat.le_refl _, .inl rfl⟩⟩, fun b l h => h, rfl⟩, ?_⟩
    exact Ent.go
  | some x =>
    have hx := hl x rfl
    have hq' := hq
    obtain ⟨lv, rfl, hsl⟩ := hq
    obtain ⟨ad, cap, rfl, _⟩ := hsl
    dsimp only
    refine Tri.of_body (vs := [_, _, _, _]) Tryz.func12 rfl rfl fun w0 F => ?_
    repeat' (first | refine Ga ?_ | (refine Gb ?_; intro b) | (refine Gd ?_; intro g cap rest hcap) | (refine Gc ?_; intro ad cap) | (refine St.draw (id := 3) [(0, 1), (1, 1), (2, 3), (3, 3)] [2, 3] mixed (by kernel_rfl) ?_) | (refine St.draw (id := 9) [(0, 1), (1, 1), (2, 3), (3, 3)] [2, 3] mixed (by kernel_rfl) ?_) | (refine St.draw (id := 14) [(0, 1), (1, 1), (2, 3), (3, 3)] [2, 3] mixed (by kernel_rfl) ?_) | (refine St.draw (id := 18) [(0, 1), (1, 1), (2, 3), (3, 3)] [2, 3] mixed (by kernel_rfl) ?_) | (refine St.draw (id := 20) [(0, 1), (1, 0), (2, 1), (3, 0), (4, 0), (5, 0), (6, 1), (7, 0), (8, 3), (9, 3)] [8, 9] mixed (by kernel_rfl) ?_) | (refine St.draw (id := 24) [(0, 0), (1, 1), (2, 0), (3, 1), (4, 0), (7, 0), (5, 2), (6, 0), (8, 3), (9, 3)] [8, 9] mixed (by kernel_rfl) ?_) | (refine St.draw (id := 26) [(0, 1), (1, 1), (2, 3), (3, 3)] [2, 3] mixed (by kernel_rfl) ?_) | (refine St.draw (id := 27) [(0, 0), (1, 1), (2, 0), (3, 1), (4, 0), (5, 0), (6, 0), (9, 0), (10, 0), (7, 2), (8, 0), (11, 1), (12, 0), (13, 3), (14, 3)] [13, 14] mixed (by kernel_rfl) ?_)| refine Gl hg ?_ | (refine Ge ?_ ?_ <;> (intro h; try (exfalso; omega))) | fail)
    refine St.d1 Tryz.func12 ⟨_, ⟨_, H, rfl, hq', fun b l h => h, rfl⟩, ?_⟩
    exact Ent.go
theorem rdoes_1n (H : HProp) (key val : Nat) : Tri Tryz.prog 12 #[.agg ⟨[.bool false, .int .u64 0, .slice none 0 0]⟩, bs (nmB 1), .int .u64 (key : Int), .int .u64 (val : Int)] [H] (rdoesQ H (doesM 1 none key val)) := by
  have hg := rgives_r 3
  unfold doesM nmB at *
  refine Tri.of_body (vs := [_, _, _, _]) Tryz.func12 rfl rfl fun w0 F => ?_
  repeat' (first | refine Ga ?_ | (refine Gb ?_; intro b) | (refine Gd ?_; intro g cap rest hcap) | (refine Gc ?_; intro ad cap) | (refine St.draw (id := 3) [(0, 1), (1, 1), (2, 3), (3, 3)] [2, 3] mixed (by kernel_rfl) ?_) | (refine St.draw (id := 9) [(0, 1), (1, 1), (2, 3), (3, 3)] [2, 3] mixed (by kernel_rfl) ?_) | (refine St.draw (id := 14) [(0, 1), (1, 1), (2, 3), (3, 3)] [2, 3] mixed (by kernel_rfl) ?_) | (refine St.draw (id := 18) [(0, 1), (1, 1), (2, 3), (3, 3)] [2, 3] mixed (by kernel_rfl) ?_) | (refine St.draw (id := 20) [(0, 1), (1, 0), (2, 1), (3, 0), (4, 0), (5, 0), (6, 1), (7, 0), (8, 3), (9, 3)] [8, 9] mixed (by kernel_rfl) ?_) | (refine St.draw (id := 24) [(0, 0), (1, 1), (2, 0), (3, 1), (4, 0), (7, 0), (5, 2), (6, 0), (8, 3), (9, 3)] [8, 9] mixed (by kernel_rfl) ?_) | (refine St.draw (id := 26) [(0, 1), (1, 1), (2, 3), (3, 3)] [2, 3] mixed (by kernel_rfl) ?_) | (refine St.draw (id := 27) [(0, 0), (1, 1), (2, 0), (3, 1), (4, 0), (5, 0), (6, 0), (9, 0), (10, 0), (7, 2), (8, 0), (11, 1), (12, 0), (13, 3), (14, 3)] [13, 14] mixed (by kernel_rfl) ?_)| refine Gl hg ?_ | (refine Ge ?_ ?_ <;> (intro h; try (exfalso; omega))) | fail)
  refine St.d1 Tryz.func12 ⟨_, ⟨_, H, rfl, rfl, fun b l h => h, rfl⟩, ?_⟩
  exact Ent.go
theorem rdoes_2n (H : HProp) (key val : Nat) : Tri Tryz.prog 12 #[.agg ⟨[.bool false, .int .u64 0, .slice none 0 0]⟩, bs (nmB 2), .int .u64 (key : Int), .int .u64 (val : Int)] [H] (rdoesQ H (doesM 2 none key val)) := by
  have hg := rgives_r 3
  unfold doesM nmB at *
  refine Tri.of_body (vs := [_, _, _, _]) Tryz.func12 rfl rfl fun w0 F => ?_
  repeat' (first | refine Ga ?_ | (refine Gb ?_; intro b) | (refine Gd ?_; intro g cap rest hcap) | (refine Gc ?_; intro ad cap) | (refine St.draw (id := 3) [(0, 1), (1, 1), (2, 3), (3, 3)] [2, 3] mixed (by kernel_rfl) ?_) | (refine St.draw (id := 9) [(0, 1), (1, 1), (2, 3), (3, 3)] [2, 3] mixed (by kernel_rfl) ?_) | (refine St.draw (id := 14) [(0, 1), (1, 1), (2, 3), (3, 3)] [2, 3] mixed (by kernel_rfl) ?_) | (refine St.draw (id := 18) [(0, 1), (1, 1), (2, 3), (3, 3)] [2, 3] mixed (by kernel_rfl) ?_) | (refine St.draw (id := 20) [(0, 1), (1, 0), (2, 1), (3, 0), (4, 0), (5, 0), (6, 1), (7, 0), (8, 3), (9, 3)] [8, 9] mixed (by kernel_rfl) ?_) | (refine St.draw (id := 24) [(0, 0), (1, 1), (2, 0), (3, 1), (4, 0), (7, 0), (5, 2), (6, 0), (8, 3), (9, 3)] [8, 9] mixed (by kernel_rfl) ?_) | (refine St.draw (id := 26) [(0, 1), (1, 1), (2, 3), (3, 3)] [2, 3] mixed (by kernel_rfl) ?_) | (refine St.draw (id := 27) [(0, 0), (1, 1), (2, 0), (3, 1), (4, 0), (5, 0), (6, 0), (9, 0), (10, 0), (7, 2), (8, 0), (11, 1), (12, 0), (13, 3), (14, 3)] [13, 14] mixed (by kernel_rfl) ?_)| refine Gl hg ?_ | (refine Ge ?_ ?_ <;> (intro h; try (exfalso; omega))) | fail)
  refine St.d1 Tryz.func12 ⟨_, ⟨_, H, rfl, rfl, fun b l h => h, rfl⟩, ?_⟩
  exact Ent.go
theorem rdoes_3n (H : HProp) (key val : Nat) : Tri Tryz.prog 12 #[.agg ⟨[.bool false, .int .u64 0, .slice none 0 0]⟩, bs (nmB 3), .int .u64 (key : Int), .int .u64 (val : Int)] [H] (rdoesQ H (doesM 3 none key val)) := by
  have hg := rgives_r 3
  unfold doesM nmB at *
  refine Tri.of_body (vs := [_, _, _, _]) Tryz.func12 rfl rfl fun w0 F => ?_
  repeat' (first | refine Ga ?_ | (refine Gb ?_; intro b) | (refine Gd ?_; intro g cap rest hcap) | (refine Gc ?_; intro ad cap) | (refine St.draw (id := 3) [(0, 1), (1, 1), (2, 3), (3, 3)] [2, 3] mixed (by kernel_rfl) ?_) | (refine St.draw (id := 9) [(0, 1), (1, 1), (2, 3), (3, 3)] [2, 3] mixed (by kernel_rfl) ?_) | (refine St.draw (id := 14) [(0, 1), (1, 1), (2, 3), (3, 3)] [2, 3] mixed (by kernel_rfl) ?_) | (refine St.draw (id := 18) [(0, 1), (1, 1), (2, 3), (3, 3)] [2, 3] mixed (by kernel_rfl) ?_) | (refine St.draw (id := 20) [(0, 1), (1, 0), (2, 1), (3, 0), (4, 0), (5, 0), (6, 1), (7, 0), (8, 3), (9, 3)] [8, 9] mixed (by kernel_rfl) ?_) | (refine St.draw (id := 24) [(0, 0), (1, 1), (2, 0), (3, 1), (4, 0), (7, 0), (5, 2), (6, 0), (8, 3), (9, 3)] [8, 9] mixed (by kernel_rfl) ?_) | (refine St.draw (id := 26) [(0, 1), (1, 1), (2, 3), (3, 3)] [2, 3] mixed (by kernel_rfl) ?_) | (refine St.draw (id := 27) [(0, 0), (1, 1), (2, 0), (3, 1), (4, 0), (5, 0), (6, 0), (9, 0), (10, 0), (7, 2), (8, 0), (11, 1), (12, 0), (13, 3), (14, 3)] [13, 14] mixed (by kernel_rfl) ?_)| refine Gl hg ?_ | (refine Ge ?_ ?_ <;> (intro h; try (exfalso; omega))) | fail)
  refine St.d1 Tryz.func12 ⟨_, ⟨_, H, rfl, rfl, fun b l h => h, rfl⟩, ?_⟩
  exact Ent.go
theorem rdoes_4n (H : HProp) (key val : Nat) : Tri Tryz.prog 12 #[.agg ⟨[.bool false, .int .u64 0, .slice none 0 0]⟩, bs (nmB 4), .int .u64 (key : Int), .int .u64 (val : Int)] [H] (rdoesQ H (doesM 4 none key val)) := by
  have hg := rgives_r 3
  unfold doesM nmB at *
  refine Tri.of_body (vs := [_, _, _, _]) Tryz.func12 rfl rfl fun w0 F => ?_
  repeat' (first | refine Ga ?_ | (refine Gb ?_; intro b) | (refine Gd ?_; intro g cap rest hcap) | (refine Gc ?_; intro ad cap) | (refine St.draw (id := 3) [(0, 1), (1, 1), (2, 3), (3, 3)] [2, 3] mixed (by kernel_rfl) ?_) | (refine St.draw (id := 9) [(0, 1), (1, 1), (2, 3), (3, 3)] [2, 3] mixed (by kernel_rfl) ?_) | (refine St.draw (id := 14) [(0, 1), (1, 1), (2, 3), (3, 3)] [2, 3] mixed (by kernel_rfl) ?_) | (refine St.draw (id := 18) [(0, 1), (1, 1), (2, 3), (3, 3)] [2, 3] mixed (by kernel_rfl) ?_) | (refine St.draw (id := 20) [(0, 1), (1, 0), (2, 1), (3, 0), (4, 0), (5, 0), (6, 1), (7, 0), (8, 3), (9, 3)] [8, 9] mixed (by kernel_rfl) ?_) | (refine St.draw (id := 24) [(0, 0), (1, 1), (2, 0), (3, 1), (4, 0), (7, 0), (5, 2), (6, 0), (8, 3), (9, 3)] [8, 9] mixed (by kernel_rfl) ?_) | (refine St.draw (id := 26) [(0, 1), (1, 1), (2, 3), (3, 3)] [2, 3] mixed (by kernel_rfl) ?_) | (refine St.draw (id := 27) [(0, 0), (1, 1), (2, 0), (3, 1), (4, 0), (5, 0), (6, 0), (9, 0), (10, 0), (7, 2), (8, 0), (11, 1), (12, 0), (13, 3), (14, 3)] [13, 14] mixed (by kernel_rfl) ?_)| refine Gl hg ?_ | (refine Ge ?_ ?_ <;> (intro h; try (exfalso; omega))) | fail)
  refine St.d1 Tryz.func12 ⟨_, ⟨_, H, rfl, rfl, fun b l h => h, rfl⟩, ?_⟩
  exact Ent.go
theorem rdoes_5n (H : HProp) (key val : Nat) : Tri Tryz.prog 12 #[.agg ⟨[.bool false, .int .u64 0, .slice none 0 0]⟩, bs (nmB 5), .int .u64 (key : Int), .int .u64 (val : Int)] [H] (rdoesQ H (doesM 5 none key val)) := by
  have hg := rgives_r 3
  unfold doesM nmB at *
  refine Tri.of_body (vs := [_, _, _, _]) Tryz.func12 rfl rfl fun w0 F => ?_
  repeat' (first | refine Ga ?_ | (refine Gb ?_; intro b) | (refine Gd ?_; intro g cap rest hcap) | (refine Gc ?_; intro ad cap) | (refine St.draw (id := 3) [(0, 1), (1, 1), (2, 3), (3, 3)] [2, 3] mixed (by kernel_rfl) ?_) | (refine St.draw (id := 9) [(0, 1), (1, 1), (2, 3), (3, 3)] [2, 3] mixed (by kernel_rfl) ?_) | (refine St.draw (id := 14) [(0, 1), (1, 1), (2, 3), (3, 3)] [2, 3] mixed (by kernel_rfl) ?_) | (refine St.draw (id := 18) [(0, 1), (1, 1), (2, 3), (3, 3)] [2, 3] mixed (by kernel_rfl) ?_) | (refine St.draw (id := 20) [(0, 1), (1, 0), (2, 1), (3, 0), (4, 0), (5, 0), (6, 1), (7, 0), (8, 3), (9, 3)] [8, 9] mixed (by kernel_rfl) ?_) | (refine St.draw (id := 24) [(0, 0), (1, 1), (2, 0), (3, 1), (4, 0), (7, 0), (5, 2), (6, 0), (8, 3), (9, 3)] [8, 9] mixed (by kernel_rfl) ?_) | (refine St.draw (id := 26) [(0, 1), (1, 1), (2, 3), (3, 3)] [2, 3] mixed (by kernel_rfl) ?_) | (refine St.draw (id := 27) [(0, 0), (1, 1), (2, 0), (3, 1), (4, 0), (5, 0), (6, 0), (9, 0), (10, 0), (7, 2), (8, 0), (11, 1), (12, 0), (13, 3), (14, 3)] [13, 14] mixed (by kernel_rfl) ?_)| refine Gl hg ?_ | (refine Ge ?_ ?_ <;> (intro h; try (exfalso; omega))) | fail)
  refine St.d1 Tryz.func12 ⟨_, ⟨_, H, rfl, rfl, fun b l h => h, rfl⟩, ?_⟩
  exact Ent.go
theorem rdoes_6n (H : HProp) (key val : Nat) : Tri Tryz.prog 12 #[.agg ⟨[.bool false, .int .u64 0, .slice none 0 0]⟩, bs (nmB 6), .int .u64 (key : Int), .int .u64 (val : Int)] [H] (rdoesQ H (doesM 6 none key val)) := by
  have hg := rgives_r 3
  unfold doesM nmB at *
  refine Tri.of_body (vs := [_, _, _, _]) Tryz.func12 rfl rfl fun w0 F => ?_
  repeat' (first | refine Ga ?_ | (refine Gb ?_; intro b) | (refine Gd ?_; intro g cap rest hcap) | (refine Gc ?_; intro ad cap) | (refine St.draw (id := 3) [(0, 1), (1, 1), (2, 3), (3, 3)] [2, 3] mixed (by kernel_rfl) ?_) | (refine St.draw (id := 9) [(0, 1), (1, 1), (2, 3), (3, 3)] [2, 3] mixed (by kernel_rfl) ?_) | (refine St.draw (id := 14) [(0, 1), (1, 1), (2, 3), (3, 3)] [2, 3] mixed (by kernel_rfl) ?_) | (refine St.draw (id := 18) [(0, 1), (1, 1), (2, 3), (3, 3)] [2, 3] mixed (by kernel_rfl) ?_) | (refine St.draw (id := 20) [(0, 1), (1, 0), (2, 1), (3, 0), (4, 0), (5, 0), (6, 1), (7, 0), (8, 3), (9, 3)] [8, 9] mixed (by kernel_rfl) ?_) | (refine St.draw (id := 24) [(0, 0), (1, 1), (2, 0), (3, 1), (4, 0), (7, 0), (5, 2), (6, 0), (8, 3), (9, 3)] [8, 9] mixed (by kernel_rfl) ?_) | (refine St.draw (id := 26) [(0, 1), (1, 1), (2, 3), (3, 3)] [2, 3] mixed (by kernel_rfl) ?_) | (refine St.draw (id := 27) [(0, 0), (1, 1), (2, 0), (3, 1), (4, 0), (5, 0), (6, 0), (9, 0), (10, 0), (7, 2), (8, 0), (11, 1), (12, 0), (13, 3), (14, 3)] [13, 14] mixed (by kernel_rfl) ?_)| refine Gl hg ?_ | (refine Ge ?_ ?_ <;> (intro h; try (exfalso; omega))) | fail)
  refine St.d1 Tryz.func12 ⟨_, ⟨_, H, rfl, rfl, fun b l h => h, rfl⟩, ?_⟩
  exact Ent.go
theorem rdoes_6 (H : HProp) (xv : Value) (x : Tb) (key val : Nat) (hq : XuT H xv (some x)) (hl : x.pairs.length ≤ 1000) : Tri Tryz.prog 12 #[xv, bs (nmB 6), .int .u64 (key : Int), .int .u64 (val : Int)] [H] (rdoesQ H (doesM 6 (some x) key val)) := by
  have hq' := hq
  obtain ⟨lv, rfl, hsl⟩ := hq
  obtain ⟨ad, cap, rfl, _⟩ := hsl
  unfold doesM nmB at *
  refine Tri.of_body (vs := [_, _, _, _]) Tryz.func12 rfl rfl fun w0 F => ?_
  repeat' (first | refine Ga ?_ | (refine Gb ?_; intro b) | (refine Gd ?_; intro g cap rest hcap) | (refine Gc ?_; intro ad cap) | (refine St.draw (id := 3) [(0, 1), (1, 1), (2, 3), (3, 3)] [2, 3] mixed (by kernel_rfl) ?_) | (refine St.draw (id := 9) [(0, 1), (1, 1), (2, 3), (3, 3)] [2, 3] mixed (by kernel_rfl) ?_) | (refine St.draw (id := 14) [(0, 1), (1, 1), (2, 3), (3, 3)] [2, 3] mixed (by kernel_rfl) ?_) | (refine St.draw (id := 18) [(0, 1), (1, 1), (2, 3), (3, 3)] [2, 3] mixed (by kernel_rfl) ?_) | (refine St.draw (id := 20) [(0, 1), (1, 0), (2, 1), (3, 0), (4, 0), (5, 0), (6, 1), (7, 0), (8, 3), (9, 3)] [8, 9] mixed (by kernel_rfl) ?_) | (refine St.draw (id := 24) [(0, 0), (1, 1), (2, 0), (3, 1), (4, 0), (7, 0), (5, 2), (6, 0), (8, 3), (9, 3)] [8, 9] mixed (by kernel_rfl) ?_) | (refine St.draw (id := 26) [(0, 1), (1, 1), (2, 3), (3, 3)] [2, 3] mixed (by kernel_rfl) ?_) | (refine St.draw (id := 27) [(0, 0), (1, 1), (2, 0), (3, 1), (4, 0), (5, 0), (6, 0), (9, 0), (10, 0), (7, 2), (8, 0), (11, 1), (12, 0), (13, 3), (14, 3)] [13, 14] mixed (by kernel_rfl) ?_) | (refine Ge ?_ ?_ <;> (intro h; try (exfalso; omega))) | fail)
  refine St.d1 Tryz.func12 ⟨_, ⟨_, H, rfl, hq', fun b l h => h, rfl⟩, ?_⟩
  exact Ent.go
theorem rdoes_4 (H : HProp) (xv : Value) (x : Tb) (key val : Nat) (hq : XuT H xv (some x)) (hl : x.pairs.length ≤ 1000) : Tri Tryz.prog 12 #[xv, bs (nmB 4), .int .u64 (key : Int), .int .u64 (val : Int)] [H] (rdoesQ H (doesM 4 (some x) key val)) := by
  have hq' := hq
  obtain ⟨lv, rfl, hsl⟩ := hq
  have hh := rfind_r H _ _ key hsl (by omega)
  obtain ⟨ad, cap, rfl, _⟩ := hsl
  unfold doesM nmB at *
  refine Tri.of_body (vs := [_, _, _, _]) Tryz.func12 rfl rfl fun w0 F => ?_
  repeat' (first | refine Ga ?_ | (refine Gb ?_; intro b) | (refine Gd ?_; intro g cap rest hcap) | (refine Gc ?_; intro ad cap) | (refine St.draw (id := 3) [(0, 1), (1, 1), (2, 3), (3, 3)] [2, 3] mixed (by kernel_rfl) ?_) | (refine St.draw (id := 9) [(0, 1), (1, 1), (2, 3), (3, 3)] [2, 3] mixed (by kernel_rfl) ?_) | (refine St.draw (id := 14) [(0, 1), (1, 1), (2, 3), (3, 3)] [2, 3] mixed (by kernel_rfl) ?_) | (refine St.draw (id := 18) [(0, 1), (1, 1), (2, 3), (3, 3)] [2, 3] mixed (by kernel_rfl) ?_) | (refine St.draw (id := 20) [(0, 1), (1, 0), (2, 1), (3, 0), (4, 0), (5, 0), (6, 1), (7, 0), (8, 3), (9, 3)] [8, 9] mixed (by kernel_rfl) ?_) | (refine St.draw (id := 24) [(0, 0), (1, 1), (2, 0), (3, 1), (4, 0), (7, 0), (5, 2), (6, 0), (8, 3), (9, 3)] [8, 9] mixed (by kernel_rfl) ?_) | (refine St.draw (id := 26) [(0, 1), (1, 1), (2, 3), (3, 3)] [2, 3] mixed (by kernel_rfl) ?_) | (refine St.draw (id := 27) [(0, 0), (1, 1), (2, 0), (3, 1), (4, 0), (5, 0), (6, 0), (9, 0), (10, 0), (7, 2), (8, 0), (11, 1), (12, 0), (13, 3), (14, 3)] [13, 14] mixed (by kernel_rfl) ?_)| refine Gl hh ?_ | (refine Ge ?_ ?_ <;> (intro h; try (exfalso; omega))) | fail)
  refine St.d1 Tryz.func12 ⟨_, ⟨_, H, rfl, hq', fun b l h => h, rfl⟩, ?_⟩
  exact Ent.go
theorem rdoes_5 (H : HProp) (xv : Value) (x : Tb) (key val : Nat) (hq : XuT H xv (some x)) (hl : x.pairs.length ≤ 1000) : Tri Tryz.prog 12 #[xv, bs (nmB 5), .int .u64 (key : Int), .int .u64 (val : Int)] [H] (rdoesQ H (doesM 5 (some x) key val)) := by
  have hg := rgives_r 5
  have hq' := hq
  obtain ⟨lv, rfl, hsl⟩ := hq
  have hh := rfind_r H _ _ key hsl (by omega)
  obtain ⟨ad, cap, rfl, _⟩ := hsl
  by_cases h0 : x.pairs.length = 0
  · have hd : doesM 5 (some x) key val = (none, 0, 0) := by unfold doesM; simp [h0]
    rw [hd]
    unfold nmB at *
    refine Tri.of_body (vs := [_, _, _, _]) Tryz.func12 rfl rfl fun w0 F => ?_
    repeat' (first | refine Ga ?_ | (refine Gb ?_; intro b) | (refine Gd ?_; intro g cap rest hcap) | (refine Gc ?_; intro ad cap) | (refine St.draw (id := 3) [(0, 1), (1, 1), (2, 3), (3, 3)] [2, 3] mixed (by kernel_rfl) ?_) | (refine St.draw (id := 9) [(0, 1), (1, 1), (2, 3), (3, 3)] [2, 3] mixed (by kernel_rfl) ?_) | (refine St.draw (id := 14) [(0, 1), (1, 1), (2, 3), (3, 3)] [2, 3] mixed (by kernel_rfl) ?_) | (refine St.draw (id := 18) [(0, 1), (1, 1), (2, 3), (3, 3)] [2, 3] mixed (by kernel_rfl) ?_) | (refine St.draw (id := 20) [(0, 1), (1, 0), (2, 1), (3, 0), (4, 0), (5, 0), (6, 1), (7, 0), (8, 3), (9, 3)] [8, 9] mixed (by kernel_rfl) ?_) | (refine St.draw (id := 24) [(0, 0), (1, 1), (2, 0), (3, 1), (4, 0), (7, 0), (5, 2), (6, 0), (8, 3), (9, 3)] [8, 9] mixed (by kernel_rfl) ?_) | (refine St.draw (id := 26) [(0, 1), (1, 1), (2, 3), (3, 3)] [2, 3] mixed (by kernel_rfl) ?_) | (refine St.draw (id := 27) [(0, 0), (1, 1), (2, 0), (3, 1), (4, 0), (5, 0), (6, 0), (9, 0), (10, 0), (7, 2), (8, 0), (11, 1), (12, 0), (13, 3), (14, 3)] [13, 14] mixed (by kernel_rfl) ?_)| refine Gl hh ?_ | refine Gl hg ?_ | (refine Ge ?_ ?_ <;> (intro h; try (exfalso; omega))) | fail)
    all_goals first | (exfalso; omega) | skip
    refine St.d1 Tryz.func12 ⟨_, ⟨_, H, rfl, rfl, fun b l h => h, rfl⟩, ?_⟩
    exact Ent.go
  · have hd : doesM 5 (some x) key val = (some x, 40, 5) := by unfold doesM; simp [h0]
    rw [hd]
    unfold nmB at *
    refine Tri.of_body (vs := [_, _, _, _]) Tryz.func12 rfl rfl fun w0 F => ?_
    repeat' (first | refine Ga ?_ | (refine Gb ?_; intro b) | (refine Gd ?_; intro g cap rest hcap) | (refine Gc ?_; intro ad cap) | (refine St.draw (id := 3) [(0, 1), (1, 1), (2, 3), (3, 3)] [2, 3] mixed (by kernel_rfl) ?_) | (refine St.draw (id := 9) [(0, 1), (1, 1), (2, 3), (3, 3)] [2, 3] mixed (by kernel_rfl) ?_) | (refine St.draw (id := 14) [(0, 1), (1, 1), (2, 3), (3, 3)] [2, 3] mixed (by kernel_rfl) ?_) | (refine St.draw (id := 18) [(0, 1), (1, 1), (2, 3), (3, 3)] [2, 3] mixed (by kernel_rfl) ?_) | (refine St.draw (id := 20) [(0, 1), (1, 0), (2, 1), (3, 0), (4, 0), (5, 0), (6, 1), (7, 0), (8, 3), (9, 3)] [8, 9] mixed (by kernel_rfl) ?_) | (refine St.draw (id := 24) [(0, 0), (1, 1), (2, 0), (3, 1), (4, 0), (7, 0), (5, 2), (6, 0), (8, 3), (9, 3)] [8, 9] mixed (by kernel_rfl) ?_) | (refine St.draw (id := 26) [(0, 1), (1, 1), (2, 3), (3, 3)] [2, 3] mixed (by kernel_rfl) ?_) | (refine St.draw (id := 27) [(0, 0), (1, 1), (2, 0), (3, 1), (4, 0), (5, 0), (6, 0), (9, 0), (10, 0), (7, 2), (8, 0), (11, 1), (12, 0), (13, 3), (14, 3)] [13, 14] mixed (by kernel_rfl) ?_)| refine Gl hh ?_ | refine Gl hg ?_ | (refine Ge ?_ ?_ <;> (intro h; try (exfalso; omega))) | fail)
    all_goals first | (exfalso; omega) | skip
    refine St.d1 Tryz.func12 ⟨_, ⟨_, H, rfl, hq', fun b l h => h, rfl⟩, ?_⟩
    exact Ent.go
theorem find_none {key : Nat} {l : Prs} (h : mget l key = none) : findI key l = -1 := by unfold findI; rw [h]; rfl
theorem find_some {key v : Nat} {l : Prs} (h : mget l key = some v) : findI key l = (idxP key l : Int) := by unfold findI; rw [h]; rfl
set_option maxHeartbeats 1000000 in
theorem rdoes_2 (H : HProp) (xv : Value) (x : Tb) (key val : Nat) (hq : XuT H xv (some x)) (hl : x.pairs.length ≤ 1000) : Tri Tryz.prog 12 #[xv, bs (nmB 2), .int .u64 (key : Int), .int .u64 (val : Int)] [H] (rdoesQ H (doesM 2 (some x) key val)) := by
  have hg := rgives_r 1
  have hq' := hq
  obtain ⟨lv, rfl, hsl⟩ := hq
  have hh := rfind_r H _ _ key hsl (by omega)
  obtain ⟨ad, cap, rfl, _, hls⟩ := hsl
  cases hm : mget x.pairs key with
  | none =>
    rw [find_none hm] at hh
    have hd : doesM 2 (some x) key val = (some x, 40, 1) := by unfold doesM; simp [hm]
    rw [hd]
    unfold nmB at *
    refine Tri.of_body (vs := [_, _, _, _]) Tryz.func12 rfl rfl fun w0 F => ?_
    repeat' (first | refine Ga ?_ | (refine Gb ?_; intro b) | (refine Gd ?_; intro g cap rest hcap) | (refine Gc ?_; intro ad cap) | (refine St.draw (id := 3) [(0, 1), (1, 1), (2, 3), (3, 3)] [2, 3] mixed (by kernel_rfl) ?_) | (refine St.draw (id := 9) [(0, 1), (1, 1), (2, 3), (3, 3)] [2, 3] mixed (by kernel_rfl) ?_) | (refine St.draw (id := 14) [(0, 1), (1, 1), (2, 3), (3, 3)] [2, 3] mixed (by kernel_rfl) ?_) | (refine St.draw (id := 18) [(0, 1), (1, 1), (2, 3), (3, 3)] [2, 3] mixed (by kernel_rfl) ?_) | (refine St.draw (id := 20) [(0, 1), (1, 0), (2, 1), (3, 0), (4, 0), (5, 0), (6, 1), (7, 0), (8, 3), (9, 3)] [8, 9] mixed (by kernel_rfl) ?_) | (refine St.draw (id := 24) [(0, 0), (1, 1), (2, 0), (3, 1), (4, 0), (7, 0), (5, 2), (6, 0), (8, 3), (9, 3)] [8, 9] mixed (by kernel_rfl) ?_) | (refine St.draw (id := 26) [(0, 1), (1, 1), (2, 3), (3, 3)] [2, 3] mixed (by kernel_rfl) ?_) | (refine St.draw (id := 27) [(0, 0), (1, 1), (2, 0), (3, 1), (4, 0), (5, 0), (6, 0), (9, 0), (10, 0), (7, 2), (8, 0), (11, 1), (12, 0), (13, 3), (14, 3)] [13, 14] mixed (by kernel_rfl) ?_)| refine Gl hh ?_ | refine Gl hg ?_ | (refine Ge ?_ ?_ <;> (intro h; try (exfalso; omega))) | fail)
    all_goals first | (exfalso; omega) | skip
    refine St.d1 Tryz.func12 ⟨_, ⟨_, H, rfl, hq', fun b l h => h, rfl⟩, ?_⟩
    exact Ent.go
  | some v =>
    rw [find_some hm] at hh
    obtain ⟨hi, hiv⟩ := find_spec hm
    have hd : doesM 2 (some x) key val = (some x, 0, v) := by unfold doesM; simp [hm]
    rw [hd]
    obtain ⟨bf, o, l, l1, rfl, hrd, hdr, htk⟩ := ListR.at (f := prV) (sz := 2) prV_len hls _ hi
    rw [hiv] at htk
    unfold prV at htk
    dsimp only at htk
    generalize idxP key x.pairs = i at *
    have hnth : NthN (o + (i : Int).toNat * 2 + 1) l (.int .u64 (v : Int)) := NthN.part (j := 1) hdr htk (NthN.of rfl)
    unfold nmB at *
    refine Tri.of_body (vs := [_, _, _, _]) Tryz.func12 rfl rfl fun w0 F => ?_
    repeat' (first | refine Ga ?_ | (refine Gb ?_; intro b) | (refine Gd ?_; intro g cap rest hcap) | (refine Gc ?_; intro ad cap) | (refine St.draw (id := 3) [(0, 1), (1, 1), (2, 3), (3, 3)] [2, 3] mixed (by kernel_rfl) ?_) | (refine St.draw (id := 9) [(0, 1), (1, 1), (2, 3), (3, 3)] [2, 3] mixed (by kernel_rfl) ?_) | (refine St.draw (id := 14) [(0, 1), (1, 1), (2, 3), (3, 3)] [2, 3] mixed (by kernel_rfl) ?_) | (refine St.draw (id := 18) [(0, 1), (1, 1), (2, 3), (3, 3)] [2, 3] mixed (by kernel_rfl) ?_) | (refine St.drawT (id := 20) [(1, 0), (3, 0)] (.pick [(0, 3)] (.pick [(2, 3), (4, 0), (5, 0)] (.pick [(6, 3), (7, 0), (8, 3), (9, 3)] .done (.pick [(8, 3), (6, 3), (7, 0), (9, 3)] .done .nope)) (.pick [(8, 3), (2, 3), (4, 0), (5, 0), (6, 3), (7, 0), (9, 3)] .done .nope)) (.pick [(2, 3), (4, 0), (5, 0)] (.pick [(0, 3)] (.pick [(6, 3), (7, 0), (8, 3), (9, 3)] .done (.pick [(8, 3), (6, 3), (7, 0), (9, 3)] .done .nope)) (.pick [(6, 3), (7, 0), (0, 3), (8, 3), (9, 3)] .done .nope)) .nope)) [0, 2, 6, 8, 9] mixed (by kernel_rfl) ?_) | (refine St.draw (id := 24) [(0, 0), (1, 1), (2, 0), (3, 1), (4, 0), (7, 0), (5, 2), (6, 0), (8, 3), (9, 3)] [8, 9] mixed (by kernel_rfl) ?_) | (refine St.draw (id := 26) [(0, 1), (1, 1), (2, 3), (3, 3)] [2, 3] mixed (by kernel_rfl) ?_) | (refine St.draw (id := 27) [(0, 0), (1, 1), (2, 0), (3, 1), (4, 0), (5, 0), (6, 0), (9, 0), (10, 0), (7, 2), (8, 0), (11, 1), (12, 0), (13, 3), (14, 3)] [13, 14] mixed (by kernel_rfl) ?_) | apply StD.pick | exact StD.nope | refine Gl hh ?_ | refine Gl hg ?_ | (refine Ge ?_ ?_ <;> (intro h; try (exfalso; omega))) | fail)
    iterate 3
      all_goals try (refine StD.ok3 rfl (OpOk.ofV OpV.go) rfl ?_; rintro _ _ ⟨rfl, rfl⟩)
      all_goals repeat' (first | refine Ga ?_ | (refine Gb ?_; intro b) | (refine Gd ?_; intro g cap rest hcap) | (refine Gc ?_; intro ad cap) | (refine St.draw (id := 3) [(0, 1), (1, 1), (2, 3), (3, 3)] [2, 3] mixed (by kernel_rfl) ?_) | (refine St.draw (id := 9) [(0, 1), (1, 1), (2, 3), (3, 3)] [2, 3] mixed (by kernel_rfl) ?_) | (refine St.draw (id := 14) [(0, 1), (1, 1), (2, 3), (3, 3)] [2, 3] mixed (by kernel_rfl) ?_) | (refine St.draw (id := 18) [(0, 1), (1, 1), (2, 3), (3, 3)] [2, 3] mixed (by kernel_rfl) ?_) | (refine St.drawT (id := 20) [(1, 0), (3, 0)] (.pick [(0, 3)] (.pick [(2, 3), (4, 0), (5, 0)] (.pick [(6, 3), (7, 0), (8, 3), (9, 3)] .done (.pick [(8, 3), (6, 3), (7, 0), (9, 3)] .done .nope)) (.pick [(8, 3), (2, 3), (4, 0), (5, 0), (6, 3), (7, 0), (9, 3)] .done .nope)) (.pick [(2, 3), (4, 0), (5, 0)] (.pick [(0, 3)] (.pick [(6, 3), (7, 0), (8, 3), (9, 3)] .done (.pick [(8, 3), (6, 3), (7, 0), (9, 3)] .done .nope)) (.pick [(6, 3), (7, 0), (0, 3), (8, 3), (9, 3)] .done .nope)) .nope)) [0, 2, 6, 8, 9] mixed (by kernel_rfl) ?_) | (refine St.draw (id := 24) [(0, 0), (1, 1), (2, 0), (3, 1), (4, 0), (7, 0), (5, 2), (6, 0), (8, 3), (9, 3)] [8, 9] mixed (by kernel_rfl) ?_) | (refine St.draw (id := 26) [(0, 1), (1, 1), (2, 3), (3, 3)] [2, 3] mixed (by kernel_rfl) ?_) | (refine St.draw (id := 27) [(0, 0), (1, 1), (2, 0), (3, 1), (4, 0), (5, 0), (6, 0), (9, 0), (10, 0), (7, 2), (8, 0), (11, 1), (12, 0), (13, 3), (14, 3)] [13, 14] mixed (by kernel_rfl) ?_) | apply StD.pick | exact StD.nope | refine Gl hh ?_ | refine Gl hg ?_ | (refine Ge ?_ ?_ <;> (intro h; try (exfalso; omega))) | fail)
    all_goals first | (exfalso; omega) | skip
    all_goals refine St.d1 Tryz.func12 ⟨_, ⟨_, H, rfl, hq', fun b l h => h, rfl⟩, Ent.go⟩
set_option maxHeartbeats 2000000 in
theorem rdoes_3 (H : HProp) (xv : Value) (x : Tb) (key val : Nat) (hq : XuT H xv (some x)) (hl : x.pairs.length ≤ 1000) : Tri Tryz.prog 12 #[xv, bs (nmB 3), .int .u64 (key : Int), .int .u64 (val : Int)] [H] (rdoesQ H (doesM 3 (some x) key val)) := by
  have hq' := hq
  obtain ⟨lv, rfl, hsl⟩ := hq
  have hh := rfind_r H _ _ key hsl (by omega)
  have hwo := rwithout_t H _ _ key hsl hl
  obtain ⟨ad0, cap0, rfl, _, hls⟩ := hsl
  cases hm : mget x.pairs key with
  | none =>
    rw [find_none hm] at hh
    have hd : doesM 3 (some x) key val = (some x, 0, 0) := by unfold doesM; simp [hm]
    rw [hd]
    unfold nmB at *
    refine Tri.of_body (vs := [_, _, _, _]) Tryz.func12 rfl rfl fun w0 F => ?_
    repeat' (first | refine Ga ?_ | (refine Gb ?_; intro b) | (refine Gd ?_; intro g cap rest hcap) | (refine Gc ?_; intro ad cap) | (refine St.draw (id := 3) [(0, 1), (1, 1), (2, 3), (3, 3)] [2, 3] mixed (by kernel_rfl) ?_) | (refine St.draw (id := 9) [(0, 1), (1, 1), (2, 3), (3, 3)] [2, 3] mixed (by kernel_rfl) ?_) | (refine St.draw (id := 14) [(0, 1), (1, 1), (2, 3), (3, 3)] [2, 3] mixed (by kernel_rfl) ?_) | (refine St.draw (id := 18) [(0, 1), (1, 1), (2, 3), (3, 3)] [2, 3] mixed (by kernel_rfl) ?_) | (refine St.draw (id := 20) [(0, 1), (1, 0), (2, 1), (3, 0), (4, 0), (5, 0), (6, 1), (7, 0), (8, 3), (9, 3)] [8, 9] mixed (by kernel_rfl) ?_) | (refine St.draw (id := 24) [(0, 0), (1, 1), (2, 0), (3, 1), (4, 0), (7, 0), (5, 2), (6, 0), (8, 3), (9, 3)] [8, 9] mixed (by kernel_rfl) ?_) | (refine St.draw (id := 26) [(0, 1), (1, 1), (2, 3), (3, 3)] [2, 3] mixed (by kernel_rfl) ?_) | (refine St.draw (id := 27) [(0, 0), (1, 1), (2, 0), (3, 1), (4, 0), (5, 0), (6, 0), (9, 0), (10, 0), (7, 2), (8, 0), (11, 1), (12, 0), (13, 3), (14, 3)] [13, 14] mixed (by kernel_rfl) ?_)| refine Gl hh ?_ | (refine Ge ?_ ?_ <;> (intro h; try (exfalso; omega))) | fail)
    all_goals first | (exfalso; omega) | skip
    refine St.d1 Tryz.func12 ⟨_, ⟨_, H, rfl, hq', fun b l h => h, rfl⟩, ?_⟩
    exact Ent.go
  | some v =>
    rw [find_some hm] at hh
    have hd : doesM 3 (some x) key val = (some ⟨x.cap, withoutP key x.pairs⟩, 0, 1) := by unfold doesM; simp [hm]
    rw [hd]
    generalize idxP key x.pairs = i at *
    unfold nmB rdoesQ at *
    dsimp only
    refine Tri.of_body (vs := [_, _, _, _]) Tryz.func12 rfl rfl fun w0 F => ?_
    repeat' (first | refine Ga ?_ | (refine Gb ?_; intro b) | (refine Gd ?_; intro g cap rest hcap) | (refine Gc ?_; intro ad cap) | (refine St.draw (id := 3) [(0, 1), (1, 1), (2, 3), (3, 3)] [2, 3] mixed (by kernel_rfl) ?_) | (refine St.draw (id := 9) [(0, 1), (1, 1), (2, 3), (3, 3)] [2, 3] mixed (by kernel_rfl) ?_) | (refine St.draw (id := 14) [(0, 1), (1, 1), (2, 3), (3, 3)] [2, 3] mixed (by kernel_rfl) ?_) | (refine St.draw (id := 18) [(0, 1), (1, 1), (2, 3), (3, 3)] [2, 3] mixed (by kernel_rfl) ?_) | (refine St.draw (id := 20) [(0, 1), (1, 0), (2, 1), (3, 0), (4, 0), (5, 0), (6, 1), (7, 0), (8, 3), (9, 3)] [8, 9] mixed (by kernel_rfl) ?_) | (refine St.draw (id := 24) [(0, 0), (1, 1), (2, 0), (3, 1), (4, 0), (7, 0), (5, 2), (6, 0), (8, 3), (9, 3)] [8, 9] mixed (by kernel_rfl) ?_) | (refine St.draw (id := 26) [(0, 1), (1, 1), (2, 3), (3, 3)] [2, 3] mixed (by kernel_rfl) ?_) | (refine St.draw (id := 27) [(0, 0), (1, 1), (2, 0), (3, 1), (4, 0), (5, 0), (6, 0), (9, 0), (10, 0), (7, 2), (8, 0), (11, 1), (12, 0), (13, 3), (14, 3)] [13, 14] mixed (by kernel_rfl) ?_)| refine Gl hh ?_ | (refine Gt hwo ?_; rintro _ _ ⟨ad, cap, rfl, rfl⟩) | (refine Gu hwo ?_; rintro _ _ ⟨ad, cap, rfl, rfl⟩; refine ⟨Ent.go, ?_⟩) | (refine Ge ?_ ?_ <;> (intro h; try (exfalso; omega))) | fail)
    all_goals first | (exfalso; omega) | skip
    all_goals (
      refine St.conv ?_ (Sub.refl _) (Ent.of_take (p := Row (.slice ad (withoutP key x.pairs).length cap) 78 2 (withoutP key x.pairs).length ((withoutP key x.pairs).flatMap prV)) Take.go)
      refine St.rowL rfl fun R hR => ?_
      refine St.d1 Tryz.func12 ⟨_, ⟨_, star [R, H], rfl, ⟨_, rfl, hR.weak fun b l h => RdC.star (.head _) h⟩, fun b l h => RdC.star (.tail _ (.head _)) h, rfl⟩, ?_⟩
      refine Ent.trans ?_ (Ent.star_in _)
      exact Ent.go)
set_option maxHeartbeats 2000000 in
theorem rdoes_1 (H : HProp) (xv : Value) (x : Tb) (key val : Nat) (hq : XuT H xv (some x)) (hl : x.pairs.length ≤ 1000) : Tri Tryz.prog 12 #[xv, bs (nmB 1), .int .u64 (key : Int), .int .u64 (val : Int)] [H] (rdoesQ H (doesM 1 (some x) key val)) := by
  have hg := rgives_r 2
  have hq' := hq
  obtain ⟨lv, rfl, hsl⟩ := hq
  have hh := rfind_r H _ _ key hsl (by omega)
  have hwi := rwith_t H _ _ key val hsl hl
  obtain ⟨ad0, cap0, rfl, _, hls⟩ := hsl
  cases hm : mget x.pairs key with
  | none =>
    rw [find_none hm] at hh
    by_cases hc : x.cap ≤ x.pairs.length
    · have hd : doesM 1 (some x) key val = (some x, 40, 2) := by unfold doesM; simp [hm, hc]
      rw [hd]
      unfold nmB at *
      refine Tri.of_body (vs := [_, _, _, _]) Tryz.func12 rfl rfl fun w0 F => ?_
      repeat' (first | refine Ga ?_ | (refine Gb ?_; intro b) | (refine Gd ?_; intro g cap rest hcap) | (refine Gc ?_; intro ad cap) | (refine St.draw (id := 3) [(0, 1), (1, 1), (2, 3), (3, 3)] [2, 3] mixed (by kernel_rfl) ?_) | (refine St.draw (id := 9) [(0, 1), (1, 1), (2, 3), (3, 3)] [2, 3] mixed (by kernel_rfl) ?_) | (refine St.draw (id := 14) [(0, 1), (1, 1), (2, 3), (3, 3)] [2, 3] mixed (by kernel_rfl) ?_) | (refine St.draw (id := 18) [(0, 1), (1, 1), (2, 3), (3, 3)] [2, 3] mixed (by kernel_rfl) ?_) | (refine St.draw (id := 20) [(0, 1), (1, 0), (2, 1), (3, 0), (4, 0), (5, 0), (6, 1), (7, 0), (8, 3), (9, 3)] [8, 9] mixed (by kernel_rfl) ?_) | (refine St.draw (id := 24) [(0, 0), (1, 1), (2, 0), (3, 1), (4, 0), (7, 0), (5, 2), (6, 0), (8, 3), (9, 3)] [8, 9] mixed (by kernel_rfl) ?_) | (refine St.draw (id := 26) [(0, 1), (1, 1), (2, 3), (3, 3)] [2, 3] mixed (by kernel_rfl) ?_) | (refine St.draw (id := 27) [(0, 0), (1, 1), (2, 0), (3, 1), (4, 0), (5, 0), (6, 0), (9, 0), (10, 0), (7, 2), (8, 0), (11, 1), (12, 0), (13, 3), (14, 3)] [13, 14] mixed (by kernel_rfl) ?_)| refine Gl hh ?_ | refine Gl hg ?_ | (refine Ge ?_ ?_ <;> (intro h; try (exfalso; omega))) | fail)
      all_goals first | (exfalso; omega) | skip
      refine St.d1 Tryz.func12 ⟨_, ⟨_, H, rfl, hq', fun b l h => h, rfl⟩, ?_⟩
      exact Ent.go
    · have hbt := rbit_r false
      have hd : doesM 1 (some x) key val = (some ⟨x.cap, withP key val x.pairs⟩, 0, 0) := by unfold doesM; simp [hm]; omega
      rw [hd]
      unfold nmB rdoesQ at *
      dsimp only
      refine Tri.of_body (vs := [_, _, _, _]) Tryz.func12 rfl rfl fun w0 F => ?_
      repeat' (first | refine Ga ?_ | (refine Gb ?_; intro b) | (refine Gd ?_; intro g cap rest hcap) | (refine Gc ?_; intro ad cap) | (refine St.draw (id := 3) [(0, 1), (1, 1), (2, 3), (3, 3)] [2, 3] mixed (by kernel_rfl) ?_) | (refine St.draw (id := 9) [(0, 1), (1, 1), (2, 3), (3, 3)] [2, 3] mixed (by kernel_rfl) ?_) | (refine St.draw (id := 14) [(0, 1), (1, 1), (2, 3), (3, 3)] [2, 3] mixed (by kernel_rfl) ?_) | (refine St.draw (id := 18) [(0, 1), (1, 1), (2, 3), (3, 3)] [2, 3] mixed (by kernel_rfl) ?_) | (refine St.draw (id := 20) [(0, 1), (1, 0), (2, 1), (3, 0), (4, 0), (5, 0), (6, 1), (7, 0), (8, 3), (9, 3)] [8, 9] mixed (by kernel_rfl) ?_) | (refine St.draw (id := 24) [(0, 0), (1, 1), (2, 0), (3, 1), (4, 0), (7, 0), (5, 2), (6, 0), (8, 3), (9, 3)] [8, 9] mixed (by kernel_rfl) ?_) | (refine St.draw (id := 26) [(0, 1), (1, 1), (2, 3), (3, 3)] [2, 3] mixed (by kernel_rfl) ?_) | (refine St.draw (id := 27) [(0, 0), (1, 1), (2, 0), (3, 1), (4, 0), (5, 0), (6, 0), (9, 0), (10, 0), (7, 2), (8, 0), (11, 1), (12, 0), (13, 3), (14, 3)] [13, 14] mixed (by kernel_rfl) ?_)| refine Gl hh ?_ | refine Gl hg ?_ | refine Gl hbt ?_ | (refine Gt hwi ?_; rintro _ _ ⟨ad, cap, rfl, rfl⟩) | (refine Gu hwi ?_; rintro _ _ ⟨ad, cap, rfl, rfl⟩; refine ⟨Ent.go, ?_⟩) | (refine Ge ?_ ?_ <;> (intro h; try (exfalso; omega))) | fail)
      all_goals first | (exfalso; omega) | skip
      all_goals (
        refine St.conv ?_ (Sub.refl _) (Ent.of_take (p := Row (.slice ad (withP key val x.pairs).length cap) 78 2 (withP key val x.pairs).length ((withP key val x.pairs).flatMap prV)) Take.go)
        refine St.rowL rfl fun R hR => ?_
        refine St.d1 Tryz.func12 ⟨_, ⟨_, star [R, H], rfl, ⟨_, rfl, hR.weak fun b l h => RdC.star (.head _) h⟩, fun b l h => RdC.star (.tail _ (.head _)) h, rfl⟩, ?_⟩
        refine Ent.trans ?_ (Ent.star_in _)
        exact Ent.go)
  | some v =>
    rw [find_some hm] at hh
    have hbt := rbit_r true
    have hd : doesM 1 (some x) key val = (some ⟨x.cap, withP key val x.pairs⟩, 0, 1) := by unfold doesM; simp [hm]
    rw [hd]
    generalize idxP key x.pairs = i at *
    have hi0 : (0 : Int) ≤ (i : Int) := by omega
    have hbt2 : RTri Tryz.prog 33 #[.bool (decide ((0 : Int) ≤ (i : Int)))] [] (.int .u64 1) := by rw [decide_eq_true hi0]; exact hbt
    unfold nmB rdoesQ at *
    dsimp only
    refine Tri.of_body (vs := [_, _, _, _]) Tryz.func12 rfl rfl fun w0 F => ?_
    repeat' (first | refine Ga ?_ | (refine Gb ?_; intro b) | (refine Gd ?_; intro g cap rest hcap) | (refine Gc ?_; intro ad cap) | (refine St.draw (id := 3) [(0, 1), (1, 1), (2, 3), (3, 3)] [2, 3] mixed (by kernel_rfl) ?_) | (refine St.draw (id := 9) [(0, 1), (1, 1), (2, 3), (3, 3)] [2, 3] mixed (by kernel_rfl) ?_) | (refine St.draw (id := 14) [(0, 1), (1, 1), (2, 3), (3, 3)] [2, 3] mixed (by kernel_rfl) ?_) | (refine St.draw (id := 18) [(0, 1), (1, 1), (2, 3), (3, 3)] [2, 3] mixed (by kernel_rfl) ?_) | (refine St.draw (id := 20) [(0, 1), (1, 0), (2, 1), (3, 0), (4, 0), (5, 0), (6, 1), (7, 0), (8, 3), (9, 3)] [8, 9] mixed (by kernel_rfl) ?_) | (refine St.draw (id := 24) [(0, 0), (1, 1), (2, 0), (3, 1), (4, 0), (7, 0), (5, 2), (6, 0), (8, 3), (9, 3)] [8, 9] mixed (by kernel_rfl) ?_) | (refine St.draw (id := 26) [(0, 1), (1, 1), (2, 3), (3, 3)] [2, 3] mixed (by kernel_rfl) ?_) | (refine St.draw (id := 27) [(0, 0), (1, 1), (2, 0), (3, 1), (4, 0), (5, 0), (6, 0), (9, 0), (10, 0), (7, 2), (8, 0), (11, 1), (12, 0), (13, 3), (14, 3)] [13, 14] mixed (by kernel_rfl) ?_)| refine Gl hh ?_ | refine Gl hg ?_ | refine Gl hbt ?_ | refine Gl hbt2 ?_ | (refine Gt hwi ?_; rintro _ _ ⟨ad, cap, rfl, rfl⟩) | (refine Gu hwi ?_; rintro _ _ ⟨ad, cap, rfl, rfl⟩; refine ⟨Ent.go, ?_⟩) | (refine Ge ?_ ?_ <;> (intro h; try (exfalso; omega))) | fail)
    all_goals first | (exfalso; omega) | skip
    all_goals (
      refine St.conv ?_ (Sub.refl _) (Ent.of_take (p := Row (.slice ad (withP key val x.pairs).length cap) 78 2 (withP key val x.pairs).length ((withP key val x.pairs).flatMap prV)) Take.go)
      refine St.rowL rfl fun R hR => ?_
      refine St.d1 Tryz.func12 ⟨_, ⟨_, star [R, H], rfl, ⟨_, rfl, hR.weak fun b l h => RdC.star (.head _) h⟩, fun b l h => RdC.star (.tail _ (.head _)) h, rfl⟩, ?_⟩
      refine Ent.trans ?_ (Ent.star_in _)
      exact Ent.go)
theorem rdoes_t (k : Nat) (hk : k ≤ 6) (H : HProp) (xv : Value) (q : Option Tb) (key val : Nat) (hq : XuT H xv q) (hl : ∀ x, q = some x → x.pairs.length ≤ 1000) : Tri Tryz.prog 12 #[xv, bs (nmB k), .int .u64 (key : Int), .int .u64 (val : Int)] [H] (rdoesQ H (doesM k q key val)) := by
  cases q with
  | none =>
    have hq' : xv = .agg ⟨[.bool false, .int .u64 0, .slice none 0 0]⟩ := hq
    rcases (by omega : k = 0 ∨ k = 1 ∨ k = 2 ∨ k = 3 ∨ k = 4 ∨ k = 5 ∨ k = 6) with rfl | rfl | rfl | rfl | rfl | rfl | rfl
    · exact rdoes_0 H xv none key val hq hl
    all_goals rw [hq']
    · exact rdoes_1n H key val
    · exact rdoes_2n H key val
    · exact rdoes_3n H key val
    · exact rdoes_4n H key val
    · exact rdoes_5n H key val
    · exact rdoes_6n H key val
  | some x =>
    have hx := hl x rfl
    rcases (by omega : k = 0 ∨ k = 1 ∨ k = 2 ∨ k = 3 ∨ k = 4 ∨ k = 5 ∨ k = 6) with rfl | rfl | rfl | rfl | rfl | rfl | rfl
    · exact rdoes_0 H xv (some x) key val hq hl
    · exact rdoes_1 H xv x key val hq hx
    · exact rdoes_2 H xv x key val hq hx
    · exact rdoes_3 H xv x key val hq hx
    · exact rdoes_4 H xv x key val hq hx
    · exact rdoes_5 H xv x key val hq hx
    · exact rdoes_6 H xv x key val hq hx
end Go.Proofs.YthbignifgljphaaGreatDoor
