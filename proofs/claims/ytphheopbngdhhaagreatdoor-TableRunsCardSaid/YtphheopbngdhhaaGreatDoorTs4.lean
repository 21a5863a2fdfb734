/-
  Package tumblerref22: Does.
-/
import Derived.Test.YtphheopbngdhhaaGreatDoorTs3
namespace Go.Proofs.YtphheopbngdhhaaGreatDoor
set_option maxRecDepth 100000
theorem OpOk.ofV {P : Program} {n' : Fi} {op : Op} {ty : TypeId} {E : Env} {L : List HProp} {v : Value} (h : OpV P n' op ty E L v) : OpOk P n' op ty E L (fun v' L' => v' = v ∧ L' = L) := by
  unfold OpV at h
  unfold OpOk
  exact fun d ps af g a w ha X hs => ⟨v, w, L, .inl (h d ps af g a w ha hs.head_of), ⟨rfl, rfl⟩, hs, Old.refl w⟩
theorem rgives_r (w : Nat) : RTri Tryz.prog 32 #[.int .u64 (w : Int)] [] (.agg ⟨[.int .i64 40, .int .u64 (w : Int)]⟩) := by
  apply RTri.of_pure
  refine Tri.of_body (vs := [_]) Tryz.func32 rfl rfl fun w0 F => ?_
  repeat' (first | refine Ga ?_ | (refine Gb ?_; intro b) | (refine Gd ?_; intro g cap rest hcap) | (refine Gc ?_; intro ad cap)  | (refine Ge ?_ ?_ <;> (intro h; try (exfalso; omega))) | fail)
  refine St.d1 Tryz.func32 ⟨_, ⟨rfl, rfl⟩, Ent.go⟩
theorem rbit_r (b : Bool) : RTri Tryz.prog 36 #[.bool b] [] (.int .u64 ((if b then 1 else 0 : Nat) : Int)) := by
  apply RTri.of_pure
  cases b
  · refine Tri.of_body (vs := [_]) Tryz.func36 rfl rfl fun w0 F => ?_
    repeat' (first | refine Ga ?_ | (refine Gb ?_; intro b) | (refine Gd ?_; intro g cap rest hcap) | (refine Gc ?_; intro ad cap)  | (refine Ge ?_ ?_ <;> (intro h; try (exfalso; omega))) | fail)
    refine St.d1 Tryz.func36 ⟨_, ⟨rfl, rfl⟩, Ent.go⟩
  · refine Tri.of_body (vs := [_]) Tryz.func36 rfl rfl fun w0 F => ?_
    repeat' (first | refine Ga ?_ | (refine Gb ?_; intro b) | (refine Gd ?_; intro g cap rest hcap) | (refine Gc ?_; intro ad cap)  | (refine Ge ?_ ?_ <;> (intro h; try (exfalso; omega))) | fail)
    refine St.d1 Tryz.func36 ⟨_, ⟨rfl, rfl⟩, Ent.go⟩
/-- the document's map -/
def XuT (q : HProp) (v : Value) : Option Tb → Prop
  | none => v = .agg ⟨[.bool false, .int .u64 0, .slice none 0 0]⟩
  | some x => ∃ lv, v = .agg ⟨[.bool true, .int .u64 (x.cap : Int), lv]⟩ ∧ ListR prV q lv x.pairs
theorem XuT.weak {q q' : HProp} {v : Value} {x : Option Tb} (h : XuT q v x) (hq : ∀ b l, RdC q b l → RdC q' b l) : XuT q' v x := by
  cases x with
  | none => exact h
  | some x =>
    obtain ⟨lv, h1, h3⟩ := h
    exact ⟨lv, h1, h3.weak hq⟩
def rdoesQ (H : HProp) (m : Option Tb × Int × Nat) (v : Value) (L : List HProp) : Prop :=
  ∃ xv' H', v = .tuple ⟨[xv', .agg ⟨[.int .i64 m.2.1, .int .u64 (m.2.2 : Int)]⟩]⟩ ∧ XuT H' xv' m.1 ∧ (∀ b l, RdC H b l → RdC H' b l) ∧ L = [H']
theorem rdoes_0 (H : HProp) (xv : Value) (q : Option Tb) (key val : Nat) (hq : XuT H xv q) (hl : ∀ x, q = some x → x.pairs.length ≤ 1000) : Tri Tryz.prog 11 #[xv, bs (nmB 0), .int .u64 (key : Int), .int .u64 (val : Int)] [H] (rdoesQ H (doesM 0 q key val)) := by
  have hg := rgives_r 4
  unfold doesM nmB
  cases q with
  | none =>
    have hq : xv = .agg ⟨[.bool false, .int .u64 0, .slice none 0 0]⟩ := hq
    subst hq
    dsimp only
    refine Tri.of_body (vs := [_, _, _, _]) Tryz.func11 rfl rfl fun w0 F => ?_
    repeat' (first | refine Ga ?_ | (refine Gb ?_; intro b) | (refine Gd ?_; intro g cap rest hcap) | (refine Gc ?_; intro ad cap) | (refine St.draw (id := 3) [(0, 1), (1, 1), (2, 3), (3, 3)] [2, 3] mixed (by kernel_rfl) ?_) | (refine St.draw (id := 9) [(0, 1), (1, 1), (2, 3), (3, 3)] [2, 3] mixed (by kernel_rfl) ?_) | (refine St.draw (id := 14) [(0, 1), (1, 1), (2, 3), (3, 3)] [2, 3] mixed (by kernel_rfl) ?_) | (refine St.draw (id := 18) [(0, 1), (1, 1), (2, 3), (3, 3)] [2, 3] mixed (by kernel_rfl) ?_) | (refine St.draw (id := 20) [(0, 1), (1, 0), (2, 1), (3, 0), (4, 0), (5, 0), (6, 1), (7, 0), (8, 3), (9, 3)] [8, 9] mixed (by kernel_rfl) ?_) | (refine St.draw (id := 24) [(0, 0), (1, 1), (2, 0), (3, 1), (4, 0), (7, 0), (5, 2), (6, 0), (8, 3), (9, 3)] [8, 9] mixed (by kernel_rfl) ?_) | (refine St.draw (id := 26) [(0, 1), (1, 1), (2, 3), (3, 3)] [2, 3] mixed (by kernel_rfl) ?_) | (refine St.draw (id := 27) [(0, 0), (1, 1), (2, 0), (3, 1), (4, 0), (5, 0), (6, 0), (9, 0), (10, 0), (7, 2), (8, 0), (11, 1), (12, 0), (13, 3), (14, 3)] [13, 14] mixed (by kernel_rfl) ?_)| refine Gl hg ?_ | (refine Ge ?_ ?_ <;> (intro h; try (exfalso; omega))) | fail)
    refine St.d1 Tryz.func11 ⟨_, ⟨_, H, rfl, ⟨_, rfl, ⟨none, 0, rfl, Nat.le_refl _, .inl rfl⟩⟩, fun b l h => h, rfl⟩, ?_⟩
    exact Ent.go
  | some x =>
    have hx := hl x rfl
    have hq' := hq
    obtain ⟨lv, rfl, hsl⟩ := hq
    obtain ⟨ad, cap, rfl, _⟩ := hsl
    dsimp only
    refine Tri.of_body (vs := [_, _, _, _]) Tryz.func11 rfl rfl fun w0 F => ?_
    repeat' (first | refine Ga ?_ | (refine Gb ?_; intro b) | (refine Gd ?_; intro g cap rest hcap) | (refine Gc ?_; intro ad cap) | (refine St.draw (id := 3) [(0, 1), (1, 1), (2, 3), (3, 3)] [2, 3] mixed (by kernel_rfl) ?_) | (refine St.draw (id := 9) [(0, 1), (1, 1), (2, 3), (3, 3)] [2, 3] mixed (by kernel_rfl) ?_) | (refine St.draw (id := 14) [(0, 1), (1, 1), (2, 3), (3, 3)] [2, 3] mixed (by kernel_rfl) ?_) | (refine St.draw (id := 18) [(0, 1), (1, 1), (2, 3), (3, 3)] [2, 3] mixed (by kernel_rfl) ?_) | (refine St.draw (id := 20) [(0, 1), (1, 0), (2, 1), (3, 0), (4, 0), (5, 0), (6, 1), (7, 0), (8, 3), (9, 3)] [8, 9] mixed (by kernel_rfl) ?_) | (refine St.draw (id := 24) [(0, 0), (1, 1), (2, 0), (3, 1), (4, 0), (7, 0), (5, 2), (6, 0), (8, 3), (9, 3)] [8, 9] mixed (by kernel_rfl) ?_) | (refine St.draw (id := 26) [(0, 1), (1, 1), (2, 3), (3, 3)] [2, 3] mixed (by kernel_rfl) ?_) | (refine St.draw (id := 27) [(0, 0), (1, 1), (2, 0), (3, 1), (4, 0), (5, 0), (6, 0), (9, 0), (10, 0), (7, 2), (8, 0), (11, 1), (12, 0), (13, 3), (14, 3)] [13, 14] mixed (by kernel_rfl) ?_)| refine Gl hg ?_ | (refine Ge ?_ ?_ <;> (intro h; try (exfalso; omega))) | fail)
    refine St.d1 Tryz.func11 ⟨_, ⟨_, H, rfl, hq', fun b l h => h, rfl⟩, ?_⟩
    exact Ent.go
theorem rdoes_1n (H : HProp) (key val : Nat) : Tri Tryz.prog 11 #[.agg ⟨[.bool false, .int .u64 0, .slice none 0 0]⟩, bs (nmB 1), .int .u64 (key : Int), .int .u64 (val : Int)] [H] (rdoesQ H (doesM 1 none key val)) := by
  have hg := rgives_r 3
  unfold doesM nmB at *
  refine Tri.of_body (vs := [_, _, _, _]) Tryz.func11 rfl rfl fun w0 F => ?_
  repeat' (first | refine Ga ?_ | (refine Gb ?_; intro b) | (refine Gd ?_; intro g cap rest hcap) | (refine Gc ?_; intro ad cap) | (refine St.draw (id := 3) [(0, 1), (1, 1), (2, 3), (3, 3)] [2, 3] mixed (by kernel_rfl) ?_) | (refine St.draw (id := 9) [(0, 1), (1, 1), (2, 3), (3, 3)] [2, 3] mixed (by kernel_rfl) ?_) | (refine St.draw (id := 14) [(0, 1), (1, 1), (2, 3), (3, 3)] [2, 3] mixed (by kernel_rfl) ?_) | (refine St.draw (id := 18) [(0, 1), (1, 1), (2, 3), (3, 3)] [2, 3] mixed (by kernel_rfl) ?_) | (refine St.draw (id := 20) [(0, 1), (1, 0), (2, 1), (3, 0), (4, 0), (5, 0), (6, 1), (7, 0), (8, 3), (9, 3)] [8, 9] mixed (by kernel_rfl) ?_) | (refine St.draw (id := 24) [(0, 0), (1, 1), (2, 0), (3, 1), (4, 0), (7, 0), (5, 2), (6, 0), (8, 3), (9, 3)] [8, 9] mixed (by kernel_rfl) ?_) | (refine St.draw (id := 26) [(0, 1), (1, 1), (2, 3), (3, 3)] [2, 3] mixed (by kernel_rfl) ?_) | (refine St.draw (id := 27) [(0, 0), (1, 1), (2, 0), (3, 1), (4, 0), (5, 0), (6, 0), (9, 0), (10, 0), (7, 2), (8, 0), (11, 1), (12, 0), (13, 3), (14, 3)] [13, 14] mixed (by kernel_rfl) ?_)| refine Gl hg ?_ | (refine Ge ?_ ?_ <;> (intro h; try (exfalso; omega))) | fail)
  refine St.d1 Tryz.func11 ⟨_, ⟨_, H, rfl, rfl, fun b l h => h, rfl⟩, ?_⟩
  exact Ent.go
theorem rdoes_2n (H : HProp) (key val : Nat) : Tri Tryz.prog 11 #[.agg ⟨[.bool false, .int .u64 0, .slice none 0 0]⟩, bs (nmB 2), .int .u64 (key : Int), .int .u64 (val : Int)] [H] (rdoesQ H (doesM 2 none key val)) := by
  have hg := rgives_r 3
  unfold doesM nmB at *
  refine Tri.of_body (vs := [_, _, _, _]) Tryz.func11 rfl rfl fun w0 F => ?_
  repeat' (first | refine Ga ?_ | (refine Gb ?_; intro b) | (refine Gd ?_; intro g cap rest hcap) | (refine Gc ?_; intro ad cap) | (refine St.draw (id := 3) [(0, 1), (1, 1), (2, 3), (3, 3)] [2, 3] mixed (by kernel_rfl) ?_) | (refine St.draw (id := 9) [(0, 1), (1, 1), (2, 3), (3, 3)] [2, 3] mixed (by kernel_rfl) ?_) | (refine St.draw (id := 14) [(0, 1), (1, 1), (2, 3), (3, 3)] [2, 3] mixed (by kernel_rfl) ?_) | (refine St.draw (id := 18) [(0, 1), (1, 1), (2, 3), (3, 3)] [2, 3] mixed (by kernel_rfl) ?_) | (refine St.draw (id := 20) [(0, 1), (1, 0), (2, 1), (3, 0), (4, 0), (5, 0), (6, 1), (7, 0), (8, 3), (9, 3)] [8, 9] mixed (by kernel_rfl) ?_) | (refine St.draw (id := 24) [(0, 0), (1, 1), (2, 0), (3, 1), (4, 0), (7, 0), (5, 2), (6, 0), (8, 3), (9, 3)] [8, 9] mixed (by kernel_rfl) ?_) | (refine St.draw (id := 26) [(0, 1), (1, 1), (2, 3), (3, 3)] [2, 3] mixed (by kernel_rfl) ?_) | (refine St.draw (id := 27) [(0, 0), (1, 1), (2, 0), (3, 1), (4, 0), (5, 0), (6, 0), (9, 0), (10, 0), (7, 2), (8, 0), (11, 1), (12, 0), (13, 3), (14, 3)] [13, 14] mixed (by kernel_rfl) ?_)| refine Gl hg ?_ | (refine Ge ?_ ?_ <;> (intro h; try (exfalso; omega))) | fail)
  refine St.d1 Tryz.func11 ⟨_, ⟨_, H, rfl, rfl, fun b l h => h, rfl⟩, ?_⟩
  exact Ent.go
theorem rdoes_3n (H : HProp) (key val : Nat) : Tri Tryz.prog 11 #[.agg ⟨[.bool false, .int .u64 0, .slice none 0 0]⟩, bs (nmB 3), .int .u64 (key : Int), .int .u64 (val : Int)] [H] (rdoesQ H (doesM 3 none key val)) := by
  have hg := rgives_r 3
  unfold doesM nmB at *
  refine Tri.of_body (vs := [_, _, _, _]) Tryz.func11 rfl rfl fun w0 F => ?_
  repeat' (first | refine Ga ?_ | (refine Gb ?_; intro b) | (refine Gd ?_; intro g cap rest hcap) | (refine Gc ?_; intro ad cap) | (refine St.draw (id := 3) [(0, 1), (1, 1), (2, 3), (3, 3)] [2, 3] mixed (by kernel_rfl) ?_) | (refine St.draw (id := 9) [(0, 1), (1, 1), (2, 3), (3, 3)] [2, 3] mixed (by kernel_rfl) ?_) | (refine St.draw (id := 14) [(0, 1), (1, 1), (2, 3), (3, 3)] [2, 3] mixed (by kernel_rfl) ?_) | (refine St.draw (id := 18) [(0, 1), (1, 1), (2, 3), (3, 3)] [2, 3] mixed (by kernel_rfl) ?_) | (refine St.draw (id := 20) [(0, 1), (1, 0), (2, 1), (3, 0), (4, 0), (5, 0), (6, 1), (7, 0), (8, 3), (9, 3)] [8, 9] mixed (by kernel_rfl) ?_) | (refine St.draw (id := 24) [(0, 0), (1, 1), (2, 0), (3, 1), (4, 0), (7, 0), (5, 2), (6, 0), (8, 3), (9, 3)] [8, 9] mixed (by kernel_rfl) ?_) | (refine St.draw (id := 26) [(0, 1), (1, 1), (2, 3), (3, 3)] [2, 3] mixed (by kernel_rfl) ?_) | (refine St.draw (id := 27) [(0, 0), (1, 1), (2, 0), (3, 1), (4, 0), (5, 0), (6, 0), (9, 0), (10, 0), (7, 2), (8, 0), (11, 1), (12, 0), (13, 3), (14, 3)] [13, 14] mixed (by kernel_rfl) ?_)| refine Gl hg ?_ | (refine Ge ?_ ?_ <;> (intro h; try (exfalso; omega))) | fail)
  refine St.d1 Tryz.func11 ⟨_, ⟨_, H, rfl, rfl, fun b l h => h, rfl⟩, ?_⟩
  exact Ent.go
theorem rdoes_4n (H : HProp) (key val : Nat) : Tri Tryz.prog 11 #[.agg ⟨[.bool false, .int .u64 0, .slice none 0 0]⟩, bs (nmB 4), .int .u64 (key : Int), .int .u64 (val : Int)] [H] (rdoesQ H (doesM 4 none key val)) := by
  have hg := rgives_r 3
  unfold doesM nmB at *
  refine Tri.of_body (vs := [_, _, _, _]) Tryz.func11 rfl rfl fun w0 F => ?_
  repeat' (first | refine Ga ?_ | (refine Gb ?_; intro b) | (refine Gd ?_; intro g cap rest hcap) | (refine Gc ?_; intro ad cap) | (refine St.draw (id := 3) [(0, 1), (1, 1), (2, 3), (3, 3)] [2, 3] mixed (by kernel_rfl) ?_) | (refine St.draw (id := 9) [(0, 1), (1, 1), (2, 3), (3, 3)] [2, 3] mixed (by kernel_rfl) ?_) | (refine St.draw (id := 14) [(0, 1), (1, 1), (2, 3), (3, 3)] [2, 3] mixed (by kernel_rfl) ?_) | (refine St.draw (id := 18) [(0, 1), (1, 1), (2, 3), (3, 3)] [2, 3] mixed (by kernel_rfl) ?_) | (refine St.draw (id := 20) [(0, 1), (1, 0), (2, 1), (3, 0), (4, 0), (5, 0), (6, 1), (7, 0), (8, 3), (9, 3)] [8, 9] mixed (by kernel_rfl) ?_) | (refine St.draw (id := 24) [(0, 0), (1, 1), (2, 0), (3, 1), (4, 0), (7, 0), (5, 2), (6, 0), (8, 3), (9, 3)] [8, 9] mixed (by kernel_rfl) ?_) | (refine St.draw (id := 26) [(0, 1), (1, 1), (2, 3), (3, 3)] [2, 3] mixed (by kernel_rfl) ?_) | (refine St.draw (id := 27) [(0, 0), (1, 1), (2, 0), (3, 1), (4, 0), (5, 0), (6, 0), (9, 0), (10, 0), (7, 2), (8, 0), (11, 1), (12, 0), (13, 3), (14, 3)] [13, 14] mixed (by kernel_rfl) ?_)| refine Gl hg ?_ | (refine Ge ?_ ?_ <;> (intro h; try (exfalso; omega))) | fail)
  refine St.d1 Tryz.func11 ⟨_, ⟨_, H, rfl, rfl, fun b l h => h, rfl⟩, ?_⟩
  exact Ent.go
theorem rdoes_5n (H : HProp) (key val : Nat) : Tri Tryz.prog 11 #[.agg ⟨[.bool false, .int .u64 0, .slice none 0 0]⟩, bs (nmB 5), .int .u64 (key : Int), .int .u64 (val : Int)] [H] (rdoesQ H (doesM 5 none key val)) := by
  have hg := rgives_r 3
  unfold doesM nmB at *
  refine Tri.of_body (vs := [_, _, _, _]) Tryz.func11 rfl rfl fun w0 F => ?_
  repeat' (first | refine Ga ?_ | (refine Gb ?_; intro b) | (refine Gd ?_; intro g cap rest hcap) | (refine Gc ?_; intro ad cap) | (refine St.draw (id := 3) [(0, 1), (1, 1), (2, 3), (3, 3)] [2, 3] mixed (by kernel_rfl) ?_) | (refine St.draw (id := 9) [(0, 1), (1, 1), (2, 3), (3, 3)] [2, 3] mixed (by kernel_rfl) ?_) | (refine St.draw (id := 14) [(0, 1), (1, 1), (2, 3), (3, 3)] [2, 3] mixed (by kernel_rfl) ?_) | (refine St.draw (id := 18) [(0, 1), (1, 1), (2, 3), (3, 3)] [2, 3] mixed (by kernel_rfl) ?_) | (refine St.draw (id := 20) [(0, 1), (1, 0), (2, 1), (3, 0), (4, 0), (5, 0), (6, 1), (7, 0), (8, 3), (9, 3)] [8, 9] mixed (by kernel_rfl) ?_) | (refine St.draw (id := 24) [(0, 0), (1, 1), (2, 0), (3, 1), (4, 0), (7, 0), (5, 2), (6, 0), (8, 3), (9, 3)] [8, 9] mixed (by kernel_rfl) ?_) | (refine St.draw (id := 26) [(0, 1), (1, 1), (2, 3), (3, 3)] [2, 3] mixed (by kernel_rfl) ?_) | (refine St.draw (id := 27) [(0, 0), (1, 1), (2, 0), (3, 1), (4, 0), (5, 0), (6, 0), (9, 0), (10, 0), (7, 2), (8, 0), (11, 1), (12, 0), (13, 3), (14, 3)] [13, 14] mixed (by kernel_rfl) ?_)| refine Gl hg ?_ | (refine Ge ?_ ?_ <;> (intro h; try (exfalso; omega))) | fail)
  refine St.d1 Tryz.func11 ⟨_, ⟨_, H, rfl, rfl, fun b l h => h, rfl⟩, ?_⟩
  exact Ent.go
theorem rdoes_6n (H : HProp) (key val : Nat) : Tri Tryz.prog 11 #[.agg ⟨[.bool false, .int .u64 0, .slice none 0 0]⟩, bs (nmB 6), .int .u64 (key : Int), .int .u64 (val : Int)] [H] (rdoesQ H (doesM 6 none key val)) := by
  have hg := rgives_r 3
  unfold doesM nmB at *
  refine Tri.of_body (vs := [_, _, _, _]) Tryz.func11 rfl rfl fun w0 F => ?_
  repeat' (first | refine Ga ?_ | (refine Gb ?_; intro b) | (refine Gd ?_; intro g cap rest hcap) | (refine Gc ?_; intro ad cap) | (refine St.draw (id := 3) [(0, 1), (1, 1), (2, 3), (3, 3)] [2, 3] mixed (by kernel_rfl) ?_) | (refine St.draw (id := 9) [(0, 1), (1, 1), (2, 3), (3, 3)] [2, 3] mixed (by kernel_rfl) ?_) | (refine St.draw (id := 14) [(0, 1), (1, 1), (2, 3), (3, 3)] [2, 3] mixed (by kernel_rfl) ?_) | (refine St.draw (id := 18) [(0, 1), (1, 1), (2, 3), (3, 3)] [2, 3] mixed (by kernel_rfl) ?_) | (refine St.draw (id := 20) [(0, 1), (1, 0), (2, 1), (3, 0), (4, 0), (5, 0), (6, 1), (7, 0), (8, 3), (9, 3)] [8, 9] mixed (by kernel_rfl) ?_) | (refine St.draw (id := 24) [(0, 0), (1, 1), (2, 0), (3, 1), (4, 0), (7, 0), (5, 2), (6, 0), (8, 3), (9, 3)] [8, 9] mixed (by kernel_rfl) ?_) | (refine St.draw (id := 26) [(0, 1), (1, 1), (2, 3), (3, 3)] [2, 3] mixed (by kernel_rfl) ?_) | (refine St.draw (id := 27) [(0, 0), (1, 1), (2, 0), (3, 1), (4, 0), (5, 0), (6, 0), (9, 0), (10, 0), (7, 2), (8, 0), (11, 1), (12, 0), (13, 3), (14, 3)] [13, 14] mixed (by kernel_rfl) ?_)| refine Gl hg ?_ | (refine Ge ?_ ?_ <;> (intro h; try (exfalso; omega))) | fail)
  refine St.d1 Tryz.func11 ⟨_, ⟨_, H, rfl, rfl, fun b l h => h, rfl⟩, ?_⟩
  exact Ent.go
theorem rdoes_6 (H : HProp) (xv : Value) (x : Tb) (key val : Nat) (hq : XuT H xv (some x)) (hl : x.pairs.length ≤ 1000) : Tri Tryz.prog 11 #[xv, bs (nmB 6), .int .u64 (key : Int), .int .u64 (val : Int)] [H] (rdoesQ H (doesM 6 (some x) key val)) := by
  have hq' := hq
  obtain ⟨lv, rfl, hsl⟩ := hq
  obtain ⟨ad, cap, rfl, _⟩ := hsl
  unfold doesM nmB at *
  refine Tri.of_body (vs := [_, _, _, _]) Tryz.func11 rfl rfl fun w0 F => ?_
  repeat' (first | refine Ga ?_ | (refine Gb ?_; intro b) | (refine Gd ?_; intro g cap rest hcap) | (refine Gc ?_; intro ad cap) | (refine St.draw (id := 3) [(0, 1), (1, 1), (2, 3), (3, 3)] [2, 3] mixed (by kernel_rfl) ?_) | (refine St.draw (id := 9) [(0, 1), (1, 1), (2, 3), (3, 3)] [2, 3] mixed (by kernel_rfl) ?_) | (refine St.draw (id := 14) [(0, 1), (1, 1), (2, 3), (3, 3)] [2, 3] mixed (by kernel_rfl) ?_) | (refine St.draw (id := 18) [(0, 1), (1, 1), (2, 3), (3, 3)] [2, 3] mixed (by kernel_rfl) ?_) | (refine St.draw (id := 20) [(0, 1), (1, 0), (2, 1), (3, 0), (4, 0), (5, 0), (6, 1), (7, 0), (8, 3), (9, 3)] [8, 9] mixed (by kernel_rfl) ?_) | (refine St.draw (id := 24) [(0, 0), (1, 1), (2, 0), (3, 1), (4, 0), (7, 0), (5, 2), (6, 0), (8, 3), (9, 3)] [8, 9] mixed (by kernel_rfl) ?_) | (refine St.draw (id := 26) [(0, 1), (1, 1), (2, 3), (3, 3)] [2, 3] mixed (by kernel_rfl) ?_) | (refine St.draw (id := 27) [(0, 0), (1, 1), (2, 0), (3, 1), (4, 0), (5, 0), (6, 0), (9, 0), (10, 0), (7, 2), (8, 0), (11, 1), (12, 0), (13, 3), (14, 3)] [13, 14] mixed (by kernel_rfl) ?_) | (refine Ge ?_ ?_ <;> (intro h; try (exfalso; omega))) | fail)
  refine St.d1 Tryz.func11 ⟨_, ⟨_, H, rfl, hq', fun b l h => h, rfl⟩, ?_⟩
  exact Ent.go
theorem rdoes_4 (H : HProp) (xv : Value) (x : Tb) (key val : Nat) (hq : XuT H xv (some x)) (hl : x.pairs.length ≤ 1000) : Tri Tryz.prog 11 #[xv, bs (nmB 4), .int .u64 (key : Int), .int .u64 (val : Int)] [H] (rdoesQ H (doesM 4 (some x) key val)) := by
  have hq' := hq
  obtain ⟨lv, rfl, hsl⟩ := hq
  have hh := rfind_r H _ _ key hsl (by omega)
  obtain ⟨ad, cap, rfl, _⟩ := hsl
  unfold doesM nmB at *
  refine Tri.of_body (vs := [_, _, _, _]) Tryz.func11 rfl rfl fun w0 F => ?_
  repeat' (first | refine Ga ?_ | (refine Gb ?_; intro b) | (refine Gd ?_; intro g cap rest hcap) | (refine Gc ?_; intro ad cap) | (refine St.draw (id := 3) [(0, 1), (1, 1), (2, 3), (3, 3)] [2, 3] mixed (by kernel_rfl) ?_) | (refine St.draw (id := 9) [(0, 1), (1, 1), (2, 3), (3, 3)] [2, 3] mixed (by kernel_rfl) ?_) | (refine St.draw (id := 14) [(0, 1), (1, 1), (2, 3), (3, 3)] [2, 3] mixed (by kernel_rfl) ?_) | (refine St.draw (id := 18) [(0, 1), (1, 1), (2, 3), (3, 3)] [2, 3] mixed (by kernel_rfl) ?_) | (refine St.draw (id := 20) [(0, 1), (1, 0), (2, 1), (3, 0), (4, 0), (5, 0), (6, 1), (7, 0), (8, 3), (9, 3)] [8, 9] mixed (by kernel_rfl) ?_) | (refine St.draw (id := 24) [(0, 0), (1, 1), (2, 0), (3, 1), (4, 0), (7, 0), (5, 2), (6, 0), (8, 3), (9, 3)] [8, 9] mixed (by kernel_rfl) ?_) | (refine St.draw (id := 26) [(0, 1), (1, 1), (2, 3), (3, 3)] [2, 3] mixed (by kernel_rfl) ?_) | (refine St.draw (id := 27) [(0, 0), (1, 1), (2, 0), (3, 1), (4, 0), (5, 0), (6, 0), (9, 0), (10, 0), (7, 2), (8, 0), (11, 1), (12, 0), (13, 3), (14, 3)] [13, 14] mixed (by kernel_rfl) ?_)| refine Gl hh ?_ | (refine Ge ?_ ?_ <;> (intro h; try (exfalso; omega))) | fail)
  refine St.d1 Tryz.func11 ⟨_, ⟨_, H, rfl, hq', fun b l h => h, rfl⟩, ?_⟩
  exact Ent.go
theorem rdoes_5 (H : HProp) (xv : Value) (x : Tb) (key val : Nat) (hq : XuT H xv (some x)) (hl : x.pairs.length ≤ 1000) : Tri Tryz.prog 11 #[xv, bs (nmB 5), .int .u64 (key : Int), .int .u64 (val : Int)] [H] (rdoesQ H (doesM 5 (some x) key val)) := by
  have hg := rgives_r 5
  have hq' := hq
  obtain ⟨lv, rfl, hsl⟩ := hq
  have hh := rfind_r H _ _ key hsl (by omega)
  obtain ⟨ad, cap, rfl, _⟩ := hsl
  by_cases h0 : x.pairs.length = 0
  · have hd : doesM 5 (some x) key val = (none, 0, 0) := by unfold doesM; simp [h0]
    rw [hd]
    unfold nmB at *
    refine Tri.of_body (vs := [_, _, _, _]) Tryz.func11 rfl rfl fun w0 F => ?_
    repeat' (first | refine Ga ?_ | (refine Gb ?_; intro b) | (refine Gd ?_; intro g cap rest hcap) | (refine Gc ?_; intro ad cap) | (refine St.draw (id := 3) [(0, 1), (1, 1), (2, 3), (3, 3)] [2, 3] mixed (by kernel_rfl) ?_) | (refine St.draw (id := 9) [(0, 1), (1, 1), (2, 3), (3, 3)] [2, 3] mixed (by kernel_rfl) ?_) | (refine St.draw (id := 14) [(0, 1), (1, 1), (2, 3), (3, 3)] [2, 3] mixed (by kernel_rfl) ?_) | (refine St.draw (id := 18) [(0, 1), (1, 1), (2, 3), (3, 3)] [2, 3] mixed (by kernel_rfl) ?_) | (refine St.draw (id := 20) [(0, 1), (1, 0), (2, 1), (3, 0), (4, 0), (5, 0), (6, 1), (7, 0), (8, 3), (9, 3)] [8, 9] mixed (by kernel_rfl) ?_) | (refine St.draw (id := 24) [(0, 0), (1, 1), (2, 0), (3, 1), (4, 0), (7, 0), (5, 2), (6, 0), (8, 3), (9, 3)] [8, 9] mixed (by kernel_rfl) ?_) | (refine St.draw (id := 26) [(0, 1), (1, 1), (2, 3), (3, 3)] [2, 3] mixed (by kernel_rfl) ?_) | (refine St.draw (id := 27) [(0, 0), (1, 1), (2, 0), (3, 1), (4, 0), (5, 0), (6, 0), (9, 0), (10, 0), (7, 2), (8, 0), (11, 1), (12, 0), (13, 3), (14, 3)] [13, 14] mixed (by kernel_rfl) ?_)| refine Gl hh ?_ | refine Gl hg ?_ | (refine Ge ?_ ?_ <;> (intro h; try (exfalso; omega))) | fail)
    all_goals first | (exfalso; omega) | skip
    refine St.d1 Tryz.func11 ⟨_, ⟨_, H, rfl, rfl, fun b l h => h, rfl⟩, ?_⟩
    exact Ent.go
  · have hd : doesM 5 (some x) key val = (some x, 40, 5) := by unfold doesM; simp [h0]
    rw [hd]
    unfold nmB at *
    refine Tri.of_body (vs := [_, _, _, _]) Tryz.func11 rfl rfl fun w0 F => ?_
    repeat' (first | refine Ga ?_ | (refine Gb ?_; intro b) | (refine Gd ?_; intro g cap rest hcap) | (refine Gc ?_; intro ad cap) | (refine St.draw (id := 3) [(0, 1), (1, 1), (2, 3), (3, 3)] [2, 3] mixed (by kernel_rfl) ?_) | (refine St.draw (id := 9) [(0, 1), (1, 1), (2, 3), (3, 3)] [2, 3] mixed (by kernel_rfl) ?_) | (refine St.draw (id := 14) [(0, 1), (1, 1), (2, 3), (3, 3)] [2, 3] mixed (by kernel_rfl) ?_) | (refine St.draw (id := 18) [(0, 1), (1, 1), (2, 3), (3, 3)] [2, 3] mixed (by kernel_rfl) ?_) | (refine St.draw (id := 20) [(0, 1), (1, 0), (2, 1), (3, 0), (4, 0), (5, 0), (6, 1), (7, 0), (8, 3), (9, 3)] [8, 9] mixed (by kernel_rfl) ?_) | (refine St.draw (id := 24) [(0, 0), (1, 1), (2, 0), (3, 1), (4, 0), (7, 0), (5, 2), (6, 0), (8, 3), (9, 3)] [8, 9] mixed (by kernel_rfl) ?_) | (refine St.draw (id := 26) [(0, 1), (1, 1), (2, 3), (3, 3)] [2, 3] mixed (by kernel_rfl) ?_) | (refine St.draw (id := 27) [(0, 0), (1, 1), (2, 0), (3, 1), (4, 0), (5, 0), (6, 0), (9, 0), (10, 0), (7, 2), (8, 0), (11, 1), (12, 0), (13, 3), (14, 3)] [13, 14] mixed (by kernel_rfl) ?_)| refine Gl hh ?_ | refine Gl hg ?_ | (refine Ge ?_ ?_ <;> (intro h; try (exfalso; omega))) | fail)
    all_goals first | (exfalso; omega) | skip
    refine St.d1 Tryz.func11 ⟨_, ⟨_, H, rfl, hq', fun b l h => h, rfl⟩, ?_⟩
    exact Ent.go
theorem find_none {key : Nat} {l : Prs} (h : mget l key = none) : findI key l = -1 := by unfold findI; rw [h]; rfl
theorem find_some {key v : Nat} {l : Prs} (h : mget l key = some v) : findI key l = (idxP key l : Int) := by unfold findI; rw [h]; rfl
set_option maxHeartbeats 1000000 in
theorem rdoes_2 (H : HProp) (xv : Value) (x : Tb) (key val : Nat) (hq : XuT H xv (some x)) (hl : x.pairs.length ≤ 1000) : Tri Tryz.prog 11 #[xv, bs (nmB 2), .int .u64 (key : Int), .int .u64 (val : Int)] [H] (rdoesQ H (doesM 2 (some x) key val)) := by
  have hg := rgives_r 1
  have hq' := hq
  obtain ⟨lv, rfl, hsl⟩ := hq
  have hh := rfind_r H _ _ key hsl (by omega)
  obtain ⟨ad, cap, rfl, _, hls⟩ := hsl
  cases hm : mget x.pairs key with
  | none =>
    rw [find_none hm] at hh
    have hd : doesM 2 (some x) key val = (some x, 40, 1) := by unfold doesM; simp [hm]
    rw [hd]
    unfold nmB at *
    refine Tri.of_body (vs := [_, _, _, _]) Tryz.func11 rfl rfl fun w0 F => ?_
    repeat' (first | refine Ga ?_ | (refine Gb ?_; intro b) | (refine Gd ?_; intro g cap rest hcap) | (refine Gc ?_; intro ad cap) | (refine St.draw (id := 3) [(0, 1), (1, 1), (2, 3), (3, 3)] [2, 3] mixed (by kernel_rfl) ?_) | (refine St.draw (id := 9) [(0, 1), (1, 1), (2, 3), (3, 3)] [2, 3] mixed (by kernel_rfl) ?_) | (refine St.draw (id := 14) [(0, 1), (1, 1), (2, 3), (3, 3)] [2, 3] mixed (by kernel_rfl) ?_) | (refine St.draw (id := 18) [(0, 1), (1, 1), (2, 3), (3, 3)] [2, 3] mixed (by kernel_rfl) ?_) | (refine St.draw (id := 20) [(0, 1), (1, 0), (2, 1), (3, 0), (4, 0), (5, 0), (6, 1), (7, 0), (8, 3), (9, 3)] [8, 9] mixed (by kernel_rfl) ?_) | (refine St.draw (id := 24) [(0, 0), (1, 1), (2, 0), (3, 1), (4, 0), (7, 0), (5, 2), (6, 0), (8, 3), (9, 3)] [8, 9] mixed (by kernel_rfl) ?_) | (refine St.draw (id := 26) [(0, 1), (1, 1), (2, 3), (3, 3)] [2, 3] mixed (by kernel_rfl) ?_) | (refine St.draw (id := 27) [(0, 0), (1, 1), (2, 0), (3, 1), (4, 0), (5, 0), (6, 0), (9, 0), (10, 0), (7, 2), (8, 0), (11, 1), (12, 0), (13, 3), (14, 3)] [13, 14] mixed (by kernel_rfl) ?_)| refine Gl hh ?_ | refine Gl hg ?_ | (refine Ge ?_ ?_ <;> (intro h; try (exfalso; omega))) | fail)
    all_goals first | (exfalso; omega) | skip
    refine St.d1 Tryz.func11 ⟨_, ⟨_, H, rfl, hq', fun b l h => h, rfl⟩, ?_⟩
    exact Ent.go
  | some v =>
    rw [find_some hm] at hh
    obtain ⟨hi, hiv⟩ := find_spec hm
    have hd : doesM 2 (some x) key val = (some x, 0, v) := by unfold doesM; simp [hm]
    rw [hd]
    obtain ⟨bf, o, l, l1, rfl, hrd, hdr, htk⟩ := ListR.at (f := prV) (sz := 2) prV_len hls _ hi
    rw [hiv] at htk
    unfold prV at htk
    dsimp only at htk
    generalize idxP key x.pairs = i at *
    have hnth : NthN (o + (i : Int).toNat * 2 + 1) l (.int .u64 (v : Int)) := NthN.part (j := 1) hdr htk (NthN.of rfl)
    unfold nmB at *
    refine Tri.of_body (vs := [_, _, _, _]) Tryz.func11 rfl rfl fun w0 F => ?_
    repeat' (first | refine Ga ?_ | (refine Gb ?_; intro b) | (refine Gd ?_; intro g cap rest hcap) | (refine Gc ?_; intro ad cap) | (refine St.draw (id := 3) [(0, 1), (1, 1), (2, 3), (3, 3)] [2, 3] mixed (by kernel_rfl) ?_) | (refine St.draw (id := 9) [(0, 1), (1, 1), (2, 3), (3, 3)] [2, 3] mixed (by kernel_rfl) ?_) | (refine St.draw (id := 14) [(0, 1), (1, 1), (2, 3), (3, 3)] [2, 3] mixed (by kernel_rfl) ?_) | (refine St.draw (id := 18) [(0, 1), (1, 1), (2, 3), (3, 3)] [2, 3] mixed (by kernel_rfl) ?_) | (refine St.drawT (id := 20) [(1, 0), (3, 0)] (.pick [(0, 3)] (.pick [(2, 3), (4, 0), (5, 0)] (.pick [(6, 3), (7, 0), (8, 3), (9, 3)] .done (.pick [(8, 3), (6, 3), (7, 0), (9, 3)] .done .nope)) (.pick [(8, 3), (2, 3), (4, 0), (5, 0), (6, 3), (7, 0), (9, 3)] .done .nope)) (.pick [(2, 3), (4, 0), (5, 0)] (.pick [(0, 3)] (.pick [(6, 3), (7, 0), (8, 3), (9, 3)] .done (.pick [(8, 3), (6, 3), (7, 0), (9, 3)] .done .nope)) (.pick [(6, 3), (7, 0), (0, 3), (8, 3), (9, 3)] .done .nope)) .nope)) [0, 2, 6, 8, 9] mixed (by kernel_rfl) ?_) | (refine St.draw (id := 24) [(0, 0), (1, 1), (2, 0), (3, 1), (4, 0), (7, 0), (5, 2), (6, 0), (8, 3), (9, 3)] [8, 9] mixed (by kernel_rfl) ?_) | (refine St.draw (id := 26) [(0, 1), (1, 1), (2, 3), (3, 3)] [2, 3] mixed (by kernel_rfl) ?_) | (refine St.draw (id := 27) [(0, 0), (1, 1), (2, 0), (3, 1), (4, 0), (5, 0), (6, 0), (9, 0), (10, 0), (7, 2), (8, 0), (11, 1), (12, 0), (13, 3), (14, 3)] [13, 14] mixed (by kernel_rfl) ?_) | apply StD.pick | exact StD.nope | refine Gl hh ?_ | refine Gl hg ?_ | (refine Ge ?_ ?_ <;> (intro h; try (exfalso; omega))) | fail)
    iterate 3
      all_goals try (refine StD.ok3 rfl (OpOk.ofV OpV.go) rfl ?_; rintro _ _ ⟨rfl, rfl⟩)
      all_goals repeat' (first | refine Ga ?_ | (refine Gb ?_; intro b) | (refine Gd ?_; intro g cap rest hcap) | (refine Gc ?_; intro ad cap) | (refine St.draw (id := 3) [(0, 1), (1, 1), (2, 3), (3, 3)] [2, 3] mixed (by kernel_rfl) ?_) | (refine St.draw (id := 9) [(0, 1), (1, 1), (2, 3), (3, 3)] [2, 3] mixed (by kernel_rfl) ?_) | (refine St.draw (id := 14) [(0, 1), (1, 1), (2, 3), (3, 3)] [2, 3] mixed (by kernel_rfl) ?_) | (refine St.draw (id := 18) [(0, 1), (1, 1), (2, 3), (3, 3)] [2, 3] mixed (by kernel_rfl) ?_) | (refine St.drawT (id := 20) [(1, 0), (3, 0)] (.pick [(0, 3)] (.pick [(2, 3), (4, 0), (5, 0)] (.pick [(6, 3), (7, 0), (8, 3), (9, 3)] .done (.pick [(8, 3), (6, 3), (7, 0), (9, 3)] .done .nope)) (.pick [(8, 3), (2, 3), (4, 0), (5, 0), (6, 3), (7, 0), (9, 3)] .done .nope)) (.pick [(2, 3), (4, 0), (5, 0)] (.pick [(0, 3)] (.pick [(6, 3), (7, 0), (8, 3), (9, 3)] .done (.pick [(8, 3), (6, 3), (7, 0), (9, 3)] .done .nope)) (.pick [(6, 3), (7, 0), (0, 3), (8, 3), (9, 3)] .done .nope)) .nope)) [0, 2, 6, 8, 9] mixed (by kernel_rfl) ?_) | (refine St.draw (id := 24) [(0, 0), (1, 1), (2, 0), (3, 1), (4, 0), (7, 0), (5, 2), (6, 0), (8, 3), (9, 3)] [8, 9] mixed (by kernel_rfl) ?_) | (refine St.draw (id := 26) [(0, 1), (1, 1), (2, 3), (3, 3)] [2, 3] mixed (by kernel_rfl) ?_) | (refine St.draw (id := 27) [(0, 0), (1, 1), (2, 0), (3, 1), (4, 0), (5, 0), (6, 0), (9, 0), (10, 0), (7, 2), (8, 0), (11, 1), (12, 0), (13, 3), (14, 3)] [13, 14] mixed (by kernel_rfl) ?_) | apply StD.pick | exact StD.nope | refine Gl hh ?_ | refine Gl hg ?_ | (refine Ge ?_ ?_ <;> (intro h; try (exfalso; omega))) | fail)
    all_goals first | (exfalso; omega) | skip
    all_goals refine St.d1 Tryz.func11 ⟨_, ⟨_, H, rfl, hq', fun b l h => h, rfl⟩, Ent.go⟩
set_option maxHeartbeats 2000000 in
theorem rdoes_3 (H : HProp) (xv : Value) (x : Tb) (key val : Nat) (hq : XuT H xv (some x)) (hl : x.pairs.length ≤ 1000) : Tri Tryz.prog 11 #[xv, bs (nmB 3), .int .u64 (key : Int), .int .u64 (val : Int)] [H] (rdoesQ H (doesM 3 (some x) key val)) := by
  have hq' := hq
  obtain ⟨lv, rfl, hsl⟩ := hq
  have hh := rfind_r H _ _ key hsl (by omega)
  have hwo := rwithout_t H _ _ key hsl hl
  obtain ⟨ad0, cap0, rfl, _, hls⟩ := hsl
  cases hm : mget x.pairs key with
  | none =>
    rw [find_none hm] at hh
    have hd : doesM 3 (some x) key val = (some x, 0, 0) := by unfold doesM; simp [hm]
    rw [hd]
    unfold nmB at *
    refine Tri.of_body (vs := [_, _, _, _]) Tryz.func11 rfl rfl fun w0 F => ?_
    repeat' (first | refine Ga ?_ | (refine Gb ?_; intro b) | (refine Gd ?_; intro g cap rest hcap) | (refine Gc ?_; intro ad cap) | (refine St.draw (id := 3) [(0, 1), (1, 1), (2, 3), (3, 3)] [2, 3] mixed (by kernel_rfl) ?_) | (refine St.draw (id := 9) [(0, 1), (1, 1), (2, 3), (3, 3)] [2, 3] mixed (by kernel_rfl) ?_) | (refine St.draw (id := 14) [(0, 1), (1, 1), (2, 3), (3, 3)] [2, 3] mixed (by kernel_rfl) ?_) | (refine St.draw (id := 18) [(0, 1), (1, 1), (2, 3), (3, 3)] [2, 3] mixed (by kernel_rfl) ?_) | (refine St.draw (id := 20) [(0, 1), (1, 0), (2, 1), (3, 0), (4, 0), (5, 0), (6, 1), (7, 0), (8, 3), (9, 3)] [8, 9] mixed (by kernel_rfl) ?_) | (refine St.draw (id := 24) [(0, 0), (1, 1), (2, 0), (3, 1), (4, 0), (7, 0), (5, 2), (6, 0), (8, 3), (9, 3)] [8, 9] mixed (by kernel_rfl) ?_) | (refine St.draw (id := 26) [(0, 1), (1, 1), (2, 3), (3, 3)] [2, 3] mixed (by kernel_rfl) ?_) | (refine St.draw (id := 27) [(0, 0), (1, 1), (2, 0), (3, 1), (4, 0), (5, 0), (6, 0), (9, 0), (10, 0), (7, 2), (8, 0), (11, 1), (12, 0), (13, 3), (14, 3)] [13, 14] mixed (by kernel_rfl) ?_)| refine Gl hh ?_ | (refine Ge ?_ ?_ <;> (intro h; try (exfalso; omega))) | fail)
    all_goals first | (exfalso; omega) | skip
    refine St.d1 Tryz.func11 ⟨_, ⟨_, H, rfl, hq', fun b l h => h, rfl⟩, ?_⟩
    exact Ent.go
  | some v =>
    rw [find_some hm] at hh
    have hd : doesM 3 (some x) key val = (some ⟨x.cap, withoutP key x.pairs⟩, 0, 1) := by unfold doesM; simp [hm]
    rw [hd]
    generalize idxP key x.pairs = i at *
    unfold nmB rdoesQ at *
    dsimp only
    refine Tri.of_body (vs := [_, _, _, _]) Tryz.func11 rfl rfl fun w0 F => ?_
    repeat' (first | refine Ga ?_ | (refine Gb ?_; intro b) | (refine Gd ?_; intro g cap rest hcap) | (refine Gc ?_; intro ad cap) | (refine St.draw (id := 3) [(0, 1), (1, 1), (2, 3), (3, 3)] [2, 3] mixed (by kernel_rfl) ?_) | (refine St.draw (id := 9) [(0, 1), (1, 1), (2, 3), (3, 3)] [2, 3] mixed (by kernel_rfl) ?_) | (refine St.draw (id := 14) [(0, 1), (1, 1), (2, 3), (3, 3)] [2, 3] mixed (by kernel_rfl) ?_) | (refine St.draw (id := 18) [(0, 1), (1, 1), (2, 3), (3, 3)] [2, 3] mixed (by kernel_rfl) ?_) | (refine St.draw (id := 20) [(0, 1), (1, 0), (2, 1), (3, 0), (4, 0), (5, 0), (6, 1), (7, 0), (8, 3), (9, 3)] [8, 9] mixed (by kernel_rfl) ?_) | (refine St.draw (id := 24) [(0, 0), (1, 1), (2, 0), (3, 1), (4, 0), (7, 0), (5, 2), (6, 0), (8, 3), (9, 3)] [8, 9] mixed (by kernel_rfl) ?_) | (refine St.draw (id := 26) [(0, 1), (1, 1), (2, 3), (3, 3)] [2, 3] mixed (by kernel_rfl) ?_) | (refine St.draw (id := 27) [(0, 0), (1, 1), (2, 0), (3, 1), (4, 0), (5, 0), (6, 0), (9, 0), (10, 0), (7, 2), (8, 0), (11, 1), (12, 0), (13, 3), (14, 3)] [13, 14] mixed (by kernel_rfl) ?_)| refine Gl hh ?_ | (refine Gt hwo ?_; rintro _ _ ⟨ad, cap, rfl, rfl⟩) | (refine Gu hwo ?_; rintro _ _ ⟨ad, cap, rfl, rfl⟩; refine ⟨Ent.go, ?_⟩) | (refine Ge ?_ ?_ <;> (intro h; try (exfalso; omega))) | fail)
    all_goals first | (exfalso; omega) | skip
    all_goals (
      refine St.conv ?_ (Sub.refl _) (Ent.of_take (p := Row (.slice ad (withoutP key x.pairs).length cap) 100 2 (withoutP key x.pairs).length ((withoutP key x.pairs).flatMap prV)) Take.go)
      refine St.rowL rfl fun R hR => ?_
      refine St.d1 Tryz.func11 ⟨_, ⟨_, star [R, H], rfl, ⟨_, rfl, hR.weak fun b l h => RdC.star (.head _) h⟩, fun b l h => RdC.star (.tail _ (.head _)) h, rfl⟩, ?_⟩
      refine Ent.trans ?_ (Ent.star_in _)
      exact Ent.go)
set_option maxHeartbeats 2000000 in
theorem rdoes_1 (H : HProp) (xv : Value) (x : Tb) (key val : Nat) (hq : XuT H xv (some x)) (hl : x.pairs.length ≤ 1000) : Tri Tryz.prog 11 #[xv, bs (nmB 1), .int .u64 (key : Int), .int .u64 (val : Int)] [H] (rdoesQ H (doesM 1 (some x) key val)) := by
  have hg := rgives_r 2
  have hq' := hq
  obtain ⟨lv, rfl, hsl⟩ := hq
  have hh := rfind_r H _ _ key hsl (by omega)
  have hwi := rwith_t H _ _ key val hsl hl
  obtain ⟨ad0, cap0, rfl, _, hls⟩ := hsl
  cases hm : mget x.pairs key with
  | none =>
    rw [find_none hm] at hh
    by_cases hc : x.cap ≤ x.pairs.length
    · have hd : doesM 1 (some x) key val = (some x, 40, 2) := by unfold doesM; simp [hm, hc]
      rw [hd]
      unfold nmB at *
      refine Tri.of_body (vs := [_, _, _, _]) Tryz.func11 rfl rfl fun w0 F => ?_
      repeat' (first | refine Ga ?_ | (refine Gb ?_; intro b) | (refine Gd ?_; intro g cap rest hcap) | (refine Gc ?_; intro ad cap) | (refine St.draw (id := 3) [(0, 1), (1, 1), (2, 3), (3, 3)] [2, 3] mixed (by kernel_rfl) ?_) | (refine St.draw (id := 9) [(0, 1), (1, 1), (2, 3), (3, 3)] [2, 3] mixed (by kernel_rfl) ?_) | (refine St.draw (id := 14) [(0, 1), (1, 1), (2, 3), (3, 3)] [2, 3] mixed (by kernel_rfl) ?_) | (refine St.draw (id := 18) [(0, 1), (1, 1), (2, 3), (3, 3)] [2, 3] mixed (by kernel_rfl) ?_) | (refine St.draw (id := 20) [(0, 1), (1, 0), (2, 1), (3, 0), (4, 0), (5, 0), (6, 1), (7, 0), (8, 3), (9, 3)] [8, 9] mixed (by kernel_rfl) ?_) | (refine St.draw (id := 24) [(0, 0), (1, 1), (2, 0), (3, 1), (4, 0), (7, 0), (5, 2), (6, 0), (8, 3), (9, 3)] [8, 9] mixed (by kernel_rfl) ?_) | (refine St.draw (id := 26) [(0, 1), (1, 1), (2, 3), (3, 3)] [2, 3] mixed (by kernel_rfl) ?_) | (refine St.draw (id := 27) [(0, 0), (1, 1), (2, 0), (3, 1), (4, 0), (5, 0), (6, 0), (9, 0), (10, 0), (7, 2), (8, 0), (11, 1), (12, 0), (13, 3), (14, 3)] [13, 14] mixed (by kernel_rfl) ?_)| refine Gl hh ?_ | refine Gl hg ?_ | (refine Ge ?_ ?_ <;> (intro h; try (exfalso; omega))) | fail)
      all_goals first | (exfalso; omega) | skip
      refine St.d1 Tryz.func11 ⟨_, ⟨_, H, rfl, hq', fun b l h => h, rfl⟩, ?_⟩
      exact Ent.go
    · have hbt := rbit_r false
      have hd : doesM 1 (some x) key val = (some ⟨x.cap, withP key val x.pairs⟩, 0, 0) := by unfold doesM; simp [hm]; omega
      rw [hd]
      unfold nmB rdoesQ at *
      dsimp only
      refine Tri.of_body (vs := [_, _, _, _]) Tryz.func11 rfl rfl fun w0 F => ?_
      repeat' (first | refine Ga ?_ | (refine Gb ?_; intro b) | (refine Gd ?_; intro g cap rest hcap) | (refine Gc ?_; intro ad cap) | (refine St.draw (id := 3) [(0, 1), (1, 1), (2, 3), (3, 3)] [2, 3] mixed (by kernel_rfl) ?_) | (refine St.draw (id := 9) [(0, 1), (1, 1), (2, 3), (3, 3)] [2, 3] mixed (by kernel_rfl) ?_) | (refine St.draw (id := 14) [(0, 1), (1, 1), (2, 3), (3, 3)] [2, 3] mixed (by kernel_rfl) ?_) | (refine St.draw (id := 18) [(0, 1), (1, 1), (2, 3), (3, 3)] [2, 3] mixed (by kernel_rfl) ?_) | (refine St.draw (id := 20) [(0, 1), (1, 0), (2, 1), (3, 0), (4, 0), (5, 0), (6, 1), (7, 0), (8, 3), (9, 3)] [8, 9] mixed (by kernel_rfl) ?_) | (refine St.draw (id := 24) [(0, 0), (1, 1), (2, 0), (3, 1), (4, 0), (7, 0), (5, 2), (6, 0), (8, 3), (9, 3)] [8, 9] mixed (by kernel_rfl) ?_) | (refine St.draw (id := 26) [(0, 1), (1, 1), (2, 3), (3, 3)] [2, 3] mixed (by kernel_rfl) ?_) | (refine St.draw (id := 27) [(0, 0), (1, 1), (2, 0), (3, 1), (4, 0), (5, 0), (6, 0), (9, 0), (10, 0), (7, 2), (8, 0), (11, 1), (12, 0), (13, 3), (14, 3)] [13, 14] mixed (by kernel_rfl) ?_)| refine Gl hh ?_ | refine Gl hg ?_ | refine Gl hbt ?_ | (refine Gt hwi ?_; rintro _ _ ⟨ad, cap, rfl, rfl⟩) | (refine Gu hwi ?_; rintro _ _ ⟨ad, cap, rfl, rfl⟩; refine ⟨Ent.go, ?_⟩) | (refine Ge ?_ ?_ <;> (intro h; try (exfalso; omega))) | fail)
      all_goals first | (exfalso; omega) | skip
      all_goals (
        refine St.conv ?_ (Sub.refl _) (Ent.of_take (p := Row (.slice ad (withP key val x.pairs).length cap) 100 2 (withP key val x.pairs).length ((withP key val x.pairs).flatMap prV)) Take.go)
        refine St.rowL rfl fun R hR => ?_
        refine St.d1 Tryz.func11 ⟨_, ⟨_, star [R, H], rfl, ⟨_, rfl, hR.weak fun b l h => RdC.star (.head _) h⟩, fun b l h => RdC.star (.tail _ (.head _)) h, rfl⟩, ?_⟩
        refine Ent.trans ?_ (Ent.star_in _)
        exact Ent.go)
  | some v =>
    rw [find_some hm] at hh
    have hbt := rbit_r true
    have hd : doesM 1 (some x) key val = (some ⟨x.cap, withP key val x.pairs⟩, 0, 1) := by unfold doesM; simp [hm]
    rw [hd]
    generalize idxP key x.pairs = i at *
    have hi0 : (0 : Int) ≤ (i : Int) := by omega
    have hbt2 : RTri Tryz.prog 36 #[.bool (decide ((0 : Int) ≤ (i : Int)))] [] (.int .u64 1) := by rw [decide_eq_true hi0]; exact hbt
    unfold nmB rdoesQ at *
    dsimp only
    refine Tri.of_body (vs := [_, _, _, _]) Tryz.func11 rfl rfl fun w0 F => ?_
    repeat' (first | refine Ga ?_ | (refine Gb ?_; intro b) | (refine Gd ?_; intro g cap rest hcap) | (refine Gc ?_; intro ad cap) | (refine St.draw (id := 3) [(0, 1), (1, 1), (2, 3), (3, 3)] [2, 3] mixed (by kernel_rfl) ?_) | (refine St.draw (id := 9) [(0, 1), (1, 1), (2, 3), (3, 3)] [2, 3] mixed (by kernel_rfl) ?_) | (refine St.draw (id := 14) [(0, 1), (1, 1), (2, 3), (3, 3)] [2, 3] mixed (by kernel_rfl) ?_) | (refine St.draw (id := 18) [(0, 1), (1, 1), (2, 3), (3, 3)] [2, 3] mixed (by kernel_rfl) ?_) | (refine St.draw (id := 20) [(0, 1), (1, 0), (2, 1), (3, 0), (4, 0), (5, 0), (6, 1), (7, 0), (8, 3), (9, 3)] [8, 9] mixed (by kernel_rfl) ?_) | (refine St.draw (id := 24) [(0, 0), (1, 1), (2, 0), (3, 1), (4, 0), (7, 0), (5, 2), (6, 0), (8, 3), (9, 3)] [8, 9] mixed (by kernel_rfl) ?_) | (refine St.draw (id := 26) [(0, 1), (1, 1), (2, 3), (3, 3)] [2, 3] mixed (by kernel_rfl) ?_) | (refine St.draw (id := 27) [(0, 0), (1, 1), (2, 0), (3, 1), (4, 0), (5, 0), (6, 0), (9, 0), (10, 0), (7, 2), (8, 0), (11, 1), (12, 0), (13, 3), (14, 3)] [13, 14] mixed (by kernel_rfl) ?_)| refine Gl hh ?_ | refine Gl hg ?_ | refine Gl hbt ?_ | refine Gl hbt2 ?_ | (refine Gt hwi ?_; rintro _ _ ⟨ad, cap, rfl, rfl⟩) | (refine Gu hwi ?_; rintro _ _ ⟨ad, cap, rfl, rfl⟩; refine ⟨Ent.go, ?_⟩) | (refine Ge ?_ ?_ <;> (intro h; try (exfalso; omega))) | fail)
    all_goals first | (exfalso; omega) | skip
    all_goals (
      refine St.conv ?_ (Sub.refl _) (Ent.of_take (p := Row (.slice ad (withP key val x.pairs).length cap) 100 2 (withP key val x.pairs).length ((withP key val x.pairs).flatMap prV)) Take.go)
      refine St.rowL rfl fun R hR => ?_
      refine St.d1 Tryz.func11 ⟨_, ⟨_, star [R, H], rfl, ⟨_, rfl, hR.weak fun b l h => RdC.star (.head _) h⟩, fun b l h => RdC.star (.tail _ (.head _)) h, rfl⟩, ?_⟩
      refine Ent.trans ?_ (Ent.star_in _)
      exact Ent.go)
theorem rdoes_t (k : Nat) (hk : k ≤ 6) (H : HProp) (xv : Value) (q : Option Tb) (key val : Nat) (hq : XuT H xv q) (hl : ∀ x, q = some x → x.pairs.length ≤ 1000) : Tri Tryz.prog 11 #[xv, bs (nmB k), .int .u64 (key : Int), .int .u64 (val : Int)] [H] (rdoesQ H (doesM k q key val)) := by
  cases q with
  | none =>
    have hq' : xv = .agg ⟨[.bool false, .int .u64 0, .slice none 0 0]⟩ := hq
    rcases (by omega : k = 0 ∨ k = 1 ∨ k = 2 ∨ k = 3 ∨ k = 4 ∨ k = 5 ∨ k = 6) with rfl | rfl | rfl | rfl | rfl | rfl | rfl
    · exact rdoes_0 H xv none key val hq hl
    all_goals rw [hq']
    · exact rdoes_1n H key val
    · exact rdoes_2n H key val
    · exact rdoes_3n H key val
    · exact rdoes_4n H key val
    · exact rdoes_5n H key val
    · exact rdoes_6n H key val
  | some x =>
    have hx := hl x rfl
    rcases (by omega : k = 0 ∨ k = 1 ∨ k = 2 ∨ k = 3 ∨ k = 4 ∨ k = 5 ∨ k = 6) with rfl | rfl | rfl | rfl | rfl | rfl | rfl
    · exact rdoes_0 H xv (some x) key val hq hl
    · exact rdoes_1 H xv x key val hq hx
    · exact rdoes_2 H xv x key val hq hx
    · exact rdoes_3 H xv x key val hq hx
    · exact rdoes_4 H xv x key val hq hx
    · exact rdoes_5 H xv x key val hq hx
    · exact rdoes_6 H xv x key val hq hx
theorem XuT.len {H : HProp} {b : Bool} {n m cap : Nat} {ad : Option Addr} {x : Option Tb} (h : XuT H (.agg ⟨[.bool b, .int .u64 (n : Int), .slice ad m cap]⟩) x) : m = (pairsO x).length ∧ b = x.isSome := by
  cases x with
  | none =>
    have h : Value.agg ⟨[.bool b, .int .u64 (n : Int), .slice ad m cap]⟩ = .agg ⟨[.bool false, .int .u64 0, .slice none 0 0]⟩ := h
    simp at h
    exact ⟨h.2.2.2.1, h.1⟩
  | some t =>
    obtain ⟨lv, h1, h2⟩ := h
    obtain ⟨a, c, rfl, _⟩ := h2
    simp at h1
    exact ⟨h1.2.2.2.1, h1.1⟩
def rdoesV (H : HProp) (m : Option Tb × Int × Nat) (v : Value) (L : List HProp) : Prop :=
  ∃ (yp : Bool) (yn : Nat) (yad : Option Addr) (ym ycap : Nat) (H' : HProp), v = .tuple ⟨[.agg ⟨[.bool yp, .int .u64 (yn : Int), .slice yad ym ycap]⟩, .agg ⟨[.int .i64 m.2.1, .int .u64 (m.2.2 : Int)]⟩]⟩ ∧ XuT H' (.agg ⟨[.bool yp, .int .u64 (yn : Int), .slice yad ym ycap]⟩) m.1 ∧ (∀ b l, RdC H b l → RdC H' b l) ∧ L = [H']
theorem rdoesQ.v {H : HProp} {m : Option Tb × Int × Nat} {v : Value} {L : List HProp} (h : rdoesQ H m v L) : rdoesV H m v L := by
  obtain ⟨xv', H', rfl, hx, hmo, rfl⟩ := h
  have hx' := hx
  cases hm : m.1 with
  | none =>
    rw [hm] at hx
    have hx : xv' = .agg ⟨[.bool false, .int .u64 0, .slice none 0 0]⟩ := hx
    subst hx
    exact ⟨false, 0, none, 0, 0, H', rfl, hx', hmo, rfl⟩
  | some t =>
    rw [hm] at hx
    obtain ⟨lv, rfl, h2⟩ := hx
    obtain ⟨a, c, rfl, _⟩ := h2
    exact ⟨true, t.cap, a, t.pairs.length, c, H', rfl, hx', hmo, rfl⟩
theorem TaR.weak {q q' : HProp} {v : Value} {x : Option Tb} (h : TaR q v x) (hq : ∀ b l, RdC q b l → RdC q' b l) : TaR q' v x := by
  cases x with
  | none => exact h
  | some x =>
    obtain ⟨b, lv, h1, h2, h3⟩ := h
    exact ⟨b, lv, h1, hq _ _ h2, h3.weak hq⟩
set_option maxHeartbeats 1000000 in
theorem psame_r (H1 H2 : HProp) (v u : Value) (xs : Prs) (hv : ListR prV H1 v xs) (hu : ListR prV H2 u xs) (hln : xs.length ≤ 1000000) : RTri Tryz.prog 48 #[v, u] [H1, H2] (.bool true) := by
  refine RTri.of_reads fun p hp => ?_
  have hv := hv.weak (q' := p) fun b l h => RdC.of_sat hp (ReadsC.here h)
  have hu := hu.weak (q' := p) fun b l h => RdC.of_sat hp (ReadsC.there (ReadsC.here h))
  obtain ⟨ad1, cap1, rfl, _, hv⟩ := hv
  obtain ⟨ad2, cap2, rfl, _, hu⟩ := hu
  refine Tri.of_body (vs := [_, _]) Tryz.func48 rfl rfl fun w0 F => ?_
  repeat' (first | refine Ga ?_ | (refine Gb ?_; intro b) | (refine Gd ?_; intro g cap rest hcap) | (refine Gc ?_; intro ad cap) | (refine St.draw (id := 6) [(0, 0), (1, 0), (2, 0), (3, 1), (4, 0), (5, 0), (6, 0), (7, 1), (8, 0)] [] mixed (by kernel_rfl) ?_) | (refine Ge ?_ ?_ <;> (intro h; try (exfalso; omega))) | fail)
  all_goals first | (exfalso; omega) | skip
  refine St.loopY (Lr := ?Lr1) (ι := { x : Nat // x ≤ xs.length }) (fun x => xs.length - x.1) (fun x => [(5, .int .i64 (x.1 : Int))]) (fun _ => []) ⟨0, Nat.zero_le _⟩ ?hE1 ?hL1 ?round1
  case hE1 => exact Sub.go
  case hL1 => exact Takes.go
  case round1 =>
    rintro ⟨k, hk⟩ IH; dsimp only at hk IH ⊢
    by_cases hlt : k < xs.length
    · obtain ⟨b1, o1, l1, r1, rfl, hrd1, hdr1, htk1⟩ := ListR.at (f := prV) (sz := 2) prV_len hv k hlt
      obtain ⟨b2, o2, l2, r2, rfl, hrd2, hdr2, htk2⟩ := ListR.at (f := prV) (sz := 2) prV_len hu k hlt
      generalize xs[k] = x at htk1 htk2
      obtain ⟨a, w⟩ := x
      unfold prV at htk1 htk2
      dsimp only at htk1 htk2
      have hne : ¬((!((a : Int) == (a : Int) && ((w : Int) == (w : Int) && true))) = true) := by simp
      repeat' (first | refine Ga ?_ | (refine Gb ?_; intro b) | (refine Gd ?_; intro g cap rest hcap) | (refine Gc ?_; intro ad cap) | (refine St.draw (id := 6) [(0, 0), (1, 0), (2, 0), (3, 1), (4, 0), (5, 0), (6, 0), (7, 1), (8, 0)] [] mixed (by kernel_rfl) ?_) | (refine Ge ?_ ?_ <;> (intro h; try (exfalso; first | omega | contradiction))) | fail)
      all_goals first | (exfalso; omega) | (exfalso; simp_all; done) | skip
      refine IH ⟨k + 1, hlt⟩ (by show xs.length - (k + 1) < xs.length - k; omega) ?_ ?_
      · exact Sub.go
      · exact Ent.go
    · obtain rfl : k = xs.length := by omega
      clear IH
      repeat' (first | refine Ga ?_ | (refine Gb ?_; intro b) | (refine Gd ?_; intro g cap rest hcap) | (refine Gc ?_; intro ad cap) | (refine St.draw (id := 6) [(0, 0), (1, 0), (2, 0), (3, 1), (4, 0), (5, 0), (6, 0), (7, 1), (8, 0)] [] mixed (by kernel_rfl) ?_) | (refine Ge ?_ ?_ <;> (intro h; try (exfalso; omega))) | fail)
      all_goals first | (exfalso; omega) | skip
      refine St.d1 Tryz.func48 ⟨_, ⟨rfl, rfl⟩, Ent.go⟩
set_option maxHeartbeats 1000000 in
theorem lsame_r (H : HProp) (pv xv : Value) (q : Option Tb) (hq : TaR H pv q) (hx : XuT H xv q) (hln : ∀ y, q = some y → y.pairs.length ≤ 1000) : RTri Tryz.prog 14 #[pv, xv] [H] (.bool true) := by
  refine RTri.of_reads fun p hp => ?_
  have hpr : ∀ b l, RdC H b l → RdC p b l := fun b l h => RdC.of_sat hp (ReadsC.here h)
  have hq := hq.weak hpr
  have hx := hx.weak hpr
  cases q with
  | none =>
    obtain rfl : pv = .pointer none := hq
    obtain rfl : xv = .agg ⟨[.bool false, .int .u64 0, .slice none 0 0]⟩ := hx
    refine Tri.of_body (vs := [_, _]) Tryz.func14 rfl rfl fun w0 F => ?_
    repeat' (first | refine Ga ?_ | (refine Gb ?_; intro b) | (refine Gd ?_; intro g cap rest hcap) | (refine Gc ?_; intro ad cap) | (refine St.draw (id := 9) [(0, 0), (1, 1), (2, 0), (3, 0), (4, 0), (5, 0), (6, 1), (7, 0), (8, 1), (9, 0), (10, 0), (11, 0), (12, 0), (13, 0), (14, 1), (15, 1), (16, 0), (17, 0)] [] mixed (by kernel_rfl) ?_) | (refine Ge ?_ ?_ <;> (intro h; try (exfalso; omega))) | fail)
    refine St.d1 Tryz.func14 ⟨_, ⟨rfl, rfl⟩, Ent.go⟩
  | some q =>
    obtain ⟨b, lq, rfl, hrd, hlq⟩ := hq
    obtain ⟨lv, rfl, hlx⟩ := hx
    have hl := hln q rfl
    have hlx' := hlx
    obtain ⟨xad, xcap, rfl, _⟩ := hlx'
    obtain ⟨qad, qcap, rfl, _, hlq⟩ := hlq
    refine Tri.of_body (vs := [_, _]) Tryz.func14 rfl rfl fun w0 F => ?_
    repeat' (first | refine Ga ?_ | (refine Gb ?_; intro b) | (refine Gd ?_; intro g cap rest hcap) | (refine Gc ?_; intro ad cap) | (refine St.draw (id := 9) [(0, 0), (1, 1), (2, 0), (3, 0), (4, 0), (5, 0), (6, 1), (7, 0), (8, 1), (9, 0), (10, 0), (11, 0), (12, 0), (13, 0), (14, 1), (15, 1), (16, 0), (17, 0)] [] mixed (by kernel_rfl) ?_) | (refine Ge ?_ ?_ <;> (intro h; try (exfalso; omega))) | fail)
    all_goals first | (exfalso; omega) | skip
    revert b; intro B
    revert b; intro Bx
    refine St.conv ?_ (Sub.refl _) (Ent.row_bl (sz := 2) (n := 0) rfl (by decide))
    refine St.loopY (Lr := ?Lr1) (ι := { x : Nat × Option Addr × Nat // x.1 ≤ q.pairs.length }) (fun x => q.pairs.length - x.1.1)
      (fun x => [(19, .int .i64 (x.1.1 : Int)), (5, .slice x.1.2.1 x.1.1 x.1.2.2)]) (fun x => [Row (.slice x.1.2.1 x.1.1 x.1.2.2) 100 2 x.1.1 ((q.pairs.take x.1.1).flatMap prV)]) ⟨(0, some ⟨B, 0, none⟩, 0), Nat.zero_le _⟩ ?hE1 ?hL1 ?round1
    case hE1 => exact Sub.go
    case hL1 => exact Takes.go
    case round1 =>
      rintro ⟨⟨i, oad, ocap⟩, hi⟩ IH; dsimp only at hi IH ⊢
      by_cases hlt : i < q.pairs.length
      · obtain ⟨bf, o, l, l1, rfl, hrd1, hdr, htk⟩ := ListR.at (f := prV) (sz := 2) prV_len hlq i hlt
        have ht1 : (q.pairs.take (i + 1)).flatMap prV = (q.pairs.take i).flatMap prV ++ prV q.pairs[i] := by
          rw [List.take_succ_eq_append_getElem hlt, List.flatMap_append, List.flatMap_cons, List.flatMap_nil, List.append_nil]
        generalize q.pairs[i] = x at htk ht1
        obtain ⟨a, b0⟩ := x
        unfold prV at htk
        dsimp only at htk ht1
        repeat' (first | refine Ga ?_ | (refine Gb ?_; intro b) | (refine Gd ?_; intro g cap rest hcap) | (refine Gc ?_; intro ad cap) | (refine St.draw (id := 9) [(0, 0), (1, 1), (2, 0), (3, 0), (4, 0), (5, 0), (6, 1), (7, 0), (8, 1), (9, 0), (10, 0), (11, 0), (12, 0), (13, 0), (14, 1), (15, 1), (16, 0), (17, 0)] [] mixed (by kernel_rfl) ?_) | (refine Ge ?_ ?_ <;> (intro h; try (exfalso; omega))) | fail)
        all_goals first | (exfalso; omega) | skip
        refine IH ⟨(i + 1, ad, cap), hlt⟩ (by show q.pairs.length - (i + 1) < q.pairs.length - i; omega) ?_ ?_
        · exact Sub.go
        · dsimp only; rw [ht1]; exact Ent.go
      · obtain rfl : i = q.pairs.length := by omega
        clear IH
        rw [List.take_length]
        refine St.conv ?_ (Sub.refl _) (Ent.of_take (p := Row (.slice oad q.pairs.length ocap) 100 2 q.pairs.length (q.pairs.flatMap prV)) Take.go)
        refine St.rowL rfl fun R hR => ?_
        have hsm := psame_r R p _ _ q.pairs hR hlx (by omega)
        repeat' (first | refine Ga ?_ | (refine Gb ?_; intro b) | (refine Gd ?_; intro g cap rest hcap) | (refine Gc ?_; intro ad cap) | (refine St.draw (id := 9) [(0, 0), (1, 1), (2, 0), (3, 0), (4, 0), (5, 0), (6, 1), (7, 0), (8, 1), (9, 0), (10, 0), (11, 0), (12, 0), (13, 0), (14, 1), (15, 1), (16, 0), (17, 0)] [] mixed (by kernel_rfl) ?_)| refine Gl hsm ?_ | (refine Ge ?_ ?_ <;> (intro h; try (exfalso; omega))) | fail)
        all_goals first | (exfalso; omega) | skip
        refine St.d1 Tryz.func14 ⟨_, ⟨rfl, rfl⟩, Ent.go⟩
end Go.Proofs.YtphheopbngdhhaaGreatDoor
