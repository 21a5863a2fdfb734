/-
  Package lay: Of.
-/
import Derived.Test.YtemaaenipjinaaaGreatLayb
namespace Go.Proofs.YtemaaenipjinaaaGreat
def zero18 : List Value := [.int .i64 0, .int .i64 0, .int .i64 0, .int .i64 0, .int .i64 0, .int .i64 0, .int .i64 0, .int .i64 0, .int .i64 0, .int .i64 0, .int .i64 0, .int .i64 0, .int .i64 0, .int .i64 0, .int .i64 0, .int .i64 0, .int .i64 0, .int .i64 0]
def Cfg.zero : Cfg := ⟨0, 0, 0, 0, 0, 0⟩
def Cfg.ofV (c : Cfg) : Value := if c.right then .tuple ⟨[.agg ⟨c.m⟩, .int .i64 0]⟩ else .tuple ⟨[.agg ⟨Cfg.zero.v ++ zero18⟩, .int .i64 1]⟩
theorem of_r (c : Cfg) : RTri Tryz.prog 16 #[.agg ⟨c.v⟩] [] c.ofV := by
  apply RTri.of_pure
  cases hr : c.right with
  | false =>
    have hr' := right_r c
    rw [hr] at hr'
    refine Tri.of_body (vs := [_]) Tryz.func16 rfl rfl fun w0 F => ?_
    repeat' (first | refine Ga ?_ | (refine Gb ?_; intro b) | (refine Gd ?_; intro g cap rest hcap) | (refine Gc ?_; intro ad cap) | (refine St.draw (id := 4) [(0, 0), (1, 1), (2, 1), (3, 1), (4, 0), (5, 0), (6, 0)] [] mixed (by kernel_rfl) ?_) | (refine St.draw (id := 5) [(0, 0), (1, 1), (2, 0), (3, 0), (4, 0), (5, 0), (6, 1), (7, 0), (8, 0), (9, 0), (10, 1), (11, 0), (12, 0), (13, 1), (14, 1), (15, 0), (16, 0), (17, 1), (18, 0), (19, 0), (22, 0), (20, 2), (21, 0)] [] mixed (by kernel_rfl) ?_)| refine Gl hr' ?_ | (refine Ge ?_ ?_ <;> (intro h; try (exfalso; omega))) | fail)
    all_goals (first | refine St.dn Tryz.func16 ⟨?_, rfl⟩ Ent.go | refine St.fl Tryz.func16 ⟨?_, rfl⟩ Ent.go)
    rw [Cfg.ofV, if_neg (by rw [hr]; decide)]; rfl
  | true =>
    have hr' := right_r c
    rw [hr] at hr'
    have hc := Cfg.small hr
    have hn := hc.nums.f7; have hn2 := hc.nums.f17; have ht := hc.ts
    have hcap := hc.cap
    have := hc.t0; have := hc.t1; have := hc.b0; have := hc.b1; have := hc.limit
    obtain ⟨hf7, hf10, hf11, hf12, hf13, hf14, hf15, hf16, hf17, hstr⟩ := c.froms
    refine Tri.of_body (vs := [_]) Tryz.func16 rfl rfl fun w0 F => ?_
    repeat' (first | refine Ga ?_ | (refine Gb ?_; intro b) | (refine Gd ?_; intro g cap rest hcap) | (refine Gc ?_; intro ad cap) | (refine St.draw (id := 4) [(0, 0), (1, 1), (2, 1), (3, 1), (4, 0), (5, 0), (6, 0)] [] mixed (by kernel_rfl) ?_) | (refine St.draw (id := 5) [(0, 0), (1, 1), (2, 0), (3, 0), (4, 0), (5, 0), (6, 1), (7, 0), (8, 0), (9, 0), (10, 1), (11, 0), (12, 0), (13, 1), (14, 1), (15, 0), (16, 0), (17, 1), (18, 0), (19, 0), (22, 0), (20, 2), (21, 0)] [] mixed (by kernel_rfl) ?_)| refine Gl hr' ?_ | refine Gl (stride_r c hc zero18 rfl) ?_ | refine Gl (limit_r c hc zero18) ?_ | (refine Ge ?_ ?_ <;> (intro h; try (exfalso; omega))) | fail)
    iterate 9 ((first | apply St.inLoop1 | apply St.loop1); repeat' (first | refine Ga ?_ | (refine Gb ?_; intro b) | (refine Gd ?_; intro g cap rest hcap) | (refine Gc ?_; intro ad cap) | (refine St.draw (id := 4) [(0, 0), (1, 1), (2, 1), (3, 1), (4, 0), (5, 0), (6, 0)] [] mixed (by kernel_rfl) ?_) | (refine St.draw (id := 5) [(0, 0), (1, 1), (2, 0), (3, 0), (4, 0), (5, 0), (6, 1), (7, 0), (8, 0), (9, 0), (10, 1), (11, 0), (12, 0), (13, 1), (14, 1), (15, 0), (16, 0), (17, 1), (18, 0), (19, 0), (22, 0), (20, 2), (21, 0)] [] mixed (by kernel_rfl) ?_) | (refine Ge ?_ ?_ <;> (intro h; try (exfalso; omega))) | fail))
    (first | refine St.dn Tryz.func16 ⟨?_, rfl⟩ Ent.go | refine St.fl Tryz.func16 ⟨?_, rfl⟩ Ent.go)
    rw [Cfg.ofV, if_pos hr]; rfl
end Go.Proofs.YtemaaenipjinaaaGreat
