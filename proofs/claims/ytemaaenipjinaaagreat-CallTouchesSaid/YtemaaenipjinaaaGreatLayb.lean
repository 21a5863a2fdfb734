/-
  Package lay: What and Of.
-/
import Derived.Test.YtemaaenipjinaaaGreatLay
namespace Go.Proofs.YtemaaenipjinaaaGreat
structure Froms (c : Cfg) : Prop where
  hf7 : c.f7 = 1 + c.threads * c.stride
  hf10 : c.f10 = c.f7 + c.threads * 3
  hf11 : c.f11 = c.f10 + 16
  hf12 : c.f12 = c.f11 + c.blocks
  hf13 : c.f13 = c.f12 + 1
  hf14 : c.f14 = c.f13 + c.blocks
  hf15 : c.f15 = c.f14 + 1
  hf16 : c.f16 = c.f15 + c.limit
  hf17 : c.f17 = c.f16 + c.blocks * 8
  hstr : c.stride = 8 + c.cap
theorem Cfg.froms (c : Cfg) : Froms c := ⟨rfl, rfl, rfl, rfl, rfl, rfl, rfl, rfl, rfl, rfl⟩
/-- what stands at a place -/
def Cfg.what (c : Cfg) (p : Int) : Int × Int × Int :=
  if p < 0 ∨ c.f17 ≤ p then (-1, 0, 0) else
  if p = 0 then (0, 0, 0) else
  if p < c.f7 then
    (if 8 ≤ (p - 1) % c.stride then (6, (p - 1) / c.stride, (p - 1) % c.stride - 8) else
     if 7 ≤ (p - 1) % c.stride then (5, (p - 1) / c.stride, (p - 1) % c.stride - 7) else
     if 6 ≤ (p - 1) % c.stride then (4, (p - 1) / c.stride, (p - 1) % c.stride - 6) else
     if 5 ≤ (p - 1) % c.stride then (3, (p - 1) / c.stride, (p - 1) % c.stride - 5) else
     if 1 ≤ (p - 1) % c.stride then (2, (p - 1) / c.stride, (p - 1) % c.stride - 1) else (1, (p - 1) / c.stride, (p - 1) % c.stride)) else
  if p < c.f10 then (7 + (p - c.f7) % 3, (p - c.f7) / 3, 0) else
  if c.f16 ≤ p then (16, (p - c.f16) / 8, (p - c.f16) % 8) else
  if c.f15 ≤ p then (15, p - c.f15, 0) else
  if c.f14 ≤ p then (14, p - c.f14, 0) else
  if c.f13 ≤ p then (13, p - c.f13, 0) else
  if c.f12 ≤ p then (12, p - c.f12, 0) else
  if c.f11 ≤ p then (11, p - c.f11, 0) else (10, p - c.f10, 0)
theorem what_r (c : Cfg) (hc : Small c) (p : Int) : RTri Tryz.prog 31 #[.agg ⟨c.m⟩, .int .i64 p] [] (.tuple ⟨[.int .i64 (c.what p).1, .int .i64 (c.what p).2.1, .int .i64 (c.what p).2.2]⟩) := by
  have hn := hc.nums.f7; have hn2 := hc.nums.f17; have ht := hc.ts
  have hcap := hc.cap
  have := hc.t0; have := hc.t1; have := hc.b0; have := hc.b1; have := hc.limit
  obtain ⟨hf7, hf10, hf11, hf12, hf13, hf14, hf15, hf16, hf17, hstr⟩ := c.froms
  have hdiv : 0 ≤ (p - 1) % c.stride ∧ (p - 1) % c.stride < c.stride := ⟨Int.emod_nonneg _ (by omega), Int.emod_lt_of_pos _ (by omega)⟩
  have hdiv2 : 0 ≤ p - 1 → 0 ≤ (p - 1) / c.stride ∧ (p - 1) / c.stride ≤ p - 1 := fun h => ⟨Int.ediv_nonneg h (by omega), Int.ediv_le_self _ h⟩
  have c16 : (c.cnt 16).2 = 8 := rfl
  have c15 : (c.cnt (16 - 1)).2 = 1 := rfl
  have c14 : (c.cnt (16 - 1 - 1)).2 = 1 := rfl
  have c13 : (c.cnt (16 - 1 - 1 - 1)).2 = 1 := rfl
  have c12 : (c.cnt (16 - 1 - 1 - 1 - 1)).2 = 1 := rfl
  have c11 : (c.cnt (16 - 1 - 1 - 1 - 1 - 1)).2 = 1 := rfl
  have c10 : (c.cnt (16 - 1 - 1 - 1 - 1 - 1 - 1)).2 = 1 := rfl
  have o6 : ownOf 6 = 8 := rfl
  have o5 : ownOf 5 = 7 := rfl
  have o4 : ownOf 4 = 6 := rfl
  have o3 : ownOf 3 = 5 := rfl
  have o2 : ownOf 2 = 1 := rfl
  have o1 : ownOf 1 = 0 := rfl
  apply RTri.of_pure
  refine Tri.of_body (vs := [_, _]) Tryz.func31 rfl rfl fun w0 F => ?_
  repeat' (first | refine Ga ?_ | (refine Gb ?_; intro b) | (refine Gd ?_; intro g cap rest hcap) | (refine Gc ?_; intro ad cap) | (refine St.draw (id := 6) [(0, 0), (1, 0), (2, 1), (3, 1), (4, 0), (5, 0), (6, 0), (7, 1), (8, 1), (9, 0), (10, 0), (11, 0)] [] mixed (by kernel_rfl) ?_) | (refine St.draw (id := 21) [(0, 0), (1, 0), (2, 0), (3, 0), (4, 0), (5, 0), (6, 0), (7, 0), (8, 0), (9, 0)] [] mixed (by kernel_rfl) ?_)| refine Gl (size_r c) ?_ | refine Gl (stride_r c hc c.fr rfl) ?_ | (refine Ge ?_ ?_ <;> (intro h; try (exfalso; omega))) | fail)
  iterate 8 all_goals (try ((first | apply St.inLoop1 | apply St.loop1); repeat' (first | refine Ga ?_ | (refine Gb ?_; intro b) | (refine Gd ?_; intro g cap rest hcap) | (refine Gc ?_; intro ad cap) | (refine St.draw (id := 6) [(0, 0), (1, 0), (2, 1), (3, 1), (4, 0), (5, 0), (6, 0), (7, 1), (8, 1), (9, 0), (10, 0), (11, 0)] [] mixed (by kernel_rfl) ?_) | (refine St.draw (id := 21) [(0, 0), (1, 0), (2, 0), (3, 0), (4, 0), (5, 0), (6, 0), (7, 0), (8, 0), (9, 0)] [] mixed (by kernel_rfl) ?_)| refine Gl (own_r _) ?_ | refine Gl (counts_r c hc _) ?_ | (refine Ge ?_ ?_ <;> (intro h; try (exfalso; omega))) | fail)))
  all_goals (first | refine St.dn Tryz.func31 ⟨?_, rfl⟩ Ent.go | refine St.fl Tryz.func31 ⟨?_, rfl⟩ Ent.go)
  all_goals simp only [resV, c16, c15, c14, c13, c12, c11, c10, Int.ediv_one, Int.emod_one]
  all_goals unfold Cfg.what
  all_goals (repeat (first | rw [if_pos (by omega)] | rw [if_neg (by omega)]))
  all_goals exact tup3 (by dsimp only; try omega) (by dsimp only; try omega) (by dsimp only; try omega)
end Go.Proofs.YtemaaenipjinaaaGreat
