/-
  Package lay: Boot, the memory with which all begins.
-/
import Derived.Test.YtemaaenipjinaaaGreatCell
namespace Go.Proofs.YtemaaenipjinaaaGreat
def Cfg.size (c : Cfg) : Nat := c.f17.toNat
/-- the cells behind i of the stack's entries -/
def Cfg.bootN (c : Cfg) : Nat → List Cell
  | 0 => setOf (setOf (List.replicate c.size ⟨0, 0⟩) (c.at 0 0 0) ⟨0, c.first⟩) (c.at 12 0 0) ⟨c.blocks.toNat, 0⟩
  | i + 1 => setOf (c.bootN i) (c.at 13 i 0) ⟨(c.blocks - 1 - i).toNat, 0⟩
theorem Cfg.bootN_len (c : Cfg) : ∀ i, (c.bootN i).length = c.size
  | 0 => by simp [Cfg.bootN, setOf_len]
  | i + 1 => by rw [Cfg.bootN, setOf_len, Cfg.bootN_len c i]
def Cfg.boot (c : Cfg) : List Cell := c.bootN c.blocks.toNat
theorem boot_t (c : Cfg) (hc : Small c) :
    Tri Tryz.prog 32 #[.agg ⟨c.m⟩] [] fun v L => ∃ M C, v = .pointer (some ⟨M, 0, none⟩) ∧ L = [bl M 180 (memV C c.size zeros8 (.slice none 0 0)), bl C 43 (c.boot.flatMap Cell.v)] := by
  have hn := hc.nums.f7; have hn2 := hc.nums.f17; have ht := hc.ts
  have := hc.t0; have := hc.t1; have := hc.b0; have := hc.b1; have := hc.limit
  obtain ⟨hf7, hf10, hf11, hf12, hf13, hf14, hf15, hf16, hf17, hstr⟩ := c.froms
  have hsz : (c.size : Int) = c.f17 := by unfold Cfg.size; omega
  have hnew := new_t c.size (by omega)
  rw [hsz] at hnew
  have hb : (c.blocks.toNat : Int) = c.blocks := by omega
  have hset1 := fun M C => set_t M C c.size (List.replicate c.size ⟨0, 0⟩) (by simp) zeros8 (.slice none 0 0) (c.at 0 0 0) ⟨0, c.first⟩
  have hset2 := fun M C => set_t M C c.size (setOf (List.replicate c.size ⟨0, 0⟩) (c.at 0 0 0) ⟨0, c.first⟩) (by simp [setOf_len]) zeros8 (.slice none 0 0) (c.at 12 0 0) ⟨c.blocks.toNat, 0⟩
  unfold Cell.v at hset2
  simp only [hb] at hset2
  refine Tri.of_body (vs := [_]) Tryz.func32 rfl rfl fun w0 F => ?_
  repeat' (first | refine Ga ?_ | (refine Gb ?_; intro b) | (refine Gd ?_; intro g cap rest hcap) | (refine Gc ?_; intro ad cap) | (refine St.draw (id := 2) [(0, 0), (1, 1), (2, 1), (3, 0), (4, 0), (5, 1), (6, 0), (7, 3)] [7] mixed (by kernel_rfl) ?_) | (refine St.draw (id := 3) [(0, 0), (1, 1), (2, 1), (3, 0), (4, 0), (5, 1), (6, 0), (7, 0), (8, 3)] [8] mixed (by kernel_rfl) ?_) | (refine St.draw (id := 7) [(0, 0), (1, 1), (2, 0), (3, 1), (4, 0), (5, 0), (6, 1), (7, 0), (8, 0), (9, 0), (10, 0), (11, 0), (12, 3)] [12] mixed (by kernel_rfl) ?_)| refine Gl (size_r c) ?_ | refine Gl (at_r c hc _ _ _) ?_ | (refine Gt hnew ?_; rintro _ _ ⟨M, C, rfl, rfl⟩) | (refine Gt (hset1 M C) ?_; rintro _ _ ⟨rfl, rfl⟩) | (refine Gt (hset2 M C) ?_; rintro _ _ ⟨rfl, rfl⟩) | (refine Ge ?_ ?_ <;> (intro h; try (exfalso; omega))) | fail)
  refine St.loop (ι := { i : Nat // (i : Int) ≤ c.blocks }) (fun i => (c.blocks - i.1).toNat)
    (fun i => [(1, .pointer (some ⟨b, 0, none⟩)), (3, .pointer (some ⟨M, 0, none⟩)), (31, .int .i64 c.blocks), (32, .int .i64 (i.1 : Int))])
    (fun i => [bl M 180 (memV C c.size zeros8 (.slice none 0 0)), bl C 43 ((c.bootN i.1).flatMap Cell.v), bl b 34 c.m] ++ F) ⟨0, by omega⟩ ?hE ?hL ?round
  case hE => exact Sub.go
  case hL => exact Ent.go
  case round =>
    rintro ⟨i, hi⟩ IH; dsimp only
    have hset3 := set_t M C c.size (c.bootN i) (c.bootN_len i) zeros8 (.slice none 0 0) (c.at 13 i 0) ⟨(c.blocks - 1 - i).toNat, 0⟩
    by_cases hlt : (i : Int) < c.blocks
    · have hb3 : ((c.blocks - 1 - (i : Int)).toNat : Int) = c.blocks - 1 - i := by omega
      unfold Cell.v at hset3
      simp only [hb3] at hset3
      repeat' (first | refine Ga ?_ | (refine Gb ?_; intro b) | (refine Gd ?_; intro g cap rest hcap) | (refine Gc ?_; intro ad cap) | (refine St.draw (id := 2) [(0, 0), (1, 1), (2, 1), (3, 0), (4, 0), (5, 1), (6, 0), (7, 3)] [7] mixed (by kernel_rfl) ?_) | (refine St.draw (id := 3) [(0, 0), (1, 1), (2, 1), (3, 0), (4, 0), (5, 1), (6, 0), (7, 0), (8, 3)] [8] mixed (by kernel_rfl) ?_) | (refine St.draw (id := 7) [(0, 0), (1, 1), (2, 0), (3, 1), (4, 0), (5, 0), (6, 1), (7, 0), (8, 0), (9, 0), (10, 0), (11, 0), (12, 3)] [12] mixed (by kernel_rfl) ?_)| refine Gl (at_r c hc _ _ _) ?_ | (refine Gt hset3 ?_; rintro _ _ ⟨rfl, rfl⟩) | (refine Ge ?_ ?_ <;> (intro h; try (exfalso; omega))) | fail)
      refine (IH ⟨i + 1, by omega⟩ (by show (c.blocks - ((i + 1 : Nat) : Int)).toNat < (c.blocks - (i : Int)).toNat; omega)).conv ?_ ?_
      · exact Sub.go
      · exact Ent.go
    · have hi2 : i = c.blocks.toNat := by omega
      repeat' (first | refine Ga ?_ | (refine Gb ?_; intro b) | (refine Gd ?_; intro g cap rest hcap) | (refine Gc ?_; intro ad cap) | (refine St.draw (id := 2) [(0, 0), (1, 1), (2, 1), (3, 0), (4, 0), (5, 1), (6, 0), (7, 3)] [7] mixed (by kernel_rfl) ?_) | (refine St.draw (id := 3) [(0, 0), (1, 1), (2, 1), (3, 0), (4, 0), (5, 1), (6, 0), (7, 0), (8, 3)] [8] mixed (by kernel_rfl) ?_) | (refine St.draw (id := 7) [(0, 0), (1, 1), (2, 0), (3, 1), (4, 0), (5, 0), (6, 1), (7, 0), (8, 0), (9, 0), (10, 0), (11, 0), (12, 3)] [12] mixed (by kernel_rfl) ?_) | (refine Ge ?_ ?_ <;> (intro h; try (exfalso; omega))) | fail)
      refine St.d1 Tryz.func32 ?_; apply Exists.intro; apply And.intro; (refine ⟨M, C, rfl, ?_⟩); (rw [Cfg.boot, ← hi2]); exact Ent.go
end Go.Proofs.YtemaaenipjinaaaGreat
