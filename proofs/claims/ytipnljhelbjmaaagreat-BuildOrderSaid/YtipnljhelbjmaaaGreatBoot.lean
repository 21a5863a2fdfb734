/-
  Package lay: Boot, the memory with which all begins.
-/
import Derived.Test.YtipnljhelbjmaaaGreatCell
namespace Go.Proofs.YtipnljhelbjmaaaGreat
def Cfg.size (c : Cfg) : Nat := c.f17.toNat
/-- the cells behind i of the stack's entries -/
def Cfg.bootN (c : Cfg) : Nat → List Cell
  | 0 => setOf (setOf (List.replicate c.size ⟨0, 0⟩) (c.at 0 0 0) ⟨0, c.first⟩) (c.at 12 0 0) ⟨c.blocks.toNat, 0⟩
  | i + 1 => setOf (c.bootN i) (c.at 13 i 0) ⟨(c.blocks - 1 - i).toNat, 0⟩
theorem Cfg.bootN_len (c : Cfg) : ∀ i, (c.bootN i).length = c.size
  | 0 => by simp [Cfg.bootN, setOf_len]
  | i + 1 => by rw [Cfg.bootN, setOf_len, Cfg.bootN_len c i]
def Cfg.boot (c : Cfg) : List Cell := c.bootN c.blocks.toNat
theorem boot_t (c : Cfg) (hc : Small c) :
    Tri Tryz.prog 45 #[.agg ⟨c.m⟩] [] fun v L => ∃ M C, v = .pointer (some ⟨M, 0, none⟩) ∧ L = [bl M 190 (memV C c.size zeros8 (.slice none 0 0)), bl C 39 (c.boot.flatMap Cell.v)] := by
  have hn := hc.nums.f7; have hn2 := hc.nums.f17; have ht := hc.ts
  have := hc.t0; have := hc.t1; have := hc.b0; have := hc.b1; have := hc.limit
  obtain ⟨hf7, hf10, hf11, hf12, hf13, hf14, hf15, hf16, hf17, hstr⟩ := c.froms
  have hsz : (c.size : Int) = c.f17 := by unfold Cfg.size; omega
  have hnew := new_t c.size (by omega)
  rw [hsz] at hnew
  have hb : (c.blocks.toNat : Int) = c.blocks := by omega
  have hset1 := fun M C => set_t M C c.size (List.replicate c.size ⟨0, 0⟩) (by simp) zeros8 (.slice none 0 0) (c.at 0 0 0) ⟨0, c.first⟩
  have hset2 := fun M C => set_t M C c.size (setOf (List.replicate c.size ⟨0, 0⟩) (c.at 0 0 0) ⟨0, c.first⟩) (by simp [setOf_len]) zeros8 (.slice none 0 0) (c.at 12 0 0) ⟨c.blocks.toNat, 0⟩
  unfold Cell.v at hset2
  simp only [hb] at hset2
  refine Tri.of_body (vs := [_]) Tryz.func45 rfl rfl fun w0 F => ?_
  repeat' (first | (apply Ya; exact Oa) | (apply Yb; exact Ob) | (apply Yc; exact Oc; intro b) | (apply Ye; exact Oe; intro g cap rest hcap) | (apply Yd; exact Od; intro ad cap) | (apply Yf; exact Oj) | (apply Yg; exact Oj; exact ⟨rfl, rfl⟩) | (apply Yh; exact Oj; rfl) | (apply Yi; exact Oj; exact On; all_goals (intro h; try (exfalso; omega))) | apply StL.nil | apply St.region | apply St.seq | apply St.block | apply St.inBlock | apply St.skip | (apply St.exit; rfl) | (apply St.cond_t; rfl) | (apply St.cond_f; rfl) | (apply Ud; rfl; exact On; all_goals (intro h; try (exfalso; omega))) | (apply Za; rfl; exact Oa) | (apply Zb; rfl; exact Oa; exact Ent.go) | (apply Zc; rfl; exact Ob) | (apply Zd; rfl; exact Oc; intro b; refine ⟨Ent.go, ?_⟩) | (apply Ze; rfl; exact Oc; intro b) | (apply Zf; rfl; exact Oe; intro g cap rest hcap) | (apply Zg; rfl; exact Od; intro ad cap) | apply StD.nil | exact StD.nope | apply StD.pick | (apply StD.claim; rfl; intro b) | (apply Zi; rfl; exact Oj; exact Oa) | (apply Zj; rfl; exact Oj; exact Oa; exact Ent.go) | (apply Zk; rfl; exact Oj; exact ⟨rfl, rfl⟩) | (apply Zl; rfl; exact Oj; exact ⟨rfl, rfl⟩; exact Ent.go) | (apply Zm; rfl; exact Oj; rfl) | (apply Zn; rfl; exact Oj; exact Ent.go; rfl) | (refine St.draw (id := 2) [(0, 0), (1, 1), (2, 1), (3, 0), (4, 0), (5, 1), (6, 0), (7, 3)] [7] mixed (by kernel_rfl) ?_) | (refine St.draw (id := 3) [(0, 0), (1, 1), (2, 1), (3, 0), (4, 0), (5, 1), (6, 0), (7, 0), (8, 3)] [8] mixed (by kernel_rfl) ?_) | (refine St.draw (id := 7) [(0, 0), (1, 1), (2, 0), (3, 1), (4, 0), (5, 0), (6, 1), (7, 0), (8, 0), (9, 0), (10, 0), (11, 0), (12, 3)] [12] mixed (by kernel_rfl) ?_) | (apply Ka; exact Og; exact size_r c; exact Oh) | (apply Kb; rfl; exact Og; exact size_r c; exact Oi) | (apply Kc; rfl; exact Oj; exact Og; exact size_r c; exact Oi) | (apply Ka; exact Og; exact at_r c hc _ _ _; exact Oh) | (apply Kb; rfl; exact Og; exact at_r c hc _ _ _; exact Oi) | (apply Kc; rfl; exact Oj; exact Og; exact at_r c hc _ _ _; exact Oi) | (apply Kd; exact Og; exact hnew; exact Oh; rintro _ _ ⟨M, C, rfl, rfl⟩) | (apply Ke; rfl; exact Og; exact hnew; exact Oh; rintro _ _ ⟨M, C, rfl, rfl⟩) | (apply Kf; rfl; exact Og; exact hnew; exact Oh; rintro _ _ ⟨M, C, rfl, rfl⟩; refine ⟨Ent.go, ?_⟩) | (apply Kd; exact Og; exact hset1 M C; exact Oh; rintro _ _ ⟨rfl, rfl⟩) | (apply Ke; rfl; exact Og; exact hset1 M C; exact Oh; rintro _ _ ⟨rfl, rfl⟩) | (apply Kf; rfl; exact Og; exact hset1 M C; exact Oh; rintro _ _ ⟨rfl, rfl⟩; refine ⟨Ent.go, ?_⟩) | (apply Kd; exact Og; exact hset2 M C; exact Oh; rintro _ _ ⟨rfl, rfl⟩) | (apply Ke; rfl; exact Og; exact hset2 M C; exact Oh; rintro _ _ ⟨rfl, rfl⟩) | (apply Kf; rfl; exact Og; exact hset2 M C; exact Oh; rintro _ _ ⟨rfl, rfl⟩; refine ⟨Ent.go, ?_⟩) | (apply Zo; rfl; exact Oj; exact On; all_goals (intro h; try (exfalso; omega))))
  refine St.loop (ι := { i : Nat // (i : Int) ≤ c.blocks }) (fun i => (c.blocks - i.1).toNat)
    (fun i => [(1, .pointer (some ⟨b, 0, none⟩)), (3, .pointer (some ⟨M, 0, none⟩)), (31, .int .i64 c.blocks), (32, .int .i64 (i.1 : Int))])
    (fun i => [bl M 190 (memV C c.size zeros8 (.slice none 0 0)), bl C 39 ((c.bootN i.1).flatMap Cell.v), bl b 31 c.m] ++ F) ⟨0, by omega⟩ ?hE ?hL ?round
  case hE => exact Sub.go
  case hL => exact Ent.go
  case round =>
    rintro ⟨i, hi⟩ IH; dsimp only
    have hset3 := set_t M C c.size (c.bootN i) (c.bootN_len i) zeros8 (.slice none 0 0) (c.at 13 i 0) ⟨(c.blocks - 1 - i).toNat, 0⟩
    by_cases hlt : (i : Int) < c.blocks
    · have hb3 : ((c.blocks - 1 - (i : Int)).toNat : Int) = c.blocks - 1 - i := by omega
      unfold Cell.v at hset3
      simp only [hb3] at hset3
      repeat' (first | (apply Ya; exact Oa) | (apply Yb; exact Ob) | (apply Yc; exact Oc; intro b) | (apply Ye; exact Oe; intro g cap rest hcap) | (apply Yd; exact Od; intro ad cap) | (apply Yf; exact Oj) | (apply Yg; exact Oj; exact ⟨rfl, rfl⟩) | (apply Yh; exact Oj; rfl) | (apply Yi; exact Oj; exact On; all_goals (intro h; try (exfalso; omega))) | apply StL.nil | apply St.region | apply St.seq | apply St.block | apply St.inBlock | apply St.skip | (apply St.exit; rfl) | (apply St.cond_t; rfl) | (apply St.cond_f; rfl) | (apply Ud; rfl; exact On; all_goals (intro h; try (exfalso; omega))) | (apply Za; rfl; exact Oa) | (apply Zb; rfl; exact Oa; exact Ent.go) | (apply Zc; rfl; exact Ob) | (apply Zd; rfl; exact Oc; intro b; refine ⟨Ent.go, ?_⟩) | (apply Ze; rfl; exact Oc; intro b) | (apply Zf; rfl; exact Oe; intro g cap rest hcap) | (apply Zg; rfl; exact Od; intro ad cap) | apply StD.nil | exact StD.nope | apply StD.pick | (apply StD.claim; rfl; intro b) | (apply Zi; rfl; exact Oj; exact Oa) | (apply Zj; rfl; exact Oj; exact Oa; exact Ent.go) | (apply Zk; rfl; exact Oj; exact ⟨rfl, rfl⟩) | (apply Zl; rfl; exact Oj; exact ⟨rfl, rfl⟩; exact Ent.go) | (apply Zm; rfl; exact Oj; rfl) | (apply Zn; rfl; exact Oj; exact Ent.go; rfl) | (refine St.draw (id := 2) [(0, 0), (1, 1), (2, 1), (3, 0), (4, 0), (5, 1), (6, 0), (7, 3)] [7] mixed (by kernel_rfl) ?_) | (refine St.draw (id := 3) [(0, 0), (1, 1), (2, 1), (3, 0), (4, 0), (5, 1), (6, 0), (7, 0), (8, 3)] [8] mixed (by kernel_rfl) ?_) | (refine St.draw (id := 7) [(0, 0), (1, 1), (2, 0), (3, 1), (4, 0), (5, 0), (6, 1), (7, 0), (8, 0), (9, 0), (10, 0), (11, 0), (12, 3)] [12] mixed (by kernel_rfl) ?_) | (apply Ka; exact Og; exact at_r c hc _ _ _; exact Oh) | (apply Kb; rfl; exact Og; exact at_r c hc _ _ _; exact Oi) | (apply Kc; rfl; exact Oj; exact Og; exact at_r c hc _ _ _; exact Oi) | (apply Kd; exact Og; exact hset3; exact Oh; rintro _ _ ⟨rfl, rfl⟩) | (apply Ke; rfl; exact Og; exact hset3; exact Oh; rintro _ _ ⟨rfl, rfl⟩) | (apply Kf; rfl; exact Og; exact hset3; exact Oh; rintro _ _ ⟨rfl, rfl⟩; refine ⟨Ent.go, ?_⟩) | (apply Zo; rfl; exact Oj; exact On; all_goals (intro h; try (exfalso; omega))))
      refine (IH ⟨i + 1, by omega⟩ (by show (c.blocks - ((i + 1 : Nat) : Int)).toNat < (c.blocks - (i : Int)).toNat; omega)).conv ?_ ?_
      · exact Sub.go
      · exact Ent.go
    · have hi2 : i = c.blocks.toNat := by omega
      repeat' (first | (apply Ya; exact Oa) | (apply Yb; exact Ob) | (apply Yc; exact Oc; intro b) | (apply Ye; exact Oe; intro g cap rest hcap) | (apply Yd; exact Od; intro ad cap) | (apply Yf; exact Oj) | (apply Yg; exact Oj; exact ⟨rfl, rfl⟩) | (apply Yh; exact Oj; rfl) | (apply Yi; exact Oj; exact On; all_goals (intro h; try (exfalso; omega))) | apply StL.nil | apply St.region | apply St.seq | apply St.block | apply St.inBlock | apply St.skip | (apply St.exit; rfl) | (apply St.cond_t; rfl) | (apply St.cond_f; rfl) | (apply Ud; rfl; exact On; all_goals (intro h; try (exfalso; omega))) | (apply Za; rfl; exact Oa) | (apply Zb; rfl; exact Oa; exact Ent.go) | (apply Zc; rfl; exact Ob) | (apply Zd; rfl; exact Oc; intro b; refine ⟨Ent.go, ?_⟩) | (apply Ze; rfl; exact Oc; intro b) | (apply Zf; rfl; exact Oe; intro g cap rest hcap) | (apply Zg; rfl; exact Od; intro ad cap) | apply StD.nil | exact StD.nope | apply StD.pick | (apply StD.claim; rfl; intro b) | (apply Zi; rfl; exact Oj; exact Oa) | (apply Zj; rfl; exact Oj; exact Oa; exact Ent.go) | (apply Zk; rfl; exact Oj; exact ⟨rfl, rfl⟩) | (apply Zl; rfl; exact Oj; exact ⟨rfl, rfl⟩; exact Ent.go) | (apply Zm; rfl; exact Oj; rfl) | (apply Zn; rfl; exact Oj; exact Ent.go; rfl) | (refine St.draw (id := 2) [(0, 0), (1, 1), (2, 1), (3, 0), (4, 0), (5, 1), (6, 0), (7, 3)] [7] mixed (by kernel_rfl) ?_) | (refine St.draw (id := 3) [(0, 0), (1, 1), (2, 1), (3, 0), (4, 0), (5, 1), (6, 0), (7, 0), (8, 3)] [8] mixed (by kernel_rfl) ?_) | (refine St.draw (id := 7) [(0, 0), (1, 1), (2, 0), (3, 1), (4, 0), (5, 0), (6, 1), (7, 0), (8, 0), (9, 0), (10, 0), (11, 0), (12, 3)] [12] mixed (by kernel_rfl) ?_)  | (apply Zo; rfl; exact Oj; exact On; all_goals (intro h; try (exfalso; omega))))
      refine St.d1 Tryz.func45 ?_; apply Exists.intro; apply And.intro; (refine ⟨M, C, rfl, ?_⟩); (rw [Cfg.boot, ← hi2]); exact Ent.go
end Go.Proofs.YtipnljhelbjmaaaGreat
