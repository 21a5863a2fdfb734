/-
  Package tumblerref07: Boot, the cells with which all begins.
-/
import Derived.Test.YtmcadilggmlbfaaRefb
namespace Go.Proofs.Ytmcadilggmlbfaa
theorem Cfg.at0 (c : Cfg) : c.at 0 0 0 = 0 := rfl
theorem Cfg.at12 (c : Cfg) : c.at 12 0 0 = c.f12 := by
  unfold Cfg.at
  exact (if_pos ⟨by decide, (by decide : (0 : Int) < 1), by decide, (by decide : (0 : Int) < 1)⟩).trans (by show c.f12 + 0 * 1 + 0 = _; omega)
theorem Cfg.at13 (c : Cfg) {i : Int} (h0 : 0 ≤ i) (h1 : i < c.blocks) : c.at 13 i 0 = c.f13 + i := by
  unfold Cfg.at
  exact (if_pos ⟨h0, h1, by decide, (by decide : (0 : Int) < 1)⟩).trans (by show c.f13 + i * 1 + 0 = _; omega)
theorem setOf_getD {cs : List Cell} {p : Int} {x : Cell} {q : Nat} (hx : x.seq = 0) (h : (cs.getD q ⟨0, 0⟩).seq = 0) : ((setOf cs p x).getD q ⟨0, 0⟩).seq = 0 := by
  unfold setOf
  split
  · rw [List.getD_eq_getElem?_getD, List.getElem?_set]
    split
    · split
      · exact hx
      · rfl
    · rw [← List.getD_eq_getElem?_getD]; exact h
  · exact h
def Cfg.boot1 (c : Cfg) : List Cell := setOf (List.replicate c.size ⟨0, 0⟩) (c.at 0 0 0) ⟨0, c.first⟩
theorem Cfg.boot1_seq (c : Cfg) (p : Nat) (hp : p ≠ 0) : (c.boot1.getD p ⟨0, 0⟩).seq = 0 := by
  unfold Cfg.boot1 setOf
  rw [Cfg.at0, if_pos (by decide), List.getD_eq_getElem?_getD, List.getElem?_set_ne (by simpa using Ne.symm hp), List.getElem?_replicate]
  split <;> rfl
theorem Cfg.bootN_seq (c : Cfg) (p : Nat) (hp : p ≠ 0) : ∀ i, ((c.bootN i).getD p ⟨0, 0⟩).seq = 0
  | 0 => setOf_getD rfl (c.boot1_seq p hp)
  | i + 1 => setOf_getD rfl (c.bootN_seq p hp i)
theorem setVal {cs : List Cell} {p : Nat} {x : Nat} (hp : p < cs.length) (hs : (cs.getD p ⟨0, 0⟩).seq = 0) : SetN (.int .u64 (x : Int)) (p * 2 + 0) (cs.flatMap Cell.v) ((setOf cs p ⟨x, 0⟩).flatMap Cell.v) := by
  have e : setOf cs p ⟨x, 0⟩ = cs.set p ⟨x, 0⟩ := by unfold setOf; rw [if_pos (by omega)]; simp
  rw [e]
  refine SetN.flat Cell.v_len hp ?_
  have : cs[p].seq = 0 := by rw [List.getD_eq_getElem?_getD, List.getElem?_eq_getElem hp] at hs; exact hs
  show SetN _ 0 [Value.int .u64 (cs[p].val : Int), Value.int .u64 (cs[p].seq : Int)] [Value.int .u64 (x : Int), Value.int .u64 0]
  rw [this]
  exact .zero
set_option maxRecDepth 100000 in
theorem rboot_t (c : Cfg) (hc : Small c) :
    Tri Try.prog 12 #[.agg ⟨c.v⟩] [] fun v L => ∃ C, v = .slice (some ⟨C, 0, none⟩) c.size c.size ∧ L = [bl C 37 (c.boot.flatMap Cell.v)] := by
  have hn := hc.nums.f7; have hn2 := hc.nums.f17; have ht := hc.ts
  have := hc.t0; have := hc.t1; have := hc.b0; have := hc.b1; have := hc.limit
  obtain ⟨hf7, hf10, hf11, hf12, hf13, hf14, hf15, hf16, hf17, hstr⟩ := c.froms
  have hsz : (c.size : Int) = c.f17 := by unfold Cfg.size; omega
  have hb : (c.blocks.toNat : Int) = c.blocks := by omega
  have h12 := rat_r c hc 12 0 0
  rw [Cfg.at12] at h12
  have hsize := rsize_r c hc
  rw [← hsz] at hsize
  have e : (List.replicate c.size (Cell.mk 0 0)).flatMap Cell.v = (List.replicate (c.size : Int).toNat (cl (.agg #[.int .u64 0, .int .u64 0]))).flatten := by
    rw [List.flatMap_def, List.map_replicate]; rfl
  have hs0 : SplN [Value.int .u64 0, Value.int .u64 c.first] 0 ((List.replicate (c.size : Int).toNat (cl (.agg #[.int .u64 0, .int .u64 0]))).flatten) (c.boot1.flatMap Cell.v) := by
    rw [← e]
    have := SplN.flat Cell.v_len (l := List.replicate c.size (Cell.mk 0 0)) (i := 0) (by rw [List.length_replicate]; omega) ⟨0, c.first⟩
    rw [Nat.zero_mul] at this
    exact this
  have hs1 : SetN (.int .u64 c.blocks) (c.f12.toNat * 2 + 0) (c.boot1.flatMap Cell.v) ((c.bootN 0).flatMap Cell.v) := by
    have := setVal (cs := c.boot1) (p := c.f12.toNat) (x := c.blocks.toNat) (by unfold Cfg.boot1; rw [setOf_len, List.length_replicate]; omega) (c.boot1_seq _ (by omega))
    rw [hb, show ((c.f12.toNat : Nat) : Int) = c.f12 by omega] at this
    unfold Cfg.bootN
    rw [Cfg.at12]
    exact this
  refine Tri.of_body (vs := [_]) Try.func12 rfl rfl fun w0 F => ?_
  repeat' (first | (apply Ya; exact Oa) | (apply Yb; exact Ob) | (apply Yc; exact Oc; intro b) | (apply Ye; exact Oe; intro g cap rest hcap) | (apply Yd; exact Od; intro ad cap) | (apply Yf; exact Oj) | (apply Yg; exact Oj; exact ⟨rfl, rfl⟩) | (apply Yh; exact Oj; rfl) | (apply Yi; exact Oj; exact On; all_goals (intro h; try (exfalso; omega))) | apply StL.nil | apply St.region | apply St.seq | apply St.block | apply St.inBlock | apply St.skip | (apply St.exit; rfl) | (apply St.cond_t; rfl) | (apply St.cond_f; rfl) | (apply Ud; rfl; exact On; all_goals (intro h; try (exfalso; omega))) | (apply Za; rfl; exact Oa) | (apply Zb; rfl; exact Oa; exact Ent.go) | (apply Zc; rfl; exact Ob) | (apply Zd; rfl; exact Oc; intro b; refine ⟨Ent.go, ?_⟩) | (apply Ze; rfl; exact Oc; intro b) | (apply Zf; rfl; exact Oe; intro g cap rest hcap) | (apply Zg; rfl; exact Od; intro ad cap) | apply StD.nil | exact StD.nope | apply StD.pick | (apply StD.claim; rfl; intro b) | (apply Zi; rfl; exact Oj; exact Oa) | (apply Zj; rfl; exact Oj; exact Oa; exact Ent.go) | (apply Zk; rfl; exact Oj; exact ⟨rfl, rfl⟩) | (apply Zl; rfl; exact Oj; exact ⟨rfl, rfl⟩; exact Ent.go) | (apply Zm; rfl; exact Oj; rfl) | (apply Zn; rfl; exact Oj; exact Ent.go; rfl) | (refine St.draw (id := 3) [(0, 0), (1, 1), (2, 1), (3, 0), (4, 1), (5, 0), (6, 0), (7, 0), (8, 3)] [8] mixed (by kernel_rfl) ?_) | (refine St.draw (id := 7) [(0, 0), (1, 1), (2, 0), (3, 1), (4, 0), (5, 1), (6, 0), (7, 0), (8, 0), (9, 0), (10, 0), (11, 0), (12, 3)] [12] mixed (by kernel_rfl) ?_) | (apply Ka; exact Og; exact hsize; exact Oh) | (apply Kb; rfl; exact Og; exact hsize; exact Oi) | (apply Kc; rfl; exact Oj; exact Og; exact hsize; exact Oi) | (apply Ka; exact Og; exact h12; exact Oh) | (apply Kb; rfl; exact Og; exact h12; exact Oi) | (apply Kc; rfl; exact Oj; exact Og; exact h12; exact Oi) | (apply Zo; rfl; exact Oj; exact On; all_goals (intro h; try (exfalso; omega))))
  rename_i b0
  refine St.loop (ι := { i : Nat // (i : Int) ≤ c.blocks }) (fun i => (c.blocks - i.1).toNat)
    (fun i => [(1, .pointer (some ⟨b0, 0, none⟩)), (3, .slice (some ⟨b, 0, none⟩) c.size c.size), (4, .int .i64 (i.1 : Int))])
    (fun i => [bl b 37 ((c.bootN i.1).flatMap Cell.v), bl b0 24 c.v] ++ F) ⟨0, by omega⟩ ?hE ?hL ?round
  case hE => exact Sub.go
  case hL => exact Ent.go
  case round =>
    rintro ⟨i, hi⟩ IH; dsimp only
    by_cases hlt : (i : Int) < c.blocks
    · have h13 := rat_r c hc 13 i 0
      rw [Cfg.at13 c (by omega) hlt] at h13
      have hs2 : SetN (.int .u64 (c.blocks - 1 - (i : Int))) ((c.f13 + (i : Int)).toNat * 2 + 0) ((c.bootN i).flatMap Cell.v) ((c.bootN (i + 1)).flatMap Cell.v) := by
        have := setVal (cs := c.bootN i) (p := (c.f13 + (i : Int)).toNat) (x := (c.blocks - 1 - (i : Int)).toNat) (by rw [Cfg.bootN_len]; omega) (c.bootN_seq _ (by omega) i)
        rw [show ((c.blocks - 1 - (i : Int)).toNat : Int) = c.blocks - 1 - i by omega, show (((c.f13 + (i : Int)).toNat : Nat) : Int) = c.f13 + i by omega] at this
        rw [Cfg.bootN, Cfg.at13 c (by omega) hlt]
        exact this
      repeat' (first | (apply Ya; exact Oa) | (apply Yb; exact Ob) | (apply Yc; exact Oc; intro b) | (apply Ye; exact Oe; intro g cap rest hcap) | (apply Yd; exact Od; intro ad cap) | (apply Yf; exact Oj) | (apply Yg; exact Oj; exact ⟨rfl, rfl⟩) | (apply Yh; exact Oj; rfl) | (apply Yi; exact Oj; exact On; all_goals (intro h; try (exfalso; omega))) | apply StL.nil | apply St.region | apply St.seq | apply St.block | apply St.inBlock | apply St.skip | (apply St.exit; rfl) | (apply St.cond_t; rfl) | (apply St.cond_f; rfl) | (apply Ud; rfl; exact On; all_goals (intro h; try (exfalso; omega))) | (apply Za; rfl; exact Oa) | (apply Zb; rfl; exact Oa; exact Ent.go) | (apply Zc; rfl; exact Ob) | (apply Zd; rfl; exact Oc; intro b; refine ⟨Ent.go, ?_⟩) | (apply Ze; rfl; exact Oc; intro b) | (apply Zf; rfl; exact Oe; intro g cap rest hcap) | (apply Zg; rfl; exact Od; intro ad cap) | apply StD.nil | exact StD.nope | apply StD.pick | (apply StD.claim; rfl; intro b) | (apply Zi; rfl; exact Oj; exact Oa) | (apply Zj; rfl; exact Oj; exact Oa; exact Ent.go) | (apply Zk; rfl; exact Oj; exact ⟨rfl, rfl⟩) | (apply Zl; rfl; exact Oj; exact ⟨rfl, rfl⟩; exact Ent.go) | (apply Zm; rfl; exact Oj; rfl) | (apply Zn; rfl; exact Oj; exact Ent.go; rfl) | (refine St.draw (id := 3) [(0, 0), (1, 1), (2, 1), (3, 0), (4, 1), (5, 0), (6, 0), (7, 0), (8, 3)] [8] mixed (by kernel_rfl) ?_) | (refine St.draw (id := 7) [(0, 0), (1, 1), (2, 0), (3, 1), (4, 0), (5, 1), (6, 0), (7, 0), (8, 0), (9, 0), (10, 0), (11, 0), (12, 3)] [12] mixed (by kernel_rfl) ?_) | (apply Ka; exact Og; exact h13; exact Oh) | (apply Kb; rfl; exact Og; exact h13; exact Oi) | (apply Kc; rfl; exact Oj; exact Og; exact h13; exact Oi) | (apply Zo; rfl; exact Oj; exact On; all_goals (intro h; try (exfalso; omega))))
      refine (IH ⟨i + 1, by omega⟩ (by show (c.blocks - ((i + 1 : Nat) : Int)).toNat < (c.blocks - (i : Int)).toNat; omega)).conv ?_ ?_
      · exact Sub.go
      · exact Ent.go
    · have hi2 : i = c.blocks.toNat := by omega
      repeat' (first | (apply Ya; exact Oa) | (apply Yb; exact Ob) | (apply Yc; exact Oc; intro b) | (apply Ye; exact Oe; intro g cap rest hcap) | (apply Yd; exact Od; intro ad cap) | (apply Yf; exact Oj) | (apply Yg; exact Oj; exact ⟨rfl, rfl⟩) | (apply Yh; exact Oj; rfl) | (apply Yi; exact Oj; exact On; all_goals (intro h; try (exfalso; omega))) | apply StL.nil | apply St.region | apply St.seq | apply St.block | apply St.inBlock | apply St.skip | (apply St.exit; rfl) | (apply St.cond_t; rfl) | (apply St.cond_f; rfl) | (apply Ud; rfl; exact On; all_goals (intro h; try (exfalso; omega))) | (apply Za; rfl; exact Oa) | (apply Zb; rfl; exact Oa; exact Ent.go) | (apply Zc; rfl; exact Ob) | (apply Zd; rfl; exact Oc; intro b; refine ⟨Ent.go, ?_⟩) | (apply Ze; rfl; exact Oc; intro b) | (apply Zf; rfl; exact Oe; intro g cap rest hcap) | (apply Zg; rfl; exact Od; intro ad cap) | apply StD.nil | exact StD.nope | apply StD.pick | (apply StD.claim; rfl; intro b) | (apply Zi; rfl; exact Oj; exact Oa) | (apply Zj; rfl; exact Oj; exact Oa; exact Ent.go) | (apply Zk; rfl; exact Oj; exact ⟨rfl, rfl⟩) | (apply Zl; rfl; exact Oj; exact ⟨rfl, rfl⟩; exact Ent.go) | (apply Zm; rfl; exact Oj; rfl) | (apply Zn; rfl; exact Oj; exact Ent.go; rfl) | (refine St.draw (id := 3) [(0, 0), (1, 1), (2, 1), (3, 0), (4, 1), (5, 0), (6, 0), (7, 0), (8, 3)] [8] mixed (by kernel_rfl) ?_) | (refine St.draw (id := 7) [(0, 0), (1, 1), (2, 0), (3, 1), (4, 0), (5, 1), (6, 0), (7, 0), (8, 0), (9, 0), (10, 0), (11, 0), (12, 3)] [12] mixed (by kernel_rfl) ?_)  | (apply Zo; rfl; exact Oj; exact On; all_goals (intro h; try (exfalso; omega))))
      refine St.d1 Try.func12 ?_; apply Exists.intro; apply And.intro; (refine ⟨b, rfl, ?_⟩); (rw [Cfg.boot, ← hi2]); exact Ent.go
end Go.Proofs.Ytmcadilggmlbfaa
