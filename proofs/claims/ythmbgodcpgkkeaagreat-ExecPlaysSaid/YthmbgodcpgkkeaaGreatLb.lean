/-
  An assertion taken as it is: what holds of its memory can be read of it. Package tumblerref09: Do, Load, Store, load, Cell, Live, Word. Package tumblerref09: Cell, Live, Word.
-/
import Derived.Test.YthmbgodcpgkkeaaGreatBa
import Derived.Test.YthmbgodcpgkkeaaGreatRefb
import Derived.Test.YthmbgodcpgkkeaaGreatKb
section
namespace Go.Proofs.YthmbgodcpgkkeaaGreat
/-! drawn regions with stores -/
theorem OpOk.append0 {P : Program} {n' : Fi} {E : Env} {L : List HProp} {ty : TypeId} {t e sz n cap c2 : Nat} {ad ad2 : Option Addr} {s x : Operand} {xs : List Value} {L1 : List HProp} [hu : Und P t (.slice e)] [hs : Siz P e sz] (hv : ev E s = some (.slice ad n cap)) (hx : ev E x = some (.slice ad2 0 c2)) (ht : Take (Row (.slice ad n cap) e sz n xs) L L1) :
    OpOk P n' (.call { callee := .builtin .append, args := ⟨[s, x]⟩, argTypes := ⟨[t, t]⟩ }) ty E L (fun v' L' => v' = .slice ad n cap ∧ L' = L) := by
  unfold OpOk
  intro d ps af g a w ha X hsat
  have hle : n ≤ cap := by
    have h1 := (ht.app X).sat hsat
    rw [sat_cons] at h1
    obtain ⟨_, _, _, _, ⟨_, hr⟩, _⟩ := h1
    rcases hr with ⟨h, h0⟩ | ⟨_, _, _, h, hc, _⟩
    · omega
    · injection h with _ _ h3
      omega
  refine ⟨_, w, L, .inl ?_, ⟨rfl, rfl⟩, hsat, Old.refl w⟩
  cases ad <;> cases ad2 <;> simp [execOp, resolve, invoke, builtin, ha.ev hv, ha.ev hx, Builtin.append_, run_underlying hu.h, hs.h, Builtin.lenOf, Builtin.firstCells, loadCells, loadCellsFrom, storeCells, hle]
end Go.Proofs.YthmbgodcpgkkeaaGreat
end
section
namespace Go.Proofs.YthmbgodcpgkkeaaGreat
set_option maxRecDepth 100000
/-- a tape's cells -/
def tpV (ov : Value) (t : Tp) : List Value := [ov, .int .i64 (t.at_ : Int), .int .i64 t.ask.kind, .int .i64 t.ask.at_, .int .u64 t.ask.old.val, .int .u64 t.ask.old.seq, .int .u64 t.ask.new.val, .int .u64 t.ask.new.seq, .bool t.need]
/-- a view's cells -/
def rvV (c : Cfg) (v : Rv) : List Value := c.v ++ [.int .i64 v.who, .int .u64 (v.seq : Int), .int .i64 v.held, .bool v.stale]
section
theorem rdo_r {q : HProp} {ov : Value} {os : List Out} (hov : ListR Out.v q ov os) (_hos : os.length ≤ 100000) (t : Tp) (ht : t.at_ ≤ 100000) (o : MOp) : RTri Tryz.prog 186 #[.agg ⟨tpV ov t⟩, .agg ⟨o.v⟩] [q] (.tuple ⟨[.agg ⟨tpV ov (tdo os t o).1⟩, .agg ⟨(tdo os t o).2.v⟩]⟩) := by
  refine RTri.of_reads fun p1 hp => ?_
  have hov := hov.weak fun b l h => RdC.of_sat hp (ReadsC.here h)
  obtain ⟨ta, ⟨k, a, ⟨ov1, os1⟩, ⟨nv1, ns1⟩⟩, tn⟩ := t
  unfold tdo tpV MOp.v
  dsimp only at ht ⊢
  cases tn with
  | true =>
    obtain ⟨ad, cap, rfl, _⟩ := hov
    rw [if_pos rfl]
    refine Tri.of_body (vs := [_, _]) Tryz.func186 rfl rfl fun w0 F => ?_
    repeat' (first | refine Ga ?_ | (refine Gb ?_; intro b) | (refine Gd ?_; intro g cap rest hcap) | (refine Gc ?_; intro ad cap) | (refine St.drawT (id := 8) [(1, 0), (3, 0)] (.pick [(0, 3)] (.pick [(2, 3)] (.pick [(4, 3), (5, 0), (6, 0)] (.pick [(7, 3), (8, 3), (9, 3)] .done (.pick [(8, 3), (7, 3), (9, 3)] .done .nope)) (.pick [(8, 3), (4, 3), (5, 0), (6, 0), (7, 3), (9, 3)] .done .nope)) (.pick [(4, 3), (5, 0)] (.pick [(2, 3), (6, 0)] (.pick [(7, 3), (8, 3), (9, 3)] .done (.pick [(8, 3), (7, 3), (9, 3)] .done .nope)) (.pick [(8, 3), (2, 3), (6, 0), (7, 3), (9, 3)] .done .nope)) (.pick [(8, 3)] (.pick [(2, 3), (4, 3), (5, 0), (6, 0), (7, 3), (9, 3)] .done (.pick [(4, 3), (5, 0), (2, 3), (6, 0), (7, 3), (9, 3)] .done .nope)) .nope))) (.pick [(2, 3)] (.pick [(0, 3)] (.pick [(4, 3), (5, 0), (6, 0)] (.pick [(7, 3), (8, 3), (9, 3)] .done (.pick [(8, 3), (7, 3), (9, 3)] .done .nope)) (.pick [(8, 3), (4, 3), (5, 0), (6, 0), (7, 3), (9, 3)] .done .nope)) (.pick [(4, 3), (5, 0), (6, 0)] (.pick [(0, 3)] (.pick [(7, 3), (8, 3), (9, 3)] .done (.pick [(8, 3), (7, 3), (9, 3)] .done .nope)) (.pick [(7, 3), (0, 3), (8, 3), (9, 3)] .done .nope)) .nope)) (.pick [(4, 3), (5, 0)] (.pick [(0, 3)] (.pick [(2, 3), (6, 0)] (.pick [(7, 3), (8, 3), (9, 3)] .done (.pick [(8, 3), (7, 3), (9, 3)] .done .nope)) (.pick [(8, 3), (2, 3), (6, 0), (7, 3), (9, 3)] .done .nope)) (.pick [(2, 3), (6, 0)] (.pick [(0, 3)] (.pick [(7, 3), (8, 3), (9, 3)] .done (.pick [(8, 3), (7, 3), (9, 3)] .done .nope)) (.pick [(7, 3), (0, 3), (8, 3), (9, 3)] .done .nope)) .nope)) .nope))) [0, 2, 4, 7, 8, 9] mixed (by kernel_rfl) ?_) | apply StD.pick | exact StD.nope  | (refine StD.ok3 rfl (OpOk.ofW OpV.go) rfl ?_; rintro _ _ ⟨rfl, rfl⟩) | (refine Ge ?_ ?_ <;> (intro h; try (exfalso; omega))) | fail)
    all_goals first | (exfalso; omega) | exact St.d1 Tryz.func186 ⟨_, ⟨rfl, rfl⟩, Ent.go⟩ | skip
  | false =>
    rw [if_neg Bool.false_ne_true]
    by_cases hl : os.length ≤ ta
    · obtain ⟨ad, cap, rfl, _⟩ := hov
      rw [if_pos hl]
      refine Tri.of_body (vs := [_, _]) Tryz.func186 rfl rfl fun w0 F => ?_
      repeat' (first | refine Ga ?_ | (refine Gb ?_; intro b) | (refine Gd ?_; intro g cap rest hcap) | (refine Gc ?_; intro ad cap) | (refine St.drawT (id := 8) [(1, 0), (3, 0)] (.pick [(0, 3)] (.pick [(2, 3)] (.pick [(4, 3), (5, 0), (6, 0)] (.pick [(7, 3), (8, 3), (9, 3)] .done (.pick [(8, 3), (7, 3), (9, 3)] .done .nope)) (.pick [(8, 3), (4, 3), (5, 0), (6, 0), (7, 3), (9, 3)] .done .nope)) (.pick [(4, 3), (5, 0)] (.pick [(2, 3), (6, 0)] (.pick [(7, 3), (8, 3), (9, 3)] .done (.pick [(8, 3), (7, 3), (9, 3)] .done .nope)) (.pick [(8, 3), (2, 3), (6, 0), (7, 3), (9, 3)] .done .nope)) (.pick [(8, 3)] (.pick [(2, 3), (4, 3), (5, 0), (6, 0), (7, 3), (9, 3)] .done (.pick [(4, 3), (5, 0), (2, 3), (6, 0), (7, 3), (9, 3)] .done .nope)) .nope))) (.pick [(2, 3)] (.pick [(0, 3)] (.pick [(4, 3), (5, 0), (6, 0)] (.pick [(7, 3), (8, 3), (9, 3)] .done (.pick [(8, 3), (7, 3), (9, 3)] .done .nope)) (.pick [(8, 3), (4, 3), (5, 0), (6, 0), (7, 3), (9, 3)] .done .nope)) (.pick [(4, 3), (5, 0), (6, 0)] (.pick [(0, 3)] (.pick [(7, 3), (8, 3), (9, 3)] .done (.pick [(8, 3), (7, 3), (9, 3)] .done .nope)) (.pick [(7, 3), (0, 3), (8, 3), (9, 3)] .done .nope)) .nope)) (.pick [(4, 3), (5, 0)] (.pick [(0, 3)] (.pick [(2, 3), (6, 0)] (.pick [(7, 3), (8, 3), (9, 3)] .done (.pick [(8, 3), (7, 3), (9, 3)] .done .nope)) (.pick [(8, 3), (2, 3), (6, 0), (7, 3), (9, 3)] .done .nope)) (.pick [(2, 3), (6, 0)] (.pick [(0, 3)] (.pick [(7, 3), (8, 3), (9, 3)] .done (.pick [(8, 3), (7, 3), (9, 3)] .done .nope)) (.pick [(7, 3), (0, 3), (8, 3), (9, 3)] .done .nope)) .nope)) .nope))) [0, 2, 4, 7, 8, 9] mixed (by kernel_rfl) ?_) | apply StD.pick | exact StD.nope  | (refine StD.ok3 rfl (OpOk.ofW OpV.go) rfl ?_; rintro _ _ ⟨rfl, rfl⟩) | (refine Ge ?_ ?_ <;> (intro h; try (exfalso; omega))) | fail)
      all_goals first | (exfalso; omega) | exact St.d1 Tryz.func186 ⟨_, ⟨rfl, rfl⟩, Ent.go⟩ | skip
    · rw [if_neg hl]
      obtain ⟨ad, cap, rfl, _, hc⟩ := hov
      obtain ⟨bf, fo, l, l1, rfl, hrd, hdr, htk⟩ := ListR.at (f := Out.v) (sz := 3) (fun _ => rfl) hc ta (by omega)
      have hdr : DropN (fo + ((ta : Int) + 1 - 1).toNat * 3) l l1 := by rw [show ((ta : Int) + 1 - 1) = (ta : Int) by omega]; exact hdr
      have hg : os.getD ta out0 = os[ta]'(by omega) := by rw [List.getD_eq_getElem?_getD, List.getElem?_eq_getElem (by omega)]; rfl
      rw [hg]
      generalize os[ta]'(by omega) = x at htk ⊢
      obtain ⟨⟨xv, xs⟩, xo⟩ := x
      unfold Out.v at htk ⊢
      dsimp only at htk ⊢
      refine Tri.of_body (vs := [_, _]) Tryz.func186 rfl rfl fun w0 F => ?_
      repeat' (first | refine Ga ?_ | (refine Gb ?_; intro b) | (refine Gd ?_; intro g cap rest hcap) | (refine Gc ?_; intro ad cap) | (refine St.drawT (id := 8) [(1, 0), (3, 0)] (.pick [(0, 3)] (.pick [(2, 3)] (.pick [(4, 3), (5, 0), (6, 0)] (.pick [(7, 3), (8, 3), (9, 3)] .done (.pick [(8, 3), (7, 3), (9, 3)] .done .nope)) (.pick [(8, 3), (4, 3), (5, 0), (6, 0), (7, 3), (9, 3)] .done .nope)) (.pick [(4, 3), (5, 0)] (.pick [(2, 3), (6, 0)] (.pick [(7, 3), (8, 3), (9, 3)] .done (.pick [(8, 3), (7, 3), (9, 3)] .done .nope)) (.pick [(8, 3), (2, 3), (6, 0), (7, 3), (9, 3)] .done .nope)) (.pick [(8, 3)] (.pick [(2, 3), (4, 3), (5, 0), (6, 0), (7, 3), (9, 3)] .done (.pick [(4, 3), (5, 0), (2, 3), (6, 0), (7, 3), (9, 3)] .done .nope)) .nope))) (.pick [(2, 3)] (.pick [(0, 3)] (.pick [(4, 3), (5, 0), (6, 0)] (.pick [(7, 3), (8, 3), (9, 3)] .done (.pick [(8, 3), (7, 3), (9, 3)] .done .nope)) (.pick [(8, 3), (4, 3), (5, 0), (6, 0), (7, 3), (9, 3)] .done .nope)) (.pick [(4, 3), (5, 0), (6, 0)] (.pick [(0, 3)] (.pick [(7, 3), (8, 3), (9, 3)] .done (.pick [(8, 3), (7, 3), (9, 3)] .done .nope)) (.pick [(7, 3), (0, 3), (8, 3), (9, 3)] .done .nope)) .nope)) (.pick [(4, 3), (5, 0)] (.pick [(0, 3)] (.pick [(2, 3), (6, 0)] (.pick [(7, 3), (8, 3), (9, 3)] .done (.pick [(8, 3), (7, 3), (9, 3)] .done .nope)) (.pick [(8, 3), (2, 3), (6, 0), (7, 3), (9, 3)] .done .nope)) (.pick [(2, 3), (6, 0)] (.pick [(0, 3)] (.pick [(7, 3), (8, 3), (9, 3)] .done (.pick [(8, 3), (7, 3), (9, 3)] .done .nope)) (.pick [(7, 3), (0, 3), (8, 3), (9, 3)] .done .nope)) .nope)) .nope))) [0, 2, 4, 7, 8, 9] mixed (by kernel_rfl) ?_) | apply StD.pick | exact StD.nope  | (refine StD.ok3 rfl (OpOk.ofW OpV.go) rfl ?_; rintro _ _ ⟨rfl, rfl⟩) | (refine Ge ?_ ?_ <;> (intro h; try (exfalso; omega))) | fail)
      all_goals first | (exfalso; omega) | exact St.d1 Tryz.func186 ⟨_, ⟨rfl, rfl⟩, Ent.go⟩ | skip
theorem rld_r {q : HProp} {ov : Value} {os : List Out} (hov : ListR Out.v q ov os) (hos : os.length ≤ 100000) (t : Tp) (ht : t.at_ ≤ 100000) (a : Int) : RTri Tryz.prog 106 #[.agg ⟨tpV ov t⟩, .int .i64 a] [q] (.tuple ⟨[.agg ⟨tpV ov (tdo os t (mop 0 a 0)).1⟩, .agg ⟨(tdo os t (mop 0 a 0)).2.was.v⟩]⟩) := by
  have hd := rdo_r hov hos t ht (mop 0 a 0)
  unfold mop MOp.v at hd
  dsimp only at hd
  unfold mop
  generalize tdo os t _ = x at hd ⊢
  obtain ⟨⟨ta, ⟨k, oa, ⟨ov1, os1⟩, ⟨nv1, ns1⟩⟩, tn⟩, ⟨⟨wv, ws⟩, ok⟩⟩ := x
  unfold tpV Out.v at hd
  unfold tpV Cell.v
  dsimp only at hd ⊢
  refine RTri.of_reads fun p1 hp => ?_
  have hd := hd.of_read hp
  obtain ⟨ad, cap, rfl, _⟩ := hov
  refine Tri.of_body (vs := [_, _]) Tryz.func106 rfl rfl fun w0 F => ?_
  repeat' (first | refine Ga ?_ | (refine Gb ?_; intro b) | (refine Gd ?_; intro g cap rest hcap) | (refine Gc ?_; intro ad cap) | (refine St.drawT (id := 2) [(1, 0)] (.pick [(0, 3)] (.pick [(2, 3), (3, 3), (4, 3)] .done (.pick [(3, 3), (2, 3), (4, 3)] .done .nope)) (.pick [(2, 3), (0, 3), (3, 3), (4, 3)] .done .nope)) [0, 2, 3, 4] mixed (by kernel_rfl) ?_) | apply StD.pick | exact StD.nope | refine Gl hd ?_ | (refine StD.ok3 rfl (OpOk.ofW OpV.go) rfl ?_; rintro _ _ ⟨rfl, rfl⟩) | (refine Ge ?_ ?_ <;> (intro h; try (exfalso; omega))) | fail)
  all_goals first | (exfalso; omega) | exact St.d1 Tryz.func106 ⟨_, ⟨rfl, rfl⟩, Ent.go⟩ | skip
theorem rst_r {q : HProp} {ov : Value} {os : List Out} (hov : ListR Out.v q ov os) (hos : os.length ≤ 100000) (t : Tp) (ht : t.at_ ≤ 100000) (a : Int) (x : Cell) : RTri Tryz.prog 217 #[.agg ⟨tpV ov t⟩, .int .i64 a, .agg ⟨x.v⟩] [q] (.agg ⟨tpV ov (tdo os t ⟨1, a, ⟨0, 0⟩, x⟩).1⟩) := by
  have hd := rdo_r hov hos t ht ⟨1, a, ⟨0, 0⟩, x⟩
  obtain ⟨xv, xs⟩ := x
  unfold MOp.v at hd
  dsimp only at hd
  generalize tdo os t _ = x at hd ⊢
  obtain ⟨⟨ta, ⟨k, oa, ⟨ov1, os1⟩, ⟨nv1, ns1⟩⟩, tn⟩, ⟨⟨wv, ws⟩, ok⟩⟩ := x
  unfold tpV Out.v at hd
  unfold tpV Cell.v
  dsimp only at hd ⊢
  refine RTri.of_reads fun p1 hp => ?_
  have hd := hd.of_read hp
  obtain ⟨ad, cap, rfl, _⟩ := hov
  refine Tri.of_body (vs := [_, _, _]) Tryz.func217 rfl rfl fun w0 F => ?_
  repeat' (first | refine Ga ?_ | (refine Gb ?_; intro b) | (refine Gd ?_; intro g cap rest hcap) | (refine Gc ?_; intro ad cap) | refine Gl hd ?_ | (refine Ge ?_ ?_ <;> (intro h; try (exfalso; omega))) | fail)
  all_goals first | (exfalso; omega) | exact St.d1 Tryz.func217 ⟨_, ⟨rfl, rfl⟩, Ent.go⟩ | skip
theorem rvload_r {q : HProp} {ov : Value} {os : List Out} (hov : ListR Out.v q ov os) (hos : os.length ≤ 100000) (c : Cfg) (v : Rv) (t : Tp) (ht : t.at_ ≤ 100000) (a : Int) : RTri Tryz.prog 266 #[.agg ⟨rvV c v⟩, .agg ⟨tpV ov t⟩, .int .i64 a] [q]
    (.tuple ⟨[.agg ⟨rvV c (rload os v a t).2.1⟩, .agg ⟨tpV ov (rload os v a t).1⟩, .int .u64 ((rload os v a t).2.2.1 : Int), .int .i64 (rload os v a t).2.2.2]⟩) := by
  have hd := rld_r hov hos t ht a
  unfold rload
  generalize tdo os t (mop 0 a 0) = x at hd ⊢
  obtain ⟨⟨ta, ⟨k, oa, ⟨ov1, os1⟩, ⟨nv1, ns1⟩⟩, tn⟩, ⟨⟨wv, ws⟩, ok⟩⟩ := x
  obtain ⟨who, seq, held, stale⟩ := v
  refine RTri.of_reads fun p1 hp => ?_
  have hd := hd.of_read hp
  obtain ⟨ad, cap, rfl, _⟩ := hov
  unfold tpV Cell.v at hd
  unfold tpV rvV
  dsimp only at hd ⊢
  cases tn with
  | true =>
    rw [if_pos rfl]
    refine Tri.of_body (vs := [_, _, _]) Tryz.func266 rfl rfl fun w0 F => ?_
    repeat' (first | refine Ga ?_ | (refine Gb ?_; intro b) | (refine Gd ?_; intro g cap rest hcap) | (refine Gc ?_; intro ad cap) | (refine St.drawT (id := 3) [] (.pick [(0, 3)] (.pick [(1, 3), (2, 3), (3, 3), (4, 0), (5, 0)] .done (.pick [(2, 3), (1, 3), (3, 3), (4, 0), (5, 0)] .done .nope)) (.pick [(1, 3), (0, 3), (2, 3), (3, 3), (4, 0), (5, 0)] .done .nope)) [0, 1, 2, 3] mixed (by kernel_rfl) ?_) | (refine St.drawT (id := 6) [] (.pick [(0, 3)] (.pick [(1, 3), (2, 3), (3, 3), (4, 0), (5, 0)] .done (.pick [(2, 3), (1, 3), (3, 3), (4, 0), (5, 0)] .done .nope)) (.pick [(1, 3), (0, 3), (2, 3), (3, 3), (4, 0), (5, 0)] .done .nope)) [0, 1, 2, 3] mixed (by kernel_rfl) ?_) | (refine St.drawT (id := 7) [(2, 0)] (.pick [(0, 3)] (.pick [(1, 3)] (.pick [(3, 3), (4, 3), (5, 3), (6, 0), (7, 0)] .done (.pick [(4, 3)] (.pick [(3, 3), (5, 3), (6, 0), (7, 0)] .done (.pick [(5, 3), (3, 3), (6, 0), (7, 0)] .done .nope)) .nope)) (.pick [(3, 3)] (.pick [(1, 3), (4, 3), (5, 3), (6, 0), (7, 0)] .done (.pick [(4, 3), (1, 3), (5, 3), (6, 0), (7, 0)] .done .nope)) (.pick [(4, 3)] (.pick [(1, 3)] (.pick [(3, 3), (5, 3), (6, 0), (7, 0)] .done (.pick [(5, 3), (3, 3), (6, 0), (7, 0)] .done .nope)) (.pick [(3, 3), (1, 3), (5, 3), (6, 0), (7, 0)] .done .nope)) .nope))) (.pick [(1, 3)] (.pick [(0, 3)] (.pick [(3, 3), (4, 3), (5, 3), (6, 0), (7, 0)] .done (.pick [(4, 3)] (.pick [(3, 3), (5, 3), (6, 0), (7, 0)] .done (.pick [(5, 3), (3, 3), (6, 0), (7, 0)] .done .nope)) .nope)) (.pick [(3, 3), (0, 3), (4, 3), (5, 3), (6, 0), (7, 0)] .done .nope)) (.pick [(3, 3)] (.pick [(0, 3)] (.pick [(1, 3), (4, 3), (5, 3), (6, 0), (7, 0)] .done (.pick [(4, 3), (1, 3), (5, 3), (6, 0), (7, 0)] .done .nope)) (.pick [(1, 3), (0, 3), (4, 3), (5, 3), (6, 0), (7, 0)] .done .nope)) .nope))) [0, 1, 3, 4, 5] mixed (by kernel_rfl) ?_) | apply StD.pick | exact StD.nope | refine Gl hd ?_ | (refine StD.ok3 rfl (OpOk.ofW OpV.go) rfl ?_; rintro _ _ ⟨rfl, rfl⟩) | (refine Ge ?_ ?_ <;> (intro h; try (exfalso; omega))) | fail)
    all_goals first | (exfalso; omega) | exact St.d1 Tryz.func266 ⟨_, ⟨rfl, rfl⟩, Ent.go⟩ | skip
  | false =>
    rw [if_neg Bool.false_ne_true]
    by_cases hs : seq < ws
    · rw [if_pos hs]
      refine Tri.of_body (vs := [_, _, _]) Tryz.func266 rfl rfl fun w0 F => ?_
      repeat' (first | refine Ga ?_ | (refine Gb ?_; intro b) | (refine Gd ?_; intro g cap rest hcap) | (refine Gc ?_; intro ad cap) | (refine St.drawT (id := 3) [] (.pick [(0, 3)] (.pick [(1, 3), (2, 3), (3, 3), (4, 0), (5, 0)] .done (.pick [(2, 3), (1, 3), (3, 3), (4, 0), (5, 0)] .done .nope)) (.pick [(1, 3), (0, 3), (2, 3), (3, 3), (4, 0), (5, 0)] .done .nope)) [0, 1, 2, 3] mixed (by kernel_rfl) ?_) | (refine St.drawT (id := 6) [] (.pick [(0, 3)] (.pick [(1, 3), (2, 3), (3, 3), (4, 0), (5, 0)] .done (.pick [(2, 3), (1, 3), (3, 3), (4, 0), (5, 0)] .done .nope)) (.pick [(1, 3), (0, 3), (2, 3), (3, 3), (4, 0), (5, 0)] .done .nope)) [0, 1, 2, 3] mixed (by kernel_rfl) ?_) | (refine St.drawT (id := 7) [(2, 0)] (.pick [(0, 3)] (.pick [(1, 3)] (.pick [(3, 3), (4, 3), (5, 3), (6, 0), (7, 0)] .done (.pick [(4, 3)] (.pick [(3, 3), (5, 3), (6, 0), (7, 0)] .done (.pick [(5, 3), (3, 3), (6, 0), (7, 0)] .done .nope)) .nope)) (.pick [(3, 3)] (.pick [(1, 3), (4, 3), (5, 3), (6, 0), (7, 0)] .done (.pick [(4, 3), (1, 3), (5, 3), (6, 0), (7, 0)] .done .nope)) (.pick [(4, 3)] (.pick [(1, 3)] (.pick [(3, 3), (5, 3), (6, 0), (7, 0)] .done (.pick [(5, 3), (3, 3), (6, 0), (7, 0)] .done .nope)) (.pick [(3, 3), (1, 3), (5, 3), (6, 0), (7, 0)] .done .nope)) .nope))) (.pick [(1, 3)] (.pick [(0, 3)] (.pick [(3, 3), (4, 3), (5, 3), (6, 0), (7, 0)] .done (.pick [(4, 3)] (.pick [(3, 3), (5, 3), (6, 0), (7, 0)] .done (.pick [(5, 3), (3, 3), (6, 0), (7, 0)] .done .nope)) .nope)) (.pick [(3, 3), (0, 3), (4, 3), (5, 3), (6, 0), (7, 0)] .done .nope)) (.pick [(3, 3)] (.pick [(0, 3)] (.pick [(1, 3), (4, 3), (5, 3), (6, 0), (7, 0)] .done (.pick [(4, 3), (1, 3), (5, 3), (6, 0), (7, 0)] .done .nope)) (.pick [(1, 3), (0, 3), (4, 3), (5, 3), (6, 0), (7, 0)] .done .nope)) .nope))) [0, 1, 3, 4, 5] mixed (by kernel_rfl) ?_) | apply StD.pick | exact StD.nope | refine Gl hd ?_ | (refine StD.ok3 rfl (OpOk.ofW OpV.go) rfl ?_; rintro _ _ ⟨rfl, rfl⟩) | (refine Ge ?_ ?_ <;> (intro h; try (exfalso; omega))) | fail)
      all_goals first | (exfalso; omega) | exact St.d1 Tryz.func266 ⟨_, ⟨rfl, rfl⟩, Ent.go⟩ | skip
    · rw [if_neg hs]
      refine Tri.of_body (vs := [_, _, _]) Tryz.func266 rfl rfl fun w0 F => ?_
      repeat' (first | refine Ga ?_ | (refine Gb ?_; intro b) | (refine Gd ?_; intro g cap rest hcap) | (refine Gc ?_; intro ad cap) | (refine St.drawT (id := 3) [] (.pick [(0, 3)] (.pick [(1, 3), (2, 3), (3, 3), (4, 0), (5, 0)] .done (.pick [(2, 3), (1, 3), (3, 3), (4, 0), (5, 0)] .done .nope)) (.pick [(1, 3), (0, 3), (2, 3), (3, 3), (4, 0), (5, 0)] .done .nope)) [0, 1, 2, 3] mixed (by kernel_rfl) ?_) | (refine St.drawT (id := 6) [] (.pick [(0, 3)] (.pick [(1, 3), (2, 3), (3, 3), (4, 0), (5, 0)] .done (.pick [(2, 3), (1, 3), (3, 3), (4, 0), (5, 0)] .done .nope)) (.pick [(1, 3), (0, 3), (2, 3), (3, 3), (4, 0), (5, 0)] .done .nope)) [0, 1, 2, 3] mixed (by kernel_rfl) ?_) | (refine St.drawT (id := 7) [(2, 0)] (.pick [(0, 3)] (.pick [(1, 3)] (.pick [(3, 3), (4, 3), (5, 3), (6, 0), (7, 0)] .done (.pick [(4, 3)] (.pick [(3, 3), (5, 3), (6, 0), (7, 0)] .done (.pick [(5, 3), (3, 3), (6, 0), (7, 0)] .done .nope)) .nope)) (.pick [(3, 3)] (.pick [(1, 3), (4, 3), (5, 3), (6, 0), (7, 0)] .done (.pick [(4, 3), (1, 3), (5, 3), (6, 0), (7, 0)] .done .nope)) (.pick [(4, 3)] (.pick [(1, 3)] (.pick [(3, 3), (5, 3), (6, 0), (7, 0)] .done (.pick [(5, 3), (3, 3), (6, 0), (7, 0)] .done .nope)) (.pick [(3, 3), (1, 3), (5, 3), (6, 0), (7, 0)] .done .nope)) .nope))) (.pick [(1, 3)] (.pick [(0, 3)] (.pick [(3, 3), (4, 3), (5, 3), (6, 0), (7, 0)] .done (.pick [(4, 3)] (.pick [(3, 3), (5, 3), (6, 0), (7, 0)] .done (.pick [(5, 3), (3, 3), (6, 0), (7, 0)] .done .nope)) .nope)) (.pick [(3, 3), (0, 3), (4, 3), (5, 3), (6, 0), (7, 0)] .done .nope)) (.pick [(3, 3)] (.pick [(0, 3)] (.pick [(1, 3), (4, 3), (5, 3), (6, 0), (7, 0)] .done (.pick [(4, 3), (1, 3), (5, 3), (6, 0), (7, 0)] .done .nope)) (.pick [(1, 3), (0, 3), (4, 3), (5, 3), (6, 0), (7, 0)] .done .nope)) .nope))) [0, 1, 3, 4, 5] mixed (by kernel_rfl) ?_) | apply StD.pick | exact StD.nope | refine Gl hd ?_ | (refine StD.ok3 rfl (OpOk.ofW OpV.go) rfl ?_; rintro _ _ ⟨rfl, rfl⟩) | (refine Ge ?_ ?_ <;> (intro h; try (exfalso; omega))) | fail)
      all_goals first | (exfalso; omega) | exact St.d1 Tryz.func266 ⟨_, ⟨rfl, rfl⟩, Ent.go⟩ | skip
end
end Go.Proofs.YthmbgodcpgkkeaaGreat
end
section
namespace Go.Proofs.YthmbgodcpgkkeaaGreat
set_option maxRecDepth 100000
section
set_option maxHeartbeats 1000000 in
theorem rvcell_r {q : HProp} {ov : Value} {os : List Out} (hov : ListR Out.v q ov os) (hos : os.length ≤ 100000) {c : Cfg} (hc : Small c) (v : Rv) (t : Tp) (ht : t.at_ ≤ 100000) (a : Int) : RTri Tryz.prog 202 #[.agg ⟨rvV c v⟩, .agg ⟨tpV ov t⟩, .int .i64 a] [q]
    (.tuple ⟨[.agg ⟨rvV c (rcell c os v a t).2.1⟩, .agg ⟨tpV ov (rcell c os v a t).1⟩, .int .u64 ((rcell c os v a t).2.2.1 : Int), .int .i64 (rcell c os v a t).2.2.2]⟩) := by
  have hd := rvload_r hov hos c v t ht a
  have h7 : RTri Tryz.prog 133 #[.agg ⟨c.v⟩, .int .i64 7] [] (.int .i64 c.f7) := rfrom_7 c hc
  have h16 : RTri Tryz.prog 133 #[.agg ⟨c.v⟩, .int .i64 16] [] (.int .i64 c.f16) := rfrom_16 c hc
  unfold rcell
  generalize rload os v a t = y at hd ⊢
  obtain ⟨⟨ya, ⟨yk, yoa, ⟨yv1, ys1⟩, ⟨yv2, ys2⟩⟩, yn⟩, ⟨⟨yw, yq, yh, yst⟩, yval, ys⟩⟩ := y
  obtain ⟨ta, ⟨k, oa, ⟨ov1, os1⟩, ⟨nv1, ns1⟩⟩, tn⟩ := t
  obtain ⟨who, seq, held, stale⟩ := v
  refine RTri.of_reads fun p1 hp => ?_
  have hd := hd.of_read hp
  obtain ⟨ad, cap, rfl, _⟩ := hov
  unfold tpV rvV Cfg.v at hd
  unfold Cfg.v at h7 h16
  unfold tpV rvV Cfg.v
  dsimp only [List.cons_append, List.nil_append] at hd ⊢
  cases stale with
  | true =>
    rw [if_pos rfl]
    refine Tri.of_body (vs := [_, _, _]) Tryz.func202 rfl rfl fun w0 F => ?_
    repeat' (first | refine Ga ?_ | (refine Gb ?_; intro b) | (refine Gd ?_; intro g cap rest hcap) | (refine Gc ?_; intro ad cap) | (refine St.drawT (id := 2) [] (.pick [(0, 3)] (.pick [(1, 3), (2, 3), (3, 3), (4, 0), (5, 0)] .done (.pick [(2, 3), (1, 3), (3, 3), (4, 0), (5, 0)] .done .nope)) (.pick [(1, 3), (0, 3), (2, 3), (3, 3), (4, 0), (5, 0)] .done .nope)) [0, 1, 2, 3] mixed (by kernel_rfl) ?_) | (refine St.drawT (id := 4) [] (.pick [(0, 3)] (.pick [(1, 3), (2, 3), (3, 3), (4, 0), (5, 0)] .done (.pick [(2, 3), (1, 3), (3, 3), (4, 0), (5, 0)] .done .nope)) (.pick [(1, 3), (0, 3), (2, 3), (3, 3), (4, 0), (5, 0)] .done .nope)) [0, 1, 2, 3] mixed (by kernel_rfl) ?_) | apply StD.pick | exact StD.nope | refine Gl hd ?_ | refine Gl h7 ?_ | refine Gl h16 ?_ | (refine StD.ok3 rfl (OpOk.ofW OpV.go) rfl ?_; rintro _ _ ⟨rfl, rfl⟩) | (refine Ge ?_ ?_ <;> (intro h; try (exfalso; omega))) | fail)
    all_goals first | (exfalso; omega) | exact St.d1 Tryz.func202 ⟨_, ⟨rfl, rfl⟩, Ent.go⟩ | skip
  | false =>
    rw [if_neg Bool.false_ne_true]
    by_cases h1 : a < c.f7 ∨ c.f16 ≤ a
    · rw [if_pos h1]
      refine Tri.of_body (vs := [_, _, _]) Tryz.func202 rfl rfl fun w0 F => ?_
      repeat' (first | refine Ga ?_ | (refine Gb ?_; intro b) | (refine Gd ?_; intro g cap rest hcap) | (refine Gc ?_; intro ad cap) | (refine St.drawT (id := 2) [] (.pick [(0, 3)] (.pick [(1, 3), (2, 3), (3, 3), (4, 0), (5, 0)] .done (.pick [(2, 3), (1, 3), (3, 3), (4, 0), (5, 0)] .done .nope)) (.pick [(1, 3), (0, 3), (2, 3), (3, 3), (4, 0), (5, 0)] .done .nope)) [0, 1, 2, 3] mixed (by kernel_rfl) ?_) | (refine St.drawT (id := 4) [] (.pick [(0, 3)] (.pick [(1, 3), (2, 3), (3, 3), (4, 0), (5, 0)] .done (.pick [(2, 3), (1, 3), (3, 3), (4, 0), (5, 0)] .done .nope)) (.pick [(1, 3), (0, 3), (2, 3), (3, 3), (4, 0), (5, 0)] .done .nope)) [0, 1, 2, 3] mixed (by kernel_rfl) ?_) | apply StD.pick | exact StD.nope | refine Gl hd ?_ | refine Gl h7 ?_ | refine Gl h16 ?_ | (refine StD.ok3 rfl (OpOk.ofW OpV.go) rfl ?_; rintro _ _ ⟨rfl, rfl⟩) | (refine Ge ?_ ?_ <;> (intro h; try (exfalso; omega))) | fail)
      all_goals first | (exfalso; omega) | exact St.d1 Tryz.func202 ⟨_, ⟨rfl, rfl⟩, Ent.go⟩ | skip
    · rw [if_neg h1]
      refine Tri.of_body (vs := [_, _, _]) Tryz.func202 rfl rfl fun w0 F => ?_
      repeat' (first | refine Ga ?_ | (refine Gb ?_; intro b) | (refine Gd ?_; intro g cap rest hcap) | (refine Gc ?_; intro ad cap) | (refine St.drawT (id := 2) [] (.pick [(0, 3)] (.pick [(1, 3), (2, 3), (3, 3), (4, 0), (5, 0)] .done (.pick [(2, 3), (1, 3), (3, 3), (4, 0), (5, 0)] .done .nope)) (.pick [(1, 3), (0, 3), (2, 3), (3, 3), (4, 0), (5, 0)] .done .nope)) [0, 1, 2, 3] mixed (by kernel_rfl) ?_) | (refine St.drawT (id := 4) [] (.pick [(0, 3)] (.pick [(1, 3), (2, 3), (3, 3), (4, 0), (5, 0)] .done (.pick [(2, 3), (1, 3), (3, 3), (4, 0), (5, 0)] .done .nope)) (.pick [(1, 3), (0, 3), (2, 3), (3, 3), (4, 0), (5, 0)] .done .nope)) [0, 1, 2, 3] mixed (by kernel_rfl) ?_) | apply StD.pick | exact StD.nope | refine Gl hd ?_ | refine Gl h7 ?_ | refine Gl h16 ?_ | (refine StD.ok3 rfl (OpOk.ofW OpV.go) rfl ?_; rintro _ _ ⟨rfl, rfl⟩) | (refine Ge ?_ ?_ <;> (intro h; try (exfalso; omega))) | fail)
      all_goals first | (exfalso; omega) | exact St.d1 Tryz.func202 ⟨_, ⟨rfl, rfl⟩, Ent.go⟩ | skip
end
end Go.Proofs.YthmbgodcpgkkeaaGreat
end
