/-
  Package call: its small functions.
-/
import Derived.Test.YtemaaenipjinaaaGreatVa
import Derived.Test.YtemaaenipjinaaaGreatHi
namespace Go.Proofs.YtemaaenipjinaaaGreat
set_option maxRecDepth 100000
/-- a Call's own cells -/
def clV (c : Cfg) (pv : Value) (p : Cp) (wv bv : Value) (s : Cs) : List Value :=
  c.m ++ (.int .i64 p.who :: .int .u64 (p.tag : Int) :: pv :: .int .i64 p.prog :: (g4 p.args ++ [.int .i64 s.next, .int .i64 s.given, .int .i64 s.tried, .bool s.asked, .int .u64 (s.now.val : Int), .int .u64 (s.now.seq : Int), wv, bv, .bool s.fresh, .bool s.did, .int .i64 s.oc, .int .u64 (s.ov : Int), .int .i64 s.rc, .int .u64 (s.rv : Int), .bool s.alone]))
theorem take_cl (c : Cfg) (pv : Value) (p : Cp) (wv bv : Value) (s : Cs) : TakeN 24 (clV c pv p wv bv s) c.m := TakeN.app c.m _
theorem ccode_e (q : HProp) (pv : Value) (progs : Progs) (hpv : ProgsR q pv progs) (p : Cp) : ∃ cv, InsR q cv (p.code progs) ∧ ∀ (Cb : Nat) (c : Cfg) (wv bv : Value) (s : Cs), RTri Tryz.prog 65 #[.pointer (some ⟨Cb, 0, none⟩)] [bl Cb 147 (clV c pv p wv bv s), q] cv := by
  obtain ⟨pad, pcap, rfl, hpl, hpr⟩ := hpv
  unfold Cp.code
  by_cases h : p.prog < 0 ∨ (progs.length : Int) ≤ p.prog
  · rw [if_pos h]
    refine ⟨_, InsR.nil q, fun Cb c wv bv s => ?_⟩
    refine RTri.of_exact fun W0 hs => ?_
    have hH := RdC.exact hs (ReadsC.here RdC.bl)
    refine Tri.of_body (vs := [_]) Tryz.func65 rfl rfl fun w0 F => ?_
    repeat' (first | refine Ga ?_ | (refine Gb ?_; intro b) | (refine Gd ?_; intro g cap rest hcap) | (refine Gc ?_; intro ad cap) | (refine St.draw (id := 1) [(0, 0), (1, 0), (2, 0), (3, 0), (4, 1), (5, 0), (6, 0), (7, 0), (8, 0), (9, 0), (10, 0), (11, 1), (12, 0), (13, 0), (14, 0), (15, 1), (16, 0), (17, 0), (18, 0)] [] mixed (by kernel_rfl) ?_) | (refine St.draw (id := 3) [(0, 0), (1, 0), (2, 0), (3, 1), (4, 0), (5, 0), (6, 0), (7, 0), (8, 1), (9, 0), (10, 1), (11, 0)] [] mixed (by kernel_rfl) ?_) | (refine Ge ?_ ?_ <;> (intro h; try (exfalso; omega))) | fail)
    all_goals first | (exfalso; omega) | skip
    all_goals refine St.d1 Tryz.func65 ⟨_, ⟨rfl, rfl⟩, Ent.go⟩
  · rw [if_neg h]
    obtain ⟨pb, po, pl, cv, rfl, hrd, hnth, hins⟩ := hpr p.prog.toNat (by omega)
    rw [show ((p.prog.toNat : Nat) : Int) = p.prog by omega] at hnth
    have e : progs.getD p.prog.toNat [] = progs[p.prog.toNat]'(by omega) := by rw [List.getD_eq_getElem?_getD, List.getElem?_eq_getElem]; rfl
    rw [e]
    refine ⟨cv, hins, fun Cb c wv bv s => ?_⟩
    obtain ⟨cad, ccap, rfl, _⟩ := hins
    refine RTri.of_exact fun W0 hs => ?_
    have hH := RdC.exact hs (ReadsC.here RdC.bl)
    have hQ := RdC.exact hs (ReadsC.there (ReadsC.here hrd))
    refine Tri.of_body (vs := [_]) Tryz.func65 rfl rfl fun w0 F => ?_
    repeat' (first | refine Ga ?_ | (refine Gb ?_; intro b) | (refine Gd ?_; intro g cap rest hcap) | (refine Gc ?_; intro ad cap) | (refine St.draw (id := 1) [(0, 0), (1, 0), (2, 0), (3, 0), (4, 1), (5, 0), (6, 0), (7, 0), (8, 0), (9, 0), (10, 0), (11, 1), (12, 0), (13, 0), (14, 0), (15, 1), (16, 0), (17, 0), (18, 0)] [] mixed (by kernel_rfl) ?_) | (refine St.draw (id := 3) [(0, 0), (1, 0), (2, 0), (3, 1), (4, 0), (5, 0), (6, 0), (7, 0), (8, 1), (9, 0), (10, 1), (11, 0)] [] mixed (by kernel_rfl) ?_) | (refine Ge ?_ ?_ <;> (intro h; try (exfalso; omega))) | fail)
    all_goals first | (exfalso; omega) | skip
    refine St.d1 Tryz.func65 ⟨_, ⟨rfl, rfl⟩, Ent.go⟩
section
variable (Cb : Nat) (c : Cfg) (pv : Value) (p : Cp) (wv bv : Value) (s : Cs)
theorem cdone_r : RTri Tryz.prog 20 #[.pointer (some ⟨Cb, 0, none⟩)] [bl Cb 147 (clV c pv p wv bv s)] (.bool (decide (s.next = 13))) := by
  refine RTri.of_exact fun W0 hs => ?_
  have hH := RdC.exact hs (ReadsC.here RdC.bl)
  refine Tri.of_body (vs := [_]) Tryz.func20 rfl rfl fun w0 F => ?_
  repeat' (first | refine Ga ?_ | (refine Gb ?_; intro b) | (refine Gd ?_; intro g cap rest hcap) | (refine Gc ?_; intro ad cap)  | (refine Ge ?_ ?_ <;> (intro h; try (exfalso; omega))) | fail)
  (first | refine St.dn Tryz.func20 ⟨?_, rfl⟩ Ent.go | refine St.fl Tryz.func20 ⟨?_, rfl⟩ Ent.go)
  rw [beq_dec]; rfl
theorem cresult_r : RTri Tryz.prog 25 #[.pointer (some ⟨Cb, 0, none⟩)] [bl Cb 147 (clV c pv p wv bv s)] (.agg ⟨[.int .i64 s.rc, .int .u64 (s.rv : Int)]⟩) := by
  refine RTri.of_exact fun W0 hs => ?_
  have hH := RdC.exact hs (ReadsC.here RdC.bl)
  refine Tri.of_body (vs := [_]) Tryz.func25 rfl rfl fun w0 F => ?_
  repeat' (first | refine Ga ?_ | (refine Gb ?_; intro b) | (refine Gd ?_; intro g cap rest hcap) | (refine Gc ?_; intro ad cap)  | (refine Ge ?_ ?_ <;> (intro h; try (exfalso; omega))) | fail)
  (first | refine St.dn Tryz.func25 ⟨?_, rfl⟩ Ent.go | refine St.fl Tryz.func25 ⟨?_, rfl⟩ Ent.go)
  rfl
theorem clooked_r : RTri Tryz.prog 21 #[.pointer (some ⟨Cb, 0, none⟩)] [bl Cb 147 (clV c pv p wv bv s)] (.bool s.fresh) := by
  refine RTri.of_exact fun W0 hs => ?_
  have hH := RdC.exact hs (ReadsC.here RdC.bl)
  refine Tri.of_body (vs := [_]) Tryz.func21 rfl rfl fun w0 F => ?_
  repeat' (first | refine Ga ?_ | (refine Gb ?_; intro b) | (refine Gd ?_; intro g cap rest hcap) | (refine Gc ?_; intro ad cap)  | (refine Ge ?_ ?_ <;> (intro h; try (exfalso; omega))) | fail)
  (first | refine St.dn Tryz.func21 ⟨?_, rfl⟩ Ent.go | refine St.fl Tryz.func21 ⟨?_, rfl⟩ Ent.go)
  rfl
theorem calone_r : RTri Tryz.prog 26 #[.pointer (some ⟨Cb, 0, none⟩)] [bl Cb 147 (clV c pv p wv bv s)] (.bool s.alone) := by
  refine RTri.of_exact fun W0 hs => ?_
  have hH := RdC.exact hs (ReadsC.here RdC.bl)
  refine Tri.of_body (vs := [_]) Tryz.func26 rfl rfl fun w0 F => ?_
  repeat' (first | refine Ga ?_ | (refine Gb ?_; intro b) | (refine Gd ?_; intro g cap rest hcap) | (refine Gc ?_; intro ad cap)  | (refine Ge ?_ ?_ <;> (intro h; try (exfalso; omega))) | fail)
  (first | refine St.dn Tryz.func26 ⟨?_, rfl⟩ Ent.go | refine St.fl Tryz.func26 ⟨?_, rfl⟩ Ent.go)
  rfl
theorem cowner_r (hc : Small c) : RTri Tryz.prog 74 #[.pointer (some ⟨Cb, 0, none⟩)] [bl Cb 147 (clV c pv p wv bv s)] (.int .i64 (s.owner c)) := by
  have ht0 := hc.t0; have ht1 := hc.t1
  have hm0 := Int.emod_nonneg (s.now.val : Int) (show c.threads ≠ 0 by omega)
  have hm1 := Int.emod_lt_of_pos (s.now.val : Int) (show 0 < c.threads by omega)
  have hcf := cfg_r c
  refine RTri.of_exact fun W0 hs => ?_
  have hH := RdC.exact hs (ReadsC.here RdC.bl)
  have htk := take_cl c pv p wv bv s
  refine Tri.of_body (vs := [_]) Tryz.func74 rfl rfl fun w0 F => ?_
  repeat' (first | refine Ga ?_ | (refine Gb ?_; intro b) | (refine Gd ?_; intro g cap rest hcap) | (refine Gc ?_; intro ad cap) | (refine St.draw (id := 1) [(0, 0), (1, 0), (2, 0), (3, 0), (4, 1), (5, 0), (6, 0), (7, 0), (8, 1), (9, 1), (10, 0), (11, 0), (12, 0), (13, 0), (14, 0)] [] mixed (by kernel_rfl) ?_)| refine Gl hcf ?_ | (refine Ge ?_ ?_ <;> (intro h; try (exfalso; omega))) | fail)
  (first | refine St.dn Tryz.func74 ⟨?_, rfl⟩ Ent.go | refine St.fl Tryz.func74 ⟨?_, rfl⟩ Ent.go)
  rfl
theorem cend_t (rc : Int) (rv : Nat) (alone : Bool) : Tri Tryz.prog 130 #[.pointer (some ⟨Cb, 0, none⟩), .agg ⟨[.int .i64 rc, .int .u64 (rv : Int)]⟩, .bool alone] [bl Cb 147 (clV c pv p wv bv s)]
    fun r L => r = .tuple ⟨[]⟩ ∧ L = [bl Cb 147 (clV c pv p wv bv (s.end rc rv alone))] := by
  refine Tri.of_body (vs := [_, _, _]) Tryz.func130 rfl rfl fun w0 F => ?_
  repeat' (first | refine Ga ?_ | (refine Gb ?_; intro b) | (refine Gd ?_; intro g cap rest hcap) | (refine Gc ?_; intro ad cap) | (refine St.drawT (id := 1) [(0, 0), (1, 0), (2, 0), (4, 0), (5, 0), (6, 0)] (.pick [(3, 2), (7, 3), (8, 0), (9, 0), (10, 3), (11, 0), (12, 0), (13, 3)] .done (.pick [(7, 3), (3, 2), (8, 0), (9, 0), (10, 3), (11, 0), (12, 0), (13, 3)] .done .nope)) [7, 10, 13] mixed (by kernel_rfl) ?_) | apply StD.pick | exact StD.nope  | (apply Zq; rfl; exact Ob; exact Ent.go) | (refine Ge ?_ ?_ <;> (intro h; try (exfalso; omega))) | fail)
  all_goals refine St.f1 Tryz.func130 ⟨_, ⟨rfl, rfl⟩, Ent.go⟩
theorem clooks_t (q : HProp) (progs : Progs) (hpv : ProgsR q pv progs) : Tri Tryz.prog 77 #[.pointer (some ⟨Cb, 0, none⟩)] [bl Cb 147 (clV c pv p wv bv s), q]
    fun r L => r = .tuple ⟨[]⟩ ∧ L = [bl Cb 147 (clV c pv p wv bv (s.looks (rightB (p.code progs)))), q] := by
  obtain ⟨cv, hins, hcode⟩ := ccode_e q pv progs hpv p
  have hri := right_rr q cv (p.code progs) hins
  have hc1 := hcode Cb c wv bv { s with next := 3 }
  have hen := cend_t Cb c pv p wv bv { s with next := 3 } 30 0 true
  obtain ⟨cad, ccap, rfl, _⟩ := hins
  obtain ⟨pad, pcap, rfl, _⟩ := hpv
  unfold Cs.looks
  generalize rightB (p.code progs) = r at hri ⊢
  cases r with
  | true =>
    refine Tri.of_body (vs := [_]) Tryz.func77 rfl rfl fun w0 F => ?_
    repeat' (first | refine Ga ?_ | (refine Gb ?_; intro b) | (refine Gd ?_; intro g cap rest hcap) | (refine Gc ?_; intro ad cap) | refine Gl hc1 ?_ | refine Gl hri ?_ | (refine Ge ?_ ?_ <;> (intro h; try (exfalso; omega))) | fail)
    refine St.f1 Tryz.func77 ⟨_, ⟨rfl, rfl⟩, Ent.go⟩
  | false =>
    refine Tri.of_body (vs := [_]) Tryz.func77 rfl rfl fun w0 F => ?_
    repeat' (first | refine Ga ?_ | (refine Gb ?_; intro b) | (refine Gd ?_; intro g cap rest hcap) | (refine Gc ?_; intro ad cap) | refine Gl hc1 ?_ | refine Gl hri ?_ | (refine Gt hen ?_; rintro _ _ ⟨rfl, rfl⟩) | (refine Ge ?_ ?_ <;> (intro h; try (exfalso; omega))) | fail)
    refine St.f1 Tryz.func77 ⟨_, ⟨rfl, rfl⟩, Ent.go⟩
/-- a program that runs, and all that it is over -/
structure ExH (q : HProp) (code : List Ins) where
  X : Nat
  V : Nat
  Pb : Nat
  W : Nat
  cv : Value
  h : InsR q cv code
def exL (c : Cfg) (q : HProp) (code : List Ins) (e : Xm) (h : ExH q code) : List HProp := [Xe h.X c h.cv h.V h.Pb h.W e.x e.news, bl h.V 347 (viewV c e.v), Pl h.Pb c e.p, Ws h.W 0 e.puts]
theorem cread_t (X : Nat) (cv : Value) (V Pb W : Nat) (e : Xm) (hn : e.news.length ≤ 1000000) : Tri Tryz.prog 137 #[.pointer (some ⟨Cb, 0, none⟩), .pointer (some ⟨X, 0, none⟩)] [bl Cb 147 (clV c pv p wv bv s), Xe X c cv V Pb W e.x e.news]
    fun r L => r = .tuple ⟨[]⟩ ∧ L = [bl Cb 147 (clV c pv p wv bv (s.read e.x)), Xe X c cv V Pb W e.x e.news] := by
  have hst := xstatus_s X V Pb W c cv e
  have hre := xresult_s X V Pb W c cv e hn
  have hen := cend_t Cb c pv p wv bv s e.x.rc e.x.rv true
  unfold Cs.read Cs.stale
  by_cases h1 : e.x.s = 1
  · rw [if_pos h1]
    refine Tri.of_body (vs := [_, _]) Tryz.func137 rfl rfl fun w0 F => ?_
    repeat' (first | refine Ga ?_ | (refine Gb ?_; intro b) | (refine Gd ?_; intro g cap rest hcap) | (refine Gc ?_; intro ad cap) | refine Gl hst ?_ | (refine Gt hre ?_; rintro _ _ ⟨rad, rcap, rfl, rfl⟩) | (refine Gt hen ?_; rintro _ _ ⟨rfl, rfl⟩) | (refine Ge ?_ ?_ <;> (intro h; try (exfalso; omega))) | fail)
    all_goals first | (exfalso; omega) | skip
    refine St.f1 Tryz.func137 ⟨_, ⟨rfl, rfl⟩, Ent.go⟩
  rw [if_neg h1]
  clear hre hen
  by_cases h2 : e.x.s = 2
  · rw [if_pos h2]
    by_cases h3 : IntKind.i64.wrap (s.tried + 1) = 2
    · cases ha : s.asked with
      | false =>
        rw [if_pos ⟨h3, rfl⟩]
        refine Tri.of_body (vs := [_, _]) Tryz.func137 rfl rfl fun w0 F => ?_
        repeat' (first | refine Ga ?_ | (refine Gb ?_; intro b) | (refine Gd ?_; intro g cap rest hcap) | (refine Gc ?_; intro ad cap) | refine Gl hst ?_ | (refine Ge ?_ ?_ <;> (intro h; try (exfalso; omega))) | fail)
        all_goals first | (exfalso; omega) | skip
        all_goals first | (exfalso; simp_all; done) | (refine St.f1 Tryz.func137 ⟨_, ⟨rfl, rfl⟩, ?_⟩; rw [ha]; exact Ent.go) | (refine St.f1 Tryz.func137 ⟨_, ⟨rfl, rfl⟩, Ent.go⟩)
      | true =>
        rw [if_neg (fun h => by cases h.2)]
        refine Tri.of_body (vs := [_, _]) Tryz.func137 rfl rfl fun w0 F => ?_
        repeat' (first | refine Ga ?_ | (refine Gb ?_; intro b) | (refine Gd ?_; intro g cap rest hcap) | (refine Gc ?_; intro ad cap) | refine Gl hst ?_ | (refine Ge ?_ ?_ <;> (intro h; try (exfalso; omega))) | fail)
        all_goals first | (exfalso; omega) | skip
        all_goals first | (exfalso; simp_all; done) | (refine St.f1 Tryz.func137 ⟨_, ⟨rfl, rfl⟩, ?_⟩; rw [ha]; exact Ent.go) | (refine St.f1 Tryz.func137 ⟨_, ⟨rfl, rfl⟩, Ent.go⟩)
    · rw [if_neg (fun h => h3 h.1)]
      refine Tri.of_body (vs := [_, _]) Tryz.func137 rfl rfl fun w0 F => ?_
      repeat' (first | refine Ga ?_ | (refine Gb ?_; intro b) | (refine Gd ?_; intro g cap rest hcap) | (refine Gc ?_; intro ad cap) | refine Gl hst ?_ | (refine Ge ?_ ?_ <;> (intro h; try (exfalso; omega))) | fail)
      all_goals first | (exfalso; omega) | skip
      refine St.f1 Tryz.func137 ⟨_, ⟨rfl, rfl⟩, Ent.go⟩
  · rw [if_neg h2]
    refine Tri.of_body (vs := [_, _]) Tryz.func137 rfl rfl fun w0 F => ?_
    repeat' (first | refine Ga ?_ | (refine Gb ?_; intro b) | (refine Gd ?_; intro g cap rest hcap) | (refine Gc ?_; intro ad cap) | refine Gl hst ?_ | (refine Ge ?_ ?_ <;> (intro h; try (exfalso; omega))) | fail)
    all_goals first | (exfalso; omega) | skip
    refine St.f1 Tryz.func137 ⟨_, ⟨rfl, rfl⟩, Ent.go⟩
end
end Go.Proofs.YtemaaenipjinaaaGreat
