/-
  Package build: New, Status, Ask, Entries.
-/
import Derived.Test.YtemaaenipjinaaaGreatBh
namespace Go.Proofs.YtemaaenipjinaaaGreat
set_option maxRecDepth 100000
theorem bnew_tE (c : Cfg) (hc : Small c) (who : Int) (seq : Nat) (pv : Value) (q : HProp) (progs : Progs) (hpv : ProgsR q pv progs) :
    Tri Tryz.prog 134 #[.agg ⟨c.m⟩, .int .i64 who, .int .u64 (seq : Int), pv] [] fun r L => ∃ B, r = .pointer (some ⟨B, 0, none⟩) ∧ L = [BdE B c.cap.toNat c pv q progs (Bm.new who seq)] := by
  obtain ⟨pad, pcap, rfl, hpl, hpr⟩ := hpv
  have hcap := hc.cap
  have h1 := vnew_t c who seq
  have h2 := pnew_t c seq
  have h3 := wnew_t c.cap.toNat (by omega)
  rw [show ((c.cap.toNat : Nat) : Int) = c.cap by omega] at h3
  have hcp := cap_r c hc c.fr rfl
  refine Tri.of_body (vs := [_, _, _, _]) Tryz.func134 rfl rfl fun w0 F => ?_
  repeat' (first | refine Ga ?_ | (refine Gb ?_; intro b) | (refine Gd ?_; intro g cap rest hcap) | (refine Gc ?_; intro ad cap) | (refine St.draw (id := 1) [(0, 1), (1, 0), (2, 1), (3, 0), (4, 0), (6, 1), (7, 0), (9, 1), (5, 2), (8, 2), (10, 1), (11, 2), (12, 0), (13, 2), (14, 0)] [] mixed (by kernel_rfl) ?_)| refine Gl hcp ?_ | (refine Gt h1 ?_; rintro _ _ ⟨V, rfl, rfl⟩) | (refine Gu h1 ?_; rintro _ _ ⟨V, rfl, rfl⟩; refine ⟨Ent.go, ?_⟩) | (refine Gt h2 ?_; rintro _ _ ⟨Pb, rfl, rfl⟩) | (refine Gu h2 ?_; rintro _ _ ⟨Pb, rfl, rfl⟩; refine ⟨Ent.go, ?_⟩) | (refine Gt h3 ?_; rintro _ _ ⟨W, rfl, rfl⟩) | (refine Gu h3 ?_; rintro _ _ ⟨W, rfl, rfl⟩; refine ⟨Ent.go, ?_⟩) | (refine Ge ?_ ?_ <;> (intro h; try (exfalso; omega))) | fail)
  all_goals
    refine St.d1 Tryz.func134 ⟨_, ⟨_, rfl, rfl⟩, BdE.shut0 (V := V) (Pb := Pb) (W := W) (xv := .pointer none) (rad := none) (rcap := 0) (rs := []) rfl (fun e => by have := e.2; cases this) ?_⟩
    refine Ent.trans (Ent.row_nil 83 5) (Ent.trans (Ent.star_in []) ?_)
    exact Ent.go
theorem bstatus_rE (B room : Nat) (c : Cfg) (pv : Value) (q : HProp) (progs : Progs) (m : Bm) : RTri Tryz.prog 188 #[.pointer (some ⟨B, 0, none⟩)] [BdE B room c pv q progs m] (.int .i64 m.b.s) := by
  refine RTri.of_exact fun W0 hs => ?_
  obtain ⟨h, hs⟩ := sat_ex hs
  have hB := RdC.exact hs (ReadsC.here RdC.bl)
  refine Tri.of_body (vs := [_]) Tryz.func188 rfl rfl fun w0 F => ?_
  repeat' (first | refine Ga ?_ | (refine Gb ?_; intro b) | (refine Gd ?_; intro g cap rest hcap) | (refine Gc ?_; intro ad cap)  | (refine Ge ?_ ?_ <;> (intro h; try (exfalso; omega))) | fail)
  (first | refine St.dn Tryz.func188 ⟨?_, rfl⟩ Ent.go | refine St.fl Tryz.func188 ⟨?_, rfl⟩ Ent.go)
  rfl
set_option maxHeartbeats 1000000 in
theorem bask_rE (B : Nat) (c : Cfg) (hc : Small c) (pv : Value) (q : HProp) (progs : Progs) (m : Bm) (hi : Binv c progs m) : RTri Tryz.prog 303 #[.pointer (some ⟨B, 0, none⟩)] [BdE B c.cap.toNat c pv q progs m] (.tuple ⟨[.agg ⟨(m.ask c).1.v⟩, .bool (m.ask c).2]⟩) := by
  refine RTri.of_exact fun W0 hs => ?_
  obtain ⟨h, hs⟩ := sat_ex hs
  have hB := RdC.exact hs (ReadsC.here RdC.bl)
  have g := hi.gen
  have hvb := g.vb; have hnx := hi.nx
  have sub : ∀ {M : List HProp}, Ent (bdL B c.cap.toNat c pv q progs m h ++ []) M → ∀ k, exact' W0 k → Sat M k := fun {M} he k hk => by
    rw [show k = hpOf W0 from hk]
    unfold Ent at he
    exact he _ hs
  have htk := take_b c pv h.V h.Pb h.W h.xv (.slice h.rad m.rows.length h.rcap) m.b
  have hat := fun k i j => at_r c hc k i j
  unfold Bm.ask
  by_cases h0 : m.b.s ≠ 0
  · rw [if_pos h0]
    refine Tri.of_body (vs := [_]) Tryz.func303 rfl rfl fun w0 F => ?_
    repeat' (first | refine Ga ?_ | (refine Gb ?_; intro b) | (refine Gd ?_; intro g cap rest hcap) | (refine Gc ?_; intro ad cap) | (refine St.draw (id := 7) [(0, 0), (1, 0), (2, 0), (3, 1), (4, 0), (5, 0), (6, 0), (7, 1), (8, 1), (9, 0), (10, 3), (11, 0)] [10] mixed (by kernel_rfl) ?_) | (refine St.draw (id := 11) [(0, 0), (1, 0), (2, 0), (3, 1), (4, 0), (5, 0), (6, 0), (7, 1), (8, 0), (9, 0), (10, 0), (11, 1), (12, 1), (13, 0), (14, 3), (15, 0)] [14] mixed (by kernel_rfl) ?_) | (refine Ge ?_ ?_ <;> (intro h; try (exfalso; omega))) | fail)
    (first | refine St.dn Tryz.func303 ⟨?_, rfl⟩ Ent.go | refine St.fl Tryz.func303 ⟨?_, rfl⟩ Ent.go)
    rfl
  rw [if_neg h0]
  have hs0 : m.b.s = 0 := by omega
  by_cases h1 : m.b.next = 0
  · rw [if_pos h1]
    have hp := (hi.pool hs0 h1).1
    have hask := (pask_r h.Pb c hc m.e.p (by have := hp.next; omega)).of_read (p := exact' W0) (sub (by unfold bdL bdO; exact Ent.go))
    refine Tri.of_body (vs := [_]) Tryz.func303 rfl rfl fun w0 F => ?_
    repeat' (first | refine Ga ?_ | (refine Gb ?_; intro b) | (refine Gd ?_; intro g cap rest hcap) | (refine Gc ?_; intro ad cap) | (refine St.draw (id := 7) [(0, 0), (1, 0), (2, 0), (3, 1), (4, 0), (5, 0), (6, 0), (7, 1), (8, 1), (9, 0), (10, 3), (11, 0)] [10] mixed (by kernel_rfl) ?_) | (refine St.draw (id := 11) [(0, 0), (1, 0), (2, 0), (3, 1), (4, 0), (5, 0), (6, 0), (7, 1), (8, 0), (9, 0), (10, 0), (11, 1), (12, 1), (13, 0), (14, 3), (15, 0)] [14] mixed (by kernel_rfl) ?_)| refine Gl hask ?_ | (refine Ge ?_ ?_ <;> (intro h; try (exfalso; omega))) | fail)
    (first | refine St.dn Tryz.func303 ⟨?_, rfl⟩ Ent.go | refine St.fl Tryz.func303 ⟨?_, rfl⟩ Ent.go)
    rfl
  rw [if_neg h1]
  by_cases h2 : m.b.next = 1
  · rw [if_pos h2]
    refine Tri.of_body (vs := [_]) Tryz.func303 rfl rfl fun w0 F => ?_
    repeat' (first | refine Ga ?_ | (refine Gb ?_; intro b) | (refine Gd ?_; intro g cap rest hcap) | (refine Gc ?_; intro ad cap) | (refine St.draw (id := 7) [(0, 0), (1, 0), (2, 0), (3, 1), (4, 0), (5, 0), (6, 0), (7, 1), (8, 1), (9, 0), (10, 3), (11, 0)] [10] mixed (by kernel_rfl) ?_) | (refine St.draw (id := 11) [(0, 0), (1, 0), (2, 0), (3, 1), (4, 0), (5, 0), (6, 0), (7, 1), (8, 0), (9, 0), (10, 0), (11, 1), (12, 1), (13, 0), (14, 3), (15, 0)] [14] mixed (by kernel_rfl) ?_)| refine Gl (hat _ _ _) ?_ | (refine Ge ?_ ?_ <;> (intro h; try (exfalso; omega))) | fail)
    (first | refine St.dn Tryz.func303 ⟨?_, rfl⟩ Ent.go | refine St.fl Tryz.func303 ⟨?_, rfl⟩ Ent.go)
    rfl
  rw [if_neg h2]
  by_cases h3 : m.b.next = 2
  · rw [if_pos h3]
    have hask := (vask_r c hc h.V m.e.v (by omega)).of_read (p := exact' W0) (sub (by unfold bdL bdO; exact Ent.go))
    refine Tri.of_body (vs := [_]) Tryz.func303 rfl rfl fun w0 F => ?_
    repeat' (first | refine Ga ?_ | (refine Gb ?_; intro b) | (refine Gd ?_; intro g cap rest hcap) | (refine Gc ?_; intro ad cap) | (refine St.draw (id := 7) [(0, 0), (1, 0), (2, 0), (3, 1), (4, 0), (5, 0), (6, 0), (7, 1), (8, 1), (9, 0), (10, 3), (11, 0)] [10] mixed (by kernel_rfl) ?_) | (refine St.draw (id := 11) [(0, 0), (1, 0), (2, 0), (3, 1), (4, 0), (5, 0), (6, 0), (7, 1), (8, 0), (9, 0), (10, 0), (11, 1), (12, 1), (13, 0), (14, 3), (15, 0)] [14] mixed (by kernel_rfl) ?_)| refine Gl hask ?_ | (refine Ge ?_ ?_ <;> (intro h; try (exfalso; omega))) | fail)
    (first | refine St.dn Tryz.func303 ⟨?_, rfl⟩ Ent.go | refine St.fl Tryz.func303 ⟨?_, rfl⟩ Ent.go)
    rfl
  rw [if_neg h3]
  by_cases h4 : m.b.next = 3
  · rw [if_pos h4]
    refine Tri.of_body (vs := [_]) Tryz.func303 rfl rfl fun w0 F => ?_
    repeat' (first | refine Ga ?_ | (refine Gb ?_; intro b) | (refine Gd ?_; intro g cap rest hcap) | (refine Gc ?_; intro ad cap) | (refine St.draw (id := 7) [(0, 0), (1, 0), (2, 0), (3, 1), (4, 0), (5, 0), (6, 0), (7, 1), (8, 1), (9, 0), (10, 3), (11, 0)] [10] mixed (by kernel_rfl) ?_) | (refine St.draw (id := 11) [(0, 0), (1, 0), (2, 0), (3, 1), (4, 0), (5, 0), (6, 0), (7, 1), (8, 0), (9, 0), (10, 0), (11, 1), (12, 1), (13, 0), (14, 3), (15, 0)] [14] mixed (by kernel_rfl) ?_)| refine Gl (hat _ _ _) ?_ | (refine Ge ?_ ?_ <;> (intro h; try (exfalso; omega))) | fail)
    (first | refine St.dn Tryz.func303 ⟨?_, rfl⟩ Ent.go | refine St.fl Tryz.func303 ⟨?_, rfl⟩ Ent.go)
    rfl
  · rw [if_neg h4]
    have h5 : m.b.next = 4 := by omega
    obtain ⟨hxv, hins⟩ := h.hx hs0 h5
    rw [hxv] at hB
    have hask := (xask_s h.X h.V h.Pb h.W c hc h.cv m.e (by omega)).of_read (p := exact' W0) (sub (by unfold bdL bdO xpP; rw [if_pos ⟨hs0, h5⟩]; exact Ent.go))
    refine Tri.of_body (vs := [_]) Tryz.func303 rfl rfl fun w0 F => ?_
    repeat' (first | refine Ga ?_ | (refine Gb ?_; intro b) | (refine Gd ?_; intro g cap rest hcap) | (refine Gc ?_; intro ad cap) | (refine St.draw (id := 7) [(0, 0), (1, 0), (2, 0), (3, 1), (4, 0), (5, 0), (6, 0), (7, 1), (8, 1), (9, 0), (10, 3), (11, 0)] [10] mixed (by kernel_rfl) ?_) | (refine St.draw (id := 11) [(0, 0), (1, 0), (2, 0), (3, 1), (4, 0), (5, 0), (6, 0), (7, 1), (8, 0), (9, 0), (10, 0), (11, 1), (12, 1), (13, 0), (14, 3), (15, 0)] [14] mixed (by kernel_rfl) ?_)| refine Gl hask ?_ | (refine Ge ?_ ?_ <;> (intro h; try (exfalso; omega))) | fail)
    (first | refine St.dn Tryz.func303 ⟨?_, rfl⟩ Ent.go | refine St.fl Tryz.func303 ⟨?_, rfl⟩ Ent.go)
    rfl
/-- is an entry written? -/
def entB (c : Cfg) (P : List (Int × Nat)) (e : Int × Nat) : Bool :=
  if (c.what e.1).1 = 16 then !((mget (allP P) (c.at 11 (c.what e.1).2.1 0)).isSome && ((((mget (allP P) (c.at 11 (c.what e.1).2.1 0)).getD 0 : Nat) : Int) != 1)) else true
def entriesOf (c : Cfg) (P : List (Int × Nat)) : List (Int × Nat) := (allP P).filter (entB c P)
end Go.Proofs.YtemaaenipjinaaaGreat
