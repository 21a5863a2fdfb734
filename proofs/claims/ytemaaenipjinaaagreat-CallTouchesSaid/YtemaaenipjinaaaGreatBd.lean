/-
  Package build: pass, announce, tag, pooled.
-/
import Derived.Test.YtemaaenipjinaaaGreatBc
namespace Go.Proofs.YtemaaenipjinaaaGreat
set_option maxRecDepth 100000
theorem pend_t (Pb W room : Nat) (c : Cfg) (hc : Small c) (p : Po) (puts : List (Int × Nat)) (hnt : 0 ≤ p.nt ∧ p.nt ≤ 1000000) (hnl : 0 ≤ p.nl ∧ p.nl ≤ 1000000) (hlen : puts.length + 2 ≤ 1000000000) :
    Tri Tryz.prog 320 #[.pointer (some ⟨Pb, 0, none⟩), .pointer (some ⟨W, 0, none⟩)] [Pl Pb c p, Ws W room puts]
      fun r L => r = .tuple ⟨[]⟩ ∧ L = [Pl Pb c p, Ws W room (endP c room p puts)] := by
  unfold Pl; exact pend_tE Pb W room c hc p puts hnt hnl hlen
/-- what the numbers must be -/
structure Bn (m : Bm) : Prop where
  u : 0 ≤ m.b.u ∧ m.b.u ≤ 1000
  nt : 0 ≤ m.e.p.nt ∧ m.e.p.nt ≤ 1000000
  nl : 0 ≤ m.e.p.nl ∧ m.e.p.nl ≤ 1000000
  len : m.e.puts.length ≤ 900000000
theorem bpass_t (B V Pb W room : Nat) (c : Cfg) (hc : Small c) (pv xv rv : Value) (m : Bm) (hn : Bn m) :
    Tri Tryz.prog 316 #[.pointer (some ⟨B, 0, none⟩)] [bl B 254 (bdV c pv V Pb W xv rv m.b), Pl Pb c m.e.p, Ws W room m.e.puts]
      fun r L => r = .tuple ⟨[]⟩ ∧ L = [bl B 254 (bdV c pv V Pb W xv rv (m.pass c room).b), Pl Pb c m.e.p, Ws W room (m.pass c room).e.puts] := by
  have he := pend_t Pb W room c hc m.e.p m.e.puts hn.nt hn.nl (by have := hn.len; omega)
  have hcf := cfg_r c
  have htk := fun b => take_b c pv V Pb W xv rv b
  have hu := hn.u
  have htk1 := htk { m.b with u := m.b.u + 1, next := 1 }
  unfold Bm.pass
  by_cases hs : m.b.u + 1 = c.threads
  · rw [if_pos hs]
    dsimp only
    refine Tri.of_body (vs := [_]) Tryz.func316 rfl rfl fun w0 F => ?_
    repeat' (first | refine Ga ?_ | (refine Gb ?_; intro b) | (refine Gd ?_; intro g cap rest hcap) | (refine Gc ?_; intro ad cap) | (refine St.draw (id := 2) [(0, 0), (1, 0), (2, 0), (3, 1), (4, 0), (5, 0), (6, 0), (7, 1), (8, 1), (9, 0), (10, 0)] [] mixed (by kernel_rfl) ?_) | (refine St.draw (id := 3) [(0, 0), (1, 0), (2, 0), (3, 1), (4, 0), (5, 0), (6, 0), (7, 1), (8, 3)] [8] mixed (by kernel_rfl) ?_)| refine Gl hcf ?_ | (refine Gt he ?_; rintro _ _ ⟨rfl, rfl⟩) | (refine Ge ?_ ?_ <;> (intro h; try (exfalso; omega))) | fail)
    refine St.f1 Tryz.func316 ⟨_, ⟨rfl, rfl⟩, Ent.go⟩
  · rw [if_neg hs]
    dsimp only
    refine Tri.of_body (vs := [_]) Tryz.func316 rfl rfl fun w0 F => ?_
    repeat' (first | refine Ga ?_ | (refine Gb ?_; intro b) | (refine Gd ?_; intro g cap rest hcap) | (refine Gc ?_; intro ad cap) | (refine St.draw (id := 2) [(0, 0), (1, 0), (2, 0), (3, 1), (4, 0), (5, 0), (6, 0), (7, 1), (8, 1), (9, 0), (10, 0)] [] mixed (by kernel_rfl) ?_) | (refine St.draw (id := 3) [(0, 0), (1, 0), (2, 0), (3, 1), (4, 0), (5, 0), (6, 0), (7, 1), (8, 3)] [8] mixed (by kernel_rfl) ?_)| refine Gl hcf ?_ | (refine Ge ?_ ?_ <;> (intro h; try (exfalso; omega))) | fail)
    refine St.f1 Tryz.func316 ⟨_, ⟨rfl, rfl⟩, Ent.go⟩
/-- a Build, what it is over, but for its rows and its program -/
def bdO (B V Pb W room : Nat) (c : Cfg) (pv xv rv : Value) (m : Bm) : List HProp := [bl B 254 (bdV c pv V Pb W xv rv m.b), bl V 347 (viewV c m.e.v), Pl Pb c m.e.p, Ws W room m.e.puts]
theorem Bm.pass_e (c : Cfg) (room : Nat) (m : Bm) : (m.pass c room).e.v = m.e.v ∧ (m.pass c room).e.p = m.e.p ∧ (m.pass c room).e.x = m.e.x ∧ (m.pass c room).e.news = m.e.news ∧ (m.pass c room).rows = m.rows := by
  unfold Bm.pass; split <;> exact ⟨rfl, rfl, rfl, rfl, rfl⟩
theorem bannounce_t (B V Pb W room : Nat) (c : Cfg) (hc : Small c) (pv xv rv : Value) (m : Bm) (hn : Bn m) :
    Tri Tryz.prog 305 #[.pointer (some ⟨B, 0, none⟩)] (bdO B V Pb W room c pv xv rv m) fun r L => r = .tuple ⟨[]⟩ ∧ L = bdO B V Pb W room c pv xv rv (m.announce c room) := by
  have hp := bpass_t B V Pb W room c hc pv xv rv m hn
  have hat := at_r c hc 7 m.b.u 0
  have hv := vcell_t c hc V m.e.v (c.at 7 m.b.u 0)
  have htk := take_b c pv V Pb W xv rv m.b
  unfold Bm.announce bdO
  by_cases hs : m.b.ann.seq = 0
  · rw [if_pos hs]
    obtain ⟨e1, e2, _⟩ := m.pass_e c room
    rw [e1, e2]
    have hs' : ((m.b.ann.seq : Nat) : Int) = 0 := by omega
    refine Tri.of_body (vs := [_]) Tryz.func305 rfl rfl fun w0 F => ?_
    repeat' (first | refine Ga ?_ | (refine Gb ?_; intro b) | (refine Gd ?_; intro g cap rest hcap) | (refine Gc ?_; intro ad cap) | (refine St.draw (id := 2) [(0, 0), (1, 0), (2, 0), (3, 1), (4, 0), (5, 0), (6, 0), (7, 1), (8, 0), (9, 0), (10, 0), (11, 1), (12, 1), (13, 3)] [13] mixed (by kernel_rfl) ?_) | (refine Gt hp ?_; rintro _ _ ⟨rfl, rfl⟩) | (refine Ge ?_ ?_ <;> (intro h; try (exfalso; omega))) | fail)
    refine St.d1 Tryz.func305 ⟨_, ⟨rfl, rfl⟩, Ent.go⟩
  · rw [if_neg hs]
    dsimp only
    have hs' : ¬ ((m.b.ann.seq : Nat) : Int) = 0 := by omega
    refine Tri.of_body (vs := [_]) Tryz.func305 rfl rfl fun w0 F => ?_
    repeat' (first | refine Ga ?_ | (refine Gb ?_; intro b) | (refine Gd ?_; intro g cap rest hcap) | (refine Gc ?_; intro ad cap) | (refine St.draw (id := 2) [(0, 0), (1, 0), (2, 0), (3, 1), (4, 0), (5, 0), (6, 0), (7, 1), (8, 0), (9, 0), (10, 0), (11, 1), (12, 1), (13, 3)] [13] mixed (by kernel_rfl) ?_)| refine Gl hat ?_ | (refine Gt hv ?_; rintro _ _ ⟨rfl, rfl⟩) | (refine Ge ?_ ?_ <;> (intro h; try (exfalso; omega))) | fail)
    refine St.f1 Tryz.func305 ⟨_, ⟨rfl, rfl⟩, Ent.go⟩
theorem btag_t (B V Pb W room : Nat) (c : Cfg) (hc : Small c) (pv xv rv : Value) (m : Bm) (hn : Bn m) :
    Tri Tryz.prog 312 #[.pointer (some ⟨B, 0, none⟩)] (bdO B V Pb W room c pv xv rv m) fun r L => r = .tuple ⟨[]⟩ ∧ L = bdO B V Pb W room c pv xv rv (m.tag c room) := by
  have hp := bpass_t B V Pb W room c hc pv xv rv m hn
  have hv := vend_r c V m.e.v
  unfold Bm.tag bdO
  by_cases h2 : m.e.v.s = 2
  · rw [if_pos h2]
    refine Tri.of_body (vs := [_]) Tryz.func312 rfl rfl fun w0 F => ?_
    repeat' (first | refine Ga ?_ | (refine Gb ?_; intro b) | (refine Gd ?_; intro g cap rest hcap) | (refine Gc ?_; intro ad cap) | refine Gl hv ?_ | (refine Ge ?_ ?_ <;> (intro h; try (exfalso; omega))) | fail)
    refine St.f1 Tryz.func312 ⟨_, ⟨rfl, rfl⟩, Ent.go⟩
  · rw [if_neg h2]
    by_cases hs : m.e.v.val = m.b.ann.seq
    · rw [if_pos hs]
      obtain ⟨e1, e2, _⟩ := m.pass_e c room
      rw [e1, e2]
      have hs' : ((m.e.v.val : Nat) : Int) = (m.b.ann.seq : Nat) := by omega
      refine Tri.of_body (vs := [_]) Tryz.func312 rfl rfl fun w0 F => ?_
      repeat' (first | refine Ga ?_ | (refine Gb ?_; intro b) | (refine Gd ?_; intro g cap rest hcap) | (refine Gc ?_; intro ad cap) | refine Gl hv ?_ | (refine Gt hp ?_; rintro _ _ ⟨rfl, rfl⟩) | (refine Ge ?_ ?_ <;> (intro h; try (exfalso; omega))) | fail)
      refine St.f1 Tryz.func312 ⟨_, ⟨rfl, rfl⟩, Ent.go⟩
    · rw [if_neg hs]
      have hs' : ¬ ((m.e.v.val : Nat) : Int) = (m.b.ann.seq : Nat) := by omega
      refine Tri.of_body (vs := [_]) Tryz.func312 rfl rfl fun w0 F => ?_
      repeat' (first | refine Ga ?_ | (refine Gb ?_; intro b) | (refine Gd ?_; intro g cap rest hcap) | (refine Gc ?_; intro ad cap) | refine Gl hv ?_ | (refine Ge ?_ ?_ <;> (intro h; try (exfalso; omega))) | fail)
      refine St.f1 Tryz.func312 ⟨_, ⟨rfl, rfl⟩, Ent.go⟩
theorem bpooled_t (B V Pb W room : Nat) (c : Cfg) (hc : Small c) (pv xv rv : Value) (m : Bm) (hn : Bn m) (hll : m.e.p.limbo.length ≤ 1000000) :
    Tri Tryz.prog 310 #[.pointer (some ⟨B, 0, none⟩)] (bdO B V Pb W room c pv xv rv m) fun r L => r = .tuple ⟨[]⟩ ∧ L = bdO B V Pb W room c pv xv rv (m.pooled c room) := by
  have hst := pStatus_r Pb c m.e.p
  have hse := psettle_t Pb W room c hc m.e.p m.e.puts hn.nt.1 hll (by have := hn.len; omega)
  unfold Bm.pooled bdO
  by_cases h2 : m.e.p.s = 2
  · rw [if_pos h2]
    rw [h2] at hst
    refine Tri.of_body (vs := [_]) Tryz.func310 rfl rfl fun w0 F => ?_
    repeat' (first | refine Ga ?_ | (refine Gb ?_; intro b) | (refine Gd ?_; intro g cap rest hcap) | (refine Gc ?_; intro ad cap) | (refine St.draw (id := 4) [(0, 0), (1, 0), (2, 0), (3, 1), (4, 0), (5, 0), (6, 0), (7, 1), (8, 3)] [8] mixed (by kernel_rfl) ?_)| refine Gl hst ?_ | (refine Ge ?_ ?_ <;> (intro h; try (exfalso; omega))) | fail)
    refine St.f1 Tryz.func310 ⟨_, ⟨rfl, rfl⟩, Ent.go⟩
  · rw [if_neg h2]
    by_cases h1 : m.e.p.s = 1
    · rw [if_pos h1]
      rw [h1] at hst
      refine Tri.of_body (vs := [_]) Tryz.func310 rfl rfl fun w0 F => ?_
      repeat' (first | refine Ga ?_ | (refine Gb ?_; intro b) | (refine Gd ?_; intro g cap rest hcap) | (refine Gc ?_; intro ad cap) | (refine St.draw (id := 4) [(0, 0), (1, 0), (2, 0), (3, 1), (4, 0), (5, 0), (6, 0), (7, 1), (8, 3)] [8] mixed (by kernel_rfl) ?_)| refine Gl hst ?_ | (refine Gt hse ?_; rintro _ _ ⟨rfl, rfl⟩) | (refine Ge ?_ ?_ <;> (intro h; try (exfalso; omega))) | fail)
      refine St.f1 Tryz.func310 ⟨_, ⟨rfl, rfl⟩, Ent.go⟩
    · rw [if_neg h1]
      refine Tri.of_body (vs := [_]) Tryz.func310 rfl rfl fun w0 F => ?_
      repeat' (first | refine Ga ?_ | (refine Gb ?_; intro b) | (refine Gd ?_; intro g cap rest hcap) | (refine Gc ?_; intro ad cap) | (refine St.draw (id := 4) [(0, 0), (1, 0), (2, 0), (3, 1), (4, 0), (5, 0), (6, 0), (7, 1), (8, 3)] [8] mixed (by kernel_rfl) ?_)| refine Gl hst ?_ | (refine Ge ?_ ?_ <;> (intro h; try (exfalso; omega))) | fail)
      refine St.f1 Tryz.func310 ⟨_, ⟨rfl, rfl⟩, Ent.go⟩
end Go.Proofs.YtemaaenipjinaaaGreat
