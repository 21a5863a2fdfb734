/-
  What a program adds to a set: no more entries than it counted words, none of a thread's own cells. Package build: a transaction that is made: its numbers, in plain terms. What a call touches, in plain terms: places.
-/
import Derived.Test.YthmbgodcpgkkeaaGreatExi
import Derived.Test.YthmbgodcpgkkeaaGreatMo
import Derived.Test.YthmbgodcpgkkeaaGreatCell
section
namespace Go.Proofs.YthmbgodcpgkkeaaGreat
end Go.Proofs.YthmbgodcpgkkeaaGreat
namespace Go.Proofs.YthmbgodcpgkkeaaGreat
set_option maxRecDepth 100000
/-- behind writing how a pool stands -/
def endP (c : Cfg) (room : Nat) (p : Po) (puts : List (Int × Nat)) : List (Int × Nat) :=
  if p.nl = p.wl then (if p.nt = p.wt then puts else putP room puts (c.at 12 0 0) p.nt.toNat) else putP room (if p.nt = p.wt then puts else putP room puts (c.at 12 0 0) p.nt.toNat) (c.at 14 0 0) p.nl.toNat
theorem pend_tE (Pb W room : Nat) (c : Cfg) (hc : Small c) (p : Po) (puts : List (Int × Nat)) (hnt : 0 ≤ p.nt ∧ p.nt ≤ 1000000) (hnl : 0 ≤ p.nl ∧ p.nl ≤ 1000000) (hlen : puts.length + 2 ≤ 1000000000) :
    Tri Tryz.prog 76 #[.pointer (some ⟨Pb, 0, none⟩), .pointer (some ⟨W, 0, none⟩)] [PlE Pb c p, Ws W room puts]
      fun r L => r = .tuple ⟨[]⟩ ∧ L = [PlE Pb c p, Ws W room (endP c room p puts)] := by
  refine Tri.ex_out fun x => ?_
  have htk := take_p c x.N p (.slice x.lad p.limbo.length x.lcap)
  have hat := fun k => at_r c hc k 0 0
  have e1 : (p.nt.toNat : Int) = p.nt := by omega
  have e2 : (p.nl.toNat : Int) = p.nl := by omega
  unfold endP
  have h1 := wput_t W room puts (c.at 12 0 0) p.nt.toNat (by omega)
  rw [e1] at h1
  have hl := putP_len room puts (c.at 12 0 0) p.nt.toNat
  by_cases ht : p.nt = p.wt
  · rw [if_pos ht]
    by_cases hn : p.nl = p.wl
    · rw [if_pos hn]
      refine Tri.of_body (vs := [_, _]) Tryz.func76 rfl rfl fun w0 F => ?_
      repeat' (first | refine Ga ?_ | (refine Gb ?_; intro b) | (refine Gd ?_; intro g cap rest hcap) | (refine Gc ?_; intro ad cap) | (refine St.draw (id := 0) [(0, 0), (1, 0), (2, 0), (3, 0), (4, 1), (5, 0), (6, 0), (7, 0), (8, 0), (9, 1), (10, 0)] [] mixed (by kernel_rfl) ?_) | (refine St.draw (id := 1) [(0, 0), (1, 0), (2, 0), (3, 0), (4, 1), (5, 1), (6, 0), (7, 0), (8, 0), (9, 0), (10, 1), (11, 0), (12, 3)] [12] mixed (by kernel_rfl) ?_) | (refine St.draw (id := 2) [(0, 0), (1, 0), (2, 0), (3, 0), (4, 1), (5, 0), (6, 0), (7, 0), (8, 0), (9, 1), (10, 0)] [] mixed (by kernel_rfl) ?_) | (refine St.draw (id := 3) [(0, 0), (1, 0), (2, 0), (3, 0), (4, 1), (5, 1), (6, 0), (7, 0), (8, 0), (9, 0), (10, 1), (11, 0), (12, 3)] [12] mixed (by kernel_rfl) ?_) | (refine Ge ?_ ?_ <;> (intro h; try (exfalso; omega))) | fail)
      refine St.f1 Tryz.func76 ⟨_, ⟨rfl, rfl⟩, ?_⟩
      exact Ent.trans Ent.go (Ent.ex_in (Ls := plL Pb c p) x)
    · rw [if_neg hn]
      have h2 := wput_t W room puts (c.at 14 0 0) p.nl.toNat (by omega)
      rw [e2] at h2
      refine Tri.of_body (vs := [_, _]) Tryz.func76 rfl rfl fun w0 F => ?_
      repeat' (first | refine Ga ?_ | (refine Gb ?_; intro b) | (refine Gd ?_; intro g cap rest hcap) | (refine Gc ?_; intro ad cap) | (refine St.draw (id := 0) [(0, 0), (1, 0), (2, 0), (3, 0), (4, 1), (5, 0), (6, 0), (7, 0), (8, 0), (9, 1), (10, 0)] [] mixed (by kernel_rfl) ?_) | (refine St.draw (id := 1) [(0, 0), (1, 0), (2, 0), (3, 0), (4, 1), (5, 1), (6, 0), (7, 0), (8, 0), (9, 0), (10, 1), (11, 0), (12, 3)] [12] mixed (by kernel_rfl) ?_) | (refine St.draw (id := 2) [(0, 0), (1, 0), (2, 0), (3, 0), (4, 1), (5, 0), (6, 0), (7, 0), (8, 0), (9, 1), (10, 0)] [] mixed (by kernel_rfl) ?_) | (refine St.draw (id := 3) [(0, 0), (1, 0), (2, 0), (3, 0), (4, 1), (5, 1), (6, 0), (7, 0), (8, 0), (9, 0), (10, 1), (11, 0), (12, 3)] [12] mixed (by kernel_rfl) ?_)| refine Gl (hat _) ?_ | (refine Gt h2 ?_; rintro _ _ ⟨rfl, rfl⟩) | (refine Ge ?_ ?_ <;> (intro h; try (exfalso; omega))) | fail)
      refine St.f1 Tryz.func76 ⟨_, ⟨rfl, rfl⟩, ?_⟩
      exact Ent.trans Ent.go (Ent.ex_in (Ls := plL Pb c p) x)
  · rw [if_neg ht]
    by_cases hn : p.nl = p.wl
    · rw [if_pos hn]
      refine Tri.of_body (vs := [_, _]) Tryz.func76 rfl rfl fun w0 F => ?_
      repeat' (first | refine Ga ?_ | (refine Gb ?_; intro b) | (refine Gd ?_; intro g cap rest hcap) | (refine Gc ?_; intro ad cap) | (refine St.draw (id := 0) [(0, 0), (1, 0), (2, 0), (3, 0), (4, 1), (5, 0), (6, 0), (7, 0), (8, 0), (9, 1), (10, 0)] [] mixed (by kernel_rfl) ?_) | (refine St.draw (id := 1) [(0, 0), (1, 0), (2, 0), (3, 0), (4, 1), (5, 1), (6, 0), (7, 0), (8, 0), (9, 0), (10, 1), (11, 0), (12, 3)] [12] mixed (by kernel_rfl) ?_) | (refine St.draw (id := 2) [(0, 0), (1, 0), (2, 0), (3, 0), (4, 1), (5, 0), (6, 0), (7, 0), (8, 0), (9, 1), (10, 0)] [] mixed (by kernel_rfl) ?_) | (refine St.draw (id := 3) [(0, 0), (1, 0), (2, 0), (3, 0), (4, 1), (5, 1), (6, 0), (7, 0), (8, 0), (9, 0), (10, 1), (11, 0), (12, 3)] [12] mixed (by kernel_rfl) ?_)| refine Gl (hat _) ?_ | (refine Gt h1 ?_; rintro _ _ ⟨rfl, rfl⟩) | (refine Ge ?_ ?_ <;> (intro h; try (exfalso; omega))) | fail)
      refine St.f1 Tryz.func76 ⟨_, ⟨rfl, rfl⟩, ?_⟩
      exact Ent.trans Ent.go (Ent.ex_in (Ls := plL Pb c p) x)
    · rw [if_neg hn]
      have h2 := wput_t W room (putP room puts (c.at 12 0 0) p.nt.toNat) (c.at 14 0 0) p.nl.toNat (by omega)
      rw [e2] at h2
      refine Tri.of_body (vs := [_, _]) Tryz.func76 rfl rfl fun w0 F => ?_
      repeat' (first | refine Ga ?_ | (refine Gb ?_; intro b) | (refine Gd ?_; intro g cap rest hcap) | (refine Gc ?_; intro ad cap) | (refine St.draw (id := 0) [(0, 0), (1, 0), (2, 0), (3, 0), (4, 1), (5, 0), (6, 0), (7, 0), (8, 0), (9, 1), (10, 0)] [] mixed (by kernel_rfl) ?_) | (refine St.draw (id := 1) [(0, 0), (1, 0), (2, 0), (3, 0), (4, 1), (5, 1), (6, 0), (7, 0), (8, 0), (9, 0), (10, 1), (11, 0), (12, 3)] [12] mixed (by kernel_rfl) ?_) | (refine St.draw (id := 2) [(0, 0), (1, 0), (2, 0), (3, 0), (4, 1), (5, 0), (6, 0), (7, 0), (8, 0), (9, 1), (10, 0)] [] mixed (by kernel_rfl) ?_) | (refine St.draw (id := 3) [(0, 0), (1, 0), (2, 0), (3, 0), (4, 1), (5, 1), (6, 0), (7, 0), (8, 0), (9, 0), (10, 1), (11, 0), (12, 3)] [12] mixed (by kernel_rfl) ?_)| refine Gl (hat _) ?_ | (refine Gt h1 ?_; rintro _ _ ⟨rfl, rfl⟩) | (refine Gt h2 ?_; rintro _ _ ⟨rfl, rfl⟩) | (refine Ge ?_ ?_ <;> (intro h; try (exfalso; omega))) | fail)
      refine St.f1 Tryz.func76 ⟨_, ⟨rfl, rfl⟩, ?_⟩
      exact Ent.trans Ent.go (Ent.ex_in (Ls := plL Pb c p) x)
end Go.Proofs.YthmbgodcpgkkeaaGreat
end
section
namespace Go.Proofs.YthmbgodcpgkkeaaGreat
theorem divmod_own {s i r : Int} (h0 : 0 ≤ r) (h1 : r < s) : (i * s + r) / s = i ∧ (i * s + r) % s = r := by
  have e : i * s + r = r + s * i := by rw [Int.mul_comm s i, Int.add_comm]
  constructor
  · rw [e, Int.add_mul_ediv_left _ _ (by omega), Int.ediv_eq_zero_of_lt h0 h1]; omega
  · rw [e, Int.add_mul_emod_self_left, Int.emod_eq_of_lt h0 h1]
theorem at_own {c : Cfg} (hc : Small c) {kind i k : Int} (hk : 1 ≤ kind ∧ kind ≤ 6) (hi : 0 ≤ i ∧ i < c.threads) (h : 0 ≤ k ∧ k < (c.cnt kind).2) : c.what (c.at kind i k) = (kind, i, k) := by
  have hcap := hc.cap
  have hm := hc.imul i hi.1 hi.2
  have hn := hc.nums.f17
  have hs : c.stride = 8 + c.cap := rfl
  have h7 : c.f7 = 1 + c.threads * c.stride := rfl
  have hle : c.f7 ≤ c.f17 := by
    have := hc.t0; have := hc.b0; have := hc.limit
    simp only [Cfg.f10, Cfg.f11, Cfg.f12, Cfg.f13, Cfg.f14, Cfg.f15, Cfg.f16, Cfg.f17]; omega
  have hcnt : (c.cnt kind).1 = c.threads := by
    unfold Cfg.cnt
    rw [if_neg (by omega)]
    split
    · rfl
    split
    · rfl
    · rw [if_pos (by omega)]
  have hown : 0 ≤ ownOf kind ∧ ownOf kind + k < c.stride := by
    unfold ownOf
    unfold Cfg.cnt at h
    rw [if_neg (by omega)] at h
    repeat' split
    all_goals first | (rw [if_pos (by omega)] at h; simp only at h; omega) | (rw [if_neg (by omega), if_pos (by omega)] at h; simp only at h; omega) | (rw [if_neg (by omega), if_neg (by omega), if_pos (by omega)] at h; simp only at h; omega)
  have hstp : c.stp kind = c.stride := by unfold Cfg.stp; rw [if_pos hk]
  have hbase : c.base kind = 1 + ownOf kind := by unfold Cfg.base; rw [if_neg (by omega), if_pos (by omega)]
  have hat : c.at kind i k = 1 + (i * c.stride + (ownOf kind + k)) := by
    unfold Cfg.at
    rw [hcnt, if_pos ⟨hi.1, hi.2, h.1, h.2⟩, hstp, hbase]; omega
  obtain ⟨d1, d2⟩ := divmod_own (i := i) (by omega : 0 ≤ ownOf kind + k) hown.2
  rw [hat]
  unfold Cfg.what
  rw [if_neg (by omega), if_neg (by omega), if_pos (by omega), show 1 + (i * c.stride + (ownOf kind + k)) - 1 = i * c.stride + (ownOf kind + k) by omega, d1, d2]
  have hk6 : kind = 1 ∨ kind = 2 ∨ kind = 3 ∨ kind = 4 ∨ kind = 5 ∨ kind = 6 := by omega
  rcases hk6 with rfl | rfl | rfl | rfl | rfl | rfl
  · have e : ownOf 1 = 0 := rfl
    have h : 0 ≤ k ∧ k < 1 := h
    rw [e, if_neg (by omega), if_neg (by omega), if_neg (by omega), if_neg (by omega), if_neg (by omega)]
    congr 2; omega
  · have e : ownOf 2 = 1 := rfl
    have h : 0 ≤ k ∧ k < 4 := h
    rw [e, if_neg (by omega), if_neg (by omega), if_neg (by omega), if_neg (by omega), if_pos (by omega)]
    congr 2; omega
  · have e : ownOf 3 = 5 := rfl
    have h : 0 ≤ k ∧ k < 1 := h
    rw [e, if_neg (by omega), if_neg (by omega), if_neg (by omega), if_pos (by omega)]
    congr 2; omega
  · have e : ownOf 4 = 6 := rfl
    have h : 0 ≤ k ∧ k < 1 := h
    rw [e, if_neg (by omega), if_neg (by omega), if_pos (by omega)]
    congr 2; omega
  · have e : ownOf 5 = 7 := rfl
    have h : 0 ≤ k ∧ k < 1 := h
    rw [e, if_neg (by omega), if_pos (by omega)]
    congr 2; omega
  · have e : ownOf 6 = 8 := rfl
    rw [e, if_pos (by omega)]
    congr 2; omega
/-- of all other kinds -/
theorem at_rest {c : Cfg} (hc : Small c) {kind i k : Int} (hk : 7 ≤ kind ∧ kind ≤ 16) (hi : 0 ≤ i ∧ i < (c.cnt kind).1) (h : 0 ≤ k ∧ k < (c.cnt kind).2) : c.what (c.at kind i k) = (kind, i, k) := by
  have hcap := hc.cap
  have hts := hc.ts
  have h7 : c.f7 = 1 + c.threads * c.stride := rfl
  have hb0 := hc.b0; have hl0 := hc.limit; have ht0 := hc.t0
  have h10 : c.f10 = c.f7 + c.threads * 3 := rfl
  have h11 : c.f11 = c.f10 + 16 := rfl
  have h12 : c.f12 = c.f11 + c.blocks := rfl
  have h13 : c.f13 = c.f12 + 1 := rfl
  have h14 : c.f14 = c.f13 + c.blocks := rfl
  have h15 : c.f15 = c.f14 + 1 := rfl
  have h16 : c.f16 = c.f15 + c.limit := rfl
  have h17 : c.f17 = c.f16 + c.blocks * 8 := rfl
  unfold Cfg.at
  rw [if_pos ⟨hi.1, hi.2, h.1, h.2⟩]
  have hk10 : kind = 7 ∨ kind = 8 ∨ kind = 9 ∨ kind = 10 ∨ kind = 11 ∨ kind = 12 ∨ kind = 13 ∨ kind = 14 ∨ kind = 15 ∨ kind = 16 := by omega
  unfold Cfg.what
  rcases hk10 with rfl | rfl | rfl | rfl | rfl | rfl | rfl | rfl | rfl | rfl
  · have hi : 0 ≤ i ∧ i < c.threads := hi
    have h : 0 ≤ k ∧ k < 1 := h
    rw [show c.base 7 = c.f7 + 0 from rfl, show c.stp 7 = 3 from rfl, if_neg (by omega), if_neg (by omega), if_neg (by omega), if_pos (by omega)]
    congr 1
    · omega
    · congr 1 <;> omega
  · have hi : 0 ≤ i ∧ i < c.threads := hi
    have h : 0 ≤ k ∧ k < 1 := h
    rw [show c.base 8 = c.f7 + 1 from rfl, show c.stp 8 = 3 from rfl, if_neg (by omega), if_neg (by omega), if_neg (by omega), if_pos (by omega)]
    congr 1
    · omega
    · congr 1 <;> omega
  · have hi : 0 ≤ i ∧ i < c.threads := hi
    have h : 0 ≤ k ∧ k < 1 := h
    rw [show c.base 9 = c.f7 + 2 from rfl, show c.stp 9 = 3 from rfl, if_neg (by omega), if_neg (by omega), if_neg (by omega), if_pos (by omega)]
    congr 1
    · omega
    · congr 1 <;> omega
  · have hi : 0 ≤ i ∧ i < 16 := hi
    have h : 0 ≤ k ∧ k < 1 := h
    rw [show c.base 10 = c.f10 from rfl, show c.stp 10 = 1 from rfl, if_neg (by omega), if_neg (by omega), if_neg (by omega), if_neg (by omega), if_neg (by omega), if_neg (by omega), if_neg (by omega), if_neg (by omega), if_neg (by omega), if_neg (by omega)]
    congr 2 <;> omega
  · have hi : 0 ≤ i ∧ i < c.blocks := hi
    have h : 0 ≤ k ∧ k < 1 := h
    rw [show c.base 11 = c.f11 from rfl, show c.stp 11 = 1 from rfl, if_neg (by omega), if_neg (by omega), if_neg (by omega), if_neg (by omega), if_neg (by omega), if_neg (by omega), if_neg (by omega), if_neg (by omega), if_neg (by omega), if_pos (by omega)]
    congr 2 <;> omega
  · have hi : 0 ≤ i ∧ i < 1 := hi
    have h : 0 ≤ k ∧ k < 1 := h
    rw [show c.base 12 = c.f12 from rfl, show c.stp 12 = 1 from rfl, if_neg (by omega), if_neg (by omega), if_neg (by omega), if_neg (by omega), if_neg (by omega), if_neg (by omega), if_neg (by omega), if_neg (by omega), if_pos (by omega)]
    congr 2 <;> omega
  · have hi : 0 ≤ i ∧ i < c.blocks := hi
    have h : 0 ≤ k ∧ k < 1 := h
    rw [show c.base 13 = c.f13 from rfl, show c.stp 13 = 1 from rfl, if_neg (by omega), if_neg (by omega), if_neg (by omega), if_neg (by omega), if_neg (by omega), if_neg (by omega), if_neg (by omega), if_pos (by omega)]
    congr 2 <;> omega
  · have hi : 0 ≤ i ∧ i < 1 := hi
    have h : 0 ≤ k ∧ k < 1 := h
    rw [show c.base 14 = c.f14 from rfl, show c.stp 14 = 1 from rfl, if_neg (by omega), if_neg (by omega), if_neg (by omega), if_neg (by omega), if_neg (by omega), if_neg (by omega), if_pos (by omega)]
    congr 2 <;> omega
  · have hi : 0 ≤ i ∧ i < c.limit := hi
    have h : 0 ≤ k ∧ k < 1 := h
    rw [show c.base 15 = c.f15 from rfl, show c.stp 15 = 1 from rfl, if_neg (by omega), if_neg (by omega), if_neg (by omega), if_neg (by omega), if_neg (by omega), if_pos (by omega)]
    congr 2 <;> omega
  · have hi : 0 ≤ i ∧ i < c.blocks := hi
    have h : 0 ≤ k ∧ k < 8 := h
    rw [show c.base 16 = c.f16 from rfl, show c.stp 16 = 8 from rfl, if_neg (by omega), if_neg (by omega), if_neg (by omega), if_neg (by omega), if_pos (by omega)]
    congr 1
    congr 1 <;> omega
end Go.Proofs.YthmbgodcpgkkeaaGreat
end
