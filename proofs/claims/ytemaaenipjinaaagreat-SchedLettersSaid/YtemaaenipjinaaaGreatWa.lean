/-
  What a call touches, in plain terms: places.
-/
import Derived.Test.YtemaaenipjinaaaGreatVa
namespace Go.Proofs.YtemaaenipjinaaaGreat
theorem divmod_own {s i r : Int} (h0 : 0 ≤ r) (h1 : r < s) : (i * s + r) / s = i ∧ (i * s + r) % s = r := by
  have e : i * s + r = r + s * i := by rw [Int.mul_comm s i, Int.add_comm]
  constructor
  · rw [e, Int.add_mul_ediv_left _ _ (by omega), Int.ediv_eq_zero_of_lt h0 h1]; omega
  · rw [e, Int.add_mul_emod_self_left, Int.emod_eq_of_lt h0 h1]
theorem at_own {c : Cfg} (hc : Small c) {kind i k : Int} (hk : 1 ≤ kind ∧ kind ≤ 6) (hi : 0 ≤ i ∧ i < c.threads) (h : 0 ≤ k ∧ k < (c.cnt kind).2) : c.what (c.at kind i k) = (kind, i, k) := by
  have hcap := hc.cap
  have hm := hc.imul i hi.1 hi.2
  have hn := hc.nums.f17
  have hs : c.stride = 8 + c.cap := rfl
  have h7 : c.f7 = 1 + c.threads * c.stride := rfl
  have hle : c.f7 ≤ c.f17 := by
    have := hc.t0; have := hc.b0; have := hc.limit
    simp only [Cfg.f10, Cfg.f11, Cfg.f12, Cfg.f13, Cfg.f14, Cfg.f15, Cfg.f16, Cfg.f17]; omega
  have hcnt : (c.cnt kind).1 = c.threads := by
    unfold Cfg.cnt
    rw [if_neg (by omega)]
    split
    · rfl
    split
    · rfl
    · rw [if_pos (by omega)]
  have hown : 0 ≤ ownOf kind ∧ ownOf kind + k < c.stride := by
    unfold ownOf
    unfold Cfg.cnt at h
    rw [if_neg (by omega)] at h
    repeat' split
    all_goals first | (rw [if_pos (by omega)] at h; simp only at h; omega) | (rw [if_neg (by omega), if_pos (by omega)] at h; simp only at h; omega) | (rw [if_neg (by omega), if_neg (by omega), if_pos (by omega)] at h; simp only at h; omega)
  have hstp : c.stp kind = c.stride := by unfold Cfg.stp; rw [if_pos hk]
  have hbase : c.base kind = 1 + ownOf kind := by unfold Cfg.base; rw [if_neg (by omega), if_pos (by omega)]
  have hat : c.at kind i k = 1 + (i * c.stride + (ownOf kind + k)) := by
    unfold Cfg.at
    rw [hcnt, if_pos ⟨hi.1, hi.2, h.1, h.2⟩, hstp, hbase]; omega
  obtain ⟨d1, d2⟩ := divmod_own (i := i) (by omega : 0 ≤ ownOf kind + k) hown.2
  rw [hat]
  unfold Cfg.what
  rw [if_neg (by omega), if_neg (by omega), if_pos (by omega), show 1 + (i * c.stride + (ownOf kind + k)) - 1 = i * c.stride + (ownOf kind + k) by omega, d1, d2]
  have hk6 : kind = 1 ∨ kind = 2 ∨ kind = 3 ∨ kind = 4 ∨ kind = 5 ∨ kind = 6 := by omega
  rcases hk6 with rfl | rfl | rfl | rfl | rfl | rfl
  · have e : ownOf 1 = 0 := rfl
    have h : 0 ≤ k ∧ k < 1 := h
    rw [e, if_neg (by omega), if_neg (by omega), if_neg (by omega), if_neg (by omega), if_neg (by omega)]
    congr 2; omega
  · have e : ownOf 2 = 1 := rfl
    have h : 0 ≤ k ∧ k < 4 := h
    rw [e, if_neg (by omega), if_neg (by omega), if_neg (by omega), if_neg (by omega), if_pos (by omega)]
    congr 2; omega
  · have e : ownOf 3 = 5 := rfl
    have h : 0 ≤ k ∧ k < 1 := h
    rw [e, if_neg (by omega), if_neg (by omega), if_neg (by omega), if_pos (by omega)]
    congr 2; omega
  · have e : ownOf 4 = 6 := rfl
    have h : 0 ≤ k ∧ k < 1 := h
    rw [e, if_neg (by omega), if_neg (by omega), if_pos (by omega)]
    congr 2; omega
  · have e : ownOf 5 = 7 := rfl
    have h : 0 ≤ k ∧ k < 1 := h
    rw [e, if_neg (by omega), if_pos (by omega)]
    congr 2; omega
  · have e : ownOf 6 = 8 := rfl
    rw [e, if_pos (by omega)]
    congr 2; omega
/-- of all other kinds -/
theorem at_rest {c : Cfg} (hc : Small c) {kind i k : Int} (hk : 7 ≤ kind ∧ kind ≤ 16) (hi : 0 ≤ i ∧ i < (c.cnt kind).1) (h : 0 ≤ k ∧ k < (c.cnt kind).2) : c.what (c.at kind i k) = (kind, i, k) := by
  have hcap := hc.cap
  have hts := hc.ts
  have h7 : c.f7 = 1 + c.threads * c.stride := rfl
  have hb0 := hc.b0; have hl0 := hc.limit; have ht0 := hc.t0
  have h10 : c.f10 = c.f7 + c.threads * 3 := rfl
  have h11 : c.f11 = c.f10 + 16 := rfl
  have h12 : c.f12 = c.f11 + c.blocks := rfl
  have h13 : c.f13 = c.f12 + 1 := rfl
  have h14 : c.f14 = c.f13 + c.blocks := rfl
  have h15 : c.f15 = c.f14 + 1 := rfl
  have h16 : c.f16 = c.f15 + c.limit := rfl
  have h17 : c.f17 = c.f16 + c.blocks * 8 := rfl
  unfold Cfg.at
  rw [if_pos ⟨hi.1, hi.2, h.1, h.2⟩]
  have hk10 : kind = 7 ∨ kind = 8 ∨ kind = 9 ∨ kind = 10 ∨ kind = 11 ∨ kind = 12 ∨ kind = 13 ∨ kind = 14 ∨ kind = 15 ∨ kind = 16 := by omega
  unfold Cfg.what
  rcases hk10 with rfl | rfl | rfl | rfl | rfl | rfl | rfl | rfl | rfl | rfl
  · have hi : 0 ≤ i ∧ i < c.threads := hi
    have h : 0 ≤ k ∧ k < 1 := h
    rw [show c.base 7 = c.f7 + 0 from rfl, show c.stp 7 = 3 from rfl, if_neg (by omega), if_neg (by omega), if_neg (by omega), if_pos (by omega)]
    congr 1
    · omega
    · congr 1 <;> omega
  · have hi : 0 ≤ i ∧ i < c.threads := hi
    have h : 0 ≤ k ∧ k < 1 := h
    rw [show c.base 8 = c.f7 + 1 from rfl, show c.stp 8 = 3 from rfl, if_neg (by omega), if_neg (by omega), if_neg (by omega), if_pos (by omega)]
    congr 1
    · omega
    · congr 1 <;> omega
  · have hi : 0 ≤ i ∧ i < c.threads := hi
    have h : 0 ≤ k ∧ k < 1 := h
    rw [show c.base 9 = c.f7 + 2 from rfl, show c.stp 9 = 3 from rfl, if_neg (by omega), if_neg (by omega), if_neg (by omega), if_pos (by omega)]
    congr 1
    · omega
    · congr 1 <;> omega
  · have hi : 0 ≤ i ∧ i < 16 := hi
    have h : 0 ≤ k ∧ k < 1 := h
    rw [show c.base 10 = c.f10 from rfl, show c.stp 10 = 1 from rfl, if_neg (by omega), if_neg (by omega), if_neg (by omega), if_neg (by omega), if_neg (by omega), if_neg (by omega), if_neg (by omega), if_neg (by omega), if_neg (by omega), if_neg (by omega)]
    congr 2 <;> omega
  · have hi : 0 ≤ i ∧ i < c.blocks := hi
    have h : 0 ≤ k ∧ k < 1 := h
    rw [show c.base 11 = c.f11 from rfl, show c.stp 11 = 1 from rfl, if_neg (by omega), if_neg (by omega), if_neg (by omega), if_neg (by omega), if_neg (by omega), if_neg (by omega), if_neg (by omega), if_neg (by omega), if_neg (by omega), if_pos (by omega)]
    congr 2 <;> omega
  · have hi : 0 ≤ i ∧ i < 1 := hi
    have h : 0 ≤ k ∧ k < 1 := h
    rw [show c.base 12 = c.f12 from rfl, show c.stp 12 = 1 from rfl, if_neg (by omega), if_neg (by omega), if_neg (by omega), if_neg (by omega), if_neg (by omega), if_neg (by omega), if_neg (by omega), if_neg (by omega), if_pos (by omega)]
    congr 2 <;> omega
  · have hi : 0 ≤ i ∧ i < c.blocks := hi
    have h : 0 ≤ k ∧ k < 1 := h
    rw [show c.base 13 = c.f13 from rfl, show c.stp 13 = 1 from rfl, if_neg (by omega), if_neg (by omega), if_neg (by omega), if_neg (by omega), if_neg (by omega), if_neg (by omega), if_neg (by omega), if_pos (by omega)]
    congr 2 <;> omega
  · have hi : 0 ≤ i ∧ i < 1 := hi
    have h : 0 ≤ k ∧ k < 1 := h
    rw [show c.base 14 = c.f14 from rfl, show c.stp 14 = 1 from rfl, if_neg (by omega), if_neg (by omega), if_neg (by omega), if_neg (by omega), if_neg (by omega), if_neg (by omega), if_pos (by omega)]
    congr 2 <;> omega
  · have hi : 0 ≤ i ∧ i < c.limit := hi
    have h : 0 ≤ k ∧ k < 1 := h
    rw [show c.base 15 = c.f15 from rfl, show c.stp 15 = 1 from rfl, if_neg (by omega), if_neg (by omega), if_neg (by omega), if_neg (by omega), if_neg (by omega), if_pos (by omega)]
    congr 2 <;> omega
  · have hi : 0 ≤ i ∧ i < c.blocks := hi
    have h : 0 ≤ k ∧ k < 8 := h
    rw [show c.base 16 = c.f16 from rfl, show c.stp 16 = 8 from rfl, if_neg (by omega), if_neg (by omega), if_neg (by omega), if_neg (by omega), if_pos (by omega)]
    congr 1
    congr 1 <;> omega
theorem what0 {c : Cfg} (hc : Small c) : c.what (c.at 0 0 0) = (0, 0, 0) := by
  have e : c.at 0 0 0 = 0 := by
    unfold Cfg.at
    rw [if_pos ⟨by decide, (by decide : (0 : Int) < 1), by decide, (by decide : (0 : Int) < 1)⟩]
    show (0 : Int) + 0 * _ + 0 = 0
    rw [Int.zero_mul]; rfl
  rw [e]
  have := hc.nums.f7
  have hle : c.f7 ≤ c.f17 := by
    have := hc.t0; have := hc.b0; have := hc.limit
    simp only [Cfg.f10, Cfg.f11, Cfg.f12, Cfg.f13, Cfg.f14, Cfg.f15, Cfg.f16, Cfg.f17]; omega
  unfold Cfg.what
  rw [if_neg (by omega), if_pos rfl]
/-- an odd place is where nothing stands -/
theorem at_bad {c : Cfg} {kind i k : Int} (h : ¬ (0 ≤ i ∧ i < (c.cnt kind).1 ∧ 0 ≤ k ∧ k < (c.cnt kind).2)) : c.at kind i k = -1 := by
  unfold Cfg.at; rw [if_neg h]
end Go.Proofs.YtemaaenipjinaaaGreat
