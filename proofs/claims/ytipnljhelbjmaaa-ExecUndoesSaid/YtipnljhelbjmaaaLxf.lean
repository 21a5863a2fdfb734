/-
  A pool that was told replies, and settled, in plain terms: its numbers are small.
-/
import Derived.Test.YtipnljhelbjmaaaLxe
namespace Go.Proofs.Ytipnljhelbjmaaa
structure PoOk (n : Nat) (p : Po) : Prop where
  next : 0 ≤ p.next ∧ p.next ≤ n
  names : p.names.length ≤ n
  limbo : p.limbo.length ≤ n
  wt : 0 ≤ p.wt ∧ p.wt ≤ 64
  wl : 0 ≤ p.wl ∧ p.wl ≤ 520
  nt : 0 ≤ p.nt ∧ p.nt ≤ 64
  nl : 0 ≤ p.nl ∧ p.nl ≤ 520
theorem PoOk.new (seq : Nat) : PoOk 0 (Po.new seq) := by constructor <;> simp [Po.new]
theorem PoOk.fin {c : Cfg} {n : Nat} {p : Po} (h : PoOk n p) : PoOk n (p.fin c) := by
  unfold Po.fin; split
  · exact ⟨h.next, h.names, h.limbo, h.wt, h.wl, h.wt, h.wl⟩
  · exact h
theorem minI_le {a b : Int} {n : Int} (ha : 0 ≤ a) (hb : 0 ≤ b) (hn : b ≤ n) : 0 ≤ minI a b ∧ minI a b ≤ n := by
  unfold minI; split <;> omega
theorem PoOk.tell {c : Cfg} (hc : Small c) {n : Nat} {p : Po} (h : PoOk n p) (o : Out) : PoOk (n + 1) (p.tell c o) := by
  have h1 := h.next; have h2 := h.names; have h3 := h.limbo; have h4 := hc.limit; have h5 := hc.b0; have h6 := hc.b1
  unfold Po.tell
  split
  · exact ⟨⟨h1.1, by omega⟩, by omega, by omega, h.wt, h.wl, h.nt, h.nl⟩
  split
  · exact PoOk.fin ⟨⟨by dsimp only; omega, by dsimp only; omega⟩, by simp; omega, by dsimp only; omega, h.wt, h.wl, h.nt, h.nl⟩
  split
  · exact ⟨⟨h1.1, by dsimp only; omega⟩, by dsimp only; omega, by dsimp only; omega, h.wt, h.wl, h.nt, h.nl⟩
  split
  · exact PoOk.fin ⟨⟨by dsimp only; omega, by dsimp only; omega⟩, by dsimp only; omega, by dsimp only; omega, minI_le (by omega) (by omega) (by omega), h.wl, h.nt, h.nl⟩
  split
  · exact PoOk.fin ⟨⟨by dsimp only; omega, by dsimp only; omega⟩, by dsimp only; omega, by dsimp only; omega, h.wt, minI_le (by omega) (by omega) (by omega), h.nt, h.nl⟩
  · exact PoOk.fin ⟨⟨by dsimp only; omega, by dsimp only; omega⟩, by dsimp only; omega, by simp; omega, h.wt, h.wl, h.nt, h.nl⟩
theorem setStep_nt' {c : Cfg} (hc : Small c) (room : Nat) (names : List Nat) (k bk : Nat) (s : SetS) (h : 0 ≤ s.nt ∧ s.nt ≤ 64) : 0 ≤ (setStep c room names k bk s).nt ∧ (setStep c room names k bk s).nt ≤ 64 := by
  have := hc.b1
  unfold setStep
  split
  · exact h
  · split
    · unfold relP
      split <;> (dsimp only; omega)
    · exact h
theorem setGo_ok {c : Cfg} (hc : Small c) (room : Nat) (names : List Nat) : ∀ (l : List Nat) (k : Nat) (s : SetS), 0 ≤ s.nt ∧ s.nt ≤ 64 →
    (0 ≤ (setGo c room names k l s).nt ∧ (setGo c room names k l s).nt ≤ 64) ∧ (setGo c room names k l s).kept ≤ s.kept + l.length ∧ (setGo c room names k l s).puts.length ≤ s.puts.length + 2 * l.length
  | [], k, s, h => ⟨h, Nat.le_refl _, Nat.le_refl _⟩
  | bk :: l, k, s, h => by
    have h1 := setGo_ok hc room names l (k + 1) (setStep c room names k bk s) (setStep_nt' hc room names k bk s h)
    have h2 := setStep_len c room names k bk s
    rw [setGo, List.length_cons]
    exact ⟨h1.1, by omega, by omega⟩
theorem Start.settled {c : Cfg} (hc : Small c) (hf : c.fuel ≤ 1000) {n : Nat} (hn : n ≤ 60) {p : Po} (h : PoOk n p) {P0 : List (Int × Nat)} (hl : P0.length ≤ (setGo c 200 p.names 0 p.limbo ⟨0, p.nt, []⟩).puts.length + 20) :
    Start c P0 (p.settled c 200 []).nt (p.settled c 200 []).nl := by
  have h1 := setGo_ok hc 200 p.names p.limbo 0 ⟨0, p.nt, []⟩ h.nt
  have h2 := h.limbo
  dsimp only [List.length_nil] at h1
  exact ⟨hc, hf, by omega, ⟨h1.1.1, by show (setGo _ _ _ _ _ _).nt ≤ 1000; omega⟩, ⟨by show (0 : Int) ≤ ((setGo _ _ _ _ _ _).kept : Int); omega, by show ((setGo _ _ _ _ _ _).kept : Int) ≤ 1000; omega⟩⟩
end Go.Proofs.Ytipnljhelbjmaaa
