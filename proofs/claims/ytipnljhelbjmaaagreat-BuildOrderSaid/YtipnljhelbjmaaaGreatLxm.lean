/-
  A pool that is settled: its numbers.
-/
import Derived.Test.YtipnljhelbjmaaaGreatExl
namespace Go.Proofs.YtipnljhelbjmaaaGreat
theorem minI_le {a b : Int} {n : Int} (ha : 0 ≤ a) (hb : 0 ≤ b) (hn : b ≤ n) : 0 ≤ minI a b ∧ minI a b ≤ n := by
  unfold minI; split <;> omega
theorem setStep_nt' {c : Cfg} (hc : Small c) (room : Nat) (names : List Nat) (k bk : Nat) (s : SetS) (h : 0 ≤ s.nt ∧ s.nt ≤ 64) : 0 ≤ (setStep c room names k bk s).nt ∧ (setStep c room names k bk s).nt ≤ 64 := by
  have := hc.b1
  unfold setStep
  split
  · exact h
  · split
    · unfold relP
      split <;> (dsimp only; omega)
    · exact h
theorem setGo_ok {c : Cfg} (hc : Small c) (room : Nat) (names : List Nat) : ∀ (l : List Nat) (k : Nat) (s : SetS), 0 ≤ s.nt ∧ s.nt ≤ 64 →
    (0 ≤ (setGo c room names k l s).nt ∧ (setGo c room names k l s).nt ≤ 64) ∧ (setGo c room names k l s).kept ≤ s.kept + l.length ∧ (setGo c room names k l s).puts.length ≤ s.puts.length + 2 * l.length
  | [], k, s, h => ⟨h, Nat.le_refl _, Nat.le_refl _⟩
  | bk :: l, k, s, h => by
    have h1 := setGo_ok hc room names l (k + 1) (setStep c room names k bk s) (setStep_nt' hc room names k bk s h)
    have h2 := setStep_len c room names k bk s
    rw [setGo, List.length_cons]
    exact ⟨h1.1, by omega, by omega⟩
end Go.Proofs.YtipnljhelbjmaaaGreat
