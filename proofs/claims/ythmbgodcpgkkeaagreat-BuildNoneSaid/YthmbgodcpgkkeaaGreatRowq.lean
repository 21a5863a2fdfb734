/-
  Rows: programs, calls and replies, with what is known of their numbers.
-/
import Derived.Test.YthmbgodcpgkkeaaGreatTwk
import Derived.Test.YthmbgodcpgkkeaaGreatBk
namespace Go.Proofs.YthmbgodcpgkkeaaGreat
open Go.ChangeShapes Go.WideShapes Go.ChangeAt Go.RowKit Go.Deep
/-- a program, as it lies -/
def PrB (W : World) : Type := { p : Value × List Ins // InsR (exact' W) p.1 p.2 ∧ ∀ i ∈ p.2, i.imm < 18446744073709551616 }
def PrB.f {W : World} (p : PrB W) : List Value := [p.1.1]
theorem progB_of {H : Type} {enc : TypeId × Value → H} {W : World} {fuel : Nat} {cs : List Value} {x : DataW H × List MemPlace} (h : DataW.trod enc Tryz.prog W 0 (fun _ => true) true fuel 67 cs = some x) : ∃ p : PrB W, cs = p.f := by
  obtain ⟨ad, code, cap, e0, _, _, hr⟩ := slice_cs InsB.f (fun i => Ins.v_len i.1) (by decide) Tryz.underlying67 (by kernel_rfl) (fun _ _ _ h => insB_of h) h
  have hlen : (code.map fun i => i.1).length = code.length := List.length_map ..
  refine ⟨⟨(.slice ad code.length cap, code.map fun i => i.1), ⟨ad, cap, by rw [hlen], ?_⟩, fun i hi => ?_⟩, e0⟩
  · dsimp only
    rw [hlen]
    rcases hr with hr | ⟨b, o, blk, rest, h1, h2, h3⟩
    · exact .inl hr
    · exact .inr ⟨b, o, blk, rest, h1, h2, by rw [map_f]; exact h3⟩
  · obtain ⟨y, _, rfl⟩ := List.mem_map.1 hi
    exact y.2
theorem progsB_of {W : World} {ad : Option Addr} {cap : Nat} (l : List (PrB W)) (h1 : l.length ≤ cap) (h2 : cap ≤ maxLen) (h : l.length = 0 ∨ ∃ b o blk rest, ad = some ⟨b, o, none⟩ ∧ RdC (exact' W) b blk ∧ DropN o blk (l.flatMap PrB.f ++ rest)) :
    ProgsG (exact' W) (.slice ad l.length cap) (l.map fun p => p.1.2) ∧ ∀ p ∈ (l.map fun p => p.1.2), ∀ i ∈ p, i.imm < 18446744073709551616 := by
  have hm : maxLen = 9223372036854775807 := by decide
  refine ⟨⟨ad, cap, by rw [List.length_map], by rw [List.length_map]; omega, fun i hi => ?_⟩, fun p hp => ?_⟩
  · rw [List.length_map] at hi
    rcases h with h | ⟨b, o, blk, rest, e1, e2, e3⟩
    · omega
    · have hd := e3.add ((DropN.flat (f := PrB.f) (sz := 1) (fun _ => rfl) hi).more rest)
      refine ⟨b, o, blk, l[i].1.1, e1, e2, ?_, ?_⟩
      · exact NthN.part (j := 0) hd (TakeN.succ .zero) .zero
      · rw [List.getElem_map]; exact l[i].2.1
  · obtain ⟨y, _, rfl⟩ := List.mem_map.1 hp
    exact y.2.2
end Go.Proofs.YthmbgodcpgkkeaaGreat
