/-
  Rows: programs, calls and replies as they lie in a law's arguments.
-/
import Derived.Test.YtemaaenipjinaaaGreatRowg
import Derived.Test.YtemaaenipjinaaaGreatBk
namespace Go.Proofs.YtemaaenipjinaaaGreat
open Go.ChangeShapes Go.WideShapes Go.ChangeAt Go.RowKit Go.Deep
section
variable {H : Type} {enc : TypeId × Value → H} {w : World} {base fuel : Nat} {spare : Nat → Bool} {held : Bool} {cs : List Value} {x : DataW H × List MemPlace}
theorem ins_of (h : DataW.trod enc Tryz.prog w base spare held fuel 140 cs = some x) : ∃ i : Ins, cs = i.v := by
  obtain ⟨hl, hf⟩ := trod_fld Tryz.underlying140 h 5 (by kernel_rfl)
  obtain ⟨_, _, h0⟩ := hf 0 _ 0 1 rfl rfl (by kernel_rfl)
  obtain ⟨_, _, h1⟩ := hf 1 _ 1 1 rfl rfl (by kernel_rfl)
  obtain ⟨_, _, h2⟩ := hf 2 _ 2 1 rfl rfl (by kernel_rfl)
  obtain ⟨_, _, h3⟩ := hf 3 _ 3 1 rfl rfl (by kernel_rfl)
  obtain ⟨_, _, h4⟩ := hf 4 _ 4 1 rfl rfl (by kernel_rfl)
  obtain ⟨a0, e0, _, _⟩ := DataW.trod_int Tryz.underlying3 h0
  obtain ⟨a1, e1, _, _⟩ := DataW.trod_int Tryz.underlying3 h1
  obtain ⟨a2, e2, _, _⟩ := DataW.trod_int Tryz.underlying3 h2
  obtain ⟨a3, e3, _, _⟩ := DataW.trod_int Tryz.underlying3 h3
  obtain ⟨a4, e4, _, w4⟩ := DataW.trod_int Tryz.underlying22 h4
  have := wf_u64 w4
  match cs, hl with
  | [c0, c1, c2, c3, c4], _ =>
    injection e0 with e0 _; injection e1 with e1 _; injection e2 with e2 _; injection e3 with e3 _; injection e4 with e4 _
    subst e0; subst e1; subst e2; subst e3; subst e4
    refine ⟨⟨a0, a1, a2, a3, a4.toNat⟩, ?_⟩
    unfold Ins.v
    dsimp only
    rw [Int.toNat_of_nonneg (by omega)]
theorem four_of (h : DataW.trod enc Tryz.prog w base spare held fuel 26 cs = some x) : ∃ l : List Nat, l.length = 4 ∧ cs = g4 l := by
  obtain ⟨xs, m, _, _, hl, hx, hf⟩ := DataW.trod_array Tryz.underlying26 h
  rw [show Tryz.prog.cellsOf 26 = 4 by kernel_rfl] at hl
  rw [show Tryz.prog.cellsOf 22 = 1 by kernel_rfl] at hf
  have hi : ∀ i, i < 4 → ∃ a : Nat, (cs.drop (i * 1)).take 1 = [.int .u64 (a : Int)] := fun i hi => by
    have h1 := hf i hi
    rw [List.getElem?_eq_getElem (by omega)] at h1
    obtain ⟨a, e, _, wa⟩ := DataW.trod_int Tryz.underlying22 h1
    have := wf_u64 wa
    exact ⟨a.toNat, by rw [e, Int.toNat_of_nonneg (by omega)]⟩
  obtain ⟨a0, e0⟩ := hi 0 (by decide)
  obtain ⟨a1, e1⟩ := hi 1 (by decide)
  obtain ⟨a2, e2⟩ := hi 2 (by decide)
  obtain ⟨a3, e3⟩ := hi 3 (by decide)
  match cs, hl with
  | [c0, c1, c2, c3], _ =>
    injection e0 with e0 _; injection e1 with e1 _; injection e2 with e2 _; injection e3 with e3 _
    subst e0; subst e1; subst e2; subst e3
    exact ⟨[a0, a1, a2, a3], rfl, rfl⟩
theorem call_of (h : DataW.trod enc Tryz.prog w base spare held fuel 28 cs = some x) : ∃ (jp : Int) (l : List Nat), l.length = 4 ∧ cs = .int .i64 jp :: g4 l := by
  obtain ⟨hl, hf⟩ := trod_fld Tryz.underlying28 h 5 (by kernel_rfl)
  obtain ⟨_, _, h0⟩ := hf 0 _ 0 1 rfl rfl (by kernel_rfl)
  obtain ⟨_, _, h1⟩ := hf 1 _ 1 4 rfl rfl (by kernel_rfl)
  obtain ⟨a, ea, _, _⟩ := DataW.trod_int Tryz.underlying3 h0
  obtain ⟨l, hl4, e1⟩ := four_of h1
  refine ⟨a, l, hl4, ?_⟩
  match cs, hl with
  | [c0, c1, c2, c3, c4], _ =>
    injection ea with ea _
    subst ea
    rw [← e1]; rfl
end
/-- a program, as it lies -/
def PrR (W : World) : Type := { p : Value × List Ins // InsR (exact' W) p.1 p.2 }
def PrR.f {W : World} (p : PrR W) : List Value := [p.1.1]
theorem prog_of {H : Type} {enc : TypeId × Value → H} {W : World} {fuel : Nat} {cs : List Value} {x : DataW H × List MemPlace} (h : DataW.trod enc Tryz.prog W 0 (fun _ => true) true fuel 78 cs = some x) : ∃ p : PrR W, cs = p.f := by
  obtain ⟨ad, code, cap, e0, _, _, hr⟩ := slice_cs Ins.v Ins.v_len (by decide) Tryz.underlying78 (by kernel_rfl) (fun _ _ _ h => ins_of h) h
  exact ⟨⟨(.slice ad code.length cap, code), ad, cap, rfl, hr⟩, e0⟩
theorem progs_of {W : World} {ad : Option Addr} {cap : Nat} (l : List (PrR W)) (h1 : l.length ≤ cap) (h2 : cap ≤ maxLen) (h : l.length = 0 ∨ ∃ b o blk rest, ad = some ⟨b, o, none⟩ ∧ RdC (exact' W) b blk ∧ DropN o blk (l.flatMap PrR.f ++ rest)) :
    ProgsG (exact' W) (.slice ad l.length cap) (l.map fun p => p.1.2) := by
  have hm : maxLen = 9223372036854775807 := by decide
  refine ⟨ad, cap, by rw [List.length_map], by rw [List.length_map]; omega, fun i hi => ?_⟩
  rw [List.length_map] at hi
  rcases h with h | ⟨b, o, blk, rest, e1, e2, e3⟩
  · omega
  · have hd := e3.add ((DropN.flat (f := PrR.f) (sz := 1) (fun _ => rfl) hi).more rest)
    refine ⟨b, o, blk, l[i].1.1, e1, e2, ?_, ?_⟩
    · exact NthN.part (j := 0) hd (TakeN.succ .zero) .zero
    · rw [List.getElem_map]; exact l[i].2
end Go.Proofs.YtemaaenipjinaaaGreat
