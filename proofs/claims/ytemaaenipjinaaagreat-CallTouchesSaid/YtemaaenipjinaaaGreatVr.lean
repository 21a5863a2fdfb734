/-
  Package check: Reads.
-/
import Derived.Test.YtemaaenipjinaaaGreatJc
namespace Go.Proofs.YtemaaenipjinaaaGreat
set_option maxRecDepth 100000
def wrB (i : Ins) : Bool := decide (i.op = 10 ∨ i.op = 13 ∨ i.op = 14 ∨ i.op = 15 ∨ i.op = 16)
def onlyB (code : List Ins) : Bool := code.all (fun i => !wrB i) && rightB code
theorem drop_cons' {α : Type} {l : List α} {k : Nat} (h : k < l.length) : l.drop k = l[k] :: l.drop (k + 1) := by simp
set_option maxHeartbeats 1000000 in
theorem reads_r (q : HProp) (cv : Value) (code : List Ins) (hcv : InsR q cv code) (hl : code.length ≤ 9223372036854775807) : RTri Tryz.prog 36 #[cv] [q] (.bool (onlyB code)) := by
  refine RTri.of_reads fun p hp => ?_
  have hins : InsR p cv code := by
    obtain ⟨ad, cap, h1, h2 | ⟨b, o, l, rest, h3, h4, h5⟩⟩ := hcv
    · exact ⟨ad, cap, h1, .inl h2⟩
    · exact ⟨ad, cap, h1, .inr ⟨b, o, l, rest, h3, RdC.of_sat hp (ReadsC.here h4), h5⟩⟩
  have hri := right_rr p cv code hins
  obtain ⟨ad, cap, rfl, hr⟩ := hins
  refine Tri.of_body (vs := [_]) Tryz.func36 rfl rfl fun w0 F => ?_
  repeat' (first | refine Ga ?_ | (refine Gb ?_; intro b) | (refine Gd ?_; intro g cap rest hcap) | (refine Gc ?_; intro ad cap)  | (refine Ge ?_ ?_ <;> (intro h; try (exfalso; omega))) | fail)
  refine St.loopY (Lr := ?Lr1) (ι := { x : Nat // x ≤ code.length ∧ onlyB code = ((code.drop x).all (fun i => !wrB i) && rightB code) }) (fun x => code.length - x.1) (fun x => [(7, .int .i64 (x.1 : Int))]) (fun _ => []) ⟨0, Nat.zero_le _, rfl⟩ ?hE1 ?hL1 ?round1
  case hE1 => exact Sub.go
  case hL1 => exact Takes.go
  case round1 =>
    rintro ⟨k, hk, ha⟩ IH; dsimp only at hk ha IH ⊢
    by_cases hlt : k < code.length
    · obtain ⟨bf, o, l, l1, rfl, hrd, hdr, htk⟩ := InsR.at hr k hlt
      rw [drop_cons' hlt, List.all_cons] at ha
      generalize code[k] = i at htk ha
      unfold Ins.v at htk
      cases hw : wrB i with
      | true =>
        rw [hw] at ha
        have hw := of_decide_eq_true hw
        rw [ha]
        clear IH
        repeat' (first | refine Ga ?_ | (refine Gb ?_; intro b) | (refine Gd ?_; intro g cap rest hcap) | (refine Gc ?_; intro ad cap)  | (refine Ge ?_ ?_ <;> (intro h; try (exfalso; omega))) | fail)
        all_goals first | (exfalso; omega) | skip
        all_goals refine St.d1 Tryz.func36 ⟨_, ⟨rfl, rfl⟩, Ent.go⟩
      | false =>
        rw [hw] at ha
        have hw := of_decide_eq_false hw
        repeat' (first | refine Ga ?_ | (refine Gb ?_; intro b) | (refine Gd ?_; intro g cap rest hcap) | (refine Gc ?_; intro ad cap)  | (refine Ge ?_ ?_ <;> (intro h; try (exfalso; omega))) | fail)
        all_goals first | (exfalso; omega) | skip
        refine IH ⟨k + 1, hlt, by rw [ha]; rfl⟩ (by show code.length - (k + 1) < code.length - k; omega) ?_ ?_
        · exact Sub.go
        · exact Ent.go
    · obtain rfl : k = code.length := by omega
      rw [List.drop_length] at ha
      rw [ha]
      clear IH
      repeat' (first | refine Ga ?_ | (refine Gb ?_; intro b) | (refine Gd ?_; intro g cap rest hcap) | (refine Gc ?_; intro ad cap) | refine Gl hri ?_ | (refine Ge ?_ ?_ <;> (intro h; try (exfalso; omega))) | fail)
      refine St.d1 Tryz.func36 ⟨_, ⟨rfl, rfl⟩, Ent.go⟩
end Go.Proofs.YtemaaenipjinaaaGreat
