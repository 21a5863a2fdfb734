/-
  Packages check, tumblerlaw22: Reads, TableTexts.
-/
import Derived.Test.YthbignifgljphaaGreatDoorTh
namespace Go.Proofs.YthbignifgljphaaGreatDoor
set_option maxRecDepth 100000
def wrB (i : Ins) : Bool := decide (i.op = 10 ∨ i.op = 13 ∨ i.op = 14 ∨ i.op = 15 ∨ i.op = 16)
def readsB (code : List Ins) : Bool := code.all (fun i => !wrB i) && rightB code
theorem drop_cons' {α : Type} {l : List α} {k : Nat} (h : k < l.length) : l.drop k = l[k] :: l.drop (k + 1) := by simp
set_option maxHeartbeats 1000000 in
theorem reads_r (q : HProp) (cv : Value) (code : List Ins) (hcv : ListR Ins.v q cv code) (hl : code.length ≤ 256) : RTri Tryz.prog 23 #[cv] [q] (.bool (readsB code)) := by
  refine RTri.of_reads fun p hp => ?_
  have hpr : ∀ b l, RdC q b l → RdC p b l := fun b l h => RdC.of_sat hp (ReadsC.here h)
  have hcv := hcv.weak hpr
  have hins : InsR p cv code := by
    obtain ⟨ad, cap, h1, _, h2⟩ := hcv
    exact ⟨ad, cap, h1, h2⟩
  have hri := right_rr p cv code hins
  obtain ⟨ad, cap, rfl, _, hr⟩ := hcv
  refine Tri.of_body (vs := [_]) Tryz.func23 rfl rfl fun w0 F => ?_
  repeat' (first | refine Ga ?_ | (refine Gb ?_; intro b) | (refine Gd ?_; intro g cap rest hcap) | (refine Gc ?_; intro ad cap)  | (refine Ge ?_ ?_ <;> (intro h; try (exfalso; omega))) | fail)
  refine St.loopY (Lr := ?Lr1) (ι := { x : Nat // x ≤ code.length ∧ readsB code = ((code.drop x).all (fun i => !wrB i) && rightB code) }) (fun x => code.length - x.1) (fun x => [(7, .int .i64 (x.1 : Int))]) (fun _ => []) ⟨0, Nat.zero_le _, rfl⟩ ?hE1 ?hL1 ?round1
  case hE1 => exact Sub.go
  case hL1 => exact Takes.go
  case round1 =>
    rintro ⟨k, hk, ha⟩ IH; dsimp only at hk ha IH ⊢
    by_cases hlt : k < code.length
    · obtain ⟨bf, o, l, l1, rfl, hrd, hdr, htk⟩ := ListR.at (f := Ins.v) (sz := 5) Ins.v_len hr k hlt
      rw [drop_cons' hlt, List.all_cons] at ha
      generalize code[k] = i at htk ha
      unfold Ins.v at htk
      cases hw : wrB i with
      | true =>
        rw [hw] at ha
        have hw := of_decide_eq_true hw
        rw [ha]
        clear IH
        repeat' (first | refine Ga ?_ | (refine Gb ?_; intro b) | (refine Gd ?_; intro g cap rest hcap) | (refine Gc ?_; intro ad cap)  | (refine Ge ?_ ?_ <;> (intro h; try (exfalso; omega))) | fail)
        all_goals first | (exfalso; omega) | skip
        all_goals refine St.d1 Tryz.func23 ⟨_, ⟨rfl, rfl⟩, Ent.go⟩
      | false =>
        rw [hw] at ha
        have hw := of_decide_eq_false hw
        repeat' (first | refine Ga ?_ | (refine Gb ?_; intro b) | (refine Gd ?_; intro g cap rest hcap) | (refine Gc ?_; intro ad cap)  | (refine Ge ?_ ?_ <;> (intro h; try (exfalso; omega))) | fail)
        all_goals first | (exfalso; omega) | skip
        refine IH ⟨k + 1, hlt, by rw [ha]; rfl⟩ (by show code.length - (k + 1) < code.length - k; omega) ?_ ?_
        · exact Sub.go
        · exact Ent.go
    · obtain rfl : k = code.length := by omega
      rw [List.drop_length] at ha
      rw [ha]
      clear IH
      repeat' (first | refine Ga ?_ | (refine Gb ?_; intro b) | (refine Gd ?_; intro g cap rest hcap) | (refine Gc ?_; intro ad cap) | refine Gl hri ?_ | (refine Ge ?_ ?_ <;> (intro h; try (exfalso; omega))) | fail)
      refine St.d1 Tryz.func23 ⟨_, ⟨rfl, rfl⟩, Ent.go⟩
def isK (s : List UInt8) (k : Nat) : Bool := decide (nmOf s < k)
theorem isK_step (s : List UInt8) (k : Nat) (h : k < 6) : isK s (k + 1) = (isK s k || (nmB k == s)) := by
  have e : (nmB k == s) = decide (nmOf s = k) := by
    rw [eqL]
    congr 1
    refine propext ⟨fun e => by subst e; exact nmOf_nmB k h, fun e => ?_⟩
    unfold nmOf at e
    repeat' split at e
    all_goals first | (subst e; simp_all; done) | omega
  rw [e]
  unfold isK
  rw [← Bool.decide_or]
  congr 1
  exact propext ⟨fun h => by omega, fun h => by omega⟩
set_option maxHeartbeats 2000000 in
theorem qtexts_t (q : HProp) (s : ByteArray) : Tri Tryz.prog 5 #[.string s] [q] fun v L => v = .bool true ∧ L = [q] := by
  have hn := names_t
  refine Tri.of_body (vs := [_]) Tryz.func5 rfl rfl fun w0 F => ?_
  repeat' (first | refine Ga ?_ | (refine Gb ?_; intro b) | (refine Gd ?_; intro g cap rest hcap) | (refine Gc ?_; intro ad cap)  | (refine Gt alive_t ?_; rintro _ _ ⟨rfl, rfl⟩) | (refine Gt hn ?_; rintro _ _ ⟨nb, rfl, rfl⟩) | (refine Ge ?_ ?_ <;> (intro h; try (exfalso; omega))) | fail)
  refine St.loopY (Lr := ?Lr1) (ι := { x : Nat // x ≤ 6 }) (fun x => 6 - x.1) (fun x => [(18, .int .i64 (x.1 : Int)), (3, .bool (isK s.data.toList x.1))]) (fun _ => []) ⟨0, by decide⟩ ?hE1 ?hL1 ?round1
  case hE1 => rw [show isK s.data.toList 0 = false from decide_eq_false (by omega)]; exact Sub.go
  case hL1 => exact Takes.go
  case round1 =>
    rintro ⟨k, hk⟩ IH; dsimp only at hk IH ⊢
    by_cases hlt : k < 6
    · have hst := isK_step s.data.toList k hlt
      have hnx : NthN ((k : Int).toNat * 1) [bs (nmB 0), bs (nmB 1), bs (nmB 2), bs (nmB 3), bs (nmB 4), bs (nmB 5)] (bs (nmB k)) := by
        rcases (by omega : k = 0 ∨ k = 1 ∨ k = 2 ∨ k = 3 ∨ k = 4 ∨ k = 5) with rfl | rfl | rfl | rfl | rfl | rfl <;> exact NthN.of rfl
      have hpr := qprog_t ⟨⟨nmB k⟩⟩
      have htx := qtext_r ⟨⟨nmB k⟩⟩
      rw [show nmOf (⟨⟨nmB k⟩⟩ : ByteArray).data.toList = k from nmOf_nmB k hlt, show decide (k < 6) = true from decide_eq_true hlt] at hpr htx
      obtain ⟨_, hc2, hc3, _⟩ := qcd_ok k hlt
      have hrb : readsB (qcd k) = (nmB k == nmB 2 || nmB k == nmB 4) := by
        rcases (by omega : k = 0 ∨ k = 1 ∨ k = 2 ∨ k = 3 ∨ k = 4 ∨ k = 5) with rfl | rfl | rfl | rfl | rfl | rfl <;> kernel_rfl
      generalize isK s.data.toList k = b0 at hst IH ⊢
      generalize qcd k = code at *
      repeat' (first | refine St.halt 9 ?_ |refine Ga ?_ | (refine Gb ?_; intro b) | (refine Gd ?_; intro g cap rest hcap) | (refine Gc ?_; intro ad cap) | refine Gl htx ?_ | (refine Gt hpr ?_; rintro _ _ ⟨cad, ccap, rfl, rfl⟩) | (refine Ge ?_ ?_ <;> (intro h; try (exfalso; omega))) | fail)
      apply Halt.go
      refine St.conv ?_ (Sub.refl _) (Ent.of_take (p := Row (.slice cad code.length ccap) 95 5 code.length (code.flatMap Ins.v)) Take.go)
      refine St.rowL rfl (fun R hR => ?_)
      have hrd := reads_r R _ code hR hc3
      have hri := right_rr R _ code (by obtain ⟨ad, cap, h1, _, h2⟩ := hR; exact ⟨ad, cap, h1, h2⟩)
      rw [hc2] at hri
      rw [hrb] at hrd
      have h34 : nmB 2 ≠ nmB 4 := by decide
      by_cases h3 : nmB k = nmB 2
      · rw [show (nmB k == nmB 2 || nmB k == nmB 4) = true by rw [h3]; rfl] at hrd
        have h4x : true = true := rfl
        cases b0 with
        | true =>
          repeat' (first | refine Ga ?_ | (refine Gb ?_; intro b) | (refine Gd ?_; intro g cap rest hcap) | (refine Gc ?_; intro ad cap) | refine Gl hrd ?_ | refine Gl hri ?_ | (refine Ge ?_ ?_ <;> (intro h; try (exfalso; omega))) | fail)
          all_goals first | exact absurd h3 (by assumption) | exact absurd (by assumption) h3 | exact absurd h4x (by assumption) | skip
          refine IH ⟨k + 1, hlt⟩ (by show 6 - (k + 1) < 6 - k; omega) ?_ ?_
          · dsimp only; rw [hst]; exact Sub.go
          · exact Ent.go
        | false =>
          repeat' (first | refine Ga ?_ | (refine Gb ?_; intro b) | (refine Gd ?_; intro g cap rest hcap) | (refine Gc ?_; intro ad cap) | refine Gl hrd ?_ | refine Gl hri ?_ | (refine Ge ?_ ?_ <;> (intro h; try (exfalso; omega))) | fail)
          all_goals first | exact absurd h3 (by assumption) | exact absurd (by assumption) h3 | exact absurd h4x (by assumption) | skip
          refine IH ⟨k + 1, hlt⟩ (by show 6 - (k + 1) < 6 - k; omega) ?_ ?_
          · dsimp only; rw [hst]; exact Sub.go
          · exact Ent.go
      · by_cases h4 : nmB k = nmB 4
        · rw [show (nmB k == nmB 2 || nmB k == nmB 4) = true by rw [h4]; rfl] at hrd
          have h4x : true = (nmB k == nmB 4) := by rw [h4]; rfl
          cases b0 with
          | true =>
            repeat' (first | refine Ga ?_ | (refine Gb ?_; intro b) | (refine Gd ?_; intro g cap rest hcap) | (refine Gc ?_; intro ad cap) | refine Gl hrd ?_ | refine Gl hri ?_ | (refine Ge ?_ ?_ <;> (intro h; try (exfalso; omega))) | fail)
            all_goals first | exact absurd h3 (by assumption) | exact absurd (by assumption) h3 | exact absurd h4x (by assumption) | skip
            refine IH ⟨k + 1, hlt⟩ (by show 6 - (k + 1) < 6 - k; omega) ?_ ?_
            · dsimp only; rw [hst]; exact Sub.go
            · exact Ent.go
          | false =>
            repeat' (first | refine Ga ?_ | (refine Gb ?_; intro b) | (refine Gd ?_; intro g cap rest hcap) | (refine Gc ?_; intro ad cap) | refine Gl hrd ?_ | refine Gl hri ?_ | (refine Ge ?_ ?_ <;> (intro h; try (exfalso; omega))) | fail)
            all_goals first | exact absurd h3 (by assumption) | exact absurd (by assumption) h3 | exact absurd h4x (by assumption) | skip
            refine IH ⟨k + 1, hlt⟩ (by show 6 - (k + 1) < 6 - k; omega) ?_ ?_
            · dsimp only; rw [hst]; exact Sub.go
            · exact Ent.go
        · rw [show (nmB k == nmB 2 || nmB k == nmB 4) = false by rw [beq_false_of_ne h3, beq_false_of_ne h4]; rfl] at hrd
          have h4x : false = (nmB k == nmB 4) := (beq_false_of_ne h4).symm
          cases b0 with
          | true =>
            repeat' (first | refine Ga ?_ | (refine Gb ?_; intro b) | (refine Gd ?_; intro g cap rest hcap) | (refine Gc ?_; intro ad cap) | refine Gl hrd ?_ | refine Gl hri ?_ | (refine Ge ?_ ?_ <;> (intro h; try (exfalso; omega))) | fail)
            all_goals first | exact absurd h3 (by assumption) | exact absurd (by assumption) h3 | exact absurd h4x (by assumption) | skip
            refine IH ⟨k + 1, hlt⟩ (by show 6 - (k + 1) < 6 - k; omega) ?_ ?_
            · dsimp only; rw [hst]; exact Sub.go
            · exact Ent.go
          | false =>
            repeat' (first | refine Ga ?_ | (refine Gb ?_; intro b) | (refine Gd ?_; intro g cap rest hcap) | (refine Gc ?_; intro ad cap) | refine Gl hrd ?_ | refine Gl hri ?_ | (refine Ge ?_ ?_ <;> (intro h; try (exfalso; omega))) | fail)
            all_goals first | exact absurd h3 (by assumption) | exact absurd (by assumption) h3 | exact absurd h4x (by assumption) | skip
            refine IH ⟨k + 1, hlt⟩ (by show 6 - (k + 1) < 6 - k; omega) ?_ ?_
            · dsimp only; rw [hst]; exact Sub.go
            · exact Ent.go
    · obtain rfl : k = 6 := by omega
      clear IH
      have hpr := qprog_t s
      have htx := qtext_r s
      have hle := nmOf_le s.data.toList
      have hi6 : isK s.data.toList 6 = decide (nmOf s.data.toList < 6) := rfl
      rw [hi6]
      generalize nmOf s.data.toList = j at *
      by_cases hj : j < 6
      · rw [show decide (j < 6) = true from decide_eq_true hj] at *
        repeat' (first | refine Ga ?_ | (refine Gb ?_; intro b) | (refine Gd ?_; intro g cap rest hcap) | (refine Gc ?_; intro ad cap) | refine Gl htx ?_ | (refine Gt hpr ?_; rintro _ _ ⟨cad, ccap, rfl, rfl⟩) | (refine Ge ?_ ?_ <;> (intro h; try (exfalso; omega))) | fail)
        all_goals first | (exfalso; omega) | skip
        refine St.d1 Tryz.func5 ⟨_, ⟨rfl, rfl⟩, Ent.go⟩
      · obtain rfl : j = 6 := by omega
        rw [show decide (6 < 6) = false from rfl] at *
        repeat' (first | refine Ga ?_ | (refine Gb ?_; intro b) | (refine Gd ?_; intro g cap rest hcap) | (refine Gc ?_; intro ad cap) | refine Gl htx ?_ | (refine Gt hpr ?_; rintro _ _ ⟨cad, ccap, rfl, rfl⟩) | (refine Ge ?_ ?_ <;> (intro h; try (exfalso; omega))) | fail)
        all_goals first | (exfalso; omega) | skip
        refine St.d1 Tryz.func5 ⟨_, ⟨rfl, rfl⟩, Ent.go⟩
end Go.Proofs.YthbignifgljphaaGreatDoor
