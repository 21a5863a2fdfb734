/-
  Rows of a schedule, as they are sorted: stable, SortStableFunc.
-/
import Derived.Test.YtemaaenipjinaaaGreatSb
namespace Go.Proofs.YtemaaenipjinaaaGreat
set_option maxRecDepth 100000
set_option maxHeartbeats 4000000 in
theorem sta_t (g n cap : Nat) (rest : List Value) (hn : n ≤ 100000) (l : List SRowH) (hl : l.length = n) :
    Tri Tryz.prog 149 #[.slice (some ⟨g, 0, none⟩) n cap, .int .i64 (n : Int), cmpF] [bl g 120 (l.flatMap srV ++ rest)] fun r L => r = .tuple ⟨[]⟩ ∧ L = [bl g 120 ((sortS l).flatMap srV ++ rest)] := by
  unfold sortS
  rw [hl]
  generalize hB : blkGo n n 0 l = B
  have hBl : B.length = n := by rw [← hB, blkGo_len]; exact hl
  generalize hR : staGo n n 20 B = R
  refine Tri.of_body (vs := [_, _, _]) Tryz.func149 rfl rfl fun w0 F => ?_
  repeat' (first | refine Ga ?_ | (refine Gb ?_; intro b) | (refine Gd ?_; intro g cap rest hcap) | (refine Gc ?_; intro ad cap)  | (refine Ge ?_ ?_ <;> (intro h; try (exfalso; omega))) | fail)
  refine St.loopY (Lr := ?Lr1) (ι := { x : Nat × Nat × List SRowH // x.1 ≤ n ∧ n - x.1 ≤ x.2.1 ∧ x.2.2.length = n ∧ blkGo n x.2.1 x.1 x.2.2 = B }) (fun x => n - x.1.1) (fun x => [(7, .int .i64 (x.1.1 : Int)), (8, .int .i64 ((x.1.1 : Int) + 20))]) (fun x => [bl g 120 (x.1.2.2.flatMap srV ++ rest)]) ⟨(0, n, l), Nat.zero_le _, by dsimp only; omega, hl, hB⟩ ?hE1 ?hL1 ?round1
  case hE1 => exact Sub.go
  case hL1 => exact Takes.go
  case round1 =>
    rintro ⟨⟨a, f, lk⟩, ha, hf, hlk, hgo⟩ IH; dsimp only at ha hf hlk hgo IH ⊢
    by_cases hlt : a + 20 ≤ n
    · obtain ⟨f', rfl⟩ : ∃ f', f = f' + 1 := ⟨f - 1, by omega⟩
      rw [blkGo, if_pos hlt] at hgo
      have hin := insS_t g n cap rest lk hlk hn a (a + 20) hlt (by omega)
      rw [show ((a + 20 : Nat) : Int) = (a : Int) + 20 by omega] at hin
      have hln := insS_len a (a + 20) lk
      generalize insS a (a + 20) lk = l2 at hgo hin hln
      repeat' (first | refine Ga ?_ | (refine Gb ?_; intro b) | (refine Gd ?_; intro g cap rest hcap) | (refine Gc ?_; intro ad cap)  | (refine Gt hin ?_; rintro _ _ ⟨rfl, rfl⟩) | (refine Ge ?_ ?_ <;> (intro h; try (exfalso; omega))) | fail)
      all_goals first | (exfalso; omega) | skip
      refine IH ⟨(a + 20, f', l2), hlt, by dsimp only; omega, by dsimp only; omega, hgo⟩ (by dsimp only; omega) ?_ ?_
      · exact Sub.go
      · exact Ent.go
    · have hgo : insS a n lk = B := by
        cases f with
        | zero => exact hgo
        | succ f => rw [blkGo, if_neg hlt] at hgo; exact hgo
      have hin := insS_t g n cap rest lk hlk hn a n (Nat.le_refl _) (by omega)
      rw [hgo] at hin
      clear IH
      repeat' (first | refine Ga ?_ | (refine Gb ?_; intro b) | (refine Gd ?_; intro g cap rest hcap) | (refine Gc ?_; intro ad cap)  | (refine Gt hin ?_; rintro _ _ ⟨rfl, rfl⟩) | (refine Ge ?_ ?_ <;> (intro h; try (exfalso; omega))) | fail)
      all_goals first | (exfalso; omega) | skip
      refine St.loopY (Lr := ?Lr2) (ι := { x : Nat × Nat × List SRowH × Int × Int // 20 ≤ x.1 ∧ x.1 ≤ 2 * n + 20 ∧ n - x.1 ≤ x.2.1 ∧ x.2.2.1.length = n ∧ staGo n x.2.1 x.1 x.2.2.1 = R }) (fun x => n - x.1.1) (fun x => [(6, .int .i64 (x.1.1 : Int)), (7, .int .i64 x.1.2.2.2.1), (8, .int .i64 x.1.2.2.2.2)]) (fun x => [bl g 120 (x.1.2.2.1.flatMap srV ++ rest)]) ⟨(20, n, B, (a : Int), (a : Int) + 20), Nat.le_refl _, by dsimp only; omega, by dsimp only; omega, hBl, hR⟩ ?hE2 ?hL2 ?round2
      case hE2 => exact Sub.go
      case hL2 => exact Takes.go
      case round2 =>
        rintro ⟨⟨sz, f2, lj, o7, o8⟩, hz0, hz1, hf2, hlj, hso⟩ IH; dsimp only at hz0 hz1 hf2 hlj hso IH ⊢
        by_cases hlz : sz < n
        · obtain ⟨f3, rfl⟩ : ∃ f3, f2 = f3 + 1 := ⟨f2 - 1, by omega⟩
          rw [staGo, if_pos hlz] at hso
          generalize hM : mrgGo sz n n 0 lj = M at hso
          have hMl : M.length = n := by rw [← hM, mrgGo_len]; exact hlj
          repeat' (first | refine Ga ?_ | (refine Gb ?_; intro b) | (refine Gd ?_; intro g cap rest hcap) | (refine Gc ?_; intro ad cap)  | (refine Ge ?_ ?_ <;> (intro h; try (exfalso; omega))) | fail)
          all_goals first | (exfalso; omega) | skip
          refine St.loopY (Lr := ?Lr3) (ι := { x : Nat × Nat × List SRowH // x.1 ≤ n ∧ n - x.1 ≤ x.2.1 ∧ x.2.2.length = n ∧ mrgGo sz n x.2.1 x.1 x.2.2 = M }) (fun x => n - x.1.1) (fun x => [(7, .int .i64 (x.1.1 : Int)), (8, .int .i64 ((x.1.1 : Int) + 2 * sz))]) (fun x => [bl g 120 (x.1.2.2.flatMap srV ++ rest)]) ⟨(0, n, lj), Nat.zero_le _, by dsimp only; omega, hlj, hM⟩ ?hE3 ?hL3 ?round3
          case hE3 => dsimp only; rw [show ((0 : Nat) : Int) + 2 * (sz : Int) = 2 * (sz : Int) by omega]; exact Sub.go
          case hL3 => exact Takes.go
          case round3 =>
            rintro ⟨⟨q, f4, lm⟩, hq, hf4, hlm, hmo⟩ IH3; dsimp only at hq hf4 hlm hmo IH3 ⊢
            by_cases hle : q + 2 * sz ≤ n
            · obtain ⟨f5, rfl⟩ : ∃ f5, f4 = f5 + 1 := ⟨f4 - 1, by omega⟩
              rw [mrgGo, if_pos hle] at hmo
              have hsy := sym_t g n cap rest hn n q (q + sz) (q + 2 * sz) lm hlm (by omega) (by omega) hle (by omega)
              rw [show ((q + sz : Nat) : Int) = (q : Int) + sz by omega, show ((q + 2 * sz : Nat) : Int) = (q : Int) + 2 * sz by omega] at hsy
              have hln := symGo_len n q (q + sz) (q + 2 * sz) lm
              generalize symGo n q (q + sz) (q + 2 * sz) lm = l3 at hmo hsy hln
              repeat' (first | refine Ga ?_ | (refine Gb ?_; intro b) | (refine Gd ?_; intro g cap rest hcap) | (refine Gc ?_; intro ad cap)  | (refine Gt hsy ?_; rintro _ _ ⟨rfl, rfl⟩) | (refine Ge ?_ ?_ <;> (intro h; try (exfalso; omega))) | fail)
              all_goals first | (exfalso; omega) | skip
              refine IH3 ⟨(q + 2 * sz, f5, l3), hle, by dsimp only; omega, by dsimp only; omega, hmo⟩ (by dsimp only; omega) ?_ ?_
              · dsimp only; rw [show ((q + 2 * sz : Nat) : Int) = (q : Int) + 2 * sz by omega]; exact Sub.go
              · exact Ent.go
            · clear IH3
              by_cases hlr : q + sz < n
              · have hmo : symGo n q (q + sz) n lm = M := by
                  cases f4 with
                  | zero => omega
                  | succ f4 => rw [mrgGo, if_neg hle, if_pos hlr] at hmo; exact hmo
                have hsy := sym_t g n cap rest hn n q (q + sz) n lm hlm (by omega) hlr (Nat.le_refl _) (by omega)
                rw [show ((q + sz : Nat) : Int) = (q : Int) + sz by omega, hmo] at hsy
                repeat' (first | refine Ga ?_ | (refine Gb ?_; intro b) | (refine Gd ?_; intro g cap rest hcap) | (refine Gc ?_; intro ad cap)  | (refine Gt hsy ?_; rintro _ _ ⟨rfl, rfl⟩) | (refine Ge ?_ ?_ <;> (intro h; try (exfalso; omega))) | fail)
                all_goals first | (exfalso; omega) | skip
                refine IH ⟨(2 * sz, f3, M, (q : Int), (q : Int) + 2 * sz), by dsimp only; omega, by dsimp only; omega, by dsimp only; omega, hMl, hso⟩ (by dsimp only; omega) ?_ ?_
                · dsimp only; rw [show ((2 * sz : Nat) : Int) = (sz : Int) * 2 by omega]; exact Sub.go
                · exact Ent.go
              · have hmo : lm = M := by
                  cases f4 with
                  | zero => exact hmo
                  | succ f4 => rw [mrgGo, if_neg hle, if_neg hlr] at hmo; exact hmo
                subst hmo
                repeat' (first | refine Ga ?_ | (refine Gb ?_; intro b) | (refine Gd ?_; intro g cap rest hcap) | (refine Gc ?_; intro ad cap)  | (refine Ge ?_ ?_ <;> (intro h; try (exfalso; omega))) | fail)
                all_goals first | (exfalso; omega) | skip
                refine IH ⟨(2 * sz, f3, lm, (q : Int), (q : Int) + 2 * sz), by dsimp only; omega, by dsimp only; omega, by dsimp only; omega, hMl, hso⟩ (by dsimp only; omega) ?_ ?_
                · dsimp only; rw [show ((2 * sz : Nat) : Int) = (sz : Int) * 2 by omega]; exact Sub.go
                · exact Ent.go
        · have hso : lj = R := by
            cases f2 with
            | zero => exact hso
            | succ f2 => rw [staGo, if_neg hlz] at hso; exact hso
          subst hso
          clear IH
          repeat' (first | refine Ga ?_ | (refine Gb ?_; intro b) | (refine Gd ?_; intro g cap rest hcap) | (refine Gc ?_; intro ad cap)  | (refine Ge ?_ ?_ <;> (intro h; try (exfalso; omega))) | fail)
          all_goals first | (exfalso; omega) | skip
          refine St.f1 Tryz.func149 ⟨_, ⟨rfl, rfl⟩, Ent.go⟩
theorem ins_nil : Tri Tryz.prog 195 #[.slice none 0 0, .int .i64 0, .int .i64 0, cmpF] [] fun r L => r = .tuple ⟨[]⟩ ∧ L = [] := by
  refine Tri.of_body (vs := [_, _, _, _]) Tryz.func195 rfl rfl fun w0 F => ?_
  repeat' (first | (apply St.loop1) | (apply St.inLoop1) | refine Ga ?_ | (refine Gb ?_; intro b) | (refine Gd ?_; intro g cap rest hcap) | (refine Gc ?_; intro ad cap) | (refine St.draw (id := 4) [(0, 0), (1, 0), (2, 0), (3, 0), (4, 0), (5, 0), (6, 0), (7, 0), (8, 1), (9, 0), (10, 0), (11, 0), (12, 0), (13, 1), (14, 3), (15, 0), (16, 0)] [14] mixed (by kernel_rfl) ?_) | (refine St.draw (id := 6) [(0, 0), (1, 0), (2, 0), (3, 0), (4, 0), (5, 0), (6, 0), (7, 0), (8, 0), (9, 1), (10, 0), (11, 0), (12, 0), (13, 1), (14, 0), (15, 3), (16, 0), (17, 3)] [15, 17] mixed (by kernel_rfl) ?_) | (refine Ge ?_ ?_ <;> (intro h; try (exfalso; omega))) | fail)
  all_goals first | (exfalso; omega) | skip
  refine St.f1 Tryz.func195 ⟨_, ⟨rfl, rfl⟩, Ent.go⟩
theorem sta_nil : Tri Tryz.prog 149 #[.slice none 0 0, .int .i64 0, cmpF] [] fun r L => r = .tuple ⟨[]⟩ ∧ L = [] := by
  have hin := ins_nil
  refine Tri.of_body (vs := [_, _, _]) Tryz.func149 rfl rfl fun w0 F => ?_
  repeat' (first | (apply St.loop1) | (apply St.inLoop1) | refine Ga ?_ | (refine Gb ?_; intro b) | (refine Gd ?_; intro g cap rest hcap) | (refine Gc ?_; intro ad cap)  | (refine Gt hin ?_; rintro _ _ ⟨rfl, rfl⟩) | (refine Ge ?_ ?_ <;> (intro h; try (exfalso; omega))) | fail)
  all_goals first | (exfalso; omega) | skip
  refine St.f1 Tryz.func149 ⟨_, ⟨rfl, rfl⟩, Ent.go⟩
/-- slices.SortStableFunc -/
theorem sort_t (v : Value) (n : Nat) (hn : n ≤ 100000) (l : List SRowH) (hl : l.length = n) : Tri Tryz.prog 101 #[v, cmpF] [Row v 120 6 n (l.flatMap srV)]
    fun r L => r = .tuple ⟨[]⟩ ∧ L = [Row v 120 6 n ((sortS l).flatMap srV)] := by
  refine Tri.of_body (vs := [_, _]) Tryz.func101 rfl rfl fun w0 F => ?_
  refine St.rowC (fun hv h0 hx => ?_) (fun g cap rest hv hrf => ?_)
  · subst hv h0
    obtain rfl : l = [] := List.eq_nil_of_length_eq_zero hl
    have hs := sta_nil
    repeat' (first | refine Ga ?_ | (refine Gb ?_; intro b) | (refine Gd ?_; intro g cap rest hcap) | (refine Gc ?_; intro ad cap)  | (refine Gt hs ?_; rintro _ _ ⟨rfl, rfl⟩) | (refine Ge ?_ ?_ <;> (intro h; try (exfalso; omega))) | fail)
    refine St.f1 Tryz.func101 ⟨_, ⟨rfl, rfl⟩, ?_⟩
    exact Ent.trans (Ent.row_nil 120 6) Ent.go
  · subst hv
    have hs := sta_t g n cap rest hn l hl
    have hrf2 : RowF n cap 6 ((sortS l).flatMap srV) rest := by
      have e : ((sortS l).flatMap srV).length = (l.flatMap srV).length := by rw [flat_len srV_len, flat_len srV_len, sortS_len]
      exact ⟨hrf.le, hrf.max, by rw [e]; exact hrf.len, by rw [e]; exact hrf.tot⟩
    repeat' (first | refine Ga ?_ | (refine Gb ?_; intro b) | (refine Gd ?_; intro g cap rest hcap) | (refine Gc ?_; intro ad cap)  | (refine Gt hs ?_; rintro _ _ ⟨rfl, rfl⟩) | (refine Ge ?_ ?_ <;> (intro h; try (exfalso; omega))) | fail)
    refine St.f1 Tryz.func101 ⟨_, ⟨rfl, rfl⟩, ?_⟩
    exact Ent.trans (Ent.rowF hrf2) Ent.go
end Go.Proofs.YtemaaenipjinaaaGreat
