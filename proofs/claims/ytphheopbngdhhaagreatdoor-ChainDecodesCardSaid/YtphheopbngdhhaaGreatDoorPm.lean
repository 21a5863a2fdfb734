/-
  Package tumblerref21: Decode.
-/
import Derived.Test.YtphheopbngdhhaaGreatDoorPf
import Derived.Test.YtphheopbngdhhaaGreatDoorPk
import Derived.Test.YtphheopbngdhhaaGreatDoorCe
namespace Go.Proofs.YtphheopbngdhhaaGreatDoor
set_option maxRecDepth 100000
def xdecQ (q : HProp) (r : Option Qu × Int) (v : Value) (L : List HProp) : Prop := ∃ xv H, v = .tuple ⟨[xv, .int .i64 r.2]⟩ ∧ XuR H xv r.1 ∧ L = [H, q]
theorem take_map_snoc {f : Nat → Nat} {l : List Nat} {k : Nat} (h : k < l.length) : (l.take (k + 1)).map f = (l.take k).map f ++ [f l[k]] := by
  rw [List.take_succ_eq_append_getElem h, List.map_append]; rfl
theorem map_getD {f : Nat → Nat} {l : List Nat} {k : Nat} (h : k < l.length) : (l.map f).getD k 0 = f l[k] := by
  rw [List.getD_eq_getElem?_getD, List.getElem?_map, List.getElem?_eq_getElem h]; rfl
theorem take_map_last {f : Nat → Nat} {l : List Nat} {k : Nat} (h : k ≤ l.length) (h0 : 0 < k) : ((l.take k).map f).getLastD 0 = (l.map f).getD (k - 1) 0 := by
  rw [last_at, List.length_map, List.length_take, Nat.min_eq_left h, List.getD_eq_getElem?_getD, List.getD_eq_getElem?_getD, List.getElem?_map, List.getElem?_map, List.getElem?_take, if_pos (by omega)]
set_option maxHeartbeats 2000000 in
theorem xdec_t (q : HProp) (rs : List Nat) (b1 : Option Addr) (b2 b3 : Nat) (bs : List (Nat × List Nat)) (hb : ListR boxV q (.slice b1 b2 b3) bs) (hbl : bs.length ≤ 1000) (root : Int) : Tri Tryz.prog 22 #[.agg ⟨g16t rs [.slice b1 b2 b3]⟩, .int .i64 root] [q] (xdecQ q (docM rs bs root)) := by
  have hroot := xroot_r rs (.slice b1 b2 b3) root
  have hwd := fun h => xwords_r q rs (.slice b1 b2 b3) bs hb hbl h
  unfold docM
  generalize rootOf rs root = r0 at hroot ⊢
  by_cases h0 : r0 = 0
  · rw [if_pos h0]
    subst h0
    refine Tri.of_body (vs := [_, _]) Tryz.func22 rfl rfl fun w0 F => ?_
    repeat' (first | refine Ga ?_ | (refine Gb ?_; intro b) | (refine Gd ?_; intro g cap rest hcap) | (refine Gc ?_; intro ad cap) | (refine St.draw (id := 14) [(0, 1), (1, 0), (2, 0), (3, 0), (4, 1), (5, 1), (6, 0), (7, 0), (8, 0), (9, 2), (10, 3), (11, 0)] [10] mixed (by kernel_rfl) ?_) | (refine St.draw (id := 15) [(0, 0), (1, 0), (2, 0), (3, 0), (4, 0), (5, 0), (6, 1), (7, 0), (8, 1), (9, 0), (10, 0), (11, 0), (12, 1), (13, 0), (14, 0), (15, 0), (16, 0)] [] mixed (by kernel_rfl) ?_)| refine Gl hroot ?_ | (refine Ge ?_ ?_ <;> (intro h; try (exfalso; omega))) | fail)
    all_goals first | (exfalso; omega) | skip
    refine St.d1 Tryz.func22 ⟨_, ⟨_, star [], rfl, rfl, rfl⟩, ?_⟩
    exact Ent.trans (Ent.star_in []) Ent.go
  rw [if_neg h0]
  have hw0 := hwd r0
  cases hg : lkB bs r0 with
  | none =>
    rw [hg, show (none : Option (List Nat)).getD zero8 = zero8 from rfl, show (none : Option (List Nat)).isSome = false from rfl] at hw0
    refine Tri.of_body (vs := [_, _]) Tryz.func22 rfl rfl fun w0 F => ?_
    repeat' (first | refine Ga ?_ | (refine Gb ?_; intro b) | (refine Gd ?_; intro g cap rest hcap) | (refine Gc ?_; intro ad cap) | (refine St.draw (id := 14) [(0, 1), (1, 0), (2, 0), (3, 0), (4, 1), (5, 1), (6, 0), (7, 0), (8, 0), (9, 2), (10, 3), (11, 0)] [10] mixed (by kernel_rfl) ?_) | (refine St.draw (id := 15) [(0, 0), (1, 0), (2, 0), (3, 0), (4, 0), (5, 0), (6, 1), (7, 0), (8, 1), (9, 0), (10, 0), (11, 0), (12, 1), (13, 0), (14, 0), (15, 0), (16, 0)] [] mixed (by kernel_rfl) ?_)| refine Gl hroot ?_ | refine Gl hw0 ?_ | (refine Ge ?_ ?_ <;> (intro h; try (exfalso; omega))) | fail)
    all_goals first | (exfalso; omega) | skip
    refine St.d1 Tryz.func22 ⟨_, ⟨_, star [], rfl, rfl, rfl⟩, ?_⟩
    exact Ent.trans (Ent.star_in []) Ent.go
  | some bk =>
    rw [hg, show (some bk).getD zero8 = bk from rfl, show (some bk).isSome = true from rfl] at hw0
    have hch := xchain_t q rs (.slice b1 b2 b3) bs hb hbl (bk.getD 1 0)
    have hmost := chGo_most bs 66 (bk.getD 1 0) [] (by decide)
    have hmem := chGo_mem bs 66 (bk.getD 1 0) [] (by intro x hx; cases hx)
    have hdq : docE bs bk = if ((chGo bs 66 (bk.getD 1 0) []).2 && riseN ((chGo bs 66 (bk.getD 1 0) []).1.map (valB bs)) ((chGo bs 66 (bk.getD 1 0) []).1.map (valB bs)).length) = true ∧ (chGo bs 66 (bk.getD 1 0) []).1.length = bk.getD 2 0 ∧ bk.getD 2 0 ≤ bk.getD 3 0 then (some ⟨bk.getD 3 0, (chGo bs 66 (bk.getD 1 0) []).1.map (valB bs)⟩, 0) else (none, 33) := rfl
    have a0 : NthN (0 + (0 : Int).toNat * 1) (g8 bk) (.int .u64 ((bk.getD 0 0 : Nat) : Int)) := g8_at (l := bk) (a := 0) (by decide)
    have a1 : NthN (0 + (1 : Int).toNat * 1) (g8 bk) (.int .u64 ((bk.getD 1 0 : Nat) : Int)) := g8_at (l := bk) (a := 1) (by decide)
    have a2 : NthN (0 + (2 : Int).toNat * 1) (g8 bk) (.int .u64 ((bk.getD 2 0 : Nat) : Int)) := g8_at (l := bk) (a := 2) (by decide)
    have a3 : NthN (0 + (3 : Int).toNat * 1) (g8 bk) (.int .u64 ((bk.getD 3 0 : Nat) : Int)) := g8_at (l := bk) (a := 3) (by decide)
    dsimp only
    by_cases hk : bk.getD 0 0 = 2
    · rw [if_pos hk, hdq]
      clear hdq
      generalize chGo bs 66 (bk.getD 1 0) [] = C at hch hmost hmem ⊢
      obtain ⟨out, ok⟩ := C
      generalize bk.getD 0 0 = c0 at *
      generalize bk.getD 1 0 = c1 at *
      generalize bk.getD 2 0 = c2 at *
      generalize bk.getD 3 0 = c3 at *
      dsimp only at hch hmost hmem ⊢
      subst hk
      rw [List.length_map]
      unfold chainQ at hch
      dsimp only at hch
      refine Tri.of_body (vs := [_, _]) Tryz.func22 rfl rfl fun w0 F => ?_
      repeat' (first | refine St.halt 10 ?_ |refine Ga ?_ | (refine Gb ?_; intro b) | (refine Gd ?_; intro g cap rest hcap) | (refine Gc ?_; intro ad cap) | (refine St.draw (id := 14) [(0, 1), (1, 0), (2, 0), (3, 0), (4, 1), (5, 1), (6, 0), (7, 0), (8, 0), (9, 2), (10, 3), (11, 0)] [10] mixed (by kernel_rfl) ?_) | (refine St.draw (id := 15) [(0, 0), (1, 0), (2, 0), (3, 0), (4, 0), (5, 0), (6, 1), (7, 0), (8, 1), (9, 0), (10, 0), (11, 0), (12, 1), (13, 0), (14, 0), (15, 0), (16, 0)] [] mixed (by kernel_rfl) ?_)| refine Gl hroot ?_ | refine Gl hw0 ?_ | (refine Gt hch ?_; rintro _ _ ⟨lad, lcap, rfl, rfl⟩) | (refine Ge ?_ ?_ <;> (intro h; try (exfalso; omega))) | fail)
      all_goals first | (exfalso; omega) | skip
      apply Halt.go
      refine St.conv ?_ (Sub.refl _) (Ent.of_take (p := Row (.slice lad out.length lcap) 22 1 out.length (u64s out)) Take.go)
      refine St.rowS fun R hR => ?_
      apply St.seq
      repeat' (first | refine Ga ?_ | (refine Gb ?_; intro b) | (refine Gd ?_; intro g cap rest hcap) | (refine Gc ?_; intro ad cap) | (refine St.draw (id := 14) [(0, 1), (1, 0), (2, 0), (3, 0), (4, 1), (5, 1), (6, 0), (7, 0), (8, 0), (9, 2), (10, 3), (11, 0)] [10] mixed (by kernel_rfl) ?_) | (refine St.draw (id := 15) [(0, 0), (1, 0), (2, 0), (3, 0), (4, 0), (5, 0), (6, 1), (7, 0), (8, 1), (9, 0), (10, 0), (11, 0), (12, 1), (13, 0), (14, 0), (15, 0), (16, 0)] [] mixed (by kernel_rfl) ?_) | (refine Ge ?_ ?_ <;> (intro h; try (exfalso; omega))) | fail)
      all_goals first | (exfalso; omega) | skip
      revert b; intro Bq
      refine St.conv ?_ (Sub.refl _) (Ent.row_nil 22 1)
      refine St.loopY (Lr := ?Lr1) (ι := { x : Nat × Option Addr × Nat // x.1 ≤ out.length }) (fun x => out.length - x.1.1)
        (fun x => [(12, .int .i64 (x.1.1 : Int)), (10, .bool (ok && riseN (out.map (valB bs)) x.1.1))]) (fun x => [bl Bq 68 [.bool true, .int .u64 (c3 : Int), .slice x.1.2.1 ((out.take x.1.1).map (valB bs)).length x.1.2.2], Row (.slice x.1.2.1 ((out.take x.1.1).map (valB bs)).length x.1.2.2) 22 1 ((out.take x.1.1).map (valB bs)).length (u64s ((out.take x.1.1).map (valB bs)))]) ⟨(0, none, 0), Nat.zero_le _⟩ ?hE1 ?hL1 ?round1
      case hE1 => dsimp only; rw [show (ok && riseN (out.map (valB bs)) 0) = ok from Bool.and_true ok]; exact Sub.go
      case hL1 => exact Takes.go
      case round1 =>
        rintro ⟨⟨k, oad, ocap⟩, hkl⟩ IH; dsimp only at hkl IH ⊢
        by_cases hlt : k < out.length
        · obtain ⟨lb, lo, lc, l, hv, hrd, hnn⟩ := hR.at (by omega)
          injection hv with e1 e2 e3
          subst e1 e3
          have hnk := hnn k hlt
          obtain ⟨hsome, hx0⟩ := hmem out[k] (List.getElem_mem hlt)
          have hwk := hwd out[k]
          have hsn := take_map_snoc (f := valB bs) hlt
          have hvk : valB bs out[k] = ((lkB bs out[k]).getD []).getD 0 0 := rfl
          have hgk := map_getD (f := valB bs) hlt
          have hnx : (ok && riseN (out.map (valB bs)) (k + 1)) = ((ok && riseN (out.map (valB bs)) k) && (decide (k = 0) || decide ((out.map (valB bs)).getD (k - 1) 0 < (out.map (valB bs)).getD k 0))) := (Bool.and_assoc _ _ _).symm
          rw [hgk] at hnx
          clear hgk
          generalize out[k] = x at hnk hsome hx0 hwk hsn hvk hnx
          obtain ⟨xw, hxw⟩ := Option.isSome_iff_exists.1 hsome
          rw [hxw, show (some xw).getD zero8 = xw from rfl, show (some xw).isSome = true from rfl] at hwk
          rw [hxw, show (some xw).getD [] = xw from rfl] at hvk
          have n0 : NthN (0 + (0 : Int).toNat * 1) (g8 xw) (.int .u64 ((xw.getD 0 0 : Nat) : Int)) := g8_at (l := xw) (a := 0) (by decide)
          rw [← hvk] at n0
          have hdl : ((out.take k).map (valB bs)).length = k := by rw [List.length_map, List.length_take]; omega
          have hlst := fun h => take_map_last (f := valB bs) (l := out) (k := k) hkl h
          generalize valB bs x = xv at n0 hsn hvk hnx
          generalize (out.map (valB bs)).getD (k - 1) 0 = lst at hnx hlst
          generalize (ok && riseN (out.map (valB bs)) k) = okk at hnx ⊢
          generalize hD : (out.take k).map (valB bs) = D at hsn hdl hlst ⊢
          by_cases h0k : k = 0
          · rw [decide_eq_true h0k, Bool.true_or, Bool.and_true] at hnx
            cases okk
            all_goals (
              repeat' (first | refine Ga ?_ | (refine Gb ?_; intro b) | (refine Gd ?_; intro g cap rest hcap) | (refine Gc ?_; intro ad cap) | (refine St.draw (id := 14) [(0, 1), (1, 0), (2, 0), (3, 0), (4, 1), (5, 1), (6, 0), (7, 0), (8, 0), (9, 2), (10, 3), (11, 0)] [10] mixed (by kernel_rfl) ?_) | (refine St.draw (id := 15) [(0, 0), (1, 0), (2, 0), (3, 0), (4, 0), (5, 0), (6, 1), (7, 0), (8, 1), (9, 0), (10, 0), (11, 0), (12, 1), (13, 0), (14, 0), (15, 0), (16, 0)] [] mixed (by kernel_rfl) ?_)| refine Gl hwk ?_ | (refine Ge ?_ ?_ <;> (intro h; try (exfalso; omega))) | fail)
              all_goals first | (exfalso; omega) | skip
              all_goals refine IH ⟨(k + 1, ad, cap), hlt⟩ (by show out.length - (k + 1) < out.length - k; omega) ?_ ?_
              · dsimp only; rw [hnx]; exact Sub.go
              · dsimp only; rw [hsn, List.length_append, show u64s (D ++ [xv]) = u64s D ++ [.int .u64 (xv : Int)] by simp [u64s]]; exact Ent.go)
          · have hlst := hlst (by omega)
            rw [decide_eq_false h0k, Bool.false_or] at hnx
            cases okk with
            | false =>
              rw [Bool.false_and] at hnx
              repeat' (first | refine Ga ?_ | (refine Gb ?_; intro b) | (refine Gd ?_; intro g cap rest hcap) | (refine Gc ?_; intro ad cap) | (refine St.draw (id := 14) [(0, 1), (1, 0), (2, 0), (3, 0), (4, 1), (5, 1), (6, 0), (7, 0), (8, 0), (9, 2), (10, 3), (11, 0)] [10] mixed (by kernel_rfl) ?_) | (refine St.draw (id := 15) [(0, 0), (1, 0), (2, 0), (3, 0), (4, 0), (5, 0), (6, 1), (7, 0), (8, 1), (9, 0), (10, 0), (11, 0), (12, 1), (13, 0), (14, 0), (15, 0), (16, 0)] [] mixed (by kernel_rfl) ?_)| refine Gl hwk ?_ | (refine Ge ?_ ?_ <;> (intro h; try (exfalso; omega))) | fail)
              all_goals first | (exfalso; omega) | skip
              all_goals refine IH ⟨(k + 1, ad, cap), hlt⟩ (by show out.length - (k + 1) < out.length - k; omega) ?_ ?_
              · dsimp only; rw [hnx]; exact Sub.go
              · dsimp only; rw [hsn, List.length_append, show u64s (D ++ [xv]) = u64s D ++ [.int .u64 (xv : Int)] by simp [u64s]]; exact Ent.go
            | true =>
              rw [Bool.true_and] at hnx
              have hcast : decide (lst < xv) = decide ((lst : Int) < (xv : Int)) := by rw [decide_eq_decide]; omega
              rw [hcast] at hnx
              refine St.conv ?_ (Sub.refl _) (Ent.of_take (p := Row (.slice oad D.length ocap) 22 1 D.length (u64s D)) Take.go)
              refine St.rowF (by omega) fun g lcp rest hv hrf => ?_
              injection hv with hv1 hv2 hv3
              subst hv1 hv3
              have hlast : NthN (((k : Int) - 1).toNat * 1) (u64s D ++ rest) (.int .u64 (lst : Int)) := by
                have := (NthN.u64s (l := D) (i := D.length - 1) (by omega)).app_left rest
                rw [show ((k : Int) - 1).toNat * 1 = D.length - 1 by omega]
                rw [← last_at, hlst] at this
                exact this
              have hlast0 : NthN (0 + ((k : Int) - 1).toNat * 1) (u64s D ++ rest) (.int .u64 (lst : Int)) := by rw [Nat.zero_add]; exact hlast
              repeat' (first | refine St.halt 16 ?_ |refine Ga ?_ | (refine Gb ?_; intro b) | (refine Gd ?_; intro g cap rest hcap) | (refine Gc ?_; intro ad cap) | (refine St.draw (id := 14) [(0, 1), (1, 0), (2, 0), (3, 0), (4, 1), (5, 1), (6, 0), (7, 0), (8, 0), (9, 2), (10, 3), (11, 0)] [10] mixed (by kernel_rfl) ?_) | (refine St.draw (id := 15) [(0, 0), (1, 0), (2, 0), (3, 0), (4, 0), (5, 0), (6, 1), (7, 0), (8, 1), (9, 0), (10, 0), (11, 0), (12, 1), (13, 0), (14, 0), (15, 0), (16, 0)] [] mixed (by kernel_rfl) ?_)| refine Gl hwk ?_ | (refine Ge ?_ ?_ <;> (intro h; try (exfalso; omega))) | fail)
              all_goals first | (exfalso; omega) | skip
              all_goals (
                refine StL.conv ?_ (Sub.refl _) (Ent.trans (Ent.of_take (p := bl g 22 (u64s D ++ rest)) Take.go) (Ent.rowF hrf)))
              all_goals repeat' (first | refine Ga ?_ | (refine Gb ?_; intro b) | (refine Gd ?_; intro g cap rest hcap) | (refine Gc ?_; intro ad cap) | (refine St.draw (id := 14) [(0, 1), (1, 0), (2, 0), (3, 0), (4, 1), (5, 1), (6, 0), (7, 0), (8, 0), (9, 2), (10, 3), (11, 0)] [10] mixed (by kernel_rfl) ?_) | (refine St.draw (id := 15) [(0, 0), (1, 0), (2, 0), (3, 0), (4, 0), (5, 0), (6, 1), (7, 0), (8, 1), (9, 0), (10, 0), (11, 0), (12, 1), (13, 0), (14, 0), (15, 0), (16, 0)] [] mixed (by kernel_rfl) ?_)| refine Gl hwk ?_ | (refine Ge ?_ ?_ <;> (intro h; try (exfalso; omega))) | fail)
              all_goals first | (exfalso; omega) | skip
              all_goals refine IH ⟨(k + 1, ad, cap), hlt⟩ (by show out.length - (k + 1) < out.length - k; omega) ?_ ?_
              · dsimp only; rw [hnx]; exact Sub.go
              · dsimp only; rw [hsn, List.length_append, show u64s (D ++ [xv]) = u64s D ++ [.int .u64 (xv : Int)] by simp [u64s]]; exact Ent.go
        · obtain rfl : k = out.length := by omega
          rw [List.take_length]
          clear IH
          generalize (ok && riseN (out.map (valB bs)) out.length) = okk
          by_cases hc : okk = true ∧ out.length = c2 ∧ c2 ≤ c3
          · rw [if_pos hc]
            obtain ⟨rfl, hc2, hc3⟩ := hc
            repeat' (first | refine Ga ?_ | (refine Gb ?_; intro b) | (refine Gd ?_; intro g cap rest hcap) | (refine Gc ?_; intro ad cap) | (refine St.draw (id := 14) [(0, 1), (1, 0), (2, 0), (3, 0), (4, 1), (5, 1), (6, 0), (7, 0), (8, 0), (9, 2), (10, 3), (11, 0)] [10] mixed (by kernel_rfl) ?_) | (refine St.draw (id := 15) [(0, 0), (1, 0), (2, 0), (3, 0), (4, 0), (5, 0), (6, 1), (7, 0), (8, 1), (9, 0), (10, 0), (11, 0), (12, 1), (13, 0), (14, 0), (15, 0), (16, 0)] [] mixed (by kernel_rfl) ?_) | (refine Ge ?_ ?_ <;> (intro h; try (exfalso; omega))) | fail)
            all_goals first | (exfalso; omega) | skip
            refine St.conv ?_ (Sub.refl _) (Ent.of_take (p := Row (.slice oad (out.map (valB bs)).length ocap) 22 1 (out.map (valB bs)).length (u64s (out.map (valB bs)))) Take.go)
            refine St.rowS fun R2 hR2 => ?_
            refine St.d1 Tryz.func22 ⟨_, ⟨_, R2, rfl, ⟨_, rfl, hR2⟩, rfl⟩, Ent.go⟩
          · rw [if_neg hc]
            cases okk
            all_goals (
              first
                | (have hc' : ¬(out.length = c2 ∧ c2 ≤ c3) := fun h => hc ⟨rfl, h⟩)
                | skip
              repeat' (first | refine Ga ?_ | (refine Gb ?_; intro b) | (refine Gd ?_; intro g cap rest hcap) | (refine Gc ?_; intro ad cap) | (refine St.draw (id := 14) [(0, 1), (1, 0), (2, 0), (3, 0), (4, 1), (5, 1), (6, 0), (7, 0), (8, 0), (9, 2), (10, 3), (11, 0)] [10] mixed (by kernel_rfl) ?_) | (refine St.draw (id := 15) [(0, 0), (1, 0), (2, 0), (3, 0), (4, 0), (5, 0), (6, 1), (7, 0), (8, 1), (9, 0), (10, 0), (11, 0), (12, 1), (13, 0), (14, 0), (15, 0), (16, 0)] [] mixed (by kernel_rfl) ?_) | (refine Ge ?_ ?_ <;> (intro h; try (exfalso; omega))) | fail)
              all_goals first | (exfalso; omega) | skip
              all_goals refine St.d1 Tryz.func22 ⟨_, ⟨_, star [], rfl, rfl, rfl⟩, ?_⟩
              all_goals exact Ent.trans (Ent.star_in []) Ent.go)
    · rw [if_neg hk]
      generalize bk.getD 0 0 = c0 at *
      refine Tri.of_body (vs := [_, _]) Tryz.func22 rfl rfl fun w0 F => ?_
      repeat' (first | refine Ga ?_ | (refine Gb ?_; intro b) | (refine Gd ?_; intro g cap rest hcap) | (refine Gc ?_; intro ad cap) | (refine St.draw (id := 14) [(0, 1), (1, 0), (2, 0), (3, 0), (4, 1), (5, 1), (6, 0), (7, 0), (8, 0), (9, 2), (10, 3), (11, 0)] [10] mixed (by kernel_rfl) ?_) | (refine St.draw (id := 15) [(0, 0), (1, 0), (2, 0), (3, 0), (4, 0), (5, 0), (6, 1), (7, 0), (8, 1), (9, 0), (10, 0), (11, 0), (12, 1), (13, 0), (14, 0), (15, 0), (16, 0)] [] mixed (by kernel_rfl) ?_)| refine Gl hroot ?_ | refine Gl hw0 ?_ | (refine Ge ?_ ?_ <;> (intro h; try (exfalso; omega))) | fail)
      all_goals first | (exfalso; omega) | skip
      refine St.d1 Tryz.func22 ⟨_, ⟨_, star [], rfl, rfl, rfl⟩, ?_⟩
      exact Ent.trans (Ent.star_in []) Ent.go
end Go.Proofs.YtphheopbngdhhaaGreatDoor
