/-
  Package tumblerref20: Decode.
-/
import Derived.Test.YtphheopbngdhhaaGreatDoorPf
import Derived.Test.YtphheopbngdhhaaGreatDoorPl
namespace Go.Proofs.YtphheopbngdhhaaGreatDoor
set_option maxRecDepth 100000
def xdecQ (q : HProp) (r : Option Qu × Int) (v : Value) (L : List HProp) : Prop := ∃ xv H, v = .tuple ⟨[xv, .int .i64 r.2]⟩ ∧ XuR H xv r.1 ∧ L = [H, q]
theorem getLast_at {l : List Nat} (h : 0 < l.length) : l[l.length - 1]'(by omega) = l.getLastD 0 := by
  cases l with
  | nil => cases h
  | cons x xs => rw [List.getLastD_eq_getLast?, List.getLast?_eq_getElem?, List.getElem?_eq_getElem (by omega)]; rfl
theorem take_map_snoc {f : Nat → Nat} {l : List Nat} {k : Nat} (h : k < l.length) : (l.take (k + 1)).map f = (l.take k).map f ++ [f l[k]] := by
  rw [List.take_succ_eq_append_getElem h, List.map_append]; rfl
set_option maxHeartbeats 2000000 in
theorem xdec_t (q : HProp) (rs : List Nat) (b1 : Option Addr) (b2 b3 : Nat) (bs : List (Nat × List Nat)) (hb : ListR boxV q (.slice b1 b2 b3) bs) (hbl : bs.length ≤ 1000) (root : Int) : Tri Tryz.prog 18 #[.agg ⟨g16t rs [.slice b1 b2 b3]⟩, .int .i64 root] [q] (xdecQ q (docM rs bs root)) := by
  have hroot := xroot_r rs (.slice b1 b2 b3) root
  have hwd := fun h => xwords_r q rs (.slice b1 b2 b3) bs hb hbl h
  unfold docM
  generalize rootOf rs root = r0 at hroot ⊢
  by_cases h0 : r0 = 0
  · rw [if_pos h0]
    subst h0
    refine Tri.of_body (vs := [_, _]) Tryz.func18 rfl rfl fun w0 F => ?_
    repeat' (first | refine Ga ?_ | (refine Gb ?_; intro b) | (refine Gd ?_; intro g cap rest hcap) | (refine Gc ?_; intro ad cap) | (refine St.draw (id := 19) [(0, 1), (1, 0), (2, 0), (3, 0), (4, 1), (5, 1), (6, 0), (7, 0), (8, 0), (9, 2), (10, 3), (11, 0)] [10] mixed (by kernel_rfl) ?_)| refine Gl hroot ?_ | (refine Ge ?_ ?_ <;> (intro h; try (exfalso; omega))) | fail)
    all_goals first | (exfalso; omega) | skip
    refine St.d1 Tryz.func18 ⟨_, ⟨_, star [], rfl, rfl, rfl⟩, ?_⟩
    exact Ent.trans (Ent.star_in []) Ent.go
  rw [if_neg h0]
  have hw0 := hwd r0
  cases hg : lkB bs r0 with
  | none =>
    rw [hg, show (none : Option (List Nat)).getD zero8 = zero8 from rfl, show (none : Option (List Nat)).isSome = false from rfl] at hw0
    refine Tri.of_body (vs := [_, _]) Tryz.func18 rfl rfl fun w0 F => ?_
    repeat' (first | refine Ga ?_ | (refine Gb ?_; intro b) | (refine Gd ?_; intro g cap rest hcap) | (refine Gc ?_; intro ad cap) | (refine St.draw (id := 19) [(0, 1), (1, 0), (2, 0), (3, 0), (4, 1), (5, 1), (6, 0), (7, 0), (8, 0), (9, 2), (10, 3), (11, 0)] [10] mixed (by kernel_rfl) ?_)| refine Gl hroot ?_ | refine Gl hw0 ?_ | (refine Ge ?_ ?_ <;> (intro h; try (exfalso; omega))) | fail)
    all_goals first | (exfalso; omega) | skip
    refine St.d1 Tryz.func18 ⟨_, ⟨_, star [], rfl, rfl, rfl⟩, ?_⟩
    exact Ent.trans (Ent.star_in []) Ent.go
  | some bk =>
    rw [hg, show (some bk).getD zero8 = bk from rfl, show (some bk).isSome = true from rfl] at hw0
    have hch := xchain_t q rs (.slice b1 b2 b3) bs hb hbl (bk.getD 1 0)
    have hmost := chGo_most bs 66 (bk.getD 1 0) [] (by decide)
    have hmem := chGo_mem bs 66 (bk.getD 1 0) [] (by intro x hx; cases hx)
    have hdq : docQ bs bk = if (chGo bs 66 (bk.getD 1 0) []).2 = true ∧ (chGo bs 66 (bk.getD 1 0) []).1.length = bk.getD 3 0 ∧ (chGo bs 66 (bk.getD 1 0) []).1.getLastD 0 = bk.getD 2 0 ∧ bk.getD 3 0 ≤ bk.getD 4 0 then (some ⟨bk.getD 4 0, (chGo bs 66 (bk.getD 1 0) []).1.map (valB bs)⟩, 0) else (none, 33) := rfl
    have a0 : NthN (0 + (0 : Int).toNat * 1) (g8 bk) (.int .u64 ((bk.getD 0 0 : Nat) : Int)) := g8_at (l := bk) (a := 0) (by decide)
    have a1 : NthN (0 + (1 : Int).toNat * 1) (g8 bk) (.int .u64 ((bk.getD 1 0 : Nat) : Int)) := g8_at (l := bk) (a := 1) (by decide)
    have a2 : NthN (0 + (2 : Int).toNat * 1) (g8 bk) (.int .u64 ((bk.getD 2 0 : Nat) : Int)) := g8_at (l := bk) (a := 2) (by decide)
    have a3 : NthN (0 + (3 : Int).toNat * 1) (g8 bk) (.int .u64 ((bk.getD 3 0 : Nat) : Int)) := g8_at (l := bk) (a := 3) (by decide)
    have a4 : NthN (0 + (4 : Int).toNat * 1) (g8 bk) (.int .u64 ((bk.getD 4 0 : Nat) : Int)) := g8_at (l := bk) (a := 4) (by decide)
    dsimp only
    by_cases hk : bk.getD 0 0 = 1
    · rw [if_pos hk, hdq]
      clear hdq
      generalize chGo bs 66 (bk.getD 1 0) [] = C at hch hmost hmem ⊢
      obtain ⟨out, ok⟩ := C
      generalize bk.getD 0 0 = c0 at *
      generalize bk.getD 1 0 = c1 at *
      generalize bk.getD 2 0 = c2 at *
      generalize bk.getD 3 0 = c3 at *
      generalize bk.getD 4 0 = c4 at *
      dsimp only at hch hmost hmem ⊢
      subst hk
      unfold chainQ at hch
      dsimp only at hch
      refine Tri.of_body (vs := [_, _]) Tryz.func18 rfl rfl fun w0 F => ?_
      repeat' (first | refine St.halt 10 ?_ |refine Ga ?_ | (refine Gb ?_; intro b) | (refine Gd ?_; intro g cap rest hcap) | (refine Gc ?_; intro ad cap) | (refine St.draw (id := 19) [(0, 1), (1, 0), (2, 0), (3, 0), (4, 1), (5, 1), (6, 0), (7, 0), (8, 0), (9, 2), (10, 3), (11, 0)] [10] mixed (by kernel_rfl) ?_)| refine Gl hroot ?_ | refine Gl hw0 ?_ | (refine Gt hch ?_; rintro _ _ ⟨lad, lcap, rfl, rfl⟩) | (refine Ge ?_ ?_ <;> (intro h; try (exfalso; omega))) | fail)
      all_goals first | (exfalso; omega) | skip
      apply Halt.go
      refine St.conv ?_ (Sub.refl _) (Ent.of_take (p := Row (.slice lad out.length lcap) 22 1 out.length (u64s out)) Take.go)
      refine St.rowS fun R hR => ?_
      by_cases hc : ok = true ∧ out.length = c3 ∧ out.getLastD 0 = c2 ∧ c3 ≤ c4
      · rw [if_pos hc]
        obtain ⟨rfl, hc3, hc2, hc4⟩ := hc
        have key : ∀ (E' : Env) (L' : List HProp), True := fun _ _ => trivial
        clear key
        by_cases hn : 0 < out.length
        · obtain ⟨lb, lo, lc, l, hv, hrd, hnn⟩ := hR.at hn
          injection hv with e1 e2 e3
          subst e1 e3
          have hnl := hnn (out.length - 1) (by omega)
          rw [getLast_at hn, show (((out.length - 1 : Nat) : Int)).toNat = ((out.length : Int) - 1).toNat by omega] at hnl
          generalize out.getLastD 0 = lst at hnl hc2
          subst hc2
          repeat' (first | refine Ga ?_ | (refine Gb ?_; intro b) | (refine Gd ?_; intro g cap rest hcap) | (refine Gc ?_; intro ad cap) | (refine St.draw (id := 19) [(0, 1), (1, 0), (2, 0), (3, 0), (4, 1), (5, 1), (6, 0), (7, 0), (8, 0), (9, 2), (10, 3), (11, 0)] [10] mixed (by kernel_rfl) ?_) | (refine Ge ?_ ?_ <;> (intro h; try (exfalso; omega))) | fail)
          all_goals first | (exfalso; omega) | skip
          revert b; intro Bq
          refine St.conv ?_ (Sub.refl _) (Ent.row_nil 22 1)
          refine St.loopY (Lr := ?Lr1) (ι := { x : Nat × Option Addr × Nat // x.1 ≤ out.length }) (fun x => out.length - x.1.1)
            (fun x => [(13, .int .i64 (x.1.1 : Int))]) (fun x => [bl Bq 59 [.bool true, .int .u64 (c4 : Int), .slice x.1.2.1 ((out.take x.1.1).map (valB bs)).length x.1.2.2], Row (.slice x.1.2.1 ((out.take x.1.1).map (valB bs)).length x.1.2.2) 22 1 ((out.take x.1.1).map (valB bs)).length (u64s ((out.take x.1.1).map (valB bs)))]) ⟨(0, none, 0), Nat.zero_le _⟩ ?hE1 ?hL1 ?round1
          case hE1 => exact Sub.go
          case hL1 => exact Takes.go
          case round1 =>
            rintro ⟨⟨k, oad, ocap⟩, hkl⟩ IH; dsimp only at hkl IH ⊢
            by_cases hlt : k < out.length
            · have hnk := hnn k hlt
              obtain ⟨hsome, hx0⟩ := hmem out[k] (List.getElem_mem hlt)
              have hwk := hwd out[k]
              have hsn := take_map_snoc (f := valB bs) hlt
              have hvk : valB bs out[k] = ((lkB bs out[k]).getD []).getD 0 0 := rfl
              generalize out[k] = x at hnk hsome hx0 hwk hsn hvk
              obtain ⟨xw, hxw⟩ := Option.isSome_iff_exists.1 hsome
              rw [hxw, show (some xw).getD zero8 = xw from rfl, show (some xw).isSome = true from rfl] at hwk
              rw [hxw, show (some xw).getD [] = xw from rfl] at hvk
              have n0 : NthN (0 + (0 : Int).toNat * 1) (g8 xw) (.int .u64 ((xw.getD 0 0 : Nat) : Int)) := g8_at (l := xw) (a := 0) (by decide)
              rw [← hvk] at n0
              have hdl : ((out.take k).map (valB bs)).length ≤ 64 := by rw [List.length_map, List.length_take]; omega
              generalize valB bs x = xv at n0 hsn hvk
              generalize hD : (out.take k).map (valB bs) = D at hsn hdl ⊢
              repeat' (first | refine Ga ?_ | (refine Gb ?_; intro b) | (refine Gd ?_; intro g cap rest hcap) | (refine Gc ?_; intro ad cap) | (refine St.draw (id := 19) [(0, 1), (1, 0), (2, 0), (3, 0), (4, 1), (5, 1), (6, 0), (7, 0), (8, 0), (9, 2), (10, 3), (11, 0)] [10] mixed (by kernel_rfl) ?_)| refine Gl hwk ?_ | (refine Ge ?_ ?_ <;> (intro h; try (exfalso; omega))) | fail)
              all_goals first | (exfalso; omega) | skip
              all_goals refine IH ⟨(k + 1, ad, cap), hlt⟩ (by show out.length - (k + 1) < out.length - k; omega) ?_ ?_
              · exact Sub.go
              · dsimp only; rw [hsn, List.length_append, show u64s (D ++ [xv]) = u64s D ++ [.int .u64 (xv : Int)] by simp [u64s]]; exact Ent.go
            · obtain rfl : k = out.length := by omega
              rw [List.take_length]
              clear IH
              repeat' (first | refine Ga ?_ | (refine Gb ?_; intro b) | (refine Gd ?_; intro g cap rest hcap) | (refine Gc ?_; intro ad cap) | (refine St.draw (id := 19) [(0, 1), (1, 0), (2, 0), (3, 0), (4, 1), (5, 1), (6, 0), (7, 0), (8, 0), (9, 2), (10, 3), (11, 0)] [10] mixed (by kernel_rfl) ?_) | (refine Ge ?_ ?_ <;> (intro h; try (exfalso; omega))) | fail)
              all_goals first | (exfalso; omega) | skip
              refine St.conv ?_ (Sub.refl _) (Ent.of_take (p := Row (.slice oad (out.map (valB bs)).length ocap) 22 1 (out.map (valB bs)).length (u64s (out.map (valB bs)))) Take.go)
              refine St.rowS fun R2 hR2 => ?_
              refine St.d1 Tryz.func18 ⟨_, ⟨_, R2, rfl, ⟨_, rfl, hR2⟩, rfl⟩, Ent.go⟩
        · have ho : out = [] := List.eq_nil_of_length_eq_zero (by omega)
          subst ho
          have hc3 : 0 = c3 := hc3
          have hc2 : 0 = c2 := hc2
          subst hc3 hc2
          repeat' (first | (apply St.loop1) | (apply St.inLoop1) | refine Ga ?_ | (refine Gb ?_; intro b) | (refine Gd ?_; intro g cap rest hcap) | (refine Gc ?_; intro ad cap) | (refine St.draw (id := 19) [(0, 1), (1, 0), (2, 0), (3, 0), (4, 1), (5, 1), (6, 0), (7, 0), (8, 0), (9, 2), (10, 3), (11, 0)] [10] mixed (by kernel_rfl) ?_) | (refine Ge ?_ ?_ <;> (intro h; try (exfalso; omega))) | fail)
          all_goals first | (exfalso; omega) | skip
          refine St.d1 Tryz.func18 ⟨_, ⟨_, star [], rfl, ⟨_, rfl, .inl ⟨rfl, rfl⟩⟩, rfl⟩, ?_⟩
          exact Ent.trans (Ent.star_in []) Ent.go
      · rw [if_neg hc]
        by_cases hn : 0 < out.length
        · obtain ⟨lb, lo, lc, l, hv, hrd, hnn⟩ := hR.at hn
          injection hv with e1 e2 e3
          subst e1 e3
          have hnl := hnn (out.length - 1) (by omega)
          rw [getLast_at hn, show (((out.length - 1 : Nat) : Int)).toNat = ((out.length : Int) - 1).toNat by omega] at hnl
          generalize out.getLastD 0 = lst at hnl hc
          cases ok
          all_goals (
            first
              | (have hc' : ¬(out.length = c3 ∧ lst = c2 ∧ c3 ≤ c4) := fun h => hc ⟨rfl, h⟩)
              | (have hc' : ¬(0 = c3 ∧ 0 = c2 ∧ c3 ≤ c4) := fun h => hc ⟨rfl, h⟩)
              | skip
            repeat' (first | refine Ga ?_ | (refine Gb ?_; intro b) | (refine Gd ?_; intro g cap rest hcap) | (refine Gc ?_; intro ad cap) | (refine St.draw (id := 19) [(0, 1), (1, 0), (2, 0), (3, 0), (4, 1), (5, 1), (6, 0), (7, 0), (8, 0), (9, 2), (10, 3), (11, 0)] [10] mixed (by kernel_rfl) ?_) | (refine Ge ?_ ?_ <;> (intro h; try (exfalso; omega))) | fail)
            all_goals first | (exfalso; omega) | skip
            all_goals refine St.d1 Tryz.func18 ⟨_, ⟨_, star [], rfl, rfl, rfl⟩, ?_⟩
            all_goals exact Ent.trans (Ent.star_in []) Ent.go)
        · have ho : out = [] := List.eq_nil_of_length_eq_zero (by omega)
          subst ho
          have hc : ¬(ok = true ∧ 0 = c3 ∧ 0 = c2 ∧ c3 ≤ c4) := hc
          cases ok
          all_goals (
            first
              | (have hc' : ¬(out.length = c3 ∧ lst = c2 ∧ c3 ≤ c4) := fun h => hc ⟨rfl, h⟩)
              | (have hc' : ¬(0 = c3 ∧ 0 = c2 ∧ c3 ≤ c4) := fun h => hc ⟨rfl, h⟩)
              | skip
            repeat' (first | refine Ga ?_ | (refine Gb ?_; intro b) | (refine Gd ?_; intro g cap rest hcap) | (refine Gc ?_; intro ad cap) | (refine St.draw (id := 19) [(0, 1), (1, 0), (2, 0), (3, 0), (4, 1), (5, 1), (6, 0), (7, 0), (8, 0), (9, 2), (10, 3), (11, 0)] [10] mixed (by kernel_rfl) ?_) | (refine Ge ?_ ?_ <;> (intro h; try (exfalso; omega))) | fail)
            all_goals first | (exfalso; omega) | skip
            all_goals refine St.d1 Tryz.func18 ⟨_, ⟨_, star [], rfl, rfl, rfl⟩, ?_⟩
            all_goals exact Ent.trans (Ent.star_in []) Ent.go)
    · rw [if_neg hk]
      generalize bk.getD 0 0 = c0 at *
      refine Tri.of_body (vs := [_, _]) Tryz.func18 rfl rfl fun w0 F => ?_
      repeat' (first | refine Ga ?_ | (refine Gb ?_; intro b) | (refine Gd ?_; intro g cap rest hcap) | (refine Gc ?_; intro ad cap) | (refine St.draw (id := 19) [(0, 1), (1, 0), (2, 0), (3, 0), (4, 1), (5, 1), (6, 0), (7, 0), (8, 0), (9, 2), (10, 3), (11, 0)] [10] mixed (by kernel_rfl) ?_)| refine Gl hroot ?_ | refine Gl hw0 ?_ | (refine Ge ?_ ?_ <;> (intro h; try (exfalso; omega))) | fail)
      all_goals first | (exfalso; omega) | skip
      refine St.d1 Tryz.func18 ⟨_, ⟨_, star [], rfl, rfl, rfl⟩, ?_⟩
      exact Ent.trans (Ent.star_in []) Ent.go
end Go.Proofs.YtphheopbngdhhaaGreatDoor
