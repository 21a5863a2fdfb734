/-
  Package tumblerref22: With.
-/
import Derived.Test.YtphheopbngdhhaaGreatDoorTs2
namespace Go.Proofs.YtphheopbngdhhaaGreatDoor
set_option maxRecDepth 100000
def insP (key val : Nat) (l : Prs) : Prs := loP key l ++ (key, val) :: hiP key l
theorem withP_ins (key val : Nat) (l : Prs) : withP key val l = insP key val (withoutP key l) := rfl
theorem insP_lt {key val : Nat} {x : Nat × Nat} {r : Prs} (h : x.1 < key) : insP key val (x :: r) = x :: insP key val r := by
  unfold insP loP hiP
  rw [List.takeWhile_cons_of_pos (by simpa using h), List.dropWhile_cons_of_pos (by simpa using h)]
  rfl
theorem insP_stop {key val : Nat} {x : Nat × Nat} {r : Prs} (h : ¬x.1 < key) : insP key val (x :: r) = (key, val) :: x :: r := by
  unfold insP loP hiP
  rw [List.takeWhile_cons_of_neg (by simpa using h), List.dropWhile_cons_of_neg (by simpa using h)]
  rfl
theorem drop_cons2 {α : Type} {l : List α} {k : Nat} (h : k < l.length) : l.drop k = l[k] :: l.drop (k + 1) := by simp
set_option maxHeartbeats 2000000 in
theorem rwith_t (H : HProp) (v : Value) (xs0 : Prs) (key val : Nat) (hv : ListR prV H v xs0) (hl : xs0.length ≤ 1000) : Tri Tryz.prog 35 #[v, .agg ⟨[.int .u64 (key : Int), .int .u64 (val : Int)]⟩] [H]
    fun r L => ∃ ad cap, r = .slice ad (withP key val xs0).length cap ∧ L = [Row (.slice ad (withP key val xs0).length cap) 100 2 (withP key val xs0).length ((withP key val xs0).flatMap prV), H] := by
  have hwo := rwithout_t H v xs0 key hv hl
  have hxl := withoutP_len key xs0
  rw [withP_ins]
  generalize withoutP key xs0 = xs at hwo hxl ⊢
  have hfin : ∀ (i : Nat), i ≤ xs.length → insP key val xs = xs.take i ++ (key, val) :: xs.drop i → (insP key val xs).length = i + 1 + (xs.drop i).length ∧ (insP key val xs).flatMap prV = ((xs.take i).flatMap prV ++ [.int .u64 (key : Int), .int .u64 (val : Int)]) ++ (xs.drop i).flatMap prV := fun i hi e => by
    rw [e]
    refine ⟨by rw [List.length_append, List.length_cons, List.length_take]; omega, ?_⟩
    simp [prV]
  refine Tri.of_body (vs := [_, _]) Tryz.func35 rfl rfl fun w0 F => ?_
  repeat' (first | refine St.halt 2 ?_ |refine Ga ?_ | (refine Gb ?_; intro b) | (refine Gd ?_; intro g cap rest hcap) | (refine Gc ?_; intro ad cap) | (refine St.draw (id := 4) [(0, 0), (1, 0), (2, 0), (3, 0), (4, 0), (5, 0), (6, 0), (7, 0), (8, 0), (9, 1), (10, 0), (11, 1), (12, 0), (13, 0)] [] mixed (by kernel_rfl) ?_) | (refine St.draw (id := 8) [(0, 0), (1, 1), (4, 0), (5, 0), (6, 0), (2, 2), (3, 3), (7, 3), (8, 0)] [3, 7] mixed (by kernel_rfl) ?_) | (refine Gt hwo ?_; rintro _ _ ⟨rad, rcap, rfl, rfl⟩) | (refine Ge ?_ ?_ <;> (intro h; try (exfalso; omega))) | fail)
  apply Halt.go
  revert b; intro Bp
  refine St.conv ?_ (Sub.refl _) (Ent.of_take (p := Row (.slice rad xs.length rcap) 100 2 xs.length (xs.flatMap prV)) Take.go)
  refine St.rowL rfl fun R hR => ?_
  obtain ⟨rad', rcap', hreq, hrle, hrs⟩ := hR
  injection hreq with hq1 _ hq3
  subst hq1 hq3
  apply St.seq
  repeat' (first | refine Ga ?_ | (refine Gb ?_; intro b) | (refine Gd ?_; intro g cap rest hcap) | (refine Gc ?_; intro ad cap) | (refine St.draw (id := 4) [(0, 0), (1, 0), (2, 0), (3, 0), (4, 0), (5, 0), (6, 0), (7, 0), (8, 0), (9, 1), (10, 0), (11, 1), (12, 0), (13, 0)] [] mixed (by kernel_rfl) ?_) | (refine St.draw (id := 8) [(0, 0), (1, 1), (4, 0), (5, 0), (6, 0), (2, 2), (3, 3), (7, 3), (8, 0)] [3, 7] mixed (by kernel_rfl) ?_) | (refine Ge ?_ ?_ <;> (intro h; try (exfalso; omega))) | fail)
  revert b; intro B
  refine St.conv ?_ (Sub.refl _) (Ent.row_bl (sz := 2) (n := 0) rfl (by decide))
  refine St.loopY (Lr := ?Lr1) (ι := { x : Nat × Option Addr × Nat // x.1 ≤ xs.length ∧ insP key val xs = xs.take x.1 ++ insP key val (xs.drop x.1) }) (fun x => xs.length - x.1.1)
    (fun x => [(7, .int .i64 (x.1.1 : Int)), (6, .slice x.1.2.1 x.1.1 x.1.2.2)]) (fun x => [Row (.slice x.1.2.1 x.1.1 x.1.2.2) 100 2 x.1.1 ((xs.take x.1.1).flatMap prV)]) ⟨(0, some ⟨B, 0, none⟩, 0), Nat.zero_le _, rfl⟩ ?hE1 ?hL1 ?round1
  case hE1 => exact Sub.go
  case hL1 => exact Takes.go
  case round1 =>
    rintro ⟨⟨i, oad, ocap⟩, hi, ho⟩ IH; dsimp only at hi ho IH ⊢
    by_cases hgo : ∃ h : i < xs.length, xs[i].1 < key
    · obtain ⟨hlt, hxk⟩ := hgo
      obtain ⟨bf, o, l, l1, rfl, hrd, hdr, htk⟩ := ListR.at (f := prV) (sz := 2) prV_len hrs i hlt
      have ho' : insP key val xs = xs.take (i + 1) ++ insP key val (xs.drop (i + 1)) := by
        rw [ho, drop_cons2 hlt, insP_lt hxk, List.take_succ_eq_append_getElem hlt, List.append_assoc]; rfl
      have ht : (xs.take (i + 1)).flatMap prV = (xs.take i).flatMap prV ++ prV xs[i] := by
        rw [List.take_succ_eq_append_getElem hlt, List.flatMap_append]; simp
      generalize xs[i] = x at htk hxk ht
      obtain ⟨a, b0⟩ := x
      unfold prV at htk
      dsimp only at htk hxk
      rw [show prV (a, b0) = [.int .u64 (a : Int), .int .u64 (b0 : Int)] from rfl] at ht
      have hnth : NthN (o + (i : Int).toNat * 2) l (.int .u64 (a : Int)) := NthN.part (j := 0) hdr htk (NthN.of rfl)
      repeat' (first | refine Ga ?_ | (refine Gb ?_; intro b) | (refine Gd ?_; intro g cap rest hcap) | (refine Gc ?_; intro ad cap) | (refine St.draw (id := 4) [(0, 0), (1, 0), (2, 0), (3, 0), (4, 0), (5, 0), (6, 0), (7, 0), (8, 0), (9, 1), (10, 0), (11, 1), (12, 0), (13, 0)] [] mixed (by kernel_rfl) ?_) | (refine St.draw (id := 8) [(0, 0), (1, 1), (4, 0), (5, 0), (6, 0), (2, 2), (3, 3), (7, 3), (8, 0)] [3, 7] mixed (by kernel_rfl) ?_) | (refine Ge ?_ ?_ <;> (intro h; try (exfalso; omega))) | fail)
      all_goals first | (exfalso; omega) | skip
      refine IH ⟨(i + 1, ad, cap), hlt, ho'⟩ (by show xs.length - (i + 1) < xs.length - i; omega) ?_ ?_
      · exact Sub.go
      · dsimp only; rw [ht]; exact Ent.go
    · have hst : insP key val xs = xs.take i ++ (key, val) :: xs.drop i := by
        rw [ho]
        by_cases hlt : i < xs.length
        · rw [drop_cons2 hlt, insP_stop (fun h => hgo ⟨hlt, h⟩)]
        · rw [List.drop_eq_nil_of_le (by omega)]; rfl
      obtain ⟨f1, f2⟩ := hfin i hi hst
      have hdl : (xs.drop i).length = xs.length - i := List.length_drop
      rw [f1, f2]
      clear IH
      by_cases hlt : i < xs.length
      · have hkx : ¬ xs[i].1 < key := fun h => hgo ⟨hlt, h⟩
        obtain ⟨b2, o2, l2, r2, hv2, hrd2, hdr2, htk2⟩ := ListR.drop (f := prV) (sz := 2) prV_len hrs hlt hrle
        obtain ⟨bf, o, l, l1, rfl, hrd, hdr, htk⟩ := ListR.at (f := prV) (sz := 2) prV_len hrs i hlt
        generalize xs[i] = x at htk hkx
        obtain ⟨a, b0⟩ := x
        unfold prV at htk
        dsimp only at htk hkx
        have hnth : NthN (o + (i : Int).toNat * 2) l (.int .u64 (a : Int)) := NthN.part (j := 0) hdr htk (NthN.of rfl)
        clear hdr htk
        rw [hdl]
        have hone : ((xs.drop i).flatMap prV).all one = true := by
          have key' : ∀ l : Prs, (l.flatMap prV).all one = true := by
            intro l
            induction l with
            | nil => rfl
            | cons x xs ih => rw [List.flatMap_cons, List.all_append, ih]; rfl
          exact key' _
        repeat' (first | refine Ga ?_ | (refine Gb ?_; intro b) | (refine Gd ?_; intro g cap rest hcap) | (refine Gc ?_; intro ad cap) | (refine St.draw (id := 4) [(0, 0), (1, 0), (2, 0), (3, 0), (4, 0), (5, 0), (6, 0), (7, 0), (8, 0), (9, 1), (10, 0), (11, 1), (12, 0), (13, 0)] [] mixed (by kernel_rfl) ?_) | (refine St.draw (id := 8) [(0, 0), (1, 1), (4, 0), (5, 0), (6, 0), (2, 2), (3, 3), (7, 3), (8, 0)] [3, 7] mixed (by kernel_rfl) ?_) | (refine Ge ?_ ?_ <;> (intro h; try (exfalso; omega))) | fail)
        all_goals first | (exfalso; omega) | skip
        all_goals (apply StD.v0; rfl; (apply OpV.slLo; rfl; rfl; omega); rfl)
        all_goals repeat' (first | refine Ga ?_ | (refine Gb ?_; intro b) | (refine Gd ?_; intro g cap rest hcap) | (refine Gc ?_; intro ad cap) | (refine St.draw (id := 4) [(0, 0), (1, 0), (2, 0), (3, 0), (4, 0), (5, 0), (6, 0), (7, 0), (8, 0), (9, 1), (10, 0), (11, 1), (12, 0), (13, 0)] [] mixed (by kernel_rfl) ?_) | (refine St.draw (id := 8) [(0, 0), (1, 1), (4, 0), (5, 0), (6, 0), (2, 2), (3, 3), (7, 3), (8, 0)] [3, 7] mixed (by kernel_rfl) ?_) | (refine Ge ?_ ?_ <;> (intro h; try (exfalso; omega))) | fail)
        (apply StD.ok3; rfl; (apply OpOk.append; rfl; exact (by show some (Value.slice (tlN _ _ _ _) _ _) = _; rw [hv2]); (focus (repeat first | exact Take.here | apply Take.there)); (focus (repeat first | exact ReadsC.here RdC.bl | exact ReadsC.here (by assumption) | apply ReadsC.there)); (focus (first | assumption | (repeat constructor))); (focus (first | assumption | (repeat constructor))); (first | rfl | assumption); rfl; rfl; omega; omega); rfl; rintro _ _ ⟨ad2, cap2, rfl, rfl⟩)
        repeat' (first | refine Ga ?_ | (refine Gb ?_; intro b) | (refine Gd ?_; intro g cap rest hcap) | (refine Gc ?_; intro ad cap) | (refine St.draw (id := 4) [(0, 0), (1, 0), (2, 0), (3, 0), (4, 0), (5, 0), (6, 0), (7, 0), (8, 0), (9, 1), (10, 0), (11, 1), (12, 0), (13, 0)] [] mixed (by kernel_rfl) ?_) | (refine St.draw (id := 8) [(0, 0), (1, 1), (4, 0), (5, 0), (6, 0), (2, 2), (3, 3), (7, 3), (8, 0)] [3, 7] mixed (by kernel_rfl) ?_) | (refine Ge ?_ ?_ <;> (intro h; try (exfalso; omega))) | fail)
        refine St.d1 Tryz.func35 ⟨_, ⟨ad2, cap2, rfl, rfl⟩, ?_⟩
        exact Ent.go
      · obtain rfl : i = xs.length := by omega
        have hd0 : xs.drop xs.length = [] := List.drop_length
        rw [hdl, hd0, List.flatMap_nil, List.append_nil, show xs.length - xs.length = 0 by omega, Nat.add_zero]
        repeat' (first | refine Ga ?_ | (refine Gb ?_; intro b) | (refine Gd ?_; intro g cap rest hcap) | (refine Gc ?_; intro ad cap) | (refine St.draw (id := 4) [(0, 0), (1, 0), (2, 0), (3, 0), (4, 0), (5, 0), (6, 0), (7, 0), (8, 0), (9, 1), (10, 0), (11, 1), (12, 0), (13, 0)] [] mixed (by kernel_rfl) ?_) | (refine St.draw (id := 8) [(0, 0), (1, 1), (4, 0), (5, 0), (6, 0), (2, 2), (3, 3), (7, 3), (8, 0)] [3, 7] mixed (by kernel_rfl) ?_) | (refine Ge ?_ ?_ <;> (intro h; try (exfalso; omega))) | fail)
        all_goals first | (exfalso; omega) | skip
        all_goals (apply StD.v0; rfl; (apply OpV.slLo; rfl; rfl; omega); rfl)
        all_goals repeat' (first | refine Ga ?_ | (refine Gb ?_; intro b) | (refine Gd ?_; intro g cap rest hcap) | (refine Gc ?_; intro ad cap) | (refine St.draw (id := 4) [(0, 0), (1, 0), (2, 0), (3, 0), (4, 0), (5, 0), (6, 0), (7, 0), (8, 0), (9, 1), (10, 0), (11, 1), (12, 0), (13, 0)] [] mixed (by kernel_rfl) ?_) | (refine St.draw (id := 8) [(0, 0), (1, 1), (4, 0), (5, 0), (6, 0), (2, 2), (3, 3), (7, 3), (8, 0)] [3, 7] mixed (by kernel_rfl) ?_) | (refine Ge ?_ ?_ <;> (intro h; try (exfalso; omega))) | fail)
        (apply StD.ok3; rfl; (apply OpOk.append0; rfl; exact (by show some (Value.slice _ (xs.length - xs.length) _) = _; rw [show xs.length - xs.length = 0 by omega]); (focus (repeat first | exact Take.here | apply Take.there))); rfl; rintro _ _ ⟨rfl, rfl⟩)
        repeat' (first | refine Ga ?_ | (refine Gb ?_; intro b) | (refine Gd ?_; intro g cap rest hcap) | (refine Gc ?_; intro ad cap) | (refine St.draw (id := 4) [(0, 0), (1, 0), (2, 0), (3, 0), (4, 0), (5, 0), (6, 0), (7, 0), (8, 0), (9, 1), (10, 0), (11, 1), (12, 0), (13, 0)] [] mixed (by kernel_rfl) ?_) | (refine St.draw (id := 8) [(0, 0), (1, 1), (4, 0), (5, 0), (6, 0), (2, 2), (3, 3), (7, 3), (8, 0)] [3, 7] mixed (by kernel_rfl) ?_) | (refine Ge ?_ ?_ <;> (intro h; try (exfalso; omega))) | fail)
        refine St.d1 Tryz.func35 ⟨_, ⟨ad, cap, rfl, rfl⟩, ?_⟩
        exact Ent.go
end Go.Proofs.YtphheopbngdhhaaGreatDoor
