/-
  Package tumblerref06: Find, with.
-/
import Derived.Test.YtphheopbngdhhaaGreatDoorP0
import Derived.Test.YtphheopbngdhhaaGreatDoorJc
namespace Go.Proofs.YtphheopbngdhhaaGreatDoor
set_option maxRecDepth 100000
/-- sixteen words, and what comes behind them -/
abbrev g16t (l : List Nat) (t : List Value) : List Value := .int .u64 ((l.getD 0 0 : Nat) : Int) :: .int .u64 ((l.getD 1 0 : Nat) : Int) :: .int .u64 ((l.getD 2 0 : Nat) : Int) :: .int .u64 ((l.getD 3 0 : Nat) : Int) :: .int .u64 ((l.getD 4 0 : Nat) : Int) :: .int .u64 ((l.getD 5 0 : Nat) : Int) :: .int .u64 ((l.getD 6 0 : Nat) : Int) :: .int .u64 ((l.getD 7 0 : Nat) : Int) :: .int .u64 ((l.getD 8 0 : Nat) : Int) :: .int .u64 ((l.getD 9 0 : Nat) : Int) :: .int .u64 ((l.getD 10 0 : Nat) : Int) :: .int .u64 ((l.getD 11 0 : Nat) : Int) :: .int .u64 ((l.getD 12 0 : Nat) : Int) :: .int .u64 ((l.getD 13 0 : Nat) : Int) :: .int .u64 ((l.getD 14 0 : Nat) : Int) :: .int .u64 ((l.getD 15 0 : Nat) : Int) :: t
theorem g16t_at {l : List Nat} (t : List Value) {a : Nat} (h1 : a < 16) : NthN a (g16t l t) (.int .u64 ((l.getD a 0 : Nat) : Int)) := by
  have h : a = 0 ∨ a = 1 ∨ a = 2 ∨ a = 3 ∨ a = 4 ∨ a = 5 ∨ a = 6 ∨ a = 7 ∨ a = 8 ∨ a = 9 ∨ a = 10 ∨ a = 11 ∨ a = 12 ∨ a = 13 ∨ a = 14 ∨ a = 15 := by omega
  rcases h with rfl | rfl | rfl | rfl | rfl | rfl | rfl | rfl | rfl | rfl | rfl | rfl | rfl | rfl | rfl | rfl <;> exact NthN.of rfl
theorem g16t_set {l : List Nat} (hl : l.length = 16) (t : List Value) {a : Nat} (h1 : a < 16) (n : Nat) : SetN (.int .u64 (n : Int)) a (g16t l t) (g16t (l.set a n) t) := by
  have h : a = 0 ∨ a = 1 ∨ a = 2 ∨ a = 3 ∨ a = 4 ∨ a = 5 ∨ a = 6 ∨ a = 7 ∨ a = 8 ∨ a = 9 ∨ a = 10 ∨ a = 11 ∨ a = 12 ∨ a = 13 ∨ a = 14 ∨ a = 15 := by omega
  obtain ⟨a0, a1, a2, a3, a4, a5, a6, a7, a8, a9, a10, a11, a12, a13, a14, a15, rfl⟩ := len16 hl
  have key : ∀ (k : Nat) (l l' : List Value), k < l.length → l.set k (.int .u64 (n : Int)) = l' → SetN (.int .u64 (n : Int)) k l l' := fun k l l' hk e => e ▸ SetN.of hk
  rcases h with rfl | rfl | rfl | rfl | rfl | rfl | rfl | rfl | rfl | rfl | rfl | rfl | rfl | rfl | rfl | rfl <;> exact key _ _ _ (by simp) rfl
abbrev g8 (l : List Nat) : List Value := [.int .u64 ((l.getD 0 0 : Nat) : Int), .int .u64 ((l.getD 1 0 : Nat) : Int), .int .u64 ((l.getD 2 0 : Nat) : Int), .int .u64 ((l.getD 3 0 : Nat) : Int), .int .u64 ((l.getD 4 0 : Nat) : Int), .int .u64 ((l.getD 5 0 : Nat) : Int), .int .u64 ((l.getD 6 0 : Nat) : Int), .int .u64 ((l.getD 7 0 : Nat) : Int)]
theorem g8_at {l : List Nat} {a : Nat} (h1 : a < 8) : NthN a (g8 l) (.int .u64 ((l.getD a 0 : Nat) : Int)) := by
  have h : a = 0 ∨ a = 1 ∨ a = 2 ∨ a = 3 ∨ a = 4 ∨ a = 5 ∨ a = 6 ∨ a = 7 := by omega
  rcases h with rfl | rfl | rfl | rfl | rfl | rfl | rfl | rfl <;> exact NthN.of rfl
theorem g8_set {l : List Nat} (hl : l.length = 8) {a : Nat} (h1 : a < 8) (n : Nat) : SetN (.int .u64 (n : Int)) a (g8 l) (g8 (l.set a n)) := by
  have h : a = 0 ∨ a = 1 ∨ a = 2 ∨ a = 3 ∨ a = 4 ∨ a = 5 ∨ a = 6 ∨ a = 7 := by omega
  obtain ⟨x0, x1, x2, x3, x4, x5, x6, x7, rfl⟩ := eight_of hl
  have key : ∀ (k : Nat) (l l' : List Value), k < l.length → l.set k (.int .u64 (n : Int)) = l' → SetN (.int .u64 (n : Int)) k l l' := fun k l l' hk e => e ▸ SetN.of hk
  rcases h with rfl | rfl | rfl | rfl | rfl | rfl | rfl | rfl <;> exact key _ _ _ (by simp) rfl
/-- a block of the document's -/
def boxV (p : Nat × List Nat) : List Value := .int .u64 (p.1 : Int) :: g8 p.2
theorem boxV_len (p : Nat × List Nat) : (boxV p).length = 9 := rfl
theorem box_words {n : Nat} {l l1 vs : List Value} {x : Value} (h : DropN n l l1) (k : TakeN 9 l1 (x :: vs)) : ∃ l2, DropN (n + 1) l l2 ∧ TakeN 8 l2 vs := by
  cases k with
  | succ k2 => exact ⟨_, h.add (.succ .zero), k2⟩
theorem findX_drop (h : Nat) (bs : List (Nat × List Nat)) (k : Nat) (hk : k < bs.length) : findX h (bs.drop k) k = if bs[k].1 = h then (k : Int) else findX h (bs.drop (k + 1)) (k + 1) := by
  rw [List.drop_eq_getElem_cons hk]; rfl
theorem xfind_r (q : HProp) (rs : List Nat) (bv : Value) (bs : List (Nat × List Nat)) (hb : ListR boxV q bv bs) (hbl : bs.length ≤ 1000) (h : Nat) : RTri Tryz.prog 81 #[.agg ⟨g16t rs [bv]⟩, .int .u64 (h : Int)] [q] (.int .i64 (findX h bs 0)) := by
  refine RTri.of_reads fun p hp => ?_
  have hb := hb.weak fun b l h => RdC.of_sat hp (ReadsC.here h)
  obtain ⟨ad, cap, rfl, _, hb⟩ := hb
  generalize hR : findX h bs 0 = R
  refine Tri.of_body (vs := [_, _]) Tryz.func81 rfl rfl fun w0 F => ?_
  repeat' (first | refine Ga ?_ | (refine Gb ?_; intro b) | (refine Gd ?_; intro g cap rest hcap) | (refine Gc ?_; intro ad cap)  | (refine Ge ?_ ?_ <;> (intro h; try (exfalso; omega))) | fail)
  refine St.loopY (Lr := ?Lr1) (ι := { x : Nat // x ≤ bs.length ∧ findX h (bs.drop x) x = R }) (fun x => bs.length - x.1) (fun x => [(5, .int .i64 (x.1 : Int))]) (fun _ => []) ⟨0, Nat.zero_le _, hR⟩ ?hE1 ?hL1 ?round1
  case hE1 => exact Sub.go
  case hL1 => exact Takes.go
  case round1 =>
    rintro ⟨k, hk, hf⟩ IH; dsimp only at hk hf IH ⊢
    by_cases hlt : k < bs.length
    · obtain ⟨bf, o, l, l1, rfl, hrd, hdr, htk⟩ := ListR.at (f := boxV) (sz := 9) boxV_len hb k hlt
      rw [findX_drop h bs k hlt] at hf
      generalize bs[k] = x at htk hf
      obtain ⟨a, w⟩ := x
      unfold boxV at htk
      dsimp only at htk hf
      have hnth : NthN (o + (k : Int).toNat * 9) l (.int .u64 (a : Int)) := NthN.part (j := 0) hdr htk (NthN.of rfl)
      by_cases hx : a = h
      · rw [if_pos hx] at hf
        subst hf
        clear IH
        repeat' (first | refine Ga ?_ | (refine Gb ?_; intro b) | (refine Gd ?_; intro g cap rest hcap) | (refine Gc ?_; intro ad cap)  | (refine Ge ?_ ?_ <;> (intro h; try (exfalso; omega))) | fail)
        all_goals first | (exfalso; omega) | skip
        refine St.d1 Tryz.func81 ⟨_, ⟨rfl, rfl⟩, Ent.go⟩
      · rw [if_neg hx] at hf
        repeat' (first | refine Ga ?_ | (refine Gb ?_; intro b) | (refine Gd ?_; intro g cap rest hcap) | (refine Gc ?_; intro ad cap)  | (refine Ge ?_ ?_ <;> (intro h; try (exfalso; omega))) | fail)
        all_goals first | (exfalso; omega) | skip
        refine IH ⟨k + 1, hlt, hf⟩ (by show bs.length - (k + 1) < bs.length - k; omega) ?_ ?_
        · exact Sub.go
        · exact Ent.go
    · obtain rfl : k = bs.length := by omega
      rw [List.drop_length] at hf
      obtain rfl : -1 = R := hf
      clear IH
      repeat' (first | refine Ga ?_ | (refine Gb ?_; intro b) | (refine Gd ?_; intro g cap rest hcap) | (refine Gc ?_; intro ad cap)  | (refine Ge ?_ ?_ <;> (intro h; try (exfalso; omega))) | fail)
      all_goals first | (exfalso; omega) | skip
      refine St.d1 Tryz.func81 ⟨_, ⟨rfl, rfl⟩, Ent.go⟩
theorem boxV_snoc (l : List (Nat × List Nat)) (x : Nat × List Nat) : (l ++ [x]).flatMap boxV = l.flatMap boxV ++ (.int .u64 (x.1 : Int) :: g8 x.2) := by simp [boxV]
theorem withB_drop (bs : List (Nat × List Nat)) (h : Nat) (w : List Nat) (d : Bool) (k : Nat) (hk : k < bs.length) : withB (bs.drop k) h w d = (if d = false ∧ h ≤ bs[k].1 then [(h, w)] else []) ++ ((if bs[k].1 = h then [] else [bs[k]]) ++ withB (bs.drop (k + 1)) h w (d || decide (h ≤ bs[k].1))) := by
  rw [List.drop_eq_getElem_cons hk]; rfl
def withQ (q : HProp) (rs : List Nat) (bs : List (Nat × List Nat)) (v : Value) (L : List HProp) : Prop := ∃ ad cap, v = .agg ⟨g16t rs [.slice ad bs.length cap]⟩ ∧ L = [Row (.slice ad bs.length cap) 161 9 bs.length (bs.flatMap boxV), q]
set_option maxHeartbeats 2000000 in
theorem xwith_t (q : HProp) (rs : List Nat) (bv : Value) (bs : List (Nat × List Nat)) (hb : ListR boxV q bv bs) (hbl : bs.length ≤ 1000) (hh : Nat) (w : List Nat) : Tri Tryz.prog 151 #[.agg ⟨g16t rs [bv]⟩, .int .u64 (hh : Int), .agg ⟨g8 w⟩] [q] (withQ q rs (withB bs hh w false)) := by
  obtain ⟨ad0, cap0, rfl, _, hb⟩ := hb
  generalize hR : withB bs hh w false = R
  have hRl : R.length ≤ bs.length + 1 := by have := with_len bs hh w false; rw [hR] at this; simpa using this
  refine Tri.of_body (vs := [_, _, _]) Tryz.func151 rfl rfl fun w0 F => ?_
  repeat' (first | refine Ga ?_ | (refine Gb ?_; intro b) | (refine Gd ?_; intro g cap rest hcap) | (refine Gc ?_; intro ad cap)  | (refine Ge ?_ ?_ <;> (intro h; try (exfalso; omega))) | fail)
  revert b; intro B
  refine St.conv ?_ (Sub.refl _) (Ent.row_bl (sz := 9) (n := 0) rfl (by decide))
  refine St.loopY (Lr := ?Lr1) (ι := { x : Nat × List (Nat × List Nat) × Bool × Option Addr × Nat // x.1 ≤ bs.length ∧ x.2.1 ++ withB (bs.drop x.1) hh w x.2.2.1 = R }) (fun x => bs.length - x.1.1)
    (fun x => [(9, .int .i64 (x.1.1 : Int)), (7, .slice x.1.2.2.2.1 x.1.2.1.length x.1.2.2.2.2), (8, .bool x.1.2.2.1)]) (fun x => [Row (.slice x.1.2.2.2.1 x.1.2.1.length x.1.2.2.2.2) 161 9 x.1.2.1.length (x.1.2.1.flatMap boxV)]) ⟨(0, [], false, some ⟨B, 0, none⟩, 0), Nat.zero_le _, hR⟩ ?hE1 ?hL1 ?round1
  case hE1 => exact Sub.go
  case hL1 => exact Takes.go
  case round1 =>
    rintro ⟨⟨k, out, d, oad, ocap⟩, hk, hf⟩ IH; dsimp only at hk hf IH ⊢
    have hol : out.length ≤ 1001 := by have := congrArg List.length hf; rw [List.length_append] at this; omega
    by_cases hlt : k < bs.length
    · obtain ⟨bf, o, l, l1, rfl, hrd, hdr, htk⟩ := ListR.at (f := boxV) (sz := 9) boxV_len hb k hlt
      rw [withB_drop bs hh w d k hlt] at hf
      generalize bs[k] = x at htk hf
      obtain ⟨a, ws⟩ := x
      unfold boxV at htk
      dsimp only at htk hf
      have hnth : NthN (o + (k : Int).toNat * 9) l (.int .u64 (a : Int)) := NthN.part (j := 0) hdr htk (NthN.of rfl)
      by_cases hc : d = false ∧ hh ≤ a
      · rw [if_pos hc] at hf
        obtain ⟨rfl, hc⟩ := hc
        rw [decide_eq_true hc] at hf
        by_cases hx : a = hh
        · rw [if_pos hx] at hf
          repeat' (first | refine Ga ?_ | (refine Gb ?_; intro b) | (refine Gd ?_; intro g cap rest hcap) | (refine Gc ?_; intro ad cap)  | (refine Ge ?_ ?_ <;> (intro h; try (exfalso; omega))) | fail)
          all_goals first | (exfalso; omega) | skip
          refine IH ⟨(k + 1, out ++ [(hh, w)], true, ad, cap), hlt, by rw [← hf]; simp⟩ (by show bs.length - (k + 1) < bs.length - k; omega) ?_ ?_
          · dsimp only; rw [List.length_append]; exact Sub.go
          · dsimp only; rw [List.length_append, boxV_snoc]; exact Ent.go
        · rw [if_neg hx] at hf
          have e2 : out ++ [(hh, w)] ++ [(a, ws)] ++ withB (bs.drop (k + 1)) hh w true = R := by rw [← hf]; simp
          have hl2 : (out ++ [(hh, w)] ++ [(a, ws)]).length = out.length + 1 + 1 := by simp
          repeat' (first | refine Ga ?_ | (refine Gb ?_; intro b) | (refine Gd ?_; intro g cap rest hcap) | (refine Gc ?_; intro ad cap)  | (refine Ge ?_ ?_ <;> (intro h; try (exfalso; omega))) | fail)
          all_goals first | (exfalso; omega) | skip
          refine IH ⟨(k + 1, out ++ [(hh, w)] ++ [(a, ws)], true, ad, cap), hlt, e2⟩ (by show bs.length - (k + 1) < bs.length - k; omega) ?_ ?_
          · dsimp only; rw [hl2]; exact Sub.go
          · dsimp only; rw [hl2, boxV_snoc, boxV_snoc]; exact Ent.go
      · rw [if_neg hc] at hf
        have hd : (d || decide (hh ≤ a)) = d := by
          cases d
          · have : ¬ hh ≤ a := fun hh => hc ⟨rfl, hh⟩
            simp [this]
          · rfl
        rw [hd] at hf
        have hc' : d = true ∨ a < hh := by
          cases d
          · exact .inr (by have : ¬ hh ≤ a := fun hh => hc ⟨rfl, hh⟩; omega)
          · exact .inl rfl
        rcases hc' with rfl | hc'
        · by_cases hx : a = hh
          · rw [if_pos hx] at hf
            repeat' (first | refine Ga ?_ | (refine Gb ?_; intro b) | (refine Gd ?_; intro g cap rest hcap) | (refine Gc ?_; intro ad cap)  | (refine Ge ?_ ?_ <;> (intro h; try (exfalso; omega))) | fail)
            all_goals first | (exfalso; omega) | skip
            refine IH ⟨(k + 1, out, true, oad, ocap), hlt, hf⟩ (by show bs.length - (k + 1) < bs.length - k; omega) ?_ ?_
            · exact Sub.go
            · exact Ent.go
          · rw [if_neg hx] at hf
            repeat' (first | refine Ga ?_ | (refine Gb ?_; intro b) | (refine Gd ?_; intro g cap rest hcap) | (refine Gc ?_; intro ad cap)  | (refine Ge ?_ ?_ <;> (intro h; try (exfalso; omega))) | fail)
            all_goals first | (exfalso; omega) | skip
            refine IH ⟨(k + 1, out ++ [(a, ws)], true, ad, cap), hlt, by rw [← hf]; simp⟩ (by show bs.length - (k + 1) < bs.length - k; omega) ?_ ?_
            · dsimp only; rw [List.length_append]; exact Sub.go
            · dsimp only; rw [List.length_append, boxV_snoc]; exact Ent.go
        · cases d with
          | true =>
            by_cases hx : a = hh
            · omega
            · rw [if_neg hx] at hf
              repeat' (first | refine Ga ?_ | (refine Gb ?_; intro b) | (refine Gd ?_; intro g cap rest hcap) | (refine Gc ?_; intro ad cap)  | (refine Ge ?_ ?_ <;> (intro h; try (exfalso; omega))) | fail)
              all_goals first | (exfalso; omega) | skip
              refine IH ⟨(k + 1, out ++ [(a, ws)], true, ad, cap), hlt, by rw [← hf]; simp⟩ (by show bs.length - (k + 1) < bs.length - k; omega) ?_ ?_
              · dsimp only; rw [List.length_append]; exact Sub.go
              · dsimp only; rw [List.length_append, boxV_snoc]; exact Ent.go
          | false =>
            rw [if_neg (by omega)] at hf
            repeat' (first | refine Ga ?_ | (refine Gb ?_; intro b) | (refine Gd ?_; intro g cap rest hcap) | (refine Gc ?_; intro ad cap)  | (refine Ge ?_ ?_ <;> (intro h; try (exfalso; omega))) | fail)
            all_goals first | (exfalso; omega) | skip
            refine IH ⟨(k + 1, out ++ [(a, ws)], false, ad, cap), hlt, by rw [← hf]; simp⟩ (by show bs.length - (k + 1) < bs.length - k; omega) ?_ ?_
            · dsimp only; rw [List.length_append]; exact Sub.go
            · dsimp only; rw [List.length_append, boxV_snoc]; exact Ent.go
    · obtain rfl : k = bs.length := by omega
      rw [List.drop_length] at hf
      clear IH
      cases d with
      | true =>
        have hf : out ++ [] = R := hf
        rw [List.append_nil] at hf
        subst hf
        repeat' (first | refine Ga ?_ | (refine Gb ?_; intro b) | (refine Gd ?_; intro g cap rest hcap) | (refine Gc ?_; intro ad cap)  | (refine Ge ?_ ?_ <;> (intro h; try (exfalso; omega))) | fail)
        all_goals first | (exfalso; omega) | skip
        refine St.d1 Tryz.func151 ⟨_, ⟨oad, ocap, rfl, rfl⟩, Ent.go⟩
      | false =>
        have hf : out ++ [(hh, w)] = R := hf
        subst hf
        repeat' (first | refine Ga ?_ | (refine Gb ?_; intro b) | (refine Gd ?_; intro g cap rest hcap) | (refine Gc ?_; intro ad cap)  | (refine Ge ?_ ?_ <;> (intro h; try (exfalso; omega))) | fail)
        all_goals first | (exfalso; omega) | skip
        have e1 : (out ++ [(hh, w)]).length = out.length + 1 := by simp
        rw [← e1]
        refine St.d1 Tryz.func151 ⟨_, ⟨ad, cap, rfl, rfl⟩, ?_⟩
        rw [boxV_snoc]
        exact Ent.go
end Go.Proofs.YtphheopbngdhhaaGreatDoor
