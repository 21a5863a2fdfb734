/-
  Rows of a schedule, as they are sorted: rotate, symMerge.
-/
import Derived.Test.YtemaaenipjinaaaGreatSa
namespace Go.Proofs.YtemaaenipjinaaaGreat
set_option maxRecDepth 100000
theorem rotGo_fuel (m : Nat) : ∀ (f h i j : Nat) (l : List SRowH), 0 < i → 0 < j → i + j ≤ f → i + j ≤ h → rotGo m f i j l = rotGo m h i j l
  | 0, _, i, j, _, hi, hj, hf, _ => by omega
  | f + 1, 0, i, j, _, hi, hj, _, hg => by omega
  | f + 1, h + 1, i, j, l, hi, hj, hf, hg => by
    unfold rotGo
    split
    · rfl
    split
    · exact rotGo_fuel m f h _ _ _ (by omega) (by omega) (by omega) (by omega)
    · exact rotGo_fuel m f h _ _ _ (by omega) (by omega) (by omega) (by omega)
set_option maxHeartbeats 1000000 in
theorem rotS_t (g n cap : Nat) (rest : List Value) (l : List SRowH) (hl : l.length = n) (hn : n ≤ 100000) (a m b : Nat) (ha : a < m) (hm : m < b) (hb : b ≤ n) :
    Tri Tryz.prog 223 #[.slice (some ⟨g, 0, none⟩) n cap, .int .i64 (a : Int), .int .i64 (m : Int), .int .i64 (b : Int), cmpF] [bl g 120 (l.flatMap srV ++ rest)] fun r L => r = .tuple ⟨[]⟩ ∧ L = [bl g 120 ((rotS a m b l).flatMap srV ++ rest)] := by
  unfold rotS
  generalize hR : rotGo m (b - a) (m - a) (b - m) l = R
  have ei : ((m - a : Nat) : Int) = (m : Int) - a := by omega
  have ej : ((b - m : Nat) : Int) = (b : Int) - m := by omega
  refine Tri.of_body (vs := [_, _, _, _, _]) Tryz.func223 rfl rfl fun w0 F => ?_
  repeat' (first | refine Ga ?_ | (refine Gb ?_; intro b) | (refine Gd ?_; intro g cap rest hcap) | (refine Gc ?_; intro ad cap)  | (refine Ge ?_ ?_ <;> (intro h; try (exfalso; omega))) | fail)
  refine St.loopY (Lr := ?Lr1) (ι := { x : Nat × Nat × List SRowH // 0 < x.1 ∧ x.1 ≤ m - a ∧ 0 < x.2.1 ∧ x.2.1 ≤ b - m ∧ x.2.2.length = n ∧ rotGo m (x.1 + x.2.1) x.1 x.2.1 x.2.2 = R }) (fun x => x.1.1 + x.1.2.1) (fun x => [(10, .int .i64 (x.1.1 : Int)), (11, .int .i64 (x.1.2.1 : Int))]) (fun x => [bl g 120 (x.1.2.2.flatMap srV ++ rest)]) ⟨(m - a, b - m, l), by dsimp only; omega, by dsimp only; omega, by dsimp only; omega, by dsimp only; omega, hl, by rw [← hR]; exact rotGo_fuel m (m - a + (b - m)) (b - a) (m - a) (b - m) l (by omega) (by omega) (Nat.le_refl _) (by omega)⟩ ?hE1 ?hL1 ?round1
  case hE1 => dsimp only; rw [ei, ej]; exact Sub.go
  case hL1 => exact Takes.go
  case round1 =>
    rintro ⟨⟨i, j, lk⟩, hi0, hi, hj0, hj, hlk, hgo⟩ IH; dsimp only at hi0 hi hj0 hj hlk hgo IH ⊢
    have e1 : ((m - i : Nat) : Int) = (m : Int) - i := by omega
    rw [show i + j = (i + j - 1) + 1 by omega] at hgo
    unfold rotGo at hgo
    by_cases hij : i = j
    · subst hij
      rw [if_pos rfl] at hgo
      have hsw := swr_t g n cap rest lk hlk hn (m - i) m i (by omega) (by omega)
      rw [e1, hgo] at hsw
      clear IH
      repeat' (first | refine Ga ?_ | (refine Gb ?_; intro b) | (refine Gd ?_; intro g cap rest hcap) | (refine Gc ?_; intro ad cap)  | (refine Gt hsw ?_; rintro _ _ ⟨rfl, rfl⟩) | (refine Ge ?_ ?_ <;> (intro h; try (exfalso; omega))) | fail)
      all_goals first | (exfalso; omega) | skip
      refine St.f1 Tryz.func223 ⟨_, ⟨rfl, rfl⟩, Ent.go⟩
    rw [if_neg hij] at hgo
    by_cases hlt : j < i
    · rw [if_pos hlt] at hgo
      have hsw := swr_t g n cap rest lk hlk hn (m - i) m j (by omega) (by omega)
      rw [e1] at hsw
      have hln := swr_len (m - i) m j lk
      generalize swr (m - i) m j lk = l2 at hgo hsw hln
      repeat' (first | refine Ga ?_ | (refine Gb ?_; intro b) | (refine Gd ?_; intro g cap rest hcap) | (refine Gc ?_; intro ad cap)  | (refine Gt hsw ?_; rintro _ _ ⟨rfl, rfl⟩) | (refine Ge ?_ ?_ <;> (intro h; try (exfalso; omega))) | fail)
      all_goals first | (exfalso; omega) | skip
      refine IH ⟨(i - j, j, l2), by dsimp only; omega, by dsimp only; omega, hj0, hj, by dsimp only; omega, by rw [← hgo]; exact rotGo_fuel m (i - j + j) (i + j - 1) (i - j) j l2 (by omega) hj0 (Nat.le_refl _) (by omega)⟩ (by show i - j + j < i + j; omega) ?_ ?_
      · dsimp only; rw [show ((i - j : Nat) : Int) = (i : Int) - j by omega]; exact Sub.go
      · exact Ent.go
    · rw [if_neg hlt] at hgo
      have hsw := swr_t g n cap rest lk hlk hn (m - i) (m + j - i) i (by omega) (by omega)
      rw [e1, show ((m + j - i : Nat) : Int) = (m : Int) + j - i by omega] at hsw
      have hln := swr_len (m - i) (m + j - i) i lk
      generalize swr (m - i) (m + j - i) i lk = l2 at hgo hsw hln
      repeat' (first | refine Ga ?_ | (refine Gb ?_; intro b) | (refine Gd ?_; intro g cap rest hcap) | (refine Gc ?_; intro ad cap)  | (refine Gt hsw ?_; rintro _ _ ⟨rfl, rfl⟩) | (refine Ge ?_ ?_ <;> (intro h; try (exfalso; omega))) | fail)
      all_goals first | (exfalso; omega) | skip
      refine IH ⟨(i, j - i, l2), hi0, hi, by dsimp only; omega, by dsimp only; omega, by dsimp only; omega, by rw [← hgo]; exact rotGo_fuel m (i + (j - i)) (i + j - 1) i (j - i) l2 hi0 (by omega) (Nat.le_refl _) (by omega)⟩ (by show i + (j - i) < i + j; omega) ?_ ?_
      · dsimp only; rw [show ((j - i : Nat) : Int) = (j : Int) - i by omega]; exact Sub.go
      · exact Ent.go
theorem half_w {i j : Nat} (h : i + j ≤ 1000000) : IntKind.i64.wrap (((i : Int) + (j : Int)) / 2 ^ (Int.toNat 1)) = (((i + j) / 2 : Nat) : Int) := by
  rw [show ((2 : Int) ^ Int.toNat 1) = 2 from rfl, wrap_fits (by simp only [fits]; omega)]
  omega
theorem St.fork {P : Program} {C : Cx} {k k' : List Item} {E : Env} {L : List HProp} {κ : Type} (mx : κ → Env)
    (round : (∀ (x : κ) {E' : Env}, Sub E' (mx x) → St P C k' E' L) → St P C k E L) (after : ∀ x : κ, St P C k' (mx x) L) : St P C k E L :=
  round fun x _ h1 => (after x).conv h1 (Ent.refl _)
set_option maxHeartbeats 4000000 in
theorem sym_t (g n cap : Nat) (rest : List Value) (hn : n ≤ 100000) : ∀ (f a m b : Nat) (l : List SRowH), l.length = n → a < m → m < b → b ≤ n → b - a ≤ f →
    Tri Tryz.prog 196 #[.slice (some ⟨g, 0, none⟩) n cap, .int .i64 (a : Int), .int .i64 (m : Int), .int .i64 (b : Int), cmpF] [bl g 120 (l.flatMap srV ++ rest)] fun r L => r = .tuple ⟨[]⟩ ∧ L = [bl g 120 ((symGo f a m b l).flatMap srV ++ rest)]
  | 0, a, m, b, l, _, h1, h2, _, h => by omega
  | f + 1, a, m, b, l, hl, ham, hmb, hbn, hf => by
    have hrec := sym_t g n cap rest hn f
    generalize hR : symGo (f + 1) a m b l = R
    unfold symGo at hR
    by_cases c1 : m - a = 1
    · rw [if_pos c1] at hR
      clear hrec
      generalize hT : (fun h => ltA l h a) = T at hR
      generalize hs : half T m b = s at hR
      refine Tri.of_body (vs := [_, _, _, _, _]) Tryz.func196 rfl rfl fun w0 F => ?_
      repeat' (first | refine Ga ?_ | (refine Gb ?_; intro b) | (refine Gd ?_; intro g cap rest hcap) | (refine Gc ?_; intro ad cap) | (refine St.draw (id := 5) [(0, 0), (1, 0), (2, 0), (3, 0), (4, 1), (5, 0), (6, 0), (7, 0), (8, 1), (9, 3), (10, 0)] [9] mixed (by kernel_rfl) ?_) | (refine St.draw (id := 11) [(0, 0), (1, 0), (2, 0), (3, 0), (4, 0), (5, 0), (6, 0), (7, 0), (8, 0), (9, 1), (10, 0), (11, 0), (12, 0), (13, 1), (14, 0), (15, 3), (16, 0), (17, 3)] [15, 17] mixed (by kernel_rfl) ?_) | (refine St.draw (id := 17) [(0, 0), (1, 0), (2, 0), (3, 0), (4, 1), (5, 0), (6, 0), (7, 0), (8, 1), (9, 3), (10, 0), (11, 0)] [9] mixed (by kernel_rfl) ?_) | (refine St.draw (id := 23) [(0, 0), (1, 0), (2, 0), (3, 0), (4, 0), (5, 0), (6, 0), (7, 0), (8, 0), (9, 1), (10, 0), (11, 0), (12, 0), (13, 1), (14, 0), (15, 3), (16, 0), (17, 3)] [15, 17] mixed (by kernel_rfl) ?_) | (refine St.draw (id := 35) [(0, 0), (1, 0), (2, 0), (3, 0), (4, 0), (5, 0), (6, 1), (7, 0), (8, 0), (9, 0), (10, 1), (11, 3), (12, 0), (13, 0)] [11] mixed (by kernel_rfl) ?_) | (refine Ge ?_ ?_ <;> (intro h; try (exfalso; omega))) | fail)
      all_goals first | (exfalso; omega) | skip
      refine St.loopY (Lr := ?Lr1) (ι := { x : Nat × Nat // m ≤ x.1 ∧ x.1 ≤ x.2 ∧ x.2 ≤ b ∧ half T x.1 x.2 = s }) (fun x => x.1.2 - x.1.1) (fun x => [(10, .int .i64 (x.1.1 : Int)), (11, .int .i64 (x.1.2 : Int))]) (fun _ => []) ⟨(m, b), Nat.le_refl _, by dsimp only; omega, Nat.le_refl _, hs⟩ ?hE1 ?hL1 ?round1
      case hE1 => exact Sub.go
      case hL1 => exact Takes.go
      case round1 =>
        rintro ⟨⟨i, j⟩, hi, hij, hj, hgo⟩ IH; dsimp only at hi hij hj hgo IH ⊢
        by_cases hlt : i < j
        · rw [half_lt T hlt] at hgo
          have hW := half_w (i := i) (j := j) (by omega)
          obtain ⟨h, hh⟩ : ∃ h, (i + j) / 2 = h := ⟨_, rfl⟩
          rw [hh] at hgo hW
          obtain ⟨x, y, r1, r2, mid, ⟨d1, t1⟩, ⟨d2, t2⟩, _, _, hx⟩ := sr_swap (l := l) rest (z1 := (h : Int)) (z2 := (a : Int)) (i := h) (j := a) rfl rfl (by omega) (by omega)
          have hTh : T h = ltA l h a := by rw [← hT]
          rw [hTh] at hgo
          have hcmp := rowcmp_r x y
          have hc0 := cmpZ_neg x.1.at_ y.1.at_
          unfold srV at t1 t2 hcmp
          rename_i h
          repeat' (first | refine St.halt 5 ?_ |refine Ga ?_ | (refine Gb ?_; intro b) | (refine Gd ?_; intro g cap rest hcap) | (refine Gc ?_; intro ad cap) | (refine St.draw (id := 5) [(0, 0), (1, 0), (2, 0), (3, 0), (4, 1), (5, 0), (6, 0), (7, 0), (8, 1), (9, 3), (10, 0)] [9] mixed (by kernel_rfl) ?_) | (refine St.draw (id := 11) [(0, 0), (1, 0), (2, 0), (3, 0), (4, 0), (5, 0), (6, 0), (7, 0), (8, 0), (9, 1), (10, 0), (11, 0), (12, 0), (13, 1), (14, 0), (15, 3), (16, 0), (17, 3)] [15, 17] mixed (by kernel_rfl) ?_) | (refine St.draw (id := 17) [(0, 0), (1, 0), (2, 0), (3, 0), (4, 1), (5, 0), (6, 0), (7, 0), (8, 1), (9, 3), (10, 0), (11, 0)] [9] mixed (by kernel_rfl) ?_) | (refine St.draw (id := 23) [(0, 0), (1, 0), (2, 0), (3, 0), (4, 0), (5, 0), (6, 0), (7, 0), (8, 0), (9, 1), (10, 0), (11, 0), (12, 0), (13, 1), (14, 0), (15, 3), (16, 0), (17, 3)] [15, 17] mixed (by kernel_rfl) ?_) | (refine St.draw (id := 35) [(0, 0), (1, 0), (2, 0), (3, 0), (4, 0), (5, 0), (6, 1), (7, 0), (8, 0), (9, 0), (10, 1), (11, 3), (12, 0), (13, 0)] [11] mixed (by kernel_rfl) ?_) | (refine Ge ?_ ?_ <;> (intro h; try (exfalso; omega))) | fail)
          all_goals first | (exfalso; omega) | skip
          apply Halt.go
          rw [hW]
          by_cases hc : x.1.at_ < y.1.at_
          · rw [if_pos (hx.1 hc)] at hgo
            have hc1 := hc0.2 hc
            repeat' (first | refine Ga ?_ | (refine Gb ?_; intro b) | (refine Gd ?_; intro g cap rest hcap) | (refine Gc ?_; intro ad cap) | (refine St.draw (id := 5) [(0, 0), (1, 0), (2, 0), (3, 0), (4, 1), (5, 0), (6, 0), (7, 0), (8, 1), (9, 1), (10, 0)] [] mixed (by kernel_rfl) ?_) | (refine St.draw (id := 11) [(0, 0), (1, 0), (2, 0), (3, 0), (4, 0), (5, 0), (6, 0), (7, 0), (8, 0), (9, 1), (10, 0), (11, 0), (12, 0), (13, 1), (14, 0), (15, 3), (16, 0), (17, 3)] [15, 17] mixed (by kernel_rfl) ?_) | (refine St.draw (id := 17) [(0, 0), (1, 0), (2, 0), (3, 0), (4, 1), (5, 0), (6, 0), (7, 0), (8, 1), (9, 1), (10, 0), (11, 0)] [] mixed (by kernel_rfl) ?_) | (refine St.draw (id := 23) [(0, 0), (1, 0), (2, 0), (3, 0), (4, 0), (5, 0), (6, 0), (7, 0), (8, 0), (9, 1), (10, 0), (11, 0), (12, 0), (13, 1), (14, 0), (15, 3), (16, 0), (17, 3)] [15, 17] mixed (by kernel_rfl) ?_) | (refine St.draw (id := 35) [(0, 0), (1, 0), (2, 0), (3, 0), (4, 0), (5, 0), (6, 1), (7, 0), (8, 0), (9, 0), (10, 1), (11, 1), (12, 0), (13, 0)] [] mixed (by kernel_rfl) ?_)| refine Ka (OpC.callv (by rfl) Evs.go) hcmp Oh ?_ | refine Kb rfl (OpC.callv (by rfl) Evs.go) hcmp Oi ?_ | refine Kc rfl Oj (OpC.callv (by rfl) Evs.go) hcmp Oi ?_ | (refine Ge ?_ ?_ <;> (intro h; try (exfalso; omega))) | fail)
            all_goals first | (exfalso; omega) | skip
            refine IH ⟨(_ + 1, j), by dsimp only; omega, by dsimp only; omega, hj, hgo⟩ (by dsimp only; omega) ?_ ?_
            · exact Sub.go
            · exact Ent.go
          · rw [if_neg (fun h => hc (hx.2 h))] at hgo
            have hc1 : ¬ cmpZ x.1.at_ y.1.at_ < 0 := fun h => hc (hc0.1 h)
            repeat' (first | refine Ga ?_ | (refine Gb ?_; intro b) | (refine Gd ?_; intro g cap rest hcap) | (refine Gc ?_; intro ad cap) | (refine St.draw (id := 5) [(0, 0), (1, 0), (2, 0), (3, 0), (4, 1), (5, 0), (6, 0), (7, 0), (8, 1), (9, 1), (10, 0)] [] mixed (by kernel_rfl) ?_) | (refine St.draw (id := 11) [(0, 0), (1, 0), (2, 0), (3, 0), (4, 0), (5, 0), (6, 0), (7, 0), (8, 0), (9, 1), (10, 0), (11, 0), (12, 0), (13, 1), (14, 0), (15, 3), (16, 0), (17, 3)] [15, 17] mixed (by kernel_rfl) ?_) | (refine St.draw (id := 17) [(0, 0), (1, 0), (2, 0), (3, 0), (4, 1), (5, 0), (6, 0), (7, 0), (8, 1), (9, 1), (10, 0), (11, 0)] [] mixed (by kernel_rfl) ?_) | (refine St.draw (id := 23) [(0, 0), (1, 0), (2, 0), (3, 0), (4, 0), (5, 0), (6, 0), (7, 0), (8, 0), (9, 1), (10, 0), (11, 0), (12, 0), (13, 1), (14, 0), (15, 3), (16, 0), (17, 3)] [15, 17] mixed (by kernel_rfl) ?_) | (refine St.draw (id := 35) [(0, 0), (1, 0), (2, 0), (3, 0), (4, 0), (5, 0), (6, 1), (7, 0), (8, 0), (9, 0), (10, 1), (11, 1), (12, 0), (13, 0)] [] mixed (by kernel_rfl) ?_)| refine Ka (OpC.callv (by rfl) Evs.go) hcmp Oh ?_ | refine Kb rfl (OpC.callv (by rfl) Evs.go) hcmp Oi ?_ | refine Kc rfl Oj (OpC.callv (by rfl) Evs.go) hcmp Oi ?_ | (refine Ge ?_ ?_ <;> (intro h; try (exfalso; omega))) | fail)
            all_goals first | (exfalso; omega) | skip
            refine IH ⟨(i, _), hi, by dsimp only; omega, by dsimp only; omega, hgo⟩ (by dsimp only; omega) ?_ ?_
            · exact Sub.go
            · exact Ent.go
        · rw [half_ge T (by omega)] at hgo
          subst hgo
          clear IH
          repeat' (first | refine Ga ?_ | (refine Gb ?_; intro b) | (refine Gd ?_; intro g cap rest hcap) | (refine Gc ?_; intro ad cap) | (refine St.draw (id := 5) [(0, 0), (1, 0), (2, 0), (3, 0), (4, 1), (5, 0), (6, 0), (7, 0), (8, 1), (9, 3), (10, 0)] [9] mixed (by kernel_rfl) ?_) | (refine St.draw (id := 11) [(0, 0), (1, 0), (2, 0), (3, 0), (4, 0), (5, 0), (6, 0), (7, 0), (8, 0), (9, 1), (10, 0), (11, 0), (12, 0), (13, 1), (14, 0), (15, 3), (16, 0), (17, 3)] [15, 17] mixed (by kernel_rfl) ?_) | (refine St.draw (id := 17) [(0, 0), (1, 0), (2, 0), (3, 0), (4, 1), (5, 0), (6, 0), (7, 0), (8, 1), (9, 3), (10, 0), (11, 0)] [9] mixed (by kernel_rfl) ?_) | (refine St.draw (id := 23) [(0, 0), (1, 0), (2, 0), (3, 0), (4, 0), (5, 0), (6, 0), (7, 0), (8, 0), (9, 1), (10, 0), (11, 0), (12, 0), (13, 1), (14, 0), (15, 3), (16, 0), (17, 3)] [15, 17] mixed (by kernel_rfl) ?_) | (refine St.draw (id := 35) [(0, 0), (1, 0), (2, 0), (3, 0), (4, 0), (5, 0), (6, 1), (7, 0), (8, 0), (9, 0), (10, 1), (11, 3), (12, 0), (13, 0)] [11] mixed (by kernel_rfl) ?_) | (refine Ge ?_ ?_ <;> (intro h; try (exfalso; omega))) | fail)
          all_goals first | (exfalso; omega) | skip
          refine St.loopY (Lr := ?Lr2) (ι := { x : Nat × List SRowH // a ≤ x.1 ∧ x.1 ≤ i - 1 ∧ x.2.length = n ∧ upGo (i - 1 - x.1) x.1 x.2 = R }) (fun x => i - x.1.1) (fun x => [(13, .int .i64 (x.1.1 : Int))]) (fun x => [bl g 120 (x.1.2.flatMap srV ++ rest)]) ⟨(a, l), Nat.le_refl _, by dsimp only; omega, hl, hR⟩ ?hE2 ?hL2 ?round2
          case hE2 => exact Sub.go
          case hL2 => exact Takes.go
          case round2 =>
            rintro ⟨⟨k, lk⟩, hk0, hk, hlk, hko⟩ IH; dsimp only at hk0 hk hlk hko IH ⊢
            by_cases hlt2 : k < i - 1
            · obtain ⟨x, y, r1, r2, mid, ⟨d1, t1⟩, ⟨d2, t2⟩, s1, s2, _⟩ := sr_swap (l := lk) rest (z1 := (k : Int)) (z2 := (k : Int) + 1) (i := k) (j := k + 1) rfl (by omega) (by omega) (by omega)
              unfold srV at t1 t2
              rw [show i - 1 - k = (i - 1 - (k + 1)) + 1 by omega] at hko
              have hko : upGo (i - 1 - (k + 1)) (k + 1) (swp lk k (k + 1)) = R := hko
              have hln : (swp lk k (k + 1)).length = n := by rw [swp_len]; exact hlk
              repeat' (first | refine Ga ?_ | (refine Gb ?_; intro b) | (refine Gd ?_; intro g cap rest hcap) | (refine Gc ?_; intro ad cap) | (refine St.draw (id := 5) [(0, 0), (1, 0), (2, 0), (3, 0), (4, 1), (5, 0), (6, 0), (7, 0), (8, 1), (9, 3), (10, 0)] [9] mixed (by kernel_rfl) ?_) | (refine St.draw (id := 11) [(0, 0), (1, 0), (2, 0), (3, 0), (4, 0), (5, 0), (6, 0), (7, 0), (8, 0), (9, 1), (10, 0), (11, 0), (12, 0), (13, 1), (14, 0), (15, 3), (16, 0), (17, 3)] [15, 17] mixed (by kernel_rfl) ?_) | (refine St.draw (id := 17) [(0, 0), (1, 0), (2, 0), (3, 0), (4, 1), (5, 0), (6, 0), (7, 0), (8, 1), (9, 3), (10, 0), (11, 0)] [9] mixed (by kernel_rfl) ?_) | (refine St.draw (id := 23) [(0, 0), (1, 0), (2, 0), (3, 0), (4, 0), (5, 0), (6, 0), (7, 0), (8, 0), (9, 1), (10, 0), (11, 0), (12, 0), (13, 1), (14, 0), (15, 3), (16, 0), (17, 3)] [15, 17] mixed (by kernel_rfl) ?_) | (refine St.draw (id := 35) [(0, 0), (1, 0), (2, 0), (3, 0), (4, 0), (5, 0), (6, 1), (7, 0), (8, 0), (9, 0), (10, 1), (11, 3), (12, 0), (13, 0)] [11] mixed (by kernel_rfl) ?_) | (refine Ge ?_ ?_ <;> (intro h; try (exfalso; omega))) | fail)
              all_goals first | (exfalso; omega) | skip
              refine IH ⟨(k + 1, swp lk k (k + 1)), by dsimp only; omega, by dsimp only; omega, hln, hko⟩ (by dsimp only; omega) ?_ ?_
              · exact Sub.go
              · exact Ent.go
            · rw [show i - 1 - k = 0 by omega] at hko
              have hko : lk = R := hko
              subst hko
              clear IH
              repeat' (first | refine Ga ?_ | (refine Gb ?_; intro b) | (refine Gd ?_; intro g cap rest hcap) | (refine Gc ?_; intro ad cap) | (refine St.draw (id := 5) [(0, 0), (1, 0), (2, 0), (3, 0), (4, 1), (5, 0), (6, 0), (7, 0), (8, 1), (9, 3), (10, 0)] [9] mixed (by kernel_rfl) ?_) | (refine St.draw (id := 11) [(0, 0), (1, 0), (2, 0), (3, 0), (4, 0), (5, 0), (6, 0), (7, 0), (8, 0), (9, 1), (10, 0), (11, 0), (12, 0), (13, 1), (14, 0), (15, 3), (16, 0), (17, 3)] [15, 17] mixed (by kernel_rfl) ?_) | (refine St.draw (id := 17) [(0, 0), (1, 0), (2, 0), (3, 0), (4, 1), (5, 0), (6, 0), (7, 0), (8, 1), (9, 3), (10, 0), (11, 0)] [9] mixed (by kernel_rfl) ?_) | (refine St.draw (id := 23) [(0, 0), (1, 0), (2, 0), (3, 0), (4, 0), (5, 0), (6, 0), (7, 0), (8, 0), (9, 1), (10, 0), (11, 0), (12, 0), (13, 1), (14, 0), (15, 3), (16, 0), (17, 3)] [15, 17] mixed (by kernel_rfl) ?_) | (refine St.draw (id := 35) [(0, 0), (1, 0), (2, 0), (3, 0), (4, 0), (5, 0), (6, 1), (7, 0), (8, 0), (9, 0), (10, 1), (11, 3), (12, 0), (13, 0)] [11] mixed (by kernel_rfl) ?_) | (refine Ge ?_ ?_ <;> (intro h; try (exfalso; omega))) | fail)
              all_goals first | (exfalso; omega) | skip
              refine St.d1 Tryz.func196 ⟨_, ⟨rfl, rfl⟩, Ent.go⟩
    rw [if_neg c1] at hR
    by_cases c2 : b - m = 1
    · rw [if_pos c2] at hR
      clear hrec
      generalize hT : (fun h => !ltA l m h) = T at hR
      generalize hs : half T a m = s at hR
      refine Tri.of_body (vs := [_, _, _, _, _]) Tryz.func196 rfl rfl fun w0 F => ?_
      repeat' (first | refine Ga ?_ | (refine Gb ?_; intro b) | (refine Gd ?_; intro g cap rest hcap) | (refine Gc ?_; intro ad cap) | (refine St.draw (id := 5) [(0, 0), (1, 0), (2, 0), (3, 0), (4, 1), (5, 0), (6, 0), (7, 0), (8, 1), (9, 3), (10, 0)] [9] mixed (by kernel_rfl) ?_) | (refine St.draw (id := 11) [(0, 0), (1, 0), (2, 0), (3, 0), (4, 0), (5, 0), (6, 0), (7, 0), (8, 0), (9, 1), (10, 0), (11, 0), (12, 0), (13, 1), (14, 0), (15, 3), (16, 0), (17, 3)] [15, 17] mixed (by kernel_rfl) ?_) | (refine St.draw (id := 17) [(0, 0), (1, 0), (2, 0), (3, 0), (4, 1), (5, 0), (6, 0), (7, 0), (8, 1), (9, 3), (10, 0), (11, 0)] [9] mixed (by kernel_rfl) ?_) | (refine St.draw (id := 23) [(0, 0), (1, 0), (2, 0), (3, 0), (4, 0), (5, 0), (6, 0), (7, 0), (8, 0), (9, 1), (10, 0), (11, 0), (12, 0), (13, 1), (14, 0), (15, 3), (16, 0), (17, 3)] [15, 17] mixed (by kernel_rfl) ?_) | (refine St.draw (id := 35) [(0, 0), (1, 0), (2, 0), (3, 0), (4, 0), (5, 0), (6, 1), (7, 0), (8, 0), (9, 0), (10, 1), (11, 3), (12, 0), (13, 0)] [11] mixed (by kernel_rfl) ?_) | (refine Ge ?_ ?_ <;> (intro h; try (exfalso; omega))) | fail)
      all_goals first | (exfalso; omega) | skip
      refine St.loopY (Lr := ?Lr3) (ι := { x : Nat × Nat // a ≤ x.1 ∧ x.1 ≤ x.2 ∧ x.2 ≤ m ∧ half T x.1 x.2 = s }) (fun x => x.1.2 - x.1.1) (fun x => [(14, .int .i64 (x.1.1 : Int)), (15, .int .i64 (x.1.2 : Int))]) (fun _ => []) ⟨(a, m), Nat.le_refl _, by dsimp only; omega, Nat.le_refl _, hs⟩ ?hE1 ?hL1 ?round1
      case hE1 => exact Sub.go
      case hL1 => exact Takes.go
      case round1 =>
        rintro ⟨⟨i, j⟩, hi, hij, hj, hgo⟩ IH; dsimp only at hi hij hj hgo IH ⊢
        by_cases hlt : i < j
        · rw [half_lt T hlt] at hgo
          have hW := half_w (i := i) (j := j) (by omega)
          obtain ⟨h, hh⟩ : ∃ h, (i + j) / 2 = h := ⟨_, rfl⟩
          rw [hh] at hgo hW
          obtain ⟨x, y, r1, r2, mid, ⟨d1, t1⟩, ⟨d2, t2⟩, _, _, hx⟩ := sr_swap (l := l) rest (z1 := (m : Int)) (z2 := (h : Int)) (i := m) (j := h) rfl rfl (by omega) (by omega)
          have hTh : T h = !ltA l m h := by rw [← hT]
          rw [hTh] at hgo
          have hcmp := rowcmp_r x y
          have hc0 := cmpZ_neg x.1.at_ y.1.at_
          unfold srV at t1 t2 hcmp
          rename_i h
          repeat' (first | refine St.halt 17 ?_ |refine Ga ?_ | (refine Gb ?_; intro b) | (refine Gd ?_; intro g cap rest hcap) | (refine Gc ?_; intro ad cap) | (refine St.draw (id := 5) [(0, 0), (1, 0), (2, 0), (3, 0), (4, 1), (5, 0), (6, 0), (7, 0), (8, 1), (9, 3), (10, 0)] [9] mixed (by kernel_rfl) ?_) | (refine St.draw (id := 11) [(0, 0), (1, 0), (2, 0), (3, 0), (4, 0), (5, 0), (6, 0), (7, 0), (8, 0), (9, 1), (10, 0), (11, 0), (12, 0), (13, 1), (14, 0), (15, 3), (16, 0), (17, 3)] [15, 17] mixed (by kernel_rfl) ?_) | (refine St.draw (id := 17) [(0, 0), (1, 0), (2, 0), (3, 0), (4, 1), (5, 0), (6, 0), (7, 0), (8, 1), (9, 3), (10, 0), (11, 0)] [9] mixed (by kernel_rfl) ?_) | (refine St.draw (id := 23) [(0, 0), (1, 0), (2, 0), (3, 0), (4, 0), (5, 0), (6, 0), (7, 0), (8, 0), (9, 1), (10, 0), (11, 0), (12, 0), (13, 1), (14, 0), (15, 3), (16, 0), (17, 3)] [15, 17] mixed (by kernel_rfl) ?_) | (refine St.draw (id := 35) [(0, 0), (1, 0), (2, 0), (3, 0), (4, 0), (5, 0), (6, 1), (7, 0), (8, 0), (9, 0), (10, 1), (11, 3), (12, 0), (13, 0)] [11] mixed (by kernel_rfl) ?_) | (refine Ge ?_ ?_ <;> (intro h; try (exfalso; omega))) | fail)
          all_goals first | (exfalso; omega) | skip
          apply Halt.go
          rw [hW]
          by_cases hc : x.1.at_ < y.1.at_
          · rw [hx.1 hc, if_neg (by decide)] at hgo
            have hc1 := hc0.2 hc
            repeat' (first | refine Ga ?_ | (refine Gb ?_; intro b) | (refine Gd ?_; intro g cap rest hcap) | (refine Gc ?_; intro ad cap) | (refine St.draw (id := 5) [(0, 0), (1, 0), (2, 0), (3, 0), (4, 1), (5, 0), (6, 0), (7, 0), (8, 1), (9, 1), (10, 0)] [] mixed (by kernel_rfl) ?_) | (refine St.draw (id := 11) [(0, 0), (1, 0), (2, 0), (3, 0), (4, 0), (5, 0), (6, 0), (7, 0), (8, 0), (9, 1), (10, 0), (11, 0), (12, 0), (13, 1), (14, 0), (15, 3), (16, 0), (17, 3)] [15, 17] mixed (by kernel_rfl) ?_) | (refine St.draw (id := 17) [(0, 0), (1, 0), (2, 0), (3, 0), (4, 1), (5, 0), (6, 0), (7, 0), (8, 1), (9, 1), (10, 0), (11, 0)] [] mixed (by kernel_rfl) ?_) | (refine St.draw (id := 23) [(0, 0), (1, 0), (2, 0), (3, 0), (4, 0), (5, 0), (6, 0), (7, 0), (8, 0), (9, 1), (10, 0), (11, 0), (12, 0), (13, 1), (14, 0), (15, 3), (16, 0), (17, 3)] [15, 17] mixed (by kernel_rfl) ?_) | (refine St.draw (id := 35) [(0, 0), (1, 0), (2, 0), (3, 0), (4, 0), (5, 0), (6, 1), (7, 0), (8, 0), (9, 0), (10, 1), (11, 1), (12, 0), (13, 0)] [] mixed (by kernel_rfl) ?_)| refine Ka (OpC.callv (by rfl) Evs.go) hcmp Oh ?_ | refine Kb rfl (OpC.callv (by rfl) Evs.go) hcmp Oi ?_ | refine Kc rfl Oj (OpC.callv (by rfl) Evs.go) hcmp Oi ?_ | (refine Ge ?_ ?_ <;> (intro h; try (exfalso; omega))) | fail)
            all_goals first | (exfalso; omega) | (exact absurd h (by rw [decide_eq_true hc1]; decide)) | skip
            refine IH ⟨(i, _), hi, by dsimp only; omega, by dsimp only; omega, hgo⟩ (by dsimp only; omega) ?_ ?_
            · exact Sub.go
            · exact Ent.go
          · rw [show ltA l m _ = false from by simpa using fun h => hc (hx.2 h), if_pos (by decide)] at hgo
            have hc1 : ¬ cmpZ x.1.at_ y.1.at_ < 0 := fun h => hc (hc0.1 h)
            repeat' (first | refine Ga ?_ | (refine Gb ?_; intro b) | (refine Gd ?_; intro g cap rest hcap) | (refine Gc ?_; intro ad cap) | (refine St.draw (id := 5) [(0, 0), (1, 0), (2, 0), (3, 0), (4, 1), (5, 0), (6, 0), (7, 0), (8, 1), (9, 1), (10, 0)] [] mixed (by kernel_rfl) ?_) | (refine St.draw (id := 11) [(0, 0), (1, 0), (2, 0), (3, 0), (4, 0), (5, 0), (6, 0), (7, 0), (8, 0), (9, 1), (10, 0), (11, 0), (12, 0), (13, 1), (14, 0), (15, 3), (16, 0), (17, 3)] [15, 17] mixed (by kernel_rfl) ?_) | (refine St.draw (id := 17) [(0, 0), (1, 0), (2, 0), (3, 0), (4, 1), (5, 0), (6, 0), (7, 0), (8, 1), (9, 1), (10, 0), (11, 0)] [] mixed (by kernel_rfl) ?_) | (refine St.draw (id := 23) [(0, 0), (1, 0), (2, 0), (3, 0), (4, 0), (5, 0), (6, 0), (7, 0), (8, 0), (9, 1), (10, 0), (11, 0), (12, 0), (13, 1), (14, 0), (15, 3), (16, 0), (17, 3)] [15, 17] mixed (by kernel_rfl) ?_) | (refine St.draw (id := 35) [(0, 0), (1, 0), (2, 0), (3, 0), (4, 0), (5, 0), (6, 1), (7, 0), (8, 0), (9, 0), (10, 1), (11, 1), (12, 0), (13, 0)] [] mixed (by kernel_rfl) ?_)| refine Ka (OpC.callv (by rfl) Evs.go) hcmp Oh ?_ | refine Kb rfl (OpC.callv (by rfl) Evs.go) hcmp Oi ?_ | refine Kc rfl Oj (OpC.callv (by rfl) Evs.go) hcmp Oi ?_ | (refine Ge ?_ ?_ <;> (intro h; try (exfalso; omega))) | fail)
            all_goals first | (exfalso; omega) | (exact absurd h (by rw [decide_eq_false hc1]; decide)) | skip
            refine IH ⟨(_ + 1, j), by dsimp only; omega, by dsimp only; omega, hj, hgo⟩ (by dsimp only; omega) ?_ ?_
            · exact Sub.go
            · exact Ent.go
        · rw [half_ge T (by omega)] at hgo
          subst hgo
          clear IH
          repeat' (first | refine Ga ?_ | (refine Gb ?_; intro b) | (refine Gd ?_; intro g cap rest hcap) | (refine Gc ?_; intro ad cap) | (refine St.draw (id := 5) [(0, 0), (1, 0), (2, 0), (3, 0), (4, 1), (5, 0), (6, 0), (7, 0), (8, 1), (9, 3), (10, 0)] [9] mixed (by kernel_rfl) ?_) | (refine St.draw (id := 11) [(0, 0), (1, 0), (2, 0), (3, 0), (4, 0), (5, 0), (6, 0), (7, 0), (8, 0), (9, 1), (10, 0), (11, 0), (12, 0), (13, 1), (14, 0), (15, 3), (16, 0), (17, 3)] [15, 17] mixed (by kernel_rfl) ?_) | (refine St.draw (id := 17) [(0, 0), (1, 0), (2, 0), (3, 0), (4, 1), (5, 0), (6, 0), (7, 0), (8, 1), (9, 3), (10, 0), (11, 0)] [9] mixed (by kernel_rfl) ?_) | (refine St.draw (id := 23) [(0, 0), (1, 0), (2, 0), (3, 0), (4, 0), (5, 0), (6, 0), (7, 0), (8, 0), (9, 1), (10, 0), (11, 0), (12, 0), (13, 1), (14, 0), (15, 3), (16, 0), (17, 3)] [15, 17] mixed (by kernel_rfl) ?_) | (refine St.draw (id := 35) [(0, 0), (1, 0), (2, 0), (3, 0), (4, 0), (5, 0), (6, 1), (7, 0), (8, 0), (9, 0), (10, 1), (11, 3), (12, 0), (13, 0)] [11] mixed (by kernel_rfl) ?_) | (refine Ge ?_ ?_ <;> (intro h; try (exfalso; omega))) | fail)
          all_goals first | (exfalso; omega) | skip
          refine St.loopY (Lr := ?Lr4) (ι := { x : Nat × List SRowH // i ≤ x.1 ∧ x.1 ≤ m ∧ x.2.length = n ∧ dnGo (x.1 - i) x.1 x.2 = R }) (fun x => x.1.1) (fun x => [(17, .int .i64 (x.1.1 : Int))]) (fun x => [bl g 120 (x.1.2.flatMap srV ++ rest)]) ⟨(m, l), by dsimp only; omega, Nat.le_refl _, hl, hR⟩ ?hE2 ?hL2 ?round2
          case hE2 => exact Sub.go
          case hL2 => exact Takes.go
          case round2 =>
            rintro ⟨⟨k, lk⟩, hk0, hk, hlk, hko⟩ IH; dsimp only at hk0 hk hlk hko IH ⊢
            by_cases hlt2 : i < k
            · obtain ⟨x, y, r1, r2, mid, ⟨d1, t1⟩, ⟨d2, t2⟩, s1, s2, _⟩ := sr_swap (l := lk) rest (z1 := (k : Int)) (z2 := (k : Int) - 1) (i := k) (j := k - 1) rfl (by omega) (by omega) (by omega)
              unfold srV at t1 t2
              rw [show k - i = (k - 1 - i) + 1 by omega] at hko
              have hko : dnGo (k - 1 - i) (k - 1) (swp lk k (k - 1)) = R := hko
              have hln : (swp lk k (k - 1)).length = n := by rw [swp_len]; exact hlk
              repeat' (first | refine Ga ?_ | (refine Gb ?_; intro b) | (refine Gd ?_; intro g cap rest hcap) | (refine Gc ?_; intro ad cap) | (refine St.draw (id := 5) [(0, 0), (1, 0), (2, 0), (3, 0), (4, 1), (5, 0), (6, 0), (7, 0), (8, 1), (9, 3), (10, 0)] [9] mixed (by kernel_rfl) ?_) | (refine St.draw (id := 11) [(0, 0), (1, 0), (2, 0), (3, 0), (4, 0), (5, 0), (6, 0), (7, 0), (8, 0), (9, 1), (10, 0), (11, 0), (12, 0), (13, 1), (14, 0), (15, 3), (16, 0), (17, 3)] [15, 17] mixed (by kernel_rfl) ?_) | (refine St.draw (id := 17) [(0, 0), (1, 0), (2, 0), (3, 0), (4, 1), (5, 0), (6, 0), (7, 0), (8, 1), (9, 3), (10, 0), (11, 0)] [9] mixed (by kernel_rfl) ?_) | (refine St.draw (id := 23) [(0, 0), (1, 0), (2, 0), (3, 0), (4, 0), (5, 0), (6, 0), (7, 0), (8, 0), (9, 1), (10, 0), (11, 0), (12, 0), (13, 1), (14, 0), (15, 3), (16, 0), (17, 3)] [15, 17] mixed (by kernel_rfl) ?_) | (refine St.draw (id := 35) [(0, 0), (1, 0), (2, 0), (3, 0), (4, 0), (5, 0), (6, 1), (7, 0), (8, 0), (9, 0), (10, 1), (11, 3), (12, 0), (13, 0)] [11] mixed (by kernel_rfl) ?_) | (refine Ge ?_ ?_ <;> (intro h; try (exfalso; omega))) | fail)
              all_goals first | (exfalso; omega) | skip
              refine IH ⟨(k - 1, swp lk k (k - 1)), by dsimp only; omega, by dsimp only; omega, hln, hko⟩ (by dsimp only; omega) ?_ ?_
              · dsimp only; rw [show ((k - 1 : Nat) : Int) = (k : Int) - 1 by omega]; exact Sub.go
              · exact Ent.go
            · rw [show k - i = 0 by omega] at hko
              have hko : lk = R := hko
              subst hko
              clear IH
              repeat' (first | refine Ga ?_ | (refine Gb ?_; intro b) | (refine Gd ?_; intro g cap rest hcap) | (refine Gc ?_; intro ad cap) | (refine St.draw (id := 5) [(0, 0), (1, 0), (2, 0), (3, 0), (4, 1), (5, 0), (6, 0), (7, 0), (8, 1), (9, 3), (10, 0)] [9] mixed (by kernel_rfl) ?_) | (refine St.draw (id := 11) [(0, 0), (1, 0), (2, 0), (3, 0), (4, 0), (5, 0), (6, 0), (7, 0), (8, 0), (9, 1), (10, 0), (11, 0), (12, 0), (13, 1), (14, 0), (15, 3), (16, 0), (17, 3)] [15, 17] mixed (by kernel_rfl) ?_) | (refine St.draw (id := 17) [(0, 0), (1, 0), (2, 0), (3, 0), (4, 1), (5, 0), (6, 0), (7, 0), (8, 1), (9, 3), (10, 0), (11, 0)] [9] mixed (by kernel_rfl) ?_) | (refine St.draw (id := 23) [(0, 0), (1, 0), (2, 0), (3, 0), (4, 0), (5, 0), (6, 0), (7, 0), (8, 0), (9, 1), (10, 0), (11, 0), (12, 0), (13, 1), (14, 0), (15, 3), (16, 0), (17, 3)] [15, 17] mixed (by kernel_rfl) ?_) | (refine St.draw (id := 35) [(0, 0), (1, 0), (2, 0), (3, 0), (4, 0), (5, 0), (6, 1), (7, 0), (8, 0), (9, 0), (10, 1), (11, 3), (12, 0), (13, 0)] [11] mixed (by kernel_rfl) ?_) | (refine Ge ?_ ?_ <;> (intro h; try (exfalso; omega))) | fail)
              all_goals first | (exfalso; omega) | skip
              refine St.d1 Tryz.func196 ⟨_, ⟨rfl, rfl⟩, Ent.go⟩
    rw [if_neg c2] at hR
    unfold symStart at hR
    dsimp only at hR
    generalize hT : (fun c => !ltA l ((a + b) / 2 + m - 1 - c) c) = T at hR
    obtain ⟨mid, hmd⟩ : ∃ mid, (a + b) / 2 = mid := ⟨_, rfl⟩
    have hWm := half_w (i := a) (j := b) (by omega)
    rw [hmd] at hR hT hWm
    have hTc : ∀ x, T x = !ltA l (mid + m - 1 - x) x := fun x => by rw [← hT]
    obtain ⟨s0, hs0⟩ : ∃ s0, (if mid < m then mid + m - b else a) = s0 := ⟨_, rfl⟩
    obtain ⟨r0, hr0⟩ : ∃ r0, (if mid < m then mid else m) = r0 := ⟨_, rfl⟩
    rw [hs0, hr0] at hR
    have hb0 : s0 ≤ r0 ∧ mid + m - b ≤ s0 ∧ a ≤ s0 ∧ r0 ≤ m ∧ r0 ≤ mid := by
      rw [← hs0, ← hr0]; split <;> omega
    have hin := half_in T hb0.1
    obtain ⟨st, hst⟩ : ∃ st, half T s0 r0 = st := ⟨_, rfl⟩
    rw [hst] at hR hin
    have e0 : ∀ (z : Int), (mid < m → z = (mid : Int) + m - b) → (¬ mid < m → z = a) → z = (s0 : Int) := fun z h1 h2 => by
      rw [← hs0]
      split
      · rename_i h; rw [h1 h]; omega
      · rename_i h; rw [h2 h]
    refine Tri.of_body (vs := [_, _, _, _, _]) Tryz.func196 rfl rfl fun w0 F => ?_
    refine St.fork (k' := ?kx) (κ := Unit) (fun _ => [(0, .slice (some ⟨g, 0, none⟩) n cap), (1, .int .i64 (a : Int)), (2, .int .i64 (m : Int)), (3, .int .i64 (b : Int)), (4, cmpF), (18, .int .i64 (mid : Int)), (19, .int .i64 ((mid : Int) + m)), (20, .int .i64 (s0 : Int)), (21, .int .i64 (r0 : Int))]) ?join ?after
    case join =>
      intro JO
      repeat' (first | refine St.halt 25 ?_ |refine Ga ?_ | (refine Gb ?_; intro b) | (refine Gd ?_; intro g cap rest hcap) | (refine Gc ?_; intro ad cap) | (refine St.draw (id := 5) [(0, 0), (1, 0), (2, 0), (3, 0), (4, 1), (5, 0), (6, 0), (7, 0), (8, 1), (9, 3), (10, 0)] [9] mixed (by kernel_rfl) ?_) | (refine St.draw (id := 11) [(0, 0), (1, 0), (2, 0), (3, 0), (4, 0), (5, 0), (6, 0), (7, 0), (8, 0), (9, 1), (10, 0), (11, 0), (12, 0), (13, 1), (14, 0), (15, 3), (16, 0), (17, 3)] [15, 17] mixed (by kernel_rfl) ?_) | (refine St.draw (id := 17) [(0, 0), (1, 0), (2, 0), (3, 0), (4, 1), (5, 0), (6, 0), (7, 0), (8, 1), (9, 3), (10, 0), (11, 0)] [9] mixed (by kernel_rfl) ?_) | (refine St.draw (id := 23) [(0, 0), (1, 0), (2, 0), (3, 0), (4, 0), (5, 0), (6, 0), (7, 0), (8, 0), (9, 1), (10, 0), (11, 0), (12, 0), (13, 1), (14, 0), (15, 3), (16, 0), (17, 3)] [15, 17] mixed (by kernel_rfl) ?_) | (refine St.draw (id := 35) [(0, 0), (1, 0), (2, 0), (3, 0), (4, 0), (5, 0), (6, 1), (7, 0), (8, 0), (9, 0), (10, 1), (11, 3), (12, 0), (13, 0)] [11] mixed (by kernel_rfl) ?_) | (refine Ge ?_ ?_ <;> (intro h; try (exfalso; omega))) | fail)
      all_goals first | (exfalso; omega) | skip
      apply Halt.go
      rw [hWm]
      repeat' (first | refine St.halt 32 ?_ |refine Ga ?_ | (refine Gb ?_; intro b) | (refine Gd ?_; intro g cap rest hcap) | (refine Gc ?_; intro ad cap) | (refine St.draw (id := 5) [(0, 0), (1, 0), (2, 0), (3, 0), (4, 1), (5, 0), (6, 0), (7, 0), (8, 1), (9, 3), (10, 0)] [9] mixed (by kernel_rfl) ?_) | (refine St.draw (id := 11) [(0, 0), (1, 0), (2, 0), (3, 0), (4, 0), (5, 0), (6, 0), (7, 0), (8, 0), (9, 1), (10, 0), (11, 0), (12, 0), (13, 1), (14, 0), (15, 3), (16, 0), (17, 3)] [15, 17] mixed (by kernel_rfl) ?_) | (refine St.draw (id := 17) [(0, 0), (1, 0), (2, 0), (3, 0), (4, 1), (5, 0), (6, 0), (7, 0), (8, 1), (9, 3), (10, 0), (11, 0)] [9] mixed (by kernel_rfl) ?_) | (refine St.draw (id := 23) [(0, 0), (1, 0), (2, 0), (3, 0), (4, 0), (5, 0), (6, 0), (7, 0), (8, 0), (9, 1), (10, 0), (11, 0), (12, 0), (13, 1), (14, 0), (15, 3), (16, 0), (17, 3)] [15, 17] mixed (by kernel_rfl) ?_) | (refine St.draw (id := 35) [(0, 0), (1, 0), (2, 0), (3, 0), (4, 0), (5, 0), (6, 1), (7, 0), (8, 0), (9, 0), (10, 1), (11, 3), (12, 0), (13, 0)] [11] mixed (by kernel_rfl) ?_) | (refine Ge ?_ ?_ <;> (intro h; try (exfalso; omega))) | fail)
      all_goals first | (exfalso; omega) | skip
      all_goals apply Halt.go
      all_goals (refine JO () ?_; rw [← hs0, ← hr0])
      · rw [if_pos (by omega), if_pos (by omega), show ((mid + m - b : Nat) : Int) = (mid : Int) + m - b by omega]; exact Sub.go
      · rw [if_neg (by omega), if_neg (by omega)]; exact Sub.go
    case after =>
      intro _
      repeat' (first | refine Ga ?_ | (refine Gb ?_; intro b) | (refine Gd ?_; intro g cap rest hcap) | (refine Gc ?_; intro ad cap) | (refine St.draw (id := 5) [(0, 0), (1, 0), (2, 0), (3, 0), (4, 1), (5, 0), (6, 0), (7, 0), (8, 1), (9, 3), (10, 0)] [9] mixed (by kernel_rfl) ?_) | (refine St.draw (id := 11) [(0, 0), (1, 0), (2, 0), (3, 0), (4, 0), (5, 0), (6, 0), (7, 0), (8, 0), (9, 1), (10, 0), (11, 0), (12, 0), (13, 1), (14, 0), (15, 3), (16, 0), (17, 3)] [15, 17] mixed (by kernel_rfl) ?_) | (refine St.draw (id := 17) [(0, 0), (1, 0), (2, 0), (3, 0), (4, 1), (5, 0), (6, 0), (7, 0), (8, 1), (9, 3), (10, 0), (11, 0)] [9] mixed (by kernel_rfl) ?_) | (refine St.draw (id := 23) [(0, 0), (1, 0), (2, 0), (3, 0), (4, 0), (5, 0), (6, 0), (7, 0), (8, 0), (9, 1), (10, 0), (11, 0), (12, 0), (13, 1), (14, 0), (15, 3), (16, 0), (17, 3)] [15, 17] mixed (by kernel_rfl) ?_) | (refine St.draw (id := 35) [(0, 0), (1, 0), (2, 0), (3, 0), (4, 0), (5, 0), (6, 1), (7, 0), (8, 0), (9, 0), (10, 1), (11, 3), (12, 0), (13, 0)] [11] mixed (by kernel_rfl) ?_) | (refine Ge ?_ ?_ <;> (intro h; try (exfalso; omega))) | fail)
      refine St.loopY (Lr := ?Lr5) (ι := { x : Nat × Nat // s0 ≤ x.1 ∧ x.1 ≤ x.2 ∧ x.2 ≤ r0 ∧ half T x.1 x.2 = st }) (fun x => x.1.2 - x.1.1) (fun x => [(20, .int .i64 (x.1.1 : Int)), (21, .int .i64 (x.1.2 : Int))]) (fun _ => []) ⟨(s0, r0), Nat.le_refl _, hb0.1, Nat.le_refl _, hst⟩ ?hE1 ?hL1 ?round1
      case hE1 => exact Sub.go
      case hL1 => exact Takes.go
      case round1 =>
        rintro ⟨⟨i, j⟩, hi, hij, hj, hgo⟩ IH; dsimp only at hi hij hj hgo IH ⊢
        by_cases hlt : i < j
        · rw [half_lt T hlt] at hgo
          have hW := half_w (i := i) (j := j) (by omega)
          obtain ⟨c, hh⟩ : ∃ c, (i + j) / 2 = c := ⟨_, rfl⟩
          rw [hh] at hgo hW
          obtain ⟨x, y, r1, r2, md, ⟨d1, t1⟩, ⟨d2, t2⟩, _, _, hx⟩ := sr_swap (l := l) rest (z1 := (mid : Int) + m - 1 - c) (z2 := (c : Int)) (i := mid + m - 1 - c) (j := c) (by omega) rfl (by omega) (by omega)
          rw [hTc] at hgo
          have hcmp := rowcmp_r x y
          have hc0 := cmpZ_neg x.1.at_ y.1.at_
          unfold srV at t1 t2 hcmp
          repeat' (first | refine St.halt 35 ?_ |refine Ga ?_ | (refine Gb ?_; intro b) | (refine Gd ?_; intro g cap rest hcap) | (refine Gc ?_; intro ad cap) | (refine St.draw (id := 5) [(0, 0), (1, 0), (2, 0), (3, 0), (4, 1), (5, 0), (6, 0), (7, 0), (8, 1), (9, 3), (10, 0)] [9] mixed (by kernel_rfl) ?_) | (refine St.draw (id := 11) [(0, 0), (1, 0), (2, 0), (3, 0), (4, 0), (5, 0), (6, 0), (7, 0), (8, 0), (9, 1), (10, 0), (11, 0), (12, 0), (13, 1), (14, 0), (15, 3), (16, 0), (17, 3)] [15, 17] mixed (by kernel_rfl) ?_) | (refine St.draw (id := 17) [(0, 0), (1, 0), (2, 0), (3, 0), (4, 1), (5, 0), (6, 0), (7, 0), (8, 1), (9, 3), (10, 0), (11, 0)] [9] mixed (by kernel_rfl) ?_) | (refine St.draw (id := 23) [(0, 0), (1, 0), (2, 0), (3, 0), (4, 0), (5, 0), (6, 0), (7, 0), (8, 0), (9, 1), (10, 0), (11, 0), (12, 0), (13, 1), (14, 0), (15, 3), (16, 0), (17, 3)] [15, 17] mixed (by kernel_rfl) ?_) | (refine St.draw (id := 35) [(0, 0), (1, 0), (2, 0), (3, 0), (4, 0), (5, 0), (6, 1), (7, 0), (8, 0), (9, 0), (10, 1), (11, 3), (12, 0), (13, 0)] [11] mixed (by kernel_rfl) ?_) | (refine Ge ?_ ?_ <;> (intro h; try (exfalso; omega))) | fail)
          all_goals first | (exfalso; omega) | skip
          apply Halt.go
          rw [hW]
          by_cases hc : x.1.at_ < y.1.at_
          · rw [hx.1 hc, if_neg (by decide)] at hgo
            have hc1 := hc0.2 hc
            repeat' (first | refine Ga ?_ | (refine Gb ?_; intro b) | (refine Gd ?_; intro g cap rest hcap) | (refine Gc ?_; intro ad cap) | (refine St.draw (id := 5) [(0, 0), (1, 0), (2, 0), (3, 0), (4, 1), (5, 0), (6, 0), (7, 0), (8, 1), (9, 1), (10, 0)] [] mixed (by kernel_rfl) ?_) | (refine St.draw (id := 11) [(0, 0), (1, 0), (2, 0), (3, 0), (4, 0), (5, 0), (6, 0), (7, 0), (8, 0), (9, 1), (10, 0), (11, 0), (12, 0), (13, 1), (14, 0), (15, 3), (16, 0), (17, 3)] [15, 17] mixed (by kernel_rfl) ?_) | (refine St.draw (id := 17) [(0, 0), (1, 0), (2, 0), (3, 0), (4, 1), (5, 0), (6, 0), (7, 0), (8, 1), (9, 1), (10, 0), (11, 0)] [] mixed (by kernel_rfl) ?_) | (refine St.draw (id := 23) [(0, 0), (1, 0), (2, 0), (3, 0), (4, 0), (5, 0), (6, 0), (7, 0), (8, 0), (9, 1), (10, 0), (11, 0), (12, 0), (13, 1), (14, 0), (15, 3), (16, 0), (17, 3)] [15, 17] mixed (by kernel_rfl) ?_) | (refine St.draw (id := 35) [(0, 0), (1, 0), (2, 0), (3, 0), (4, 0), (5, 0), (6, 1), (7, 0), (8, 0), (9, 0), (10, 1), (11, 1), (12, 0), (13, 0)] [] mixed (by kernel_rfl) ?_)| refine Ka (OpC.callv (by rfl) Evs.go) hcmp Oh ?_ | refine Kb rfl (OpC.callv (by rfl) Evs.go) hcmp Oi ?_ | refine Kc rfl Oj (OpC.callv (by rfl) Evs.go) hcmp Oi ?_ | (refine Ge ?_ ?_ <;> (intro h; try (exfalso; omega))) | fail)
            all_goals first | (exfalso; omega) | (exact absurd h (by rw [decide_eq_true hc1]; decide)) | skip
            refine IH ⟨(i, c), hi, by dsimp only; omega, by dsimp only; omega, hgo⟩ (by dsimp only; omega) ?_ ?_
            · exact Sub.go
            · exact Ent.go
          · rw [show ltA l (mid + m - 1 - c) c = false from by simpa using fun h => hc (hx.2 h), if_pos (by decide)] at hgo
            have hc1 : ¬ cmpZ x.1.at_ y.1.at_ < 0 := fun h => hc (hc0.1 h)
            repeat' (first | refine Ga ?_ | (refine Gb ?_; intro b) | (refine Gd ?_; intro g cap rest hcap) | (refine Gc ?_; intro ad cap) | (refine St.draw (id := 5) [(0, 0), (1, 0), (2, 0), (3, 0), (4, 1), (5, 0), (6, 0), (7, 0), (8, 1), (9, 1), (10, 0)] [] mixed (by kernel_rfl) ?_) | (refine St.draw (id := 11) [(0, 0), (1, 0), (2, 0), (3, 0), (4, 0), (5, 0), (6, 0), (7, 0), (8, 0), (9, 1), (10, 0), (11, 0), (12, 0), (13, 1), (14, 0), (15, 3), (16, 0), (17, 3)] [15, 17] mixed (by kernel_rfl) ?_) | (refine St.draw (id := 17) [(0, 0), (1, 0), (2, 0), (3, 0), (4, 1), (5, 0), (6, 0), (7, 0), (8, 1), (9, 1), (10, 0), (11, 0)] [] mixed (by kernel_rfl) ?_) | (refine St.draw (id := 23) [(0, 0), (1, 0), (2, 0), (3, 0), (4, 0), (5, 0), (6, 0), (7, 0), (8, 0), (9, 1), (10, 0), (11, 0), (12, 0), (13, 1), (14, 0), (15, 3), (16, 0), (17, 3)] [15, 17] mixed (by kernel_rfl) ?_) | (refine St.draw (id := 35) [(0, 0), (1, 0), (2, 0), (3, 0), (4, 0), (5, 0), (6, 1), (7, 0), (8, 0), (9, 0), (10, 1), (11, 1), (12, 0), (13, 0)] [] mixed (by kernel_rfl) ?_)| refine Ka (OpC.callv (by rfl) Evs.go) hcmp Oh ?_ | refine Kb rfl (OpC.callv (by rfl) Evs.go) hcmp Oi ?_ | refine Kc rfl Oj (OpC.callv (by rfl) Evs.go) hcmp Oi ?_ | (refine Ge ?_ ?_ <;> (intro h; try (exfalso; omega))) | fail)
            all_goals first | (exfalso; omega) | (exact absurd h (by rw [decide_eq_false hc1]; decide)) | skip
            refine IH ⟨(c + 1, j), by dsimp only; omega, by dsimp only; omega, hj, hgo⟩ (by dsimp only; omega) ?_ ?_
            · exact Sub.go
            · exact Ent.go
        · rw [half_ge T (by omega)] at hgo
          subst hgo
          clear IH
          obtain ⟨e, he⟩ : ∃ e, mid + m - i = e := ⟨_, rfl⟩
          rw [he] at hR
          have ee : (e : Int) = (mid : Int) + m - i := by omega
          by_cases hA : i < m ∧ m < e
          · rw [if_pos hA] at hR
            have hro := rotS_t g n cap rest l hl hn i m e hA.1 hA.2 (by omega)
            rw [ee] at hro
            have hl1 := rotS_len i m e l
            generalize rotS i m e l = l1 at hR hro hl1
            by_cases hB : a < i ∧ i < mid
            · rw [if_pos hB] at hR
              have hs1 := hrec a i mid l1 (by omega) hB.1 hB.2 (by omega) (by omega)
              have hl2 := symGo_len f a i mid l1
              generalize symGo f a i mid l1 = l2 at hR hs1 hl2
              by_cases hC : mid < e ∧ e < b
              · rw [if_pos hC] at hR
                have hs2 := hrec mid e b l2 (by omega) hC.1 hC.2 hbn (by omega)
                rw [ee, hR] at hs2
                repeat' (first | refine Ga ?_ | (refine Gb ?_; intro b) | (refine Gd ?_; intro g cap rest hcap) | (refine Gc ?_; intro ad cap) | (refine St.draw (id := 5) [(0, 0), (1, 0), (2, 0), (3, 0), (4, 1), (5, 0), (6, 0), (7, 0), (8, 1), (9, 3), (10, 0)] [9] mixed (by kernel_rfl) ?_) | (refine St.draw (id := 11) [(0, 0), (1, 0), (2, 0), (3, 0), (4, 0), (5, 0), (6, 0), (7, 0), (8, 0), (9, 1), (10, 0), (11, 0), (12, 0), (13, 1), (14, 0), (15, 3), (16, 0), (17, 3)] [15, 17] mixed (by kernel_rfl) ?_) | (refine St.draw (id := 17) [(0, 0), (1, 0), (2, 0), (3, 0), (4, 1), (5, 0), (6, 0), (7, 0), (8, 1), (9, 3), (10, 0), (11, 0)] [9] mixed (by kernel_rfl) ?_) | (refine St.draw (id := 23) [(0, 0), (1, 0), (2, 0), (3, 0), (4, 0), (5, 0), (6, 0), (7, 0), (8, 0), (9, 1), (10, 0), (11, 0), (12, 0), (13, 1), (14, 0), (15, 3), (16, 0), (17, 3)] [15, 17] mixed (by kernel_rfl) ?_) | (refine St.draw (id := 35) [(0, 0), (1, 0), (2, 0), (3, 0), (4, 0), (5, 0), (6, 1), (7, 0), (8, 0), (9, 0), (10, 1), (11, 3), (12, 0), (13, 0)] [11] mixed (by kernel_rfl) ?_) | (refine Gt hro ?_; rintro _ _ ⟨rfl, rfl⟩) | (refine Gt hs1 ?_; rintro _ _ ⟨rfl, rfl⟩) | (refine Gt hs2 ?_; rintro _ _ ⟨rfl, rfl⟩) | (refine Ge ?_ ?_ <;> (intro h; try (exfalso; omega))) | fail)
                all_goals first | (exfalso; omega) | skip
                all_goals refine St.f1 Tryz.func196 ⟨_, ⟨rfl, rfl⟩, Ent.go⟩
              · rw [if_neg hC] at hR
                subst hR
                repeat' (first | refine Ga ?_ | (refine Gb ?_; intro b) | (refine Gd ?_; intro g cap rest hcap) | (refine Gc ?_; intro ad cap) | (refine St.draw (id := 5) [(0, 0), (1, 0), (2, 0), (3, 0), (4, 1), (5, 0), (6, 0), (7, 0), (8, 1), (9, 3), (10, 0)] [9] mixed (by kernel_rfl) ?_) | (refine St.draw (id := 11) [(0, 0), (1, 0), (2, 0), (3, 0), (4, 0), (5, 0), (6, 0), (7, 0), (8, 0), (9, 1), (10, 0), (11, 0), (12, 0), (13, 1), (14, 0), (15, 3), (16, 0), (17, 3)] [15, 17] mixed (by kernel_rfl) ?_) | (refine St.draw (id := 17) [(0, 0), (1, 0), (2, 0), (3, 0), (4, 1), (5, 0), (6, 0), (7, 0), (8, 1), (9, 3), (10, 0), (11, 0)] [9] mixed (by kernel_rfl) ?_) | (refine St.draw (id := 23) [(0, 0), (1, 0), (2, 0), (3, 0), (4, 0), (5, 0), (6, 0), (7, 0), (8, 0), (9, 1), (10, 0), (11, 0), (12, 0), (13, 1), (14, 0), (15, 3), (16, 0), (17, 3)] [15, 17] mixed (by kernel_rfl) ?_) | (refine St.draw (id := 35) [(0, 0), (1, 0), (2, 0), (3, 0), (4, 0), (5, 0), (6, 1), (7, 0), (8, 0), (9, 0), (10, 1), (11, 3), (12, 0), (13, 0)] [11] mixed (by kernel_rfl) ?_) | (refine Gt hro ?_; rintro _ _ ⟨rfl, rfl⟩) | (refine Gt hs1 ?_; rintro _ _ ⟨rfl, rfl⟩) | (refine Ge ?_ ?_ <;> (intro h; try (exfalso; omega))) | fail)
                all_goals first | (exfalso; omega) | skip
                all_goals refine St.f1 Tryz.func196 ⟨_, ⟨rfl, rfl⟩, Ent.go⟩
            · rw [if_neg hB] at hR
              by_cases hC : mid < e ∧ e < b
              · rw [if_pos hC] at hR
                have hs2 := hrec mid e b l1 (by omega) hC.1 hC.2 hbn (by omega)
                rw [ee, hR] at hs2
                repeat' (first | refine Ga ?_ | (refine Gb ?_; intro b) | (refine Gd ?_; intro g cap rest hcap) | (refine Gc ?_; intro ad cap) | (refine St.draw (id := 5) [(0, 0), (1, 0), (2, 0), (3, 0), (4, 1), (5, 0), (6, 0), (7, 0), (8, 1), (9, 3), (10, 0)] [9] mixed (by kernel_rfl) ?_) | (refine St.draw (id := 11) [(0, 0), (1, 0), (2, 0), (3, 0), (4, 0), (5, 0), (6, 0), (7, 0), (8, 0), (9, 1), (10, 0), (11, 0), (12, 0), (13, 1), (14, 0), (15, 3), (16, 0), (17, 3)] [15, 17] mixed (by kernel_rfl) ?_) | (refine St.draw (id := 17) [(0, 0), (1, 0), (2, 0), (3, 0), (4, 1), (5, 0), (6, 0), (7, 0), (8, 1), (9, 3), (10, 0), (11, 0)] [9] mixed (by kernel_rfl) ?_) | (refine St.draw (id := 23) [(0, 0), (1, 0), (2, 0), (3, 0), (4, 0), (5, 0), (6, 0), (7, 0), (8, 0), (9, 1), (10, 0), (11, 0), (12, 0), (13, 1), (14, 0), (15, 3), (16, 0), (17, 3)] [15, 17] mixed (by kernel_rfl) ?_) | (refine St.draw (id := 35) [(0, 0), (1, 0), (2, 0), (3, 0), (4, 0), (5, 0), (6, 1), (7, 0), (8, 0), (9, 0), (10, 1), (11, 3), (12, 0), (13, 0)] [11] mixed (by kernel_rfl) ?_) | (refine Gt hro ?_; rintro _ _ ⟨rfl, rfl⟩) | (refine Gt hs2 ?_; rintro _ _ ⟨rfl, rfl⟩) | (refine Ge ?_ ?_ <;> (intro h; try (exfalso; omega))) | fail)
                all_goals first | (exfalso; omega) | skip
                all_goals refine St.f1 Tryz.func196 ⟨_, ⟨rfl, rfl⟩, Ent.go⟩
              · rw [if_neg hC] at hR
                subst hR
                repeat' (first | refine Ga ?_ | (refine Gb ?_; intro b) | (refine Gd ?_; intro g cap rest hcap) | (refine Gc ?_; intro ad cap) | (refine St.draw (id := 5) [(0, 0), (1, 0), (2, 0), (3, 0), (4, 1), (5, 0), (6, 0), (7, 0), (8, 1), (9, 3), (10, 0)] [9] mixed (by kernel_rfl) ?_) | (refine St.draw (id := 11) [(0, 0), (1, 0), (2, 0), (3, 0), (4, 0), (5, 0), (6, 0), (7, 0), (8, 0), (9, 1), (10, 0), (11, 0), (12, 0), (13, 1), (14, 0), (15, 3), (16, 0), (17, 3)] [15, 17] mixed (by kernel_rfl) ?_) | (refine St.draw (id := 17) [(0, 0), (1, 0), (2, 0), (3, 0), (4, 1), (5, 0), (6, 0), (7, 0), (8, 1), (9, 3), (10, 0), (11, 0)] [9] mixed (by kernel_rfl) ?_) | (refine St.draw (id := 23) [(0, 0), (1, 0), (2, 0), (3, 0), (4, 0), (5, 0), (6, 0), (7, 0), (8, 0), (9, 1), (10, 0), (11, 0), (12, 0), (13, 1), (14, 0), (15, 3), (16, 0), (17, 3)] [15, 17] mixed (by kernel_rfl) ?_) | (refine St.draw (id := 35) [(0, 0), (1, 0), (2, 0), (3, 0), (4, 0), (5, 0), (6, 1), (7, 0), (8, 0), (9, 0), (10, 1), (11, 3), (12, 0), (13, 0)] [11] mixed (by kernel_rfl) ?_) | (refine Gt hro ?_; rintro _ _ ⟨rfl, rfl⟩) | (refine Ge ?_ ?_ <;> (intro h; try (exfalso; omega))) | fail)
                all_goals first | (exfalso; omega) | skip
                all_goals refine St.f1 Tryz.func196 ⟨_, ⟨rfl, rfl⟩, Ent.go⟩
          · rw [if_neg hA] at hR
            by_cases hB : a < i ∧ i < mid
            · rw [if_pos hB] at hR
              have hs1 := hrec a i mid l (by omega) hB.1 hB.2 (by omega) (by omega)
              have hl2 := symGo_len f a i mid l
              generalize symGo f a i mid l = l2 at hR hs1 hl2
              by_cases hC : mid < e ∧ e < b
              · rw [if_pos hC] at hR
                have hs2 := hrec mid e b l2 (by omega) hC.1 hC.2 hbn (by omega)
                rw [ee, hR] at hs2
                repeat' (first | refine Ga ?_ | (refine Gb ?_; intro b) | (refine Gd ?_; intro g cap rest hcap) | (refine Gc ?_; intro ad cap) | (refine St.draw (id := 5) [(0, 0), (1, 0), (2, 0), (3, 0), (4, 1), (5, 0), (6, 0), (7, 0), (8, 1), (9, 3), (10, 0)] [9] mixed (by kernel_rfl) ?_) | (refine St.draw (id := 11) [(0, 0), (1, 0), (2, 0), (3, 0), (4, 0), (5, 0), (6, 0), (7, 0), (8, 0), (9, 1), (10, 0), (11, 0), (12, 0), (13, 1), (14, 0), (15, 3), (16, 0), (17, 3)] [15, 17] mixed (by kernel_rfl) ?_) | (refine St.draw (id := 17) [(0, 0), (1, 0), (2, 0), (3, 0), (4, 1), (5, 0), (6, 0), (7, 0), (8, 1), (9, 3), (10, 0), (11, 0)] [9] mixed (by kernel_rfl) ?_) | (refine St.draw (id := 23) [(0, 0), (1, 0), (2, 0), (3, 0), (4, 0), (5, 0), (6, 0), (7, 0), (8, 0), (9, 1), (10, 0), (11, 0), (12, 0), (13, 1), (14, 0), (15, 3), (16, 0), (17, 3)] [15, 17] mixed (by kernel_rfl) ?_) | (refine St.draw (id := 35) [(0, 0), (1, 0), (2, 0), (3, 0), (4, 0), (5, 0), (6, 1), (7, 0), (8, 0), (9, 0), (10, 1), (11, 3), (12, 0), (13, 0)] [11] mixed (by kernel_rfl) ?_) | (refine Gt hs1 ?_; rintro _ _ ⟨rfl, rfl⟩) | (refine Gt hs2 ?_; rintro _ _ ⟨rfl, rfl⟩) | (refine Ge ?_ ?_ <;> (intro h; try (exfalso; omega))) | fail)
                all_goals first | (exfalso; omega) | skip
                all_goals refine St.f1 Tryz.func196 ⟨_, ⟨rfl, rfl⟩, Ent.go⟩
              · rw [if_neg hC] at hR
                subst hR
                repeat' (first | refine Ga ?_ | (refine Gb ?_; intro b) | (refine Gd ?_; intro g cap rest hcap) | (refine Gc ?_; intro ad cap) | (refine St.draw (id := 5) [(0, 0), (1, 0), (2, 0), (3, 0), (4, 1), (5, 0), (6, 0), (7, 0), (8, 1), (9, 3), (10, 0)] [9] mixed (by kernel_rfl) ?_) | (refine St.draw (id := 11) [(0, 0), (1, 0), (2, 0), (3, 0), (4, 0), (5, 0), (6, 0), (7, 0), (8, 0), (9, 1), (10, 0), (11, 0), (12, 0), (13, 1), (14, 0), (15, 3), (16, 0), (17, 3)] [15, 17] mixed (by kernel_rfl) ?_) | (refine St.draw (id := 17) [(0, 0), (1, 0), (2, 0), (3, 0), (4, 1), (5, 0), (6, 0), (7, 0), (8, 1), (9, 3), (10, 0), (11, 0)] [9] mixed (by kernel_rfl) ?_) | (refine St.draw (id := 23) [(0, 0), (1, 0), (2, 0), (3, 0), (4, 0), (5, 0), (6, 0), (7, 0), (8, 0), (9, 1), (10, 0), (11, 0), (12, 0), (13, 1), (14, 0), (15, 3), (16, 0), (17, 3)] [15, 17] mixed (by kernel_rfl) ?_) | (refine St.draw (id := 35) [(0, 0), (1, 0), (2, 0), (3, 0), (4, 0), (5, 0), (6, 1), (7, 0), (8, 0), (9, 0), (10, 1), (11, 3), (12, 0), (13, 0)] [11] mixed (by kernel_rfl) ?_) | (refine Gt hs1 ?_; rintro _ _ ⟨rfl, rfl⟩) | (refine Ge ?_ ?_ <;> (intro h; try (exfalso; omega))) | fail)
                all_goals first | (exfalso; omega) | skip
                all_goals refine St.f1 Tryz.func196 ⟨_, ⟨rfl, rfl⟩, Ent.go⟩
            · rw [if_neg hB] at hR
              by_cases hC : mid < e ∧ e < b
              · rw [if_pos hC] at hR
                have hs2 := hrec mid e b l (by omega) hC.1 hC.2 hbn (by omega)
                rw [ee, hR] at hs2
                repeat' (first | refine Ga ?_ | (refine Gb ?_; intro b) | (refine Gd ?_; intro g cap rest hcap) | (refine Gc ?_; intro ad cap) | (refine St.draw (id := 5) [(0, 0), (1, 0), (2, 0), (3, 0), (4, 1), (5, 0), (6, 0), (7, 0), (8, 1), (9, 3), (10, 0)] [9] mixed (by kernel_rfl) ?_) | (refine St.draw (id := 11) [(0, 0), (1, 0), (2, 0), (3, 0), (4, 0), (5, 0), (6, 0), (7, 0), (8, 0), (9, 1), (10, 0), (11, 0), (12, 0), (13, 1), (14, 0), (15, 3), (16, 0), (17, 3)] [15, 17] mixed (by kernel_rfl) ?_) | (refine St.draw (id := 17) [(0, 0), (1, 0), (2, 0), (3, 0), (4, 1), (5, 0), (6, 0), (7, 0), (8, 1), (9, 3), (10, 0), (11, 0)] [9] mixed (by kernel_rfl) ?_) | (refine St.draw (id := 23) [(0, 0), (1, 0), (2, 0), (3, 0), (4, 0), (5, 0), (6, 0), (7, 0), (8, 0), (9, 1), (10, 0), (11, 0), (12, 0), (13, 1), (14, 0), (15, 3), (16, 0), (17, 3)] [15, 17] mixed (by kernel_rfl) ?_) | (refine St.draw (id := 35) [(0, 0), (1, 0), (2, 0), (3, 0), (4, 0), (5, 0), (6, 1), (7, 0), (8, 0), (9, 0), (10, 1), (11, 3), (12, 0), (13, 0)] [11] mixed (by kernel_rfl) ?_) | (refine Gt hs2 ?_; rintro _ _ ⟨rfl, rfl⟩) | (refine Ge ?_ ?_ <;> (intro h; try (exfalso; omega))) | fail)
                all_goals first | (exfalso; omega) | skip
                all_goals refine St.f1 Tryz.func196 ⟨_, ⟨rfl, rfl⟩, Ent.go⟩
              · rw [if_neg hC] at hR
                subst hR
                repeat' (first | refine Ga ?_ | (refine Gb ?_; intro b) | (refine Gd ?_; intro g cap rest hcap) | (refine Gc ?_; intro ad cap) | (refine St.draw (id := 5) [(0, 0), (1, 0), (2, 0), (3, 0), (4, 1), (5, 0), (6, 0), (7, 0), (8, 1), (9, 3), (10, 0)] [9] mixed (by kernel_rfl) ?_) | (refine St.draw (id := 11) [(0, 0), (1, 0), (2, 0), (3, 0), (4, 0), (5, 0), (6, 0), (7, 0), (8, 0), (9, 1), (10, 0), (11, 0), (12, 0), (13, 1), (14, 0), (15, 3), (16, 0), (17, 3)] [15, 17] mixed (by kernel_rfl) ?_) | (refine St.draw (id := 17) [(0, 0), (1, 0), (2, 0), (3, 0), (4, 1), (5, 0), (6, 0), (7, 0), (8, 1), (9, 3), (10, 0), (11, 0)] [9] mixed (by kernel_rfl) ?_) | (refine St.draw (id := 23) [(0, 0), (1, 0), (2, 0), (3, 0), (4, 0), (5, 0), (6, 0), (7, 0), (8, 0), (9, 1), (10, 0), (11, 0), (12, 0), (13, 1), (14, 0), (15, 3), (16, 0), (17, 3)] [15, 17] mixed (by kernel_rfl) ?_) | (refine St.draw (id := 35) [(0, 0), (1, 0), (2, 0), (3, 0), (4, 0), (5, 0), (6, 1), (7, 0), (8, 0), (9, 0), (10, 1), (11, 3), (12, 0), (13, 0)] [11] mixed (by kernel_rfl) ?_) | (refine Ge ?_ ?_ <;> (intro h; try (exfalso; omega))) | fail)
                all_goals first | (exfalso; omega) | skip
                all_goals refine St.f1 Tryz.func196 ⟨_, ⟨rfl, rfl⟩, Ent.go⟩
end Go.Proofs.YtemaaenipjinaaaGreat
