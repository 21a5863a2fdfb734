/-
  Package tumblerref21: With, Does.
-/
import Derived.Test.YtalgmlhcbilicaaGreatDoorCe
namespace Go.Proofs.YtalgmlhcbilicaaGreatDoor
set_option maxRecDepth 100000
theorem insL_lt {k x : Nat} {r : List Nat} (h : x < k) : insL k (x :: r) = x :: insL k r := by
  unfold insL loL hiL
  rw [List.takeWhile_cons_of_pos (by simpa using h), List.dropWhile_cons_of_pos (by simpa using h)]
  rfl
theorem insL_stop {k x : Nat} {r : List Nat} (h : ¬x < k) : insL k (x :: r) = k :: x :: r := by
  unfold insL loL hiL
  rw [List.takeWhile_cons_of_neg (by simpa using h), List.dropWhile_cons_of_neg (by simpa using h)]
  rfl
theorem drop_cons2 {α : Type} {l : List α} {k : Nat} (h : k < l.length) : l.drop k = l[k] :: l.drop (k + 1) := by simp
set_option maxHeartbeats 1000000 in
theorem rwith_t (H : HProp) (v : Value) (xs : List Nat) (k : Nat) (hv : SlR H v xs) (hl : xs.length ≤ 1000) : Tri Tryz.prog 35 #[v, .int .u64 (k : Int)] [H]
    fun r L => ∃ ad cap, r = .slice ad (insL k xs).length cap ∧ L = [Row (.slice ad (insL k xs).length cap) 25 1 (insL k xs).length (u64s (insL k xs)), H] := by
  have hfin : ∀ (i : Nat), i ≤ xs.length → insL k xs = xs.take i ++ k :: xs.drop i → (insL k xs).length = i + 1 + (xs.drop i).length ∧ u64s (insL k xs) = (u64s (xs.take i) ++ [.int .u64 (k : Int)]) ++ u64s (xs.drop i) := fun i hi e => by
    rw [e]
    refine ⟨by rw [List.length_append, List.length_cons, List.length_take]; omega, ?_⟩
    simp [u64s]
  by_cases h0 : 0 < xs.length
  · obtain ⟨b1, o1, c1, l1, rfl, hr1, hn1⟩ := hv.at h0
    refine Tri.of_body (vs := [_, _]) Tryz.func35 rfl rfl fun w0 F => ?_
    repeat' (first | refine Ga ?_ | (refine Gb ?_; intro b) | (refine Gd ?_; intro g cap rest hcap) | (refine Gc ?_; intro ad cap) | (refine St.draw (id := 7) [(0, 0), (1, 0), (4, 0), (5, 0), (6, 0), (2, 2), (3, 3), (7, 3), (8, 0)] [3, 7] mixed (by kernel_rfl) ?_) | (refine Ge ?_ ?_ <;> (intro h; try (exfalso; omega))) | fail)
    revert b; intro B
    refine St.conv ?_ (Sub.refl _) (Ent.row_bl (sz := 1) (n := 0) rfl (by decide))
    refine St.loopY (Lr := ?Lr1) (ι := { x : Nat × Option Addr × Nat // x.1 ≤ xs.length ∧ insL k xs = xs.take x.1 ++ insL k (xs.drop x.1) }) (fun x => xs.length - x.1.1)
      (fun x => [(6, .int .i64 (x.1.1 : Int)), (5, .slice x.1.2.1 x.1.1 x.1.2.2)]) (fun x => [Row (.slice x.1.2.1 x.1.1 x.1.2.2) 25 1 x.1.1 (u64s (xs.take x.1.1))]) ⟨(0, some ⟨B, 0, none⟩, 0), Nat.zero_le _, rfl⟩ ?hE1 ?hL1 ?round1
    case hE1 => exact Sub.go
    case hL1 => exact Takes.go
    case round1 =>
      rintro ⟨⟨i, oad, ocap⟩, hi, ho⟩ IH; dsimp only at hi ho IH ⊢
      by_cases hgo : ∃ h : i < xs.length, xs[i] < k
      · obtain ⟨hlt, hxk⟩ := hgo
        have e1 := hn1 i hlt
        have ho' : insL k xs = xs.take (i + 1) ++ insL k (xs.drop (i + 1)) := by
          rw [ho, drop_cons2 hlt, insL_lt hxk, List.take_succ_eq_append_getElem hlt, List.append_assoc]; rfl
        have ht : u64s (xs.take (i + 1)) = u64s (xs.take i) ++ [.int .u64 (xs[i] : Int)] := by
          rw [List.take_succ_eq_append_getElem hlt, u64s_snoc]
        generalize xs[i] = x at e1 hxk ht
        repeat' (first | refine Ga ?_ | (refine Gb ?_; intro b) | (refine Gd ?_; intro g cap rest hcap) | (refine Gc ?_; intro ad cap) | (refine St.draw (id := 7) [(0, 0), (1, 0), (4, 0), (5, 0), (6, 0), (2, 2), (3, 3), (7, 3), (8, 0)] [3, 7] mixed (by kernel_rfl) ?_) | (refine Ge ?_ ?_ <;> (intro h; try (exfalso; omega))) | fail)
        all_goals first | (exfalso; omega) | skip
        refine IH ⟨(i + 1, ad, cap), hlt, ho'⟩ (by show xs.length - (i + 1) < xs.length - i; omega) ?_ ?_
        · exact Sub.go
        · dsimp only; rw [ht]; exact Ent.go
      · have hst : insL k xs = xs.take i ++ k :: xs.drop i := by
          rw [ho]
          by_cases hlt : i < xs.length
          · rw [drop_cons2 hlt, insL_stop (fun h => hgo ⟨hlt, h⟩)]
          · rw [List.drop_eq_nil_of_le (by omega)]; rfl
        obtain ⟨f1, f2⟩ := hfin i hi hst
        have hdr := hv.drop hi
        have hone := u64s_one (xs.drop i)
        have hdl : (xs.drop i).length = xs.length - i := List.length_drop
        rw [f1, f2]
        clear IH
        have key : i < xs.length → ∃ x : Nat, NthN (o1 + (i : Int).toNat * 1) l1 (.int .u64 (x : Int)) ∧ k ≤ x := fun hlt => ⟨xs[i], hn1 i hlt, Nat.le_of_not_lt fun h => hgo ⟨hlt, h⟩⟩
        by_cases hlt : i < xs.length
        · obtain ⟨x, e1, hkx⟩ := key hlt
          repeat' (first | refine Ga ?_ | (refine Gb ?_; intro b) | (refine Gd ?_; intro g cap rest hcap) | (refine Gc ?_; intro ad cap) | (refine St.draw (id := 7) [(0, 0), (1, 0), (4, 0), (5, 0), (6, 0), (2, 2), (3, 3), (7, 3), (8, 0)] [3, 7] mixed (by kernel_rfl) ?_) | (refine Ge ?_ ?_ <;> (intro h; try (exfalso; omega))) | fail)
          all_goals first | (exfalso; omega) | skip
          all_goals (apply StD.v0; rfl; (apply OpV.slLo; rfl; rfl; omega); rfl)
          all_goals repeat' (first | refine Ga ?_ | (refine Gb ?_; intro b) | (refine Gd ?_; intro g cap rest hcap) | (refine Gc ?_; intro ad cap) | (refine St.draw (id := 7) [(0, 0), (1, 0), (4, 0), (5, 0), (6, 0), (2, 2), (3, 3), (7, 3), (8, 0)] [3, 7] mixed (by kernel_rfl) ?_) | (refine Ge ?_ ?_ <;> (intro h; try (exfalso; omega))) | fail)
          rcases hdr with ⟨hnil, hx0⟩ | ⟨b2, o2, l2, r2, c2, hv2, hle2, hrd2, hdr2, htk2⟩
          · (apply StD.ok3; rfl; (apply OpOk.appendE; rfl; exact congrArg some hnil; (focus (repeat first | exact Take.here | apply Take.there))); rfl; rintro _ _ ⟨rfl, rfl⟩)
            repeat' (first | refine Ga ?_ | (refine Gb ?_; intro b) | (refine Gd ?_; intro g cap rest hcap) | (refine Gc ?_; intro ad cap) | (refine St.draw (id := 7) [(0, 0), (1, 0), (4, 0), (5, 0), (6, 0), (2, 2), (3, 3), (7, 3), (8, 0)] [3, 7] mixed (by kernel_rfl) ?_) | (refine Ge ?_ ?_ <;> (intro h; try (exfalso; omega))) | fail)
            rw [hx0, show (u64s (xs.take i) ++ [Value.int .u64 (k : Int)]) ++ u64s ([] : List Nat) = u64s (xs.take i) ++ [.int .u64 (k : Int)] by simp [u64s]]
            refine St.d1 Tryz.func35 ⟨_, ⟨ad, cap, rfl, rfl⟩, ?_⟩
            exact Ent.go
          · have htk3 : TakeN ((xs.drop i).length * 1) r2 (u64s (xs.drop i)) := by rw [Nat.mul_one]; exact htk2
            (apply StD.ok3; rfl; (apply OpOk.append; rfl; exact congrArg some hv2; (focus (repeat first | exact Take.here | apply Take.there)); (focus (repeat first | exact ReadsC.here RdC.bl | exact ReadsC.here (by assumption) | apply ReadsC.there)); (focus (first | assumption | (repeat constructor))); (focus (first | assumption | (repeat constructor))); (first | rfl | assumption); rfl; rfl; omega; omega); rfl; rintro _ _ ⟨ad2, cap2, rfl, rfl⟩)
            repeat' (first | refine Ga ?_ | (refine Gb ?_; intro b) | (refine Gd ?_; intro g cap rest hcap) | (refine Gc ?_; intro ad cap) | (refine St.draw (id := 7) [(0, 0), (1, 0), (4, 0), (5, 0), (6, 0), (2, 2), (3, 3), (7, 3), (8, 0)] [3, 7] mixed (by kernel_rfl) ?_) | (refine Ge ?_ ?_ <;> (intro h; try (exfalso; omega))) | fail)
            refine St.d1 Tryz.func35 ⟨_, ⟨ad2, cap2, rfl, rfl⟩, Ent.go⟩
        · clear key
          repeat' (first | refine Ga ?_ | (refine Gb ?_; intro b) | (refine Gd ?_; intro g cap rest hcap) | (refine Gc ?_; intro ad cap) | (refine St.draw (id := 7) [(0, 0), (1, 0), (4, 0), (5, 0), (6, 0), (2, 2), (3, 3), (7, 3), (8, 0)] [3, 7] mixed (by kernel_rfl) ?_) | (refine Ge ?_ ?_ <;> (intro h; try (exfalso; omega))) | fail)
          all_goals first | (exfalso; omega) | skip
          all_goals (apply StD.v0; rfl; (apply OpV.slLo; rfl; rfl; omega); rfl)
          all_goals repeat' (first | refine Ga ?_ | (refine Gb ?_; intro b) | (refine Gd ?_; intro g cap rest hcap) | (refine Gc ?_; intro ad cap) | (refine St.draw (id := 7) [(0, 0), (1, 0), (4, 0), (5, 0), (6, 0), (2, 2), (3, 3), (7, 3), (8, 0)] [3, 7] mixed (by kernel_rfl) ?_) | (refine Ge ?_ ?_ <;> (intro h; try (exfalso; omega))) | fail)
          rcases hdr with ⟨hnil, hx0⟩ | ⟨b2, o2, l2, r2, c2, hv2, hle2, hrd2, hdr2, htk2⟩
          · (apply StD.ok3; rfl; (apply OpOk.appendE; rfl; exact congrArg some hnil; (focus (repeat first | exact Take.here | apply Take.there))); rfl; rintro _ _ ⟨rfl, rfl⟩)
            repeat' (first | refine Ga ?_ | (refine Gb ?_; intro b) | (refine Gd ?_; intro g cap rest hcap) | (refine Gc ?_; intro ad cap) | (refine St.draw (id := 7) [(0, 0), (1, 0), (4, 0), (5, 0), (6, 0), (2, 2), (3, 3), (7, 3), (8, 0)] [3, 7] mixed (by kernel_rfl) ?_) | (refine Ge ?_ ?_ <;> (intro h; try (exfalso; omega))) | fail)
            rw [hx0, show (u64s (xs.take i) ++ [Value.int .u64 (k : Int)]) ++ u64s ([] : List Nat) = u64s (xs.take i) ++ [.int .u64 (k : Int)] by simp [u64s]]
            refine St.d1 Tryz.func35 ⟨_, ⟨ad, cap, rfl, rfl⟩, ?_⟩
            exact Ent.go
          · have htk3 : TakeN ((xs.drop i).length * 1) r2 (u64s (xs.drop i)) := by rw [Nat.mul_one]; exact htk2
            (apply StD.ok3; rfl; (apply OpOk.append; rfl; exact congrArg some hv2; (focus (repeat first | exact Take.here | apply Take.there)); (focus (repeat first | exact ReadsC.here RdC.bl | exact ReadsC.here (by assumption) | apply ReadsC.there)); (focus (first | assumption | (repeat constructor))); (focus (first | assumption | (repeat constructor))); (first | rfl | assumption); rfl; rfl; omega; omega); rfl; rintro _ _ ⟨ad2, cap2, rfl, rfl⟩)
            repeat' (first | refine Ga ?_ | (refine Gb ?_; intro b) | (refine Gd ?_; intro g cap rest hcap) | (refine Gc ?_; intro ad cap) | (refine St.draw (id := 7) [(0, 0), (1, 0), (4, 0), (5, 0), (6, 0), (2, 2), (3, 3), (7, 3), (8, 0)] [3, 7] mixed (by kernel_rfl) ?_) | (refine Ge ?_ ?_ <;> (intro h; try (exfalso; omega))) | fail)
            refine St.d1 Tryz.func35 ⟨_, ⟨ad2, cap2, rfl, rfl⟩, Ent.go⟩
  · have hx : xs = [] := List.eq_nil_of_length_eq_zero (by omega)
    subst hx
    obtain ⟨a1, c1, rfl⟩ := hv.val
    refine Tri.of_body (vs := [_, _]) Tryz.func35 rfl rfl fun w0 F => ?_
    repeat' (first | (apply St.loop1) | (apply St.inLoop1) | refine St.halt 7 ?_ |refine Ga ?_ | (refine Gb ?_; intro b) | (refine Gd ?_; intro g cap rest hcap) | (refine Gc ?_; intro ad cap) | (refine St.draw (id := 7) [(0, 0), (1, 0), (4, 0), (5, 0), (6, 0), (2, 2), (3, 3), (7, 3), (8, 0)] [3, 7] mixed (by kernel_rfl) ?_) | (refine Ge ?_ ?_ <;> (intro h; try (exfalso; omega))) | fail)
    apply Halt.go
    revert b; intro B
    refine St.conv ?_ (Sub.refl _) (Ent.row_bl (sz := 1) (n := 0) rfl (by decide))
    repeat' (first | refine Ga ?_ | (refine Gb ?_; intro b) | (refine Gd ?_; intro g cap rest hcap) | (refine Gc ?_; intro ad cap) | (refine St.draw (id := 7) [(0, 0), (1, 0), (4, 0), (5, 0), (6, 0), (2, 2), (3, 3), (7, 3), (8, 0)] [3, 7] mixed (by kernel_rfl) ?_) | (refine Ge ?_ ?_ <;> (intro h; try (exfalso; omega))) | fail)
    have hdr := hv.drop (i := 0) (Nat.zero_le _)
    obtain ⟨f1, f2⟩ := hfin 0 (Nat.zero_le _) rfl
    rw [f1, f2]
    have hone := u64s_one (([] : List Nat).drop 0)
    have hdl : (([] : List Nat).drop 0).length = 0 := rfl
    all_goals (apply StD.v0; rfl; (apply OpV.slLo; rfl; rfl; omega); rfl)
    all_goals repeat' (first | refine Ga ?_ | (refine Gb ?_; intro b) | (refine Gd ?_; intro g cap rest hcap) | (refine Gc ?_; intro ad cap) | (refine St.draw (id := 7) [(0, 0), (1, 0), (4, 0), (5, 0), (6, 0), (2, 2), (3, 3), (7, 3), (8, 0)] [3, 7] mixed (by kernel_rfl) ?_) | (refine Ge ?_ ?_ <;> (intro h; try (exfalso; omega))) | fail)
    rcases hdr with ⟨hnil, hx0⟩ | ⟨b2, o2, l2, r2, c2, hv2, hle2, hrd2, hdr2, htk2⟩
    · (apply StD.ok3; rfl; (apply OpOk.appendE; rfl; exact congrArg some hnil; (focus (repeat first | exact Take.here | apply Take.there))); rfl; rintro _ _ ⟨rfl, rfl⟩)
      repeat' (first | refine Ga ?_ | (refine Gb ?_; intro b) | (refine Gd ?_; intro g cap rest hcap) | (refine Gc ?_; intro ad cap) | (refine St.draw (id := 7) [(0, 0), (1, 0), (4, 0), (5, 0), (6, 0), (2, 2), (3, 3), (7, 3), (8, 0)] [3, 7] mixed (by kernel_rfl) ?_) | (refine Ge ?_ ?_ <;> (intro h; try (exfalso; omega))) | fail)
      refine St.d1 Tryz.func35 ⟨_, ⟨ad, cap, rfl, rfl⟩, ?_⟩
      exact Ent.go
    · have htk3 : TakeN ((([] : List Nat).drop 0).length * 1) r2 (u64s (([] : List Nat).drop 0)) := by rw [Nat.mul_one]; exact htk2
      (apply StD.ok3; rfl; (apply OpOk.append; rfl; exact congrArg some hv2; (focus (repeat first | exact Take.here | apply Take.there)); (focus (repeat first | exact ReadsC.here RdC.bl | exact ReadsC.here (by assumption) | apply ReadsC.there)); (focus (first | assumption | (repeat constructor))); (focus (first | assumption | (repeat constructor))); (first | rfl | assumption); rfl; rfl; omega; omega); rfl; rintro _ _ ⟨ad2, cap2, rfl, rfl⟩)
      repeat' (first | refine Ga ?_ | (refine Gb ?_; intro b) | (refine Gd ?_; intro g cap rest hcap) | (refine Gc ?_; intro ad cap) | (refine St.draw (id := 7) [(0, 0), (1, 0), (4, 0), (5, 0), (6, 0), (2, 2), (3, 3), (7, 3), (8, 0)] [3, 7] mixed (by kernel_rfl) ?_) | (refine Ge ?_ ?_ <;> (intro h; try (exfalso; omega))) | fail)
      refine St.d1 Tryz.func35 ⟨_, ⟨ad2, cap2, rfl, rfl⟩, Ent.go⟩
end Go.Proofs.YtalgmlhcbilicaaGreatDoor
