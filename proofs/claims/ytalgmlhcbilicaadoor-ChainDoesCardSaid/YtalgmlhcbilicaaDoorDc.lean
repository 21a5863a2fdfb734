/-
  Package slices: Delete of one number.
-/
import Derived.Test.YtalgmlhcbilicaaDoorDb
namespace Go.Proofs.YtalgmlhcbilicaaDoor
set_option maxRecDepth 100000
section rules
variable {P : Program} {n' : Fi} {E : Env} {L : List HProp} {ty : TypeId}
/-- x[i:j] -/
theorem OpV.slLH {t e sz : Nat} {x lo hi : Operand} {ad : Option Addr} {len cap i j : Nat} {k1 k2 : IntKind} [hu : Und P t (.slice e)] [hs : Siz P e sz] (hx : ev E x = some (.slice ad len cap)) (hl : ev E lo = some (.int k1 (i : Int))) (hh : ev E hi = some (.int k2 (j : Int)))
    (h1 : i ≤ j) (h2 : j ≤ cap) : OpV P n' (.slice t x (some lo) (some hi) none) ty E L (.slice (tlN ad cap i sz) (j - i) (cap - i)) := by
  unfold OpV
  intro d ps af gd a w ha _
  have hb : ∀ (kd : IntKind) (x y : Nat) (c : BoundsCode), x ≤ y → (Instr.sliceBound (.int kd (x : Int)) y c).run P w = .ok x w := fun kd x y c hxy => by
    unfold Instr.sliceBound
    simp only [asIntOf, Sem.run_bind, Sem.run_pure, Result.andThen_ok]
    rw [if_pos ⟨by omega, by omega⟩]
    rfl
  simp [execOp, ha.ev hx, ha.ev hl, ha.ev hh, Instr.sliceAt, Instr.slice, run_underlying hu.h, Instr.sliceBounds, hs.h, hb k2 j cap _ h2, hb k1 i j _ h1, tlN]
end rules
theorem u64s_app (a b : List Nat) : u64s (a ++ b) = u64s a ++ u64s b := by simp [u64s]
theorem u64s_drop (a : List Nat) (i : Nat) : (u64s a).drop i = u64s (a.drop i) := by simp [u64s, List.map_drop]
theorem u64s_tk (a : List Nat) (i : Nat) : (u64s a).take i = u64s (a.take i) := by simp [u64s, List.map_take]
set_option maxHeartbeats 1000000 in
theorem delete_t (ad : Option Addr) (cap : Nat) (xs : List Nat) (i : Nat) (hi : i < xs.length) (hn : xs.length ≤ 1000) : Tri Tryd.prog 35 #[.slice ad xs.length cap, .int .i64 (i : Int), .int .i64 ((i : Int) + 1)] [Row (.slice ad xs.length cap) 25 1 xs.length (u64s xs)]
    fun r L => r = .slice ad (xs.length - 1) cap ∧ L = [Row (.slice ad (xs.length - 1) cap) 25 1 (xs.length - 1) (u64s (xs.eraseIdx i))] := by
  refine Tri.of_body (vs := [_, _, _]) Tryd.func35 rfl rfl fun w0 F => ?_
  refine St.conv ?_ (Sub.refl _) (Ent.of_take (p := Row (.slice ad xs.length cap) 25 1 xs.length (u64s xs)) Take.go)
  refine St.rowF (by omega) fun g lcp rest hv hrf => ?_
  injection hv with hv1 hv2 hv3
  subst hv1 hv3
  have hle := hrf.le
  have htot := hrf.tot
  rw [u64s_len, Nat.mul_one] at htot
  have hll : (u64s xs ++ rest).length = cap := by rw [List.length_append, u64s_len]; exact htot
  obtain ⟨ox, htl, r, hdr, htk⟩ : ∃ ox, tlN (some ⟨g, 0, none⟩) cap (i + 1) 1 = some ⟨g, ox, none⟩ ∧ ∃ r, DropN ox (u64s xs ++ rest) r ∧ TakeN (xs.length - (i + 1)) r (u64s (xs.drop (i + 1))) := by
    by_cases hc : cap = i + 1
    · refine ⟨0, by unfold tlN; rw [if_pos hc], _, .zero, ?_⟩
      have h0 : xs.length - (i + 1) = 0 := by omega
      rw [h0, List.drop_eq_nil_of_le (by omega)]
      exact .zero
    · refine ⟨i + 1, by unfold tlN; rw [if_neg hc]; simp [Addr.add], _, DropN.of (by omega), ?_⟩
      have h1 : TakeN (xs.length - (i + 1)) ((u64s xs ++ rest).drop (i + 1)) (((u64s xs ++ rest).drop (i + 1)).take (xs.length - (i + 1))) := TakeN.of (by rw [List.length_drop]; omega)
      rw [List.drop_append_of_le_length (by rw [u64s_len]; omega), u64s_drop, List.take_append_of_le_length (by rw [u64s_len, List.length_drop]; exact Nat.le_refl _), List.take_of_length_le (by rw [u64s_len, List.length_drop]; exact Nat.le_refl _)] at h1
      rw [List.drop_append_of_le_length (by rw [u64s_len]; omega), u64s_drop]
      exact h1
  have hone := u64s_one (xs.drop (i + 1))
  obtain ⟨tl, htl1, e2⟩ : ∃ tl : List Value, tl.length = 1 ∧ (u64s xs ++ rest).take i ++ u64s (xs.drop (i + 1)) ++ (u64s xs ++ rest).drop (i + (xs.length - (i + 1))) = u64s (xs.eraseIdx i) ++ (tl ++ rest) := by
    refine ⟨u64s (xs.drop (xs.length - 1)), by rw [u64s_len, List.length_drop]; omega, ?_⟩
    rw [List.take_append_of_le_length (by rw [u64s_len]; omega), u64s_tk, ← u64s_app, ← List.eraseIdx_eq_take_drop_succ, show i + (xs.length - (i + 1)) = xs.length - 1 by omega, List.drop_append_of_le_length (by rw [u64s_len]; omega), u64s_drop]
  have hel : (xs.eraseIdx i).length = xs.length - 1 := List.length_eraseIdx_of_lt hi
  have e3 : (u64s (xs.eraseIdx i) ++ (tl ++ rest)).take (xs.length - 1) ++ List.replicate 1 (.int .u64 0) ++ (u64s (xs.eraseIdx i) ++ (tl ++ rest)).drop (xs.length - 1 + 1) = u64s (xs.eraseIdx i) ++ ([.int .u64 0] ++ rest) := by
    rw [List.take_append_of_le_length (by rw [u64s_len, hel]; exact Nat.le_refl _), List.take_of_length_le (by rw [u64s_len, hel]; exact Nat.le_refl _), ← List.append_assoc (u64s (xs.eraseIdx i)) tl rest, List.drop_append_of_le_length (by rw [List.length_append, u64s_len, hel, htl1]; exact Nat.le_refl _), List.drop_of_length_le (by rw [List.length_append, u64s_len, hel, htl1]; exact Nat.le_refl _)]
    rw [List.append_assoc]; rfl
  repeat' (first | refine Ga ?_ | (refine Gb ?_; intro b) | (refine Gd ?_; intro g cap rest hcap) | (refine Gc ?_; intro ad cap) | (refine St.draw (id := 5) [(0, 0), (1, 0), (2, 0), (3, 0), (4, 0), (5, 0), (6, 3), (7, 0)] [6] mixed (by kernel_rfl) ?_) | (refine Ge ?_ ?_ <;> (intro h; try (exfalso; omega))) | fail)
  refine StL.v (OpV.sl3 (i := i) (j := i + 1) (k := xs.length) rfl rfl rfl rfl (by omega) (by omega) (by omega)).choose_spec rfl ?_
  repeat' (first | refine Ga ?_ | (refine Gb ?_; intro b) | (refine Gd ?_; intro g cap rest hcap) | (refine Gc ?_; intro ad cap) | (refine St.draw (id := 5) [(0, 0), (1, 0), (2, 0), (3, 0), (4, 0), (5, 0), (6, 3), (7, 0)] [6] mixed (by kernel_rfl) ?_) | (refine Ge ?_ ?_ <;> (intro h; try (exfalso; omega))) | fail)
  all_goals first | (exfalso; omega) | skip
  (apply StD.v0; rfl; (apply OpV.slLo (i := i + 1); rfl; rfl; omega); rfl)
  (apply StD.ok3; rfl; (apply OpOk.appendIn (n := i); rfl; exact congrArg (fun a => some (Value.slice a _ _)) htl; exact Take.here; exact ReadsC.here RdC.bl; exact hdr; exact htk; exact hone; omega; (rw [hll]; omega)); rfl; rintro _ _ ⟨rfl, rfl⟩)
  have hp1 : i + (xs.length - (i + 1)) = xs.length - 1 := by omega
  rw [e2, hp1]
  have hclr : Value.slice (tlN (some ⟨g, 0, none⟩) cap (xs.length - 1) 1) (xs.length - (xs.length - 1)) (cap - (xs.length - 1)) = .slice (some ⟨g, xs.length - 1, none⟩) 1 (cap - (xs.length - 1)) := by
    unfold tlN
    rw [if_neg (by omega), show xs.length - (xs.length - 1) = 1 by omega]
    simp only [Option.map, Addr.add, Nat.mul_one]
    split
    · next h0 => rw [h0]
    · rw [Nat.zero_add]
  repeat' (first | refine Ga ?_ | (refine Gb ?_; intro b) | (refine Gd ?_; intro g cap rest hcap) | (refine Gc ?_; intro ad cap) | (refine St.draw (id := 5) [(0, 0), (1, 0), (2, 0), (3, 0), (4, 0), (5, 0), (6, 3), (7, 0)] [6] mixed (by kernel_rfl) ?_) | (refine Ge ?_ ?_ <;> (intro h; try (exfalso; omega))) | fail)
  (apply StL.v; (apply OpV.slLH (i := xs.length - 1) (j := xs.length); rfl; rfl; rfl; omega; omega); rfl)
  (apply StL.ok; (apply OpOk.clearB (n := 1) (o := xs.length - 1); exact congrArg some hclr; exact Take.here; rfl; rfl; decide; (rw [List.length_append, u64s_len, hel, List.length_append, htl1]; omega)); rfl; rintro _ _ rfl)
  rw [e3]
  repeat' (first | refine Ga ?_ | (refine Gb ?_; intro b) | (refine Gd ?_; intro g cap rest hcap) | (refine Gc ?_; intro ad cap) | (refine St.draw (id := 5) [(0, 0), (1, 0), (2, 0), (3, 0), (4, 0), (5, 0), (6, 3), (7, 0)] [6] mixed (by kernel_rfl) ?_) | (refine Ge ?_ ?_ <;> (intro h; try (exfalso; omega))) | fail)
  refine St.d1 Tryd.func35 ⟨_, ⟨rfl, rfl⟩, ?_⟩
  refine Ent.trans ?_ Ent.go
  exact Ent.rowF ⟨by omega, hrf.max, by rw [u64s_len, hel, Nat.mul_one], by rw [u64s_len, hel, List.length_append]; show xs.length - 1 + (1 + rest.length) = _; omega⟩
end Go.Proofs.YtalgmlhcbilicaaDoor
