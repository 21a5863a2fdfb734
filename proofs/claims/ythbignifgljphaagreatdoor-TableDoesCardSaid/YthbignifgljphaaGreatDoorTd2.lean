/-
  Package slices: Delete, Insert of one pair.
-/
import Derived.Test.YthbignifgljphaaGreatDoorTd1
namespace Go.Proofs.YthbignifgljphaaGreatDoor
set_option maxRecDepth 100000
theorem pf_drop : ∀ (xs : Prs) (i : Nat), (xs.flatMap prV).drop (i * 2) = (xs.drop i).flatMap prV
  | xs, 0 => by simp
  | [], i + 1 => by simp
  | x :: xs, i + 1 => by
    rw [List.flatMap_cons, List.drop_succ_cons, ← pf_drop xs i, show (i + 1) * 2 = (prV x).length + i * 2 by rw [prV_len]; omega, List.drop_length_add_append]
theorem pf_take : ∀ (xs : Prs) (i : Nat), (xs.flatMap prV).take (i * 2) = (xs.take i).flatMap prV
  | xs, 0 => by simp
  | [], i + 1 => by simp
  | x :: xs, i + 1 => by
    rw [List.flatMap_cons, List.take_succ_cons, List.flatMap_cons, ← pf_take xs i, show (i + 1) * 2 = (prV x).length + i * 2 by rw [prV_len]; omega, List.take_length_add_append]
theorem pf_one : ∀ l : Prs, (l.flatMap prV).all one = true
  | [] => rfl
  | x :: xs => by rw [List.flatMap_cons, List.all_append, pf_one xs]; rfl
theorem tlN_lt {g cap i : Nat} (h : i < cap) : tlN (some ⟨g, 0, none⟩) cap i 2 = some ⟨g, i * 2, none⟩ := by
  unfold tlN
  rw [if_neg (by omega)]
  simp [Addr.add]
  exact fun h => h.symm
/-- A ++ B: what lies behind A is turned from A's end on -/
theorem over_at {A B cs : List Value} {o m : Nat} (ho : A.length = o) : (A ++ B).take o ++ cs ++ (A ++ B).drop (o + m) = A ++ (cs ++ B.drop m) := by
  subst ho
  rw [List.take_left', List.append_assoc, List.drop_append]
  · rw [List.drop_of_length_le (by omega), List.nil_append, show A.length + m - A.length = m by omega]
  · rfl
theorem src_at {xs : Prs} {rest : List Value} (j : Nat) (hj : j ≤ xs.length) : ∃ r, DropN (j * 2) (xs.flatMap prV ++ rest) r ∧ TakeN ((xs.length - j) * 2) r ((xs.drop j).flatMap prV) := by
  have hl := prs_len xs
  have hl2 : ((xs.drop j).flatMap prV).length = (xs.length - j) * 2 := by rw [prs_len, List.length_drop]
  refine ⟨_, DropN.of (by rw [List.length_append]; omega), ?_⟩
  have h1 : TakeN ((xs.length - j) * 2) ((xs.flatMap prV ++ rest).drop (j * 2)) (((xs.flatMap prV ++ rest).drop (j * 2)).take ((xs.length - j) * 2)) := TakeN.of (by rw [List.length_drop, List.length_append]; omega)
  rw [List.drop_append_of_le_length (by omega), pf_drop, List.take_append_of_le_length (by omega), List.take_of_length_le (by omega)] at h1
  rw [List.drop_append_of_le_length (by omega), pf_drop]
  exact h1
set_option maxHeartbeats 2000000 in
theorem delete_t (ad : Option Addr) (cap : Nat) (xs : Prs) (i : Nat) (hi : i < xs.length) (hn : xs.length ≤ 1000) : Tri Tryz.prog 52 #[.slice ad xs.length cap, .int .i64 (i : Int), .int .i64 ((i : Int) + 1)] [Row (.slice ad xs.length cap) 73 2 xs.length (xs.flatMap prV)]
    fun r L => r = .slice ad (xs.length - 1) cap ∧ L = [Row (.slice ad (xs.length - 1) cap) 73 2 (xs.length - 1) ((xs.eraseIdx i).flatMap prV)] := by
  refine Tri.of_body (vs := [_, _, _]) Tryz.func52 rfl rfl fun w0 F => ?_
  refine St.conv ?_ (Sub.refl _) (Ent.of_take (p := Row (.slice ad xs.length cap) 73 2 xs.length (xs.flatMap prV)) Take.go)
  refine St.rowF (by omega) fun g lcp rest hv hrf => ?_
  injection hv with hv1 hv2 hv3
  subst hv1 hv3
  have hle := hrf.le
  have htot := hrf.tot
  have hpl := prs_len xs
  rw [hpl] at htot
  have hll : (xs.flatMap prV ++ rest).length = cap * 2 := by rw [List.length_append, hpl]; exact htot
  obtain ⟨ox, htl, r, hdr, htk⟩ : ∃ ox, tlN (some ⟨g, 0, none⟩) cap (i + 1) 2 = some ⟨g, ox, none⟩ ∧ ∃ r, DropN ox (xs.flatMap prV ++ rest) r ∧ TakeN ((xs.length - (i + 1)) * 2) r ((xs.drop (i + 1)).flatMap prV) := by
    by_cases hc : cap = i + 1
    · refine ⟨0, by unfold tlN; rw [if_pos hc], _, .zero, ?_⟩
      have h0 : xs.length - (i + 1) = 0 := by omega
      rw [h0, List.drop_eq_nil_of_le (by omega)]
      exact .zero
    · obtain ⟨r, h1, h2⟩ := src_at (xs := xs) (rest := rest) (i + 1) (by omega)
      exact ⟨(i + 1) * 2, tlN_lt (by omega), r, h1, h2⟩
  have hone := pf_one (xs.drop (i + 1))
  have hel : (xs.eraseIdx i).length = xs.length - 1 := List.length_eraseIdx_of_lt hi
  have hel2 : ((xs.eraseIdx i).flatMap prV).length = (xs.length - 1) * 2 := by rw [prs_len, hel]
  obtain ⟨tl, htl1, e2⟩ : ∃ tl : List Value, tl.length = 2 ∧ (xs.flatMap prV ++ rest).take (i * 2) ++ (xs.drop (i + 1)).flatMap prV ++ (xs.flatMap prV ++ rest).drop (i * 2 + (xs.length - (i + 1)) * 2) = (xs.eraseIdx i).flatMap prV ++ (tl ++ rest) := by
    refine ⟨(xs.drop (xs.length - 1)).flatMap prV, by rw [prs_len, List.length_drop]; omega, ?_⟩
    rw [List.take_append_of_le_length (by omega), pf_take, ← List.flatMap_append, ← List.eraseIdx_eq_take_drop_succ, show i * 2 + (xs.length - (i + 1)) * 2 = (xs.length - 1) * 2 by omega, List.drop_append_of_le_length (by omega), pf_drop]
  have e3 : ((xs.eraseIdx i).flatMap prV ++ (tl ++ rest)).take ((xs.length - 1) * 2) ++ List.replicate (1 * 2) (.int .u64 0) ++ ((xs.eraseIdx i).flatMap prV ++ (tl ++ rest)).drop ((xs.length - 1) * 2 + 1 * 2) = (xs.eraseIdx i).flatMap prV ++ ([.int .u64 0, .int .u64 0] ++ rest) := by
    rw [over_at hel2, List.drop_append_of_le_length (by omega), List.drop_of_length_le (by omega)]
    rfl
  repeat' (first | refine Ga ?_ | (refine Gb ?_; intro b) | (refine Gd ?_; intro g cap rest hcap) | (refine Gc ?_; intro ad cap) | (refine St.draw (id := 5) [(0, 0), (1, 0), (2, 0), (3, 0), (4, 0), (5, 0), (6, 3), (7, 0)] [6] mixed (by kernel_rfl) ?_) | (refine Ge ?_ ?_ <;> (intro h; try (exfalso; omega))) | fail)
  refine StL.v (OpV.sl3 (i := i) (j := i + 1) (k := xs.length) rfl rfl rfl rfl (by omega) (by omega) (by omega)).choose_spec rfl ?_
  repeat' (first | refine Ga ?_ | (refine Gb ?_; intro b) | (refine Gd ?_; intro g cap rest hcap) | (refine Gc ?_; intro ad cap) | (refine St.draw (id := 5) [(0, 0), (1, 0), (2, 0), (3, 0), (4, 0), (5, 0), (6, 3), (7, 0)] [6] mixed (by kernel_rfl) ?_) | (refine Ge ?_ ?_ <;> (intro h; try (exfalso; omega))) | fail)
  all_goals first | (exfalso; omega) | skip
  (apply StD.v0; rfl; (apply OpV.slLo (i := i + 1); rfl; rfl; omega); rfl)
  (apply StD.ok3; rfl; (apply OpOk.appendIn2 (n := i); rfl; exact congrArg (fun a => some (Value.slice a _ _)) htl; exact Take.here; exact ReadsC.here RdC.bl; exact hdr; exact htk; exact hone; omega; (rw [hll]; omega)); rfl; rintro _ _ ⟨rfl, rfl⟩)
  have hp1 : i + (xs.length - (i + 1)) = xs.length - 1 := by omega
  rw [e2, hp1]
  have hclr : Value.slice (tlN (some ⟨g, 0, none⟩) cap (xs.length - 1) 2) (xs.length - (xs.length - 1)) (cap - (xs.length - 1)) = .slice (some ⟨g, (xs.length - 1) * 2, none⟩) 1 (cap - (xs.length - 1)) := by
    rw [tlN_lt (by omega), show xs.length - (xs.length - 1) = 1 by omega]
  repeat' (first | refine Ga ?_ | (refine Gb ?_; intro b) | (refine Gd ?_; intro g cap rest hcap) | (refine Gc ?_; intro ad cap) | (refine St.draw (id := 5) [(0, 0), (1, 0), (2, 0), (3, 0), (4, 0), (5, 0), (6, 3), (7, 0)] [6] mixed (by kernel_rfl) ?_) | (refine Ge ?_ ?_ <;> (intro h; try (exfalso; omega))) | fail)
  (apply StL.v; (apply OpV.slLH (i := xs.length - 1) (j := xs.length); rfl; rfl; rfl; omega; omega); rfl)
  (apply StL.ok; (apply OpOk.clearB2 (n := 1) (o := (xs.length - 1) * 2) (c0 := .int .u64 0); exact congrArg some hclr; exact Take.here; rfl; rfl; decide; (rw [List.length_append, hel2, List.length_append, htl1]; omega)); rfl; rintro _ _ rfl)
  rw [e3]
  repeat' (first | refine Ga ?_ | (refine Gb ?_; intro b) | (refine Gd ?_; intro g cap rest hcap) | (refine Gc ?_; intro ad cap) | (refine St.draw (id := 5) [(0, 0), (1, 0), (2, 0), (3, 0), (4, 0), (5, 0), (6, 3), (7, 0)] [6] mixed (by kernel_rfl) ?_) | (refine Ge ?_ ?_ <;> (intro h; try (exfalso; omega))) | fail)
  refine St.d1 Tryz.func52 ⟨_, ⟨rfl, rfl⟩, ?_⟩
  refine Ent.trans ?_ Ent.go
  exact Ent.rowF ⟨by omega, hrf.max, hel2, by rw [hel2, List.length_append]; show (xs.length - 1) * 2 + (2 + rest.length) = _; omega⟩
set_option maxHeartbeats 2000000 in
theorem insert_t (ad0 : Option Addr) (cp : Nat) (xs : Prs) (i kx vx vb : Nat) (hi : i ≤ xs.length) (hn : xs.length ≤ 1000) : Tri Tryz.prog 53 #[.slice ad0 xs.length cp, .int .i64 (i : Int), .slice (some ⟨vb, 0, none⟩) 1 1] [Row (.slice ad0 xs.length cp) 73 2 xs.length (xs.flatMap prV), bl vb 73 [.int .u64 (kx : Int), .int .u64 (vx : Int)]]
    fun r L => ∃ ad' cap', r = .slice ad' (xs.length + 1) cap' ∧ L = [Row (.slice ad' (xs.length + 1) cap') 73 2 (xs.length + 1) ((xs.take i ++ (kx, vx) :: xs.drop i).flatMap prV)] := by
  have hpl := prs_len xs
  by_cases hin : i = xs.length
  · subst hin
    have e : (xs.take xs.length ++ (kx, vx) :: xs.drop xs.length).flatMap prV = xs.flatMap prV ++ [.int .u64 (kx : Int), .int .u64 (vx : Int)] := by rw [List.take_length, List.drop_length, prV_snoc]
    rw [e]
    refine Tri.of_body (vs := [_, _, _]) Tryz.func53 rfl rfl fun w0 F => ?_
    repeat' (first | refine Ga ?_ | (refine Gb ?_; intro b) | (refine Gd ?_; intro g cap rest hcap) | (refine Gc ?_; intro ad cap) | (refine St.draw (id := 11) [(0, 0), (1, 0), (2, 0), (3, 0), (4, 0), (5, 0), (6, 0), (7, 0), (8, 3)] [8] mixed (by kernel_rfl) ?_) | (refine St.draw (id := 15) [(0, 0), (1, 0), (2, 0), (3, 0), (4, 0), (5, 0), (6, 0), (7, 0), (8, 3)] [8] mixed (by kernel_rfl) ?_) | (refine Ge ?_ ?_ <;> (intro h; try (exfalso; omega))) | fail)
    (apply StL.v; (apply OpV.slLo (i := xs.length); rfl; rfl; omega); rfl)
    repeat' (first | refine Ga ?_ | (refine Gb ?_; intro b) | (refine Gd ?_; intro g cap rest hcap) | (refine Gc ?_; intro ad cap) | (refine St.draw (id := 11) [(0, 0), (1, 0), (2, 0), (3, 0), (4, 0), (5, 0), (6, 0), (7, 0), (8, 3)] [8] mixed (by kernel_rfl) ?_) | (refine St.draw (id := 15) [(0, 0), (1, 0), (2, 0), (3, 0), (4, 0), (5, 0), (6, 0), (7, 0), (8, 3)] [8] mixed (by kernel_rfl) ?_) | (refine Ge ?_ ?_ <;> (intro h; try (exfalso; omega))) | fail)
    all_goals first | (exfalso; omega) | skip
    refine St.d1 Tryz.func53 ⟨_, ⟨ad, cap, rfl, rfl⟩, Ent.go⟩
  have hlt : i < xs.length := by omega
  refine Tri.of_body (vs := [_, _, _]) Tryz.func53 rfl rfl fun w0 F => ?_
  refine St.conv ?_ (Sub.refl _) (Ent.of_take (p := Row (.slice ad0 xs.length cp) 73 2 xs.length (xs.flatMap prV)) Take.go)
  refine St.rowF (by omega) fun g lcp rest hv hrf => ?_
  injection hv with hv1 hv2 hv3
  subst hv1 hv3
  have hle := hrf.le
  have htot := hrf.tot
  rw [hpl] at htot
  have hll : (xs.flatMap prV ++ rest).length = cp * 2 := by rw [List.length_append, hpl]; exact htot
  have hti := tlN_lt (g := g) (cap := cp) (i := i) (by omega)
  have hone := pf_one (xs.drop i)
  obtain ⟨r, hdr, htk⟩ := src_at (xs := xs) (rest := rest) i (by omega)
  have hAl : ((xs.take i).flatMap prV).length = i * 2 := by rw [prs_len, List.length_take]; omega
  have hDl : ((xs.drop i).flatMap prV).length = (xs.length - i) * 2 := by rw [prs_len, List.length_drop]
  by_cases hroom : cp < xs.length + 1
  · obtain rfl : cp = xs.length := by omega
    repeat' (first | refine Ga ?_ | (refine Gb ?_; intro b) | (refine Gd ?_; intro g cap rest hcap) | (refine Gc ?_; intro ad cap) | (refine St.draw (id := 11) [(0, 0), (1, 0), (2, 0), (3, 0), (4, 0), (5, 0), (6, 0), (7, 0), (8, 3)] [8] mixed (by kernel_rfl) ?_) | (refine St.draw (id := 15) [(0, 0), (1, 0), (2, 0), (3, 0), (4, 0), (5, 0), (6, 0), (7, 0), (8, 3)] [8] mixed (by kernel_rfl) ?_) | (refine Ge ?_ ?_ <;> (intro h; try (exfalso; omega))) | fail)
    (apply StL.v; (apply OpV.slLo (i := i); rfl; rfl; omega); rfl)
    repeat' (first | refine Ga ?_ | (refine Gb ?_; intro b) | (refine Gd ?_; intro g cap rest hcap) | (refine Gc ?_; intro ad cap) | (refine St.draw (id := 11) [(0, 0), (1, 0), (2, 0), (3, 0), (4, 0), (5, 0), (6, 0), (7, 0), (8, 3)] [8] mixed (by kernel_rfl) ?_) | (refine St.draw (id := 15) [(0, 0), (1, 0), (2, 0), (3, 0), (4, 0), (5, 0), (6, 0), (7, 0), (8, 3)] [8] mixed (by kernel_rfl) ?_) | (refine Ge ?_ ?_ <;> (intro h; try (exfalso; omega))) | fail)
    (apply StL.v; (apply OpV.cap_sl; rfl); rfl)
    repeat' (first | refine Ga ?_ | (refine Gb ?_; intro b) | (refine Gd ?_; intro g cap rest hcap) | (refine Gc ?_; intro ad cap) | (refine St.draw (id := 11) [(0, 0), (1, 0), (2, 0), (3, 0), (4, 0), (5, 0), (6, 0), (7, 0), (8, 3)] [8] mixed (by kernel_rfl) ?_) | (refine St.draw (id := 15) [(0, 0), (1, 0), (2, 0), (3, 0), (4, 0), (5, 0), (6, 0), (7, 0), (8, 3)] [8] mixed (by kernel_rfl) ?_) | (refine Ge ?_ ?_ <;> (intro h; try (exfalso; omega))) | fail)
    all_goals first | (exfalso; omega) | skip
    have hmz : ((xs.length : Int) + ((1 : Nat) : Int) - (i : Int)) = ((xs.length + 1 - i : Nat) : Int) := by omega
    (apply StL.ok; (apply OpOk.appendMk2 (n := i) (m := xs.length + 1 - i) (c0 := .int .u64 0); rfl; exact congrArg (fun z => some (Value.int .i64 z)) hmz; exact Take.here; rfl; omega; omega; (rw [hll]; omega); omega; decide); rfl; rintro _ _ ⟨g2, cap2, rest2, rfl, hrf2, rfl⟩)
    have hA : (xs.flatMap prV ++ rest).take (i * 2) = (xs.take i).flatMap prV := by rw [List.take_append_of_le_length (by omega), pf_take]
    have hLn : i + (xs.length + 1 - i) = xs.length + 1 := by omega
    rw [hA] at hrf2
    rw [hLn] at hrf2
    rw [hA, hLn, List.append_assoc ((xs.take i).flatMap prV)]
    have hle2 := hrf2.le
    have htot2 := hrf2.tot
    rw [List.length_append, hAl, List.length_replicate] at htot2
    have hti2 := tlN_lt (g := g2) (cap := cap2) (i := i) (by omega)
    have hti3 := tlN_lt (g := g2) (cap := cap2) (i := i + 1) (by omega)
    repeat' (first | refine Ga ?_ | (refine Gb ?_; intro b) | (refine Gd ?_; intro g cap rest hcap) | (refine Gc ?_; intro ad cap) | (refine St.draw (id := 11) [(0, 0), (1, 0), (2, 0), (3, 0), (4, 0), (5, 0), (6, 0), (7, 0), (8, 3)] [8] mixed (by kernel_rfl) ?_) | (refine St.draw (id := 15) [(0, 0), (1, 0), (2, 0), (3, 0), (4, 0), (5, 0), (6, 0), (7, 0), (8, 3)] [8] mixed (by kernel_rfl) ?_) | (refine Ge ?_ ?_ <;> (intro h; try (exfalso; omega))) | fail)
    (apply StL.v; (apply OpV.slLo (i := i); rfl; rfl; omega); rfl)
    repeat' (first | refine Ga ?_ | (refine Gb ?_; intro b) | (refine Gd ?_; intro g cap rest hcap) | (refine Gc ?_; intro ad cap) | (refine St.draw (id := 11) [(0, 0), (1, 0), (2, 0), (3, 0), (4, 0), (5, 0), (6, 0), (7, 0), (8, 3)] [8] mixed (by kernel_rfl) ?_) | (refine St.draw (id := 15) [(0, 0), (1, 0), (2, 0), (3, 0), (4, 0), (5, 0), (6, 0), (7, 0), (8, 3)] [8] mixed (by kernel_rfl) ?_) | (refine Ge ?_ ?_ <;> (intro h; try (exfalso; omega))) | fail)
    (apply StL.ok; (apply OpOk.copyB2 (o := i * 2) (m := 1); exact congrArg (fun a => some (Value.slice a _ _)) hti2; rfl; exact Take.here; (focus (repeat first | exact ReadsC.here RdC.bl | exact ReadsC.here (by assumption) | apply ReadsC.there)); exact DropN.zero; exact TakeN.succ (TakeN.succ TakeN.zero); rfl; (show 1 = min 1 _; omega); (rw [List.length_append, List.length_append, hAl, List.length_replicate]; omega)); rfl; rintro _ _ ⟨rfl, rfl⟩)
    rw [over_at hAl]
    have hTl : ((List.replicate ((xs.length + 1 - i) * 2) (Value.int .u64 0) ++ rest2).drop (1 * 2)).length = (xs.length - i) * 2 + rest2.length := by
      rw [List.length_drop, List.length_append, List.length_replicate]; omega
    generalize (List.replicate ((xs.length + 1 - i) * 2) (Value.int .u64 0) ++ rest2).drop (1 * 2) = T at hTl ⊢
    rw [← List.append_assoc ((xs.take i).flatMap prV) [Value.int .u64 (kx : Int), Value.int .u64 (vx : Int)] T]
    have hA1 : ((xs.take i).flatMap prV ++ [Value.int .u64 (kx : Int), Value.int .u64 (vx : Int)]).length = (i + 1) * 2 := by rw [List.length_append, hAl]; show i * 2 + 2 = _; omega
    repeat' (first | refine Ga ?_ | (refine Gb ?_; intro b) | (refine Gd ?_; intro g cap rest hcap) | (refine Gc ?_; intro ad cap) | (refine St.draw (id := 11) [(0, 0), (1, 0), (2, 0), (3, 0), (4, 0), (5, 0), (6, 0), (7, 0), (8, 3)] [8] mixed (by kernel_rfl) ?_) | (refine St.draw (id := 15) [(0, 0), (1, 0), (2, 0), (3, 0), (4, 0), (5, 0), (6, 0), (7, 0), (8, 3)] [8] mixed (by kernel_rfl) ?_) | (refine Ge ?_ ?_ <;> (intro h; try (exfalso; omega))) | fail)
    (apply StD.v0; rfl; (apply OpV.slLo (i := i + 1); rfl; rfl; omega); rfl)
    repeat' (first | refine Ga ?_ | (refine Gb ?_; intro b) | (refine Gd ?_; intro g cap rest hcap) | (refine Gc ?_; intro ad cap) | (refine St.draw (id := 11) [(0, 0), (1, 0), (2, 0), (3, 0), (4, 0), (5, 0), (6, 0), (7, 0), (8, 3)] [8] mixed (by kernel_rfl) ?_) | (refine St.draw (id := 15) [(0, 0), (1, 0), (2, 0), (3, 0), (4, 0), (5, 0), (6, 0), (7, 0), (8, 3)] [8] mixed (by kernel_rfl) ?_) | (refine Ge ?_ ?_ <;> (intro h; try (exfalso; omega))) | fail)
    (apply StD.v0; rfl; (apply OpV.slLo (i := i); rfl; rfl; omega); rfl)
    (apply StD.ok3; rfl; (apply OpOk.copyB2 (o := (i + 1) * 2) (m := xs.length - i); exact congrArg (fun a => some (Value.slice a _ _)) hti3; exact congrArg (fun a => some (Value.slice a _ _)) hti; exact Take.here; (focus (repeat first | exact ReadsC.here RdC.bl | exact ReadsC.here (by assumption) | apply ReadsC.there)); exact hdr; exact htk; exact hone; (show xs.length - i = min (xs.length - i) (xs.length + 1 - (i + 1)); omega); (rw [List.length_append, hA1, hTl]; omega)); rfl; rintro _ _ ⟨rfl, rfl⟩)
    rw [over_at hA1]
    repeat' (first | refine Ga ?_ | (refine Gb ?_; intro b) | (refine Gd ?_; intro g cap rest hcap) | (refine Gc ?_; intro ad cap) | (refine St.draw (id := 11) [(0, 0), (1, 0), (2, 0), (3, 0), (4, 0), (5, 0), (6, 0), (7, 0), (8, 3)] [8] mixed (by kernel_rfl) ?_) | (refine St.draw (id := 15) [(0, 0), (1, 0), (2, 0), (3, 0), (4, 0), (5, 0), (6, 0), (7, 0), (8, 3)] [8] mixed (by kernel_rfl) ?_) | (refine Ge ?_ ?_ <;> (intro h; try (exfalso; omega))) | fail)
    refine St.d1 Tryz.func53 ⟨_, ⟨some ⟨g2, 0, none⟩, cap2, rfl, rfl⟩, ?_⟩
    rw [show ((xs.take i).flatMap prV ++ [Value.int .u64 (kx : Int), Value.int .u64 (vx : Int)]) ++ ((xs.drop i).flatMap prV ++ T.drop ((xs.length - i) * 2)) = (xs.take i ++ (kx, vx) :: xs.drop i).flatMap prV ++ T.drop ((xs.length - i) * 2) by simp [prV]]
    refine Ent.trans (Ent.rowF (n := xs.length + 1) (cap := cap2) (sz := 2) ⟨hle2, hrf2.max, ?_, ?_⟩) Ent.go
    · rw [prs_len, List.length_append, List.length_cons, List.length_take, List.length_drop]; omega
    · rw [prs_len, List.length_append, List.length_cons, List.length_take, List.length_drop, List.length_drop, hTl]; omega
  · repeat' (first | refine Ga ?_ | (refine Gb ?_; intro b) | (refine Gd ?_; intro g cap rest hcap) | (refine Gc ?_; intro ad cap) | (refine St.draw (id := 11) [(0, 0), (1, 0), (2, 0), (3, 0), (4, 0), (5, 0), (6, 0), (7, 0), (8, 3)] [8] mixed (by kernel_rfl) ?_) | (refine St.draw (id := 15) [(0, 0), (1, 0), (2, 0), (3, 0), (4, 0), (5, 0), (6, 0), (7, 0), (8, 3)] [8] mixed (by kernel_rfl) ?_) | (refine Ge ?_ ?_ <;> (intro h; try (exfalso; omega))) | fail)
    (apply StL.v; (apply OpV.slLo (i := i); rfl; rfl; omega); rfl)
    repeat' (first | refine Ga ?_ | (refine Gb ?_; intro b) | (refine Gd ?_; intro g cap rest hcap) | (refine Gc ?_; intro ad cap) | (refine St.draw (id := 11) [(0, 0), (1, 0), (2, 0), (3, 0), (4, 0), (5, 0), (6, 0), (7, 0), (8, 3)] [8] mixed (by kernel_rfl) ?_) | (refine St.draw (id := 15) [(0, 0), (1, 0), (2, 0), (3, 0), (4, 0), (5, 0), (6, 0), (7, 0), (8, 3)] [8] mixed (by kernel_rfl) ?_) | (refine Ge ?_ ?_ <;> (intro h; try (exfalso; omega))) | fail)
    (apply StL.v; (apply OpV.cap_sl; rfl); rfl)
    repeat' (first | refine Ga ?_ | (refine Gb ?_; intro b) | (refine Gd ?_; intro g cap rest hcap) | (refine Gc ?_; intro ad cap) | (refine St.draw (id := 11) [(0, 0), (1, 0), (2, 0), (3, 0), (4, 0), (5, 0), (6, 0), (7, 0), (8, 3)] [8] mixed (by kernel_rfl) ?_) | (refine St.draw (id := 15) [(0, 0), (1, 0), (2, 0), (3, 0), (4, 0), (5, 0), (6, 0), (7, 0), (8, 3)] [8] mixed (by kernel_rfl) ?_) | (refine Ge ?_ ?_ <;> (intro h; try (exfalso; omega))) | fail)
    all_goals first | (exfalso; omega) | skip
    have hT : ((xs.length : Int) + ((1 : Nat) : Int)).toNat = xs.length + 1 := by omega
    have hti1 := tlN_lt (g := g) (cap := cp) (i := i + 1) (by omega)
    rw [hT]
    (apply StL.v; (apply OpV.slLo (i := i + 1); rfl; rfl; omega); rfl)
    (apply StL.ok; exact OpOk.overl2 (fn := Tryz.f71) (tS := 69) (tR := 4) Tryz.func71 (by kernel_rfl) rfl (by kernel_rfl) (by kernel_rfl) rfl (congrArg (fun a => some (Value.slice a _ _)) hti1) (.there .here) .here (fun h => by have := congrArg List.length h; rw [hll] at this; simp at this; omega); rfl; rintro _ _ ⟨rfl, rfl⟩)
    obtain ⟨y, hyl, hB⟩ : ∃ y : List Value, y.length = 2 ∧ (xs.flatMap prV ++ rest).take ((i + 1) * 2) = (xs.take i).flatMap prV ++ y := by
      refine ⟨prV xs[i], rfl, ?_⟩
      rw [List.take_append_of_le_length (by omega), pf_take, List.take_succ_eq_append_getElem hlt, List.flatMap_append]
      simp
    have hR : (xs.flatMap prV ++ rest).drop ((i + 1) * 2 + (xs.length - i) * 2) = rest.drop 2 := by
      rw [List.drop_append, List.drop_of_length_le (by omega), List.nil_append, hpl, show (i + 1) * 2 + (xs.length - i) * 2 - xs.length * 2 = 2 by omega]
    repeat' (first | refine Ga ?_ | (refine Gb ?_; intro b) | (refine Gd ?_; intro g cap rest hcap) | (refine Gc ?_; intro ad cap) | (refine St.draw (id := 11) [(0, 0), (1, 0), (2, 0), (3, 0), (4, 0), (5, 0), (6, 0), (7, 0), (8, 3)] [8] mixed (by kernel_rfl) ?_) | (refine St.draw (id := 15) [(0, 0), (1, 0), (2, 0), (3, 0), (4, 0), (5, 0), (6, 0), (7, 0), (8, 3)] [8] mixed (by kernel_rfl) ?_) | (refine Ge ?_ ?_ <;> (intro h; try (exfalso; omega))) | fail)
    all_goals first | (exfalso; omega) | skip
    (apply StD.v0; rfl; (apply OpV.slLo (i := i + 1); rfl; rfl; omega); rfl)
    repeat' (first | refine Ga ?_ | (refine Gb ?_; intro b) | (refine Gd ?_; intro g cap rest hcap) | (refine Gc ?_; intro ad cap) | (refine St.draw (id := 11) [(0, 0), (1, 0), (2, 0), (3, 0), (4, 0), (5, 0), (6, 0), (7, 0), (8, 3)] [8] mixed (by kernel_rfl) ?_) | (refine St.draw (id := 15) [(0, 0), (1, 0), (2, 0), (3, 0), (4, 0), (5, 0), (6, 0), (7, 0), (8, 3)] [8] mixed (by kernel_rfl) ?_) | (refine Ge ?_ ?_ <;> (intro h; try (exfalso; omega))) | fail)
    (apply StD.v0; rfl; (apply OpV.slLo (i := i); rfl; rfl; omega); rfl)
    have hdr' := hdr
    (apply StD.ok3; rfl; (apply OpOk.copyB2 (o := (i + 1) * 2) (m := xs.length - i); exact congrArg (fun a => some (Value.slice a _ _)) hti1; exact congrArg (fun a => some (Value.slice a _ _)) hti; exact Take.here; exact ReadsC.here RdC.bl; exact hdr; exact htk; exact hone; (show xs.length - i = min (xs.length + 1 - i) (xs.length + 1 - (i + 1)); omega); (rw [hll]; omega)); rfl; rintro _ _ ⟨rfl, rfl⟩)
    rw [hB, hR, List.append_assoc ((xs.take i).flatMap prV ++ y), List.append_assoc ((xs.take i).flatMap prV)]
    repeat' (first | refine Ga ?_ | (refine Gb ?_; intro b) | (refine Gd ?_; intro g cap rest hcap) | (refine Gc ?_; intro ad cap) | (refine St.draw (id := 11) [(0, 0), (1, 0), (2, 0), (3, 0), (4, 0), (5, 0), (6, 0), (7, 0), (8, 3)] [8] mixed (by kernel_rfl) ?_) | (refine St.draw (id := 15) [(0, 0), (1, 0), (2, 0), (3, 0), (4, 0), (5, 0), (6, 0), (7, 0), (8, 3)] [8] mixed (by kernel_rfl) ?_) | (refine Ge ?_ ?_ <;> (intro h; try (exfalso; omega))) | fail)
    (apply StL.v; (apply OpV.slLo (i := i); rfl; rfl; omega); rfl)
    repeat' (first | refine Ga ?_ | (refine Gb ?_; intro b) | (refine Gd ?_; intro g cap rest hcap) | (refine Gc ?_; intro ad cap) | (refine St.draw (id := 11) [(0, 0), (1, 0), (2, 0), (3, 0), (4, 0), (5, 0), (6, 0), (7, 0), (8, 3)] [8] mixed (by kernel_rfl) ?_) | (refine St.draw (id := 15) [(0, 0), (1, 0), (2, 0), (3, 0), (4, 0), (5, 0), (6, 0), (7, 0), (8, 3)] [8] mixed (by kernel_rfl) ?_) | (refine Ge ?_ ?_ <;> (intro h; try (exfalso; omega))) | fail)
    (apply StL.ok; (apply OpOk.copyB2 (o := i * 2) (m := 1); exact congrArg (fun a => some (Value.slice a _ _)) hti; rfl; exact Take.here; (focus (repeat first | exact ReadsC.here RdC.bl | exact ReadsC.here (by assumption) | apply ReadsC.there)); exact DropN.zero; exact TakeN.succ (TakeN.succ TakeN.zero); rfl; (show 1 = min 1 _; omega); (rw [List.length_append, hAl, List.length_append, hyl]; omega)); rfl; rintro _ _ ⟨rfl, rfl⟩)
    rw [over_at hAl]
    repeat' (first | refine Ga ?_ | (refine Gb ?_; intro b) | (refine Gd ?_; intro g cap rest hcap) | (refine Gc ?_; intro ad cap) | (refine St.draw (id := 11) [(0, 0), (1, 0), (2, 0), (3, 0), (4, 0), (5, 0), (6, 0), (7, 0), (8, 3)] [8] mixed (by kernel_rfl) ?_) | (refine St.draw (id := 15) [(0, 0), (1, 0), (2, 0), (3, 0), (4, 0), (5, 0), (6, 0), (7, 0), (8, 3)] [8] mixed (by kernel_rfl) ?_) | (refine Ge ?_ ?_ <;> (intro h; try (exfalso; omega))) | fail)
    refine St.d1 Tryz.func53 ⟨_, ⟨some ⟨g, 0, none⟩, cp, rfl, rfl⟩, ?_⟩
    have hyd : (y ++ ((xs.drop i).flatMap prV ++ rest.drop 2)).drop (1 * 2) = (xs.drop i).flatMap prV ++ rest.drop 2 := by
      rw [show 1 * 2 = y.length from hyl.symm, List.drop_left]
    rw [hyd, show (xs.take i).flatMap prV ++ ([Value.int .u64 (kx : Int), Value.int .u64 (vx : Int)] ++ ((xs.drop i).flatMap prV ++ rest.drop 2)) = (xs.take i ++ (kx, vx) :: xs.drop i).flatMap prV ++ rest.drop 2 by simp [prV]]
    refine Ent.trans (Ent.rowF (n := xs.length + 1) (cap := cp) (sz := 2) ⟨by omega, hrf.max, ?_, ?_⟩) Ent.go
    · rw [prs_len, List.length_append, List.length_cons, List.length_take, List.length_drop]; omega
    · rw [prs_len, List.length_append, List.length_cons, List.length_take, List.length_drop, List.length_drop]; omega
end Go.Proofs.YthbignifgljphaaGreatDoor
