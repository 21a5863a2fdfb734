/-
  Package tumblerlaw20: QueueApart.
-/
import Derived.Test.YtphheopbngdhhaaGreatDoorAa
import Derived.Test.YtphheopbngdhhaaGreatDoorAp
import Derived.Test.YtphheopbngdhhaaGreatDoorAq
import Derived.Test.YtphheopbngdhhaaGreatDoorQk
namespace Go.Proofs.YtphheopbngdhhaaGreatDoor
set_option maxRecDepth 100000
def boolV (b : Bool) : List Value := [.bool b]
theorem boolV_len (l : List Bool) : (l.flatMap boolV).length = l.length := by
  induction l with
  | nil => rfl
  | cons x l ih => rw [List.flatMap_cons, List.length_append, ih]; show 1 + _ = _; rw [List.length_cons]; omega
theorem boolV_one (l : List Bool) : (l.flatMap boolV).all one = true := by
  induction l with
  | nil => rfl
  | cons x l ih => rw [List.flatMap_cons, List.all_append, ih]; rfl
theorem boolV_rep : ∀ m : Nat, (List.replicate m false).flatMap boolV = List.replicate m (.bool false)
  | 0 => rfl
  | m + 1 => by rw [List.replicate_succ, List.flatMap_cons, boolV_rep m]; rfl
theorem lrun_nm (S : Nat) (m : Ms) (hm : MsOk m) (n : Int) (hn : n < 0 ∨ 6 ≤ n) (root arg : Nat) : Tri Tryz.prog 25 #[.pointer (some ⟨S, 0, none⟩), bs (nameM n), .int .u64 (root : Int), .int .u64 (arg : Int)] [MsE S m]
    fun v L => v = .agg ⟨[.int .i64 30, .int .u64 0, .int .i64 0, .int .i64 0, .slice none 0 0]⟩ ∧ L = [MsE S m] := by
  have h := lrun_no S m hm root arg
  unfold nameM
  rw [if_pos hn]
  exact h
/-- what a run of a name comes to: the answer, and the state behind it -/
def ranV (S : Nat) (m : Ms) (rc : Int) (rv : Nat) (v : Value) (L : List HProp) : Prop := ∃ (st dw : Int) (nad : Option Addr) (nn ncap : Nat), v = .agg ⟨[.int .i64 rc, .int .u64 (rv : Int), .int .i64 st, .int .i64 dw, .slice nad nn ncap]⟩ ∧ L = [MsE S m]
/-- one thing is done in both states: the same answer -/
theorem both_run {ms mx : Ms} {a b : Nat} {qa qb : Option Qu} {oa ob ox : List Nat} {i j : Nat} (S X : Nat) (h : QInv2 ms a b qa qb oa ob i j) (hx : QInv mx a qa ox i) (hab : a ≠ b) (hn : i + j < 60) (ha : a < 16) (nm : Int) (arg : Nat) (harg : arg < 18446744073709551616) :
    ∃ (rc : Int) (rv : Nat) (ms' mx' : Ms) (qa' : Option Qu) (oa' ox' : List Nat), QInv2 ms' a b qa' qb oa' ob (i + 1) j ∧ QInv mx' a qa' ox' (i + 1) ∧
      Tri Tryz.prog 25 #[.pointer (some ⟨S, 0, none⟩), bs (nameM nm), .int .u64 (a : Int), .int .u64 (arg : Int)] [MsE S ms] (ranV S ms' rc rv) ∧
      Tri Tryz.prog 25 #[.pointer (some ⟨X, 0, none⟩), bs (nameM nm), .int .u64 (a : Int), .int .u64 (arg : Int)] [MsE X mx] (ranV X mx' rc rv) := by
  by_cases hin : 0 ≤ nm ∧ nm < 6
  · obtain ⟨hn0, hn6⟩ := hin
    obtain ⟨e, h6⟩ := nameM_in hn0 hn6
    rw [e]
    generalize nm.toNat = k at h6
    obtain ⟨r, hr, hran, oa', hi'⟩ := h.step hab hn k arg h6 ha harg
    obtain ⟨r2, hr2, hran2, ox', hx'⟩ := hx.step (by omega) k arg h6 ha harg
    have h1 := lrun_t S ms h.ok k h6 a arg r hr
    have h2 := lrun_t X mx hx.ok k h6 a arg r2 hr2
    obtain ⟨c1, v1⟩ := hran.res
    obtain ⟨c2, v2⟩ := hran2.res
    unfold doneV at h1 h2
    rw [c1, v1] at h1
    rw [c2, v2] at h2
    exact ⟨_, _, _, _, _, _, _, hi', hx', h1.mono (fun v L ⟨nad, ncap, e1, e2⟩ => ⟨_, _, nad, _, ncap, e1, e2⟩), h2.mono (fun v L ⟨nad, ncap, e1, e2⟩ => ⟨_, _, nad, _, ncap, e1, e2⟩)⟩
  · have ho : nm < 0 ∨ 6 ≤ nm := by omega
    exact ⟨30, 0, ms, mx, qa, oa, ox, h.up, hx.more, (lrun_nm S ms h.ok nm ho a arg).mono (fun v L ⟨e1, e2⟩ => ⟨0, 0, none, 0, 0, e1, e2⟩), (lrun_nm X mx hx.ok nm ho a arg).mono (fun v L ⟨e1, e2⟩ => ⟨0, 0, none, 0, 0, e1, e2⟩)⟩
set_option maxHeartbeats 4000000 in
theorem qapart_t (q : HProp) (av bv tv : Value) (la lb : List OpB) (lt : List Bool) (hla : ListR opbV q av la) (hlb : ListR opbV q bv lb) (hlt : ListR boolV q tv lt) : Tri Tryz.prog 6 #[av, bv, tv] [q] fun v L => v = .bool true ∧ L = [q] := by
  obtain ⟨aad, acap, rfl, _, hla⟩ := hla
  obtain ⟨bad, bcap, rfl, _, hlb⟩ := hlb
  obtain ⟨tad, tcap, rfl, _, hlt⟩ := hlt
  by_cases hfew : 20 < la.length ∨ 20 < lb.length ∨ 60 < lt.length
  · refine Tri.of_body (vs := [_, _, _]) Tryz.func6 rfl rfl fun w0 F => ?_
    repeat' (first | refine St.halt 5 ?_ |refine Ga ?_ | (refine Gb ?_; intro b) | (refine Gd ?_; intro g cap rest hcap) | (refine Gc ?_; intro ad cap) | (refine St.draw (id := 12) [(0, 0), (1, 0), (2, 0), (3, 0), (4, 0), (5, 0), (6, 1), (9, 0), (10, 0), (11, 0), (12, 0), (13, 0), (14, 0), (15, 1), (7, 3), (8, 0), (16, 3), (17, 0), (18, 0)] [7, 16] mixed (by kernel_rfl) ?_) | (refine St.draw (id := 17) [(0, 0), (1, 0), (2, 0), (3, 0), (4, 0), (5, 0), (6, 1), (9, 0), (10, 0), (11, 0), (12, 0), (13, 0), (14, 0), (15, 1), (7, 3), (8, 0), (16, 3), (17, 0), (18, 0)] [7, 16] mixed (by kernel_rfl) ?_) | (refine Gt alive_t ?_; rintro _ _ ⟨rfl, rfl⟩) | (refine Ge ?_ ?_ <;> (intro h; try (exfalso; omega))) | fail)
    all_goals first | (exfalso; omega) | (refine St.d1 Tryz.func6 ⟨_, ⟨rfl, rfl⟩, Ent.go⟩) | skip
  refine Tri.of_body (vs := [_, _, _]) Tryz.func6 rfl rfl fun w0 F => ?_
  repeat' (first | refine St.halt 5 ?_ |refine Ga ?_ | (refine Gb ?_; intro b) | (refine Gd ?_; intro g cap rest hcap) | (refine Gc ?_; intro ad cap) | (refine St.draw (id := 12) [(0, 0), (1, 0), (2, 0), (3, 0), (4, 0), (5, 0), (6, 1), (9, 0), (10, 0), (11, 0), (12, 0), (13, 0), (14, 0), (15, 1), (7, 3), (8, 0), (16, 3), (17, 0), (18, 0)] [7, 16] mixed (by kernel_rfl) ?_) | (refine St.draw (id := 17) [(0, 0), (1, 0), (2, 0), (3, 0), (4, 0), (5, 0), (6, 1), (9, 0), (10, 0), (11, 0), (12, 0), (13, 0), (14, 0), (15, 1), (7, 3), (8, 0), (16, 3), (17, 0), (18, 0)] [7, 16] mixed (by kernel_rfl) ?_) | (refine Gt alive_t ?_; rintro _ _ ⟨rfl, rfl⟩) | (refine Ge ?_ ?_ <;> (intro h; try (exfalso; omega))) | fail)
  all_goals first | (exfalso; omega) | skip
  apply Halt.go
  repeat' (first | refine St.halt 7 ?_ |refine Ga ?_ | (refine Gb ?_; intro b) | (refine Gd ?_; intro g cap rest hcap) | (refine Gc ?_; intro ad cap) | (refine St.draw (id := 12) [(0, 0), (1, 0), (2, 0), (3, 0), (4, 0), (5, 0), (6, 1), (9, 0), (10, 0), (11, 0), (12, 0), (13, 0), (14, 0), (15, 1), (7, 3), (8, 0), (16, 3), (17, 0), (18, 0)] [7, 16] mixed (by kernel_rfl) ?_) | (refine St.draw (id := 17) [(0, 0), (1, 0), (2, 0), (3, 0), (4, 0), (5, 0), (6, 1), (9, 0), (10, 0), (11, 0), (12, 0), (13, 0), (14, 0), (15, 1), (7, 3), (8, 0), (16, 3), (17, 0), (18, 0)] [7, 16] mixed (by kernel_rfl) ?_) | (refine Gt mnew_t ?_; rintro _ _ ⟨S, rfl, rfl⟩) | (refine Ge ?_ ?_ <;> (intro h; try (exfalso; omega))) | fail)
  apply Halt.go
  rename_i Sa Sx
  refine St.conv (E' := [(0, .slice aad la.length acap), (1, .slice bad lb.length bcap), (2, .slice tad lt.length tcap), (7, .pointer (some ⟨Sa, 0, none⟩)), (8, .pointer (some ⟨Sx, 0, none⟩)), (9, .pointer (some ⟨S, 0, none⟩)), (10, .int .i64 0), (11, .int .i64 0)]) ?_ Sub.go (Ent.refl _)
  refine St.joinE (κ := { x : HProp × Option Addr × Nat × List Bool // ListR boolV x.1 (.slice x.2.1 x.2.2.2.length x.2.2.1) x.2.2.2 ∧ x.2.2.2.length ≤ 100 }) (k' := ?kx) (Lr := ?Lr2)
    (fun x => [(37, .slice x.1.2.1 x.1.2.2.2.length x.1.2.2.1), (38, .int .i64 (x.1.2.2.2.length : Int)), (39, .int .i64 0)]) [] (fun x => [x.1.1]) ?tk ?join ?after
  case tk => exact Takes.go
  case join =>
    intro JO
    rcases hlt with h0 | ⟨tb, tof, tl, trest, rfl, hrd, hdr⟩
    · repeat' (first | refine Ga ?_ | (refine Gb ?_; intro b) | (refine Gd ?_; intro g cap rest hcap) | (refine Gc ?_; intro ad cap) | (refine St.draw (id := 12) [(0, 0), (1, 0), (2, 0), (3, 0), (4, 0), (5, 0), (6, 1), (9, 0), (10, 0), (11, 0), (12, 0), (13, 0), (14, 0), (15, 1), (7, 3), (8, 0), (16, 3), (17, 0), (18, 0)] [7, 16] mixed (by kernel_rfl) ?_) | (refine St.draw (id := 17) [(0, 0), (1, 0), (2, 0), (3, 0), (4, 0), (5, 0), (6, 1), (9, 0), (10, 0), (11, 0), (12, 0), (13, 0), (14, 0), (15, 1), (7, 3), (8, 0), (16, 3), (17, 0), (18, 0)] [7, 16] mixed (by kernel_rfl) ?_) | (refine Ge ?_ ?_ <;> (intro h; try (exfalso; omega))) | fail)
      (apply StL.v; (apply OpV.pempty h0; rfl; rfl); rfl)
      repeat' (first | refine Ga ?_ | (refine Gb ?_; intro b) | (refine Gd ?_; intro g cap rest hcap) | (refine Gc ?_; intro ad cap) | (refine St.draw (id := 12) [(0, 0), (1, 0), (2, 0), (3, 0), (4, 0), (5, 0), (6, 1), (9, 0), (10, 0), (11, 0), (12, 0), (13, 0), (14, 0), (15, 1), (7, 3), (8, 0), (16, 3), (17, 0), (18, 0)] [7, 16] mixed (by kernel_rfl) ?_) | (refine St.draw (id := 17) [(0, 0), (1, 0), (2, 0), (3, 0), (4, 0), (5, 0), (6, 1), (9, 0), (10, 0), (11, 0), (12, 0), (13, 0), (14, 0), (15, 1), (7, 3), (8, 0), (16, 3), (17, 0), (18, 0)] [7, 16] mixed (by kernel_rfl) ?_) | (refine Ge ?_ ?_ <;> (intro h; try (exfalso; omega))) | fail)
      (apply StL.ok; (apply OpOk.pmk (n := 0) (m := 40) (z := .bool false); rfl; rfl; exact Take.here; rfl; decide; decide; decide; decide; decide); rfl; rintro _ _ ⟨g', cap', rest, rfl, hrf, rfl⟩)
      rw [show (0 : Nat) + 40 = 40 from rfl] at hrf ⊢
      rw [show List.take 0 ([] : List Value) ++ List.replicate 40 (Value.bool false) = (List.replicate 40 false).flatMap boolV from (boolV_rep 40).symm] at hrf ⊢
      repeat' (first | refine Ga ?_ | (refine Gb ?_; intro b) | (refine Gd ?_; intro g cap rest hcap) | (refine Gc ?_; intro ad cap) | (refine St.draw (id := 12) [(0, 0), (1, 0), (2, 0), (3, 0), (4, 0), (5, 0), (6, 1), (9, 0), (10, 0), (11, 0), (12, 0), (13, 0), (14, 0), (15, 1), (7, 3), (8, 0), (16, 3), (17, 0), (18, 0)] [7, 16] mixed (by kernel_rfl) ?_) | (refine St.draw (id := 17) [(0, 0), (1, 0), (2, 0), (3, 0), (4, 0), (5, 0), (6, 1), (9, 0), (10, 0), (11, 0), (12, 0), (13, 0), (14, 0), (15, 1), (7, 3), (8, 0), (16, 3), (17, 0), (18, 0)] [7, 16] mixed (by kernel_rfl) ?_) | (refine Ge ?_ ?_ <;> (intro h; try (exfalso; omega))) | fail)
      refine St.conv ?_ (Sub.refl _) (Ent.trans (Ent.of_take (p := bl g' 4 ((List.replicate 40 false).flatMap boolV ++ rest)) Take.go) (Ent.rowF hrf))
      refine St.rowL (xs := List.replicate 40 false) (by rw [List.length_replicate]) fun R hR => ?_
      refine JO ⟨(R, some ⟨g', 0, none⟩, cap', List.replicate 40 false), by rw [List.length_replicate]; exact hR, by rw [List.length_replicate]; decide⟩ ?_ ?_
      · dsimp only; rw [List.length_replicate]; exact Sub.go
      · dsimp only; exact Ent.go
    · have key : RdC q tb tl ∧ True := ⟨hrd, trivial⟩
      clear hrd
      by_cases h0 : lt.length = 0
      · repeat' (first | refine Ga ?_ | (refine Gb ?_; intro b) | (refine Gd ?_; intro g cap rest hcap) | (refine Gc ?_; intro ad cap) | (refine St.draw (id := 12) [(0, 0), (1, 0), (2, 0), (3, 0), (4, 0), (5, 0), (6, 1), (9, 0), (10, 0), (11, 0), (12, 0), (13, 0), (14, 0), (15, 1), (7, 3), (8, 0), (16, 3), (17, 0), (18, 0)] [7, 16] mixed (by kernel_rfl) ?_) | (refine St.draw (id := 17) [(0, 0), (1, 0), (2, 0), (3, 0), (4, 0), (5, 0), (6, 1), (9, 0), (10, 0), (11, 0), (12, 0), (13, 0), (14, 0), (15, 1), (7, 3), (8, 0), (16, 3), (17, 0), (18, 0)] [7, 16] mixed (by kernel_rfl) ?_) | (refine Ge ?_ ?_ <;> (intro h; try (exfalso; omega))) | fail)
        (apply StL.v; (apply OpV.pempty h0; rfl; rfl); rfl)
        repeat' (first | refine Ga ?_ | (refine Gb ?_; intro b) | (refine Gd ?_; intro g cap rest hcap) | (refine Gc ?_; intro ad cap) | (refine St.draw (id := 12) [(0, 0), (1, 0), (2, 0), (3, 0), (4, 0), (5, 0), (6, 1), (9, 0), (10, 0), (11, 0), (12, 0), (13, 0), (14, 0), (15, 1), (7, 3), (8, 0), (16, 3), (17, 0), (18, 0)] [7, 16] mixed (by kernel_rfl) ?_) | (refine St.draw (id := 17) [(0, 0), (1, 0), (2, 0), (3, 0), (4, 0), (5, 0), (6, 1), (9, 0), (10, 0), (11, 0), (12, 0), (13, 0), (14, 0), (15, 1), (7, 3), (8, 0), (16, 3), (17, 0), (18, 0)] [7, 16] mixed (by kernel_rfl) ?_) | (refine Ge ?_ ?_ <;> (intro h; try (exfalso; omega))) | fail)
        (apply StL.ok; (apply OpOk.pmk (n := 0) (m := 40) (z := .bool false); rfl; rfl; exact Take.here; rfl; decide; decide; decide; decide; decide); rfl; rintro _ _ ⟨g', cap', rest, rfl, hrf, rfl⟩)
        rw [show (0 : Nat) + 40 = 40 from rfl] at hrf ⊢
        rw [show List.take 0 ([] : List Value) ++ List.replicate 40 (Value.bool false) = (List.replicate 40 false).flatMap boolV from (boolV_rep 40).symm] at hrf ⊢
        repeat' (first | refine Ga ?_ | (refine Gb ?_; intro b) | (refine Gd ?_; intro g cap rest hcap) | (refine Gc ?_; intro ad cap) | (refine St.draw (id := 12) [(0, 0), (1, 0), (2, 0), (3, 0), (4, 0), (5, 0), (6, 1), (9, 0), (10, 0), (11, 0), (12, 0), (13, 0), (14, 0), (15, 1), (7, 3), (8, 0), (16, 3), (17, 0), (18, 0)] [7, 16] mixed (by kernel_rfl) ?_) | (refine St.draw (id := 17) [(0, 0), (1, 0), (2, 0), (3, 0), (4, 0), (5, 0), (6, 1), (9, 0), (10, 0), (11, 0), (12, 0), (13, 0), (14, 0), (15, 1), (7, 3), (8, 0), (16, 3), (17, 0), (18, 0)] [7, 16] mixed (by kernel_rfl) ?_) | (refine Ge ?_ ?_ <;> (intro h; try (exfalso; omega))) | fail)
        refine St.conv ?_ (Sub.refl _) (Ent.trans (Ent.of_take (p := bl g' 4 ((List.replicate 40 false).flatMap boolV ++ rest)) Take.go) (Ent.rowF hrf))
        refine St.rowL (xs := List.replicate 40 false) (by rw [List.length_replicate]) fun R hR => ?_
        refine JO ⟨(R, some ⟨g', 0, none⟩, cap', List.replicate 40 false), by rw [List.length_replicate]; exact hR, by rw [List.length_replicate]; decide⟩ ?_ ?_
        · dsimp only; rw [List.length_replicate]; exact Sub.go
        · dsimp only; exact Ent.go
      have htk : TakeN (lt.length * 1) (lt.flatMap boolV ++ trest) (lt.flatMap boolV) := by rw [Nat.mul_one, ← boolV_len lt]; exact TakeN.app _ _
      have hone := boolV_one lt
      have hbl := boolV_len lt
      have hll : (lt ++ List.replicate 40 false).length = lt.length + 40 := by rw [List.length_append, List.length_replicate]
      have hfl : (lt ++ List.replicate 40 false).flatMap boolV = lt.flatMap boolV ++ List.replicate 40 (.bool false) := by rw [List.flatMap_append, boolV_rep]
      repeat' (first | refine Ga ?_ | (refine Gb ?_; intro b) | (refine Gd ?_; intro g cap rest hcap) | (refine Gc ?_; intro ad cap) | (refine St.draw (id := 12) [(0, 0), (1, 0), (2, 0), (3, 0), (4, 0), (5, 0), (6, 1), (9, 0), (10, 0), (11, 0), (12, 0), (13, 0), (14, 0), (15, 1), (7, 3), (8, 0), (16, 3), (17, 0), (18, 0)] [7, 16] mixed (by kernel_rfl) ?_) | (refine St.draw (id := 17) [(0, 0), (1, 0), (2, 0), (3, 0), (4, 0), (5, 0), (6, 1), (9, 0), (10, 0), (11, 0), (12, 0), (13, 0), (14, 0), (15, 1), (7, 3), (8, 0), (16, 3), (17, 0), (18, 0)] [7, 16] mixed (by kernel_rfl) ?_) | (refine Ge ?_ ?_ <;> (intro h; try (exfalso; omega))) | fail)
      obtain ⟨hrd, _⟩ := key
      (apply StL.ok; (apply OpOk.appendC; rfl; rfl; (focus (repeat first | exact Take.here | apply Take.there)); (focus (repeat first | exact ReadsC.here RdC.bl | exact ReadsC.here (by assumption) | apply ReadsC.there)); (focus (first | assumption | (repeat constructor))); (focus (first | assumption | (repeat constructor))); (first | rfl | assumption); rfl; rfl; omega; omega); rfl; rintro _ _ ⟨ad, cap, rfl, rfl⟩)
      refine StL.rowF (by omega) fun g lcp rest hv hrf => ?_
      injection hv with hv1 hv2 hv3
      subst hv1 hv3
      have htot := hrf.tot
      by_cases hroom : lt.length + 40 ≤ cap
      · (apply StL.ok; (apply OpOk.pmkIn (n := lt.length) (m := 40) (z := .bool false); rfl; rfl; exact Take.here; rfl; rfl; decide; exact hroom; (rw [List.length_append]; omega); omega; decide); rfl; rintro _ _ ⟨rfl, rfl⟩)
        have hrf2 : RowF (lt.length + 40) cap 1 ((lt ++ List.replicate 40 false).flatMap boolV) ((lt.flatMap boolV ++ rest).drop (lt.length + 40)) := by
          refine ⟨hroom, hrf.max, ?_, ?_⟩
          · rw [boolV_len, hll, Nat.mul_one]
          · rw [boolV_len, hll, List.length_drop, List.length_append]; omega
        rw [show List.take lt.length (lt.flatMap boolV ++ rest) ++ List.replicate 40 (Value.bool false) = (lt ++ List.replicate 40 false).flatMap boolV by rw [hfl, ← hbl, List.take_left]]
        repeat' (first | refine Ga ?_ | (refine Gb ?_; intro b) | (refine Gd ?_; intro g cap rest hcap) | (refine Gc ?_; intro ad cap) | (refine St.draw (id := 12) [(0, 0), (1, 0), (2, 0), (3, 0), (4, 0), (5, 0), (6, 1), (9, 0), (10, 0), (11, 0), (12, 0), (13, 0), (14, 0), (15, 1), (7, 3), (8, 0), (16, 3), (17, 0), (18, 0)] [7, 16] mixed (by kernel_rfl) ?_) | (refine St.draw (id := 17) [(0, 0), (1, 0), (2, 0), (3, 0), (4, 0), (5, 0), (6, 1), (9, 0), (10, 0), (11, 0), (12, 0), (13, 0), (14, 0), (15, 1), (7, 3), (8, 0), (16, 3), (17, 0), (18, 0)] [7, 16] mixed (by kernel_rfl) ?_) | (refine Ge ?_ ?_ <;> (intro h; try (exfalso; omega))) | fail)
        refine St.conv ?_ (Sub.refl _) (Ent.trans (Ent.of_take (p := bl g 4 ((lt ++ List.replicate 40 false).flatMap boolV ++ (lt.flatMap boolV ++ rest).drop (lt.length + 40))) Take.go) (Ent.rowF hrf2))
        refine St.rowL hll fun R hR => ?_
        refine JO ⟨(R, some ⟨g, 0, none⟩, cap, lt ++ List.replicate 40 false), by dsimp only; rw [hll]; exact hR, by dsimp only; rw [hll]; omega⟩ ?_ ?_
        · dsimp only; rw [hll]; exact Sub.go
        · dsimp only; exact Ent.go
      · (apply StL.ok; (apply OpOk.pmk (n := lt.length) (m := 40) (z := .bool false); rfl; rfl; exact Take.here; rfl; decide; omega; (rw [List.length_append]; omega); omega; decide); rfl; rintro _ _ ⟨g', cap', rest', rfl, hrf2, rfl⟩)
        rw [show List.take lt.length (lt.flatMap boolV ++ rest) ++ List.replicate 40 (Value.bool false) = (lt ++ List.replicate 40 false).flatMap boolV by rw [hfl, ← hbl, List.take_left]] at hrf2 ⊢
        repeat' (first | refine Ga ?_ | (refine Gb ?_; intro b) | (refine Gd ?_; intro g cap rest hcap) | (refine Gc ?_; intro ad cap) | (refine St.draw (id := 12) [(0, 0), (1, 0), (2, 0), (3, 0), (4, 0), (5, 0), (6, 1), (9, 0), (10, 0), (11, 0), (12, 0), (13, 0), (14, 0), (15, 1), (7, 3), (8, 0), (16, 3), (17, 0), (18, 0)] [7, 16] mixed (by kernel_rfl) ?_) | (refine St.draw (id := 17) [(0, 0), (1, 0), (2, 0), (3, 0), (4, 0), (5, 0), (6, 1), (9, 0), (10, 0), (11, 0), (12, 0), (13, 0), (14, 0), (15, 1), (7, 3), (8, 0), (16, 3), (17, 0), (18, 0)] [7, 16] mixed (by kernel_rfl) ?_) | (refine Ge ?_ ?_ <;> (intro h; try (exfalso; omega))) | fail)
        refine St.conv ?_ (Sub.refl _) (Ent.trans (Ent.of_take (p := bl g' 4 ((lt ++ List.replicate 40 false).flatMap boolV ++ rest')) Take.go) (Ent.rowF hrf2))
        refine St.rowL hll fun R hR => ?_
        refine JO ⟨(R, some ⟨g', 0, none⟩, cap', lt ++ List.replicate 40 false), by dsimp only; rw [hll]; exact hR, by dsimp only; rw [hll]; omega⟩ ?_ ?_
        · dsimp only; rw [hll]; exact Sub.go
        · dsimp only; exact Ent.go
  case after =>
    rintro ⟨⟨R, had, hcap, ll⟩, hR, hl100⟩
    dsimp only at hR hl100 ⊢
    have hne0 : ∀ (rc : Int) (rv : Nat), ¬((!(rc == rc && ((rv : Int) == (rv : Int) && true))) = true) := by intro rc rv; simp
    refine St.loopY (Lr := ?Lr1) (ι := { x : Nat × Nat × Nat × Ms × Ms × Ms × Option Qu × Option Qu × List Nat × List Nat × List Nat × List Nat // x.1 ≤ ll.length ∧ x.2.1 ≤ la.length ∧ x.2.2.1 ≤ lb.length ∧ QInv2 x.2.2.2.1 2 3 x.2.2.2.2.2.2.1 x.2.2.2.2.2.2.2.1 x.2.2.2.2.2.2.2.2.1 x.2.2.2.2.2.2.2.2.2.1 x.2.1 x.2.2.1 ∧ QInv x.2.2.2.2.1 2 x.2.2.2.2.2.2.1 x.2.2.2.2.2.2.2.2.2.2.1 x.2.1 ∧ QInv x.2.2.2.2.2.1 3 x.2.2.2.2.2.2.2.1 x.2.2.2.2.2.2.2.2.2.2.2 x.2.2.1 }) (fun x => ll.length - x.1.1)
      (fun x => [(39, .int .i64 (x.1.1 : Int)), (10, .int .i64 (x.1.2.1 : Int)), (11, .int .i64 (x.1.2.2.1 : Int))]) (fun x => [MsE Sa x.1.2.2.2.1, MsE Sx x.1.2.2.2.2.1, MsE S x.1.2.2.2.2.2.1]) ⟨(0, 0, 0, ms0, ms0, ms0, none, none, [], [], [], []), Nat.zero_le _, Nat.zero_le _, Nat.zero_le _, qinv20 2 3, qinv0 2, qinv0 3⟩ ?hE1 ?hL1 ?round1
    case hE1 => exact Sub.go
    case hL1 => exact Takes.go
    case round1 =>
      rintro ⟨⟨k, i, j, ms, mx, my, qa, qb, oa, ob, ox, oy⟩, hk, hil, hjl, hi2, hix, hiy⟩ IH; dsimp only at hk hil hjl hi2 hix hiy IH ⊢
      by_cases hlt : k < ll.length
      · obtain ⟨bf, o, l, l1, rfl, hrd, hdr, htk⟩ := ListR.at' (f := boolV) (sz := 1) (fun _ => rfl) hR k hlt
        generalize ll[k] = fb at htk
        unfold boolV at htk
        have hnb : NthN (o + (k : Int).toNat * 1) l (.bool fb) := NthN.part (j := 0) hdr htk (NthN.of rfl)
        cases fb with
        | true =>
          by_cases hia : i < la.length
          · obtain ⟨ba, oo, al, al1, rfl, hrda, hdra, htka⟩ := ListR.at (f := opbV) (sz := 2) (fun _ => rfl) hla i hia
            generalize la[i] = op at htka
            obtain ⟨⟨nm, arg⟩, harg⟩ := op
            unfold opbV at htka
            dsimp only at htka harg
            have hn0 : NthN (oo + (i : Int).toNat * 2) al (.int .i64 nm) := NthN.part (j := 0) hdra htka (NthN.of rfl)
            have hn1 : NthN (oo + (i : Int).toNat * 2 + 1) al (.int .u64 (arg : Int)) := NthN.part (j := 1) hdra htka (NthN.of rfl)
            have hnm := qname_r nm
            obtain ⟨rc, rv, ms', mx', qa', oa', ox', hi2', hix', hr1, hr2⟩ := both_run Sa Sx hi2 hix (by decide) (by omega) (by decide) nm arg harg
            have hne := hne0 rc rv
            unfold ranV at hr1 hr2
            repeat' (first | refine Ga ?_ | (refine Gb ?_; intro b) | (refine Gd ?_; intro g cap rest hcap) | (refine Gc ?_; intro ad cap) | (refine St.drawT (id := 12) [(0, 0), (1, 0), (2, 0), (3, 0), (4, 0), (5, 0), (9, 0), (10, 0), (11, 0), (12, 0), (13, 0), (14, 0)] (.pick [(6, 3)] (.pick [(7, 3), (8, 0), (15, 3), (16, 3), (17, 0), (18, 0)] .done (.pick [(15, 3), (7, 3), (8, 0), (16, 3), (17, 0), (18, 0)] .done .nope)) (.pick [(15, 3), (6, 3), (7, 3), (8, 0), (16, 3), (17, 0), (18, 0)] .done .nope)) [6, 7, 15, 16] mixed (by kernel_rfl) ?_) | (refine St.drawT (id := 17) [(0, 0), (1, 0), (2, 0), (3, 0), (4, 0), (5, 0), (9, 0), (10, 0), (11, 0), (12, 0), (13, 0), (14, 0)] (.pick [(6, 3)] (.pick [(7, 3), (8, 0), (15, 3), (16, 3), (17, 0), (18, 0)] .done (.pick [(15, 3), (7, 3), (8, 0), (16, 3), (17, 0), (18, 0)] .done .nope)) (.pick [(15, 3), (6, 3), (7, 3), (8, 0), (16, 3), (17, 0), (18, 0)] .done .nope)) [6, 7, 15, 16] mixed (by kernel_rfl) ?_) | apply StD.pick | exact StD.nope | refine Gl hnm ?_ | (refine Gt hr1 ?_; rintro _ _ ⟨st1, dw1, nad1, nn1, nc1, rfl, rfl⟩) | (refine Gt hr2 ?_; rintro _ _ ⟨st2, dw2, nad2, nn2, nc2, rfl, rfl⟩) | (refine Ge ?_ ?_ <;> (intro h; try (exfalso; first | omega | contradiction))) | fail)
            iterate 3
              all_goals try (refine StD.ok3 rfl (OpOk.ofV OpV.go) rfl ?_; rintro _ _ ⟨rfl, rfl⟩)
              all_goals repeat' (first | refine Ga ?_ | (refine Gb ?_; intro b) | (refine Gd ?_; intro g cap rest hcap) | (refine Gc ?_; intro ad cap) | (refine St.drawT (id := 12) [(0, 0), (1, 0), (2, 0), (3, 0), (4, 0), (5, 0), (9, 0), (10, 0), (11, 0), (12, 0), (13, 0), (14, 0)] (.pick [(6, 3)] (.pick [(7, 3), (8, 0), (15, 3), (16, 3), (17, 0), (18, 0)] .done (.pick [(15, 3), (7, 3), (8, 0), (16, 3), (17, 0), (18, 0)] .done .nope)) (.pick [(15, 3), (6, 3), (7, 3), (8, 0), (16, 3), (17, 0), (18, 0)] .done .nope)) [6, 7, 15, 16] mixed (by kernel_rfl) ?_) | (refine St.drawT (id := 17) [(0, 0), (1, 0), (2, 0), (3, 0), (4, 0), (5, 0), (9, 0), (10, 0), (11, 0), (12, 0), (13, 0), (14, 0)] (.pick [(6, 3)] (.pick [(7, 3), (8, 0), (15, 3), (16, 3), (17, 0), (18, 0)] .done (.pick [(15, 3), (7, 3), (8, 0), (16, 3), (17, 0), (18, 0)] .done .nope)) (.pick [(15, 3), (6, 3), (7, 3), (8, 0), (16, 3), (17, 0), (18, 0)] .done .nope)) [6, 7, 15, 16] mixed (by kernel_rfl) ?_) | apply StD.pick | exact StD.nope | refine Gl hnm ?_ | (refine Gt hr1 ?_; rintro _ _ ⟨st1, dw1, nad1, nn1, nc1, rfl, rfl⟩) | (refine Gt hr2 ?_; rintro _ _ ⟨st2, dw2, nad2, nn2, nc2, rfl, rfl⟩) | (refine Ge ?_ ?_ <;> (intro h; try (exfalso; first | omega | contradiction))) | fail)
            all_goals first | (exfalso; omega) | skip
            all_goals refine IH ⟨(k + 1, i + 1, j, ms', mx', my, qa', qb, oa', ob, ox', oy), hlt, hia, hjl, hi2', hix', hiy⟩ (by show ll.length - (k + 1) < ll.length - k; omega) ?_ ?_
            all_goals first | (exact Sub.go; done) | (exact Ent.go; done) | skip
          · repeat' (first | refine Ga ?_ | (refine Gb ?_; intro b) | (refine Gd ?_; intro g cap rest hcap) | (refine Gc ?_; intro ad cap) | (refine St.draw (id := 12) [(0, 0), (1, 0), (2, 0), (3, 0), (4, 0), (5, 0), (6, 1), (9, 0), (10, 0), (11, 0), (12, 0), (13, 0), (14, 0), (15, 1), (7, 3), (8, 0), (16, 3), (17, 0), (18, 0)] [7, 16] mixed (by kernel_rfl) ?_) | (refine St.draw (id := 17) [(0, 0), (1, 0), (2, 0), (3, 0), (4, 0), (5, 0), (6, 1), (9, 0), (10, 0), (11, 0), (12, 0), (13, 0), (14, 0), (15, 1), (7, 3), (8, 0), (16, 3), (17, 0), (18, 0)] [7, 16] mixed (by kernel_rfl) ?_) | (refine Ge ?_ ?_ <;> (intro h; try (exfalso; first | omega | contradiction))) | fail)
            all_goals first | (exfalso; omega) | skip
            all_goals refine IH ⟨(k + 1, i, j, ms, mx, my, qa, qb, oa, ob, ox, oy), hlt, hil, hjl, hi2, hix, hiy⟩ (by show ll.length - (k + 1) < ll.length - k; omega) ?_ ?_
            all_goals first | (exact Sub.go; done) | (exact Ent.go; done) | skip
        | false =>
          by_cases hjb : j < lb.length
          · obtain ⟨ba, oo, al, al1, rfl, hrda, hdra, htka⟩ := ListR.at (f := opbV) (sz := 2) (fun _ => rfl) hlb j hjb
            generalize lb[j] = op at htka
            obtain ⟨⟨nm, arg⟩, harg⟩ := op
            unfold opbV at htka
            dsimp only at htka harg
            have hn0 : NthN (oo + (j : Int).toNat * 2) al (.int .i64 nm) := NthN.part (j := 0) hdra htka (NthN.of rfl)
            have hn1 : NthN (oo + (j : Int).toNat * 2 + 1) al (.int .u64 (arg : Int)) := NthN.part (j := 1) hdra htka (NthN.of rfl)
            have hnm := qname_r nm
            obtain ⟨rc, rv, ms', my', qb', ob', oy', hi2', hiy', hr1, hr2⟩ := both_run Sa S hi2.swap hiy (by decide) (by omega) (by decide) nm arg harg
            have hne := hne0 rc rv
            unfold ranV at hr1 hr2
            repeat' (first | refine Ga ?_ | (refine Gb ?_; intro b) | (refine Gd ?_; intro g cap rest hcap) | (refine Gc ?_; intro ad cap) | (refine St.drawT (id := 12) [(0, 0), (1, 0), (2, 0), (3, 0), (4, 0), (5, 0), (9, 0), (10, 0), (11, 0), (12, 0), (13, 0), (14, 0)] (.pick [(6, 3)] (.pick [(7, 3), (8, 0), (15, 3), (16, 3), (17, 0), (18, 0)] .done (.pick [(15, 3), (7, 3), (8, 0), (16, 3), (17, 0), (18, 0)] .done .nope)) (.pick [(15, 3), (6, 3), (7, 3), (8, 0), (16, 3), (17, 0), (18, 0)] .done .nope)) [6, 7, 15, 16] mixed (by kernel_rfl) ?_) | (refine St.drawT (id := 17) [(0, 0), (1, 0), (2, 0), (3, 0), (4, 0), (5, 0), (9, 0), (10, 0), (11, 0), (12, 0), (13, 0), (14, 0)] (.pick [(6, 3)] (.pick [(7, 3), (8, 0), (15, 3), (16, 3), (17, 0), (18, 0)] .done (.pick [(15, 3), (7, 3), (8, 0), (16, 3), (17, 0), (18, 0)] .done .nope)) (.pick [(15, 3), (6, 3), (7, 3), (8, 0), (16, 3), (17, 0), (18, 0)] .done .nope)) [6, 7, 15, 16] mixed (by kernel_rfl) ?_) | apply StD.pick | exact StD.nope | refine Gl hnm ?_ | (refine Gt hr1 ?_; rintro _ _ ⟨st1, dw1, nad1, nn1, nc1, rfl, rfl⟩) | (refine Gt hr2 ?_; rintro _ _ ⟨st2, dw2, nad2, nn2, nc2, rfl, rfl⟩) | (refine Ge ?_ ?_ <;> (intro h; try (exfalso; first | omega | contradiction))) | fail)
            iterate 3
              all_goals try (refine StD.ok3 rfl (OpOk.ofV OpV.go) rfl ?_; rintro _ _ ⟨rfl, rfl⟩)
              all_goals repeat' (first | refine Ga ?_ | (refine Gb ?_; intro b) | (refine Gd ?_; intro g cap rest hcap) | (refine Gc ?_; intro ad cap) | (refine St.drawT (id := 12) [(0, 0), (1, 0), (2, 0), (3, 0), (4, 0), (5, 0), (9, 0), (10, 0), (11, 0), (12, 0), (13, 0), (14, 0)] (.pick [(6, 3)] (.pick [(7, 3), (8, 0), (15, 3), (16, 3), (17, 0), (18, 0)] .done (.pick [(15, 3), (7, 3), (8, 0), (16, 3), (17, 0), (18, 0)] .done .nope)) (.pick [(15, 3), (6, 3), (7, 3), (8, 0), (16, 3), (17, 0), (18, 0)] .done .nope)) [6, 7, 15, 16] mixed (by kernel_rfl) ?_) | (refine St.drawT (id := 17) [(0, 0), (1, 0), (2, 0), (3, 0), (4, 0), (5, 0), (9, 0), (10, 0), (11, 0), (12, 0), (13, 0), (14, 0)] (.pick [(6, 3)] (.pick [(7, 3), (8, 0), (15, 3), (16, 3), (17, 0), (18, 0)] .done (.pick [(15, 3), (7, 3), (8, 0), (16, 3), (17, 0), (18, 0)] .done .nope)) (.pick [(15, 3), (6, 3), (7, 3), (8, 0), (16, 3), (17, 0), (18, 0)] .done .nope)) [6, 7, 15, 16] mixed (by kernel_rfl) ?_) | apply StD.pick | exact StD.nope | refine Gl hnm ?_ | (refine Gt hr1 ?_; rintro _ _ ⟨st1, dw1, nad1, nn1, nc1, rfl, rfl⟩) | (refine Gt hr2 ?_; rintro _ _ ⟨st2, dw2, nad2, nn2, nc2, rfl, rfl⟩) | (refine Ge ?_ ?_ <;> (intro h; try (exfalso; first | omega | contradiction))) | fail)
            all_goals first | (exfalso; omega) | skip
            all_goals refine IH ⟨(k + 1, i, j + 1, ms', mx, my', qa, qb', oa, ob', ox, oy'), hlt, hil, hjb, hi2'.swap, hix, hiy'⟩ (by show ll.length - (k + 1) < ll.length - k; omega) ?_ ?_
            all_goals first | (exact Sub.go; done) | (exact Ent.go; done) | skip
          · repeat' (first | refine Ga ?_ | (refine Gb ?_; intro b) | (refine Gd ?_; intro g cap rest hcap) | (refine Gc ?_; intro ad cap) | (refine St.draw (id := 12) [(0, 0), (1, 0), (2, 0), (3, 0), (4, 0), (5, 0), (6, 1), (9, 0), (10, 0), (11, 0), (12, 0), (13, 0), (14, 0), (15, 1), (7, 3), (8, 0), (16, 3), (17, 0), (18, 0)] [7, 16] mixed (by kernel_rfl) ?_) | (refine St.draw (id := 17) [(0, 0), (1, 0), (2, 0), (3, 0), (4, 0), (5, 0), (6, 1), (9, 0), (10, 0), (11, 0), (12, 0), (13, 0), (14, 0), (15, 1), (7, 3), (8, 0), (16, 3), (17, 0), (18, 0)] [7, 16] mixed (by kernel_rfl) ?_) | (refine Ge ?_ ?_ <;> (intro h; try (exfalso; first | omega | contradiction))) | fail)
            all_goals first | (exfalso; omega) | skip
            all_goals refine IH ⟨(k + 1, i, j, ms, mx, my, qa, qb, oa, ob, ox, oy), hlt, hil, hjl, hi2, hix, hiy⟩ (by show ll.length - (k + 1) < ll.length - k; omega) ?_ ?_
            all_goals first | (exact Sub.go; done) | (exact Ent.go; done) | skip
      · obtain rfl : k = ll.length := by omega
        clear IH
        have e1 := hi2.len
        have e2 := hiy.len
        have e3 := hi2.rb.len_eq hiy.rep
        have e4 := hi2.ra.own
        have e5 := hi2.rb.own
        have e6 := hi2.na
        have e7 := hi2.nb
        have hge : decide (((my.blocks.length : Nat) : Int) ≤ ((ms.blocks.length : Nat) : Int)) = true := decide_eq_true (by omega)
        have hh1 := handles_t Sa ms (by omega)
        have hh2 := handles_t S my (by omega)
        repeat' (first | refine Ga ?_ | (refine Gb ?_; intro b) | (refine Gd ?_; intro g cap rest hcap) | (refine Gc ?_; intro ad cap) | (refine St.draw (id := 12) [(0, 0), (1, 0), (2, 0), (3, 0), (4, 0), (5, 0), (6, 1), (9, 0), (10, 0), (11, 0), (12, 0), (13, 0), (14, 0), (15, 1), (7, 3), (8, 0), (16, 3), (17, 0), (18, 0)] [7, 16] mixed (by kernel_rfl) ?_) | (refine St.draw (id := 17) [(0, 0), (1, 0), (2, 0), (3, 0), (4, 0), (5, 0), (6, 1), (9, 0), (10, 0), (11, 0), (12, 0), (13, 0), (14, 0), (15, 1), (7, 3), (8, 0), (16, 3), (17, 0), (18, 0)] [7, 16] mixed (by kernel_rfl) ?_) | (refine Gt hh1 ?_; rintro _ _ ⟨ad1, cap1, rfl, rfl⟩) | (refine Gt hh2 ?_; rintro _ _ ⟨ad2, cap2, rfl, rfl⟩) | (refine Ge ?_ ?_ <;> (intro h; try (exfalso; omega))) | fail)
        all_goals first | (exfalso; omega) | skip
        rw [hge]
        refine St.d1 Tryz.func6 ⟨_, ⟨rfl, rfl⟩, Ent.go⟩
end Go.Proofs.YtphheopbngdhhaaGreatDoor
