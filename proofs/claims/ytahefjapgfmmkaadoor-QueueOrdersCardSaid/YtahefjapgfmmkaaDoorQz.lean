/-
  A queue, over roots and blocks: what put and take come to.
-/
import Derived.Test.YtahefjapgfmmkaaDoorQy
namespace Go.Proofs.YtahefjapgfmmkaaDoor
set_option maxRecDepth 100000
theorem QInv.re {m : Ms} {root : Nat} {q : Option Qu} {own : List Nat} {n n' : Nat} (h : QInv m root q own n) (h' : qSize q ≤ n') : QInv m root q own n' :=
  ⟨h.wf, h.rl, h.rep, h.len, h'⟩
abbrev N64 := { n : Nat // n < 18446744073709551616 }
def n64V (n : N64) : List Value := [.int .u64 (n.1 : Int)]
def boolV (b : Bool) : List Value := [.bool b]
theorem QInv.new {m : Ms} (h : QInv m 0 none [] 0) (c : Nat) (hc : c < 18446744073709551616) : ∃ r, runQ m 0 0 c = some r ∧ ∃ own, QInv (runMs m r) 0 (some ⟨c, []⟩) own 0 := by
  obtain ⟨r, e, _, own, h1⟩ := h.step (by decide) 0 c (by decide) (by decide) hc
  exact ⟨r, e, own, h1.re (Nat.zero_le _)⟩
theorem QInv.put {m : Ms} {c : Nat} {ls own : List Nat} (h : QInv m 0 (some ⟨c, ls⟩) own ls.length) (hn : ls.length < 63) (v : Nat) (hv : v < 18446744073709551616) :
    ∃ r, runQ m 1 0 v = some r ∧ ∃ own', if c ≤ ls.length then r.1.code = 40 ∧ QInv (runMs m r) 0 (some ⟨c, ls⟩) own' ls.length else r.1.code = 0 ∧ QInv (runMs m r) 0 (some ⟨c, ls ++ [v]⟩) own' (ls ++ [v]).length := by
  obtain ⟨r, e, hr, own', h1⟩ := h.step hn 1 v (by decide) (by decide) hv
  have h2 := hr.res.1
  refine ⟨r, e, own', ?_⟩
  unfold doesM at h1 h2
  dsimp only at h1 h2
  split
  · next hf => rw [if_pos hf] at h1 h2; exact ⟨h2, h1.re (Nat.le_refl _)⟩
  · next hf => rw [if_neg hf] at h1 h2; exact ⟨h2, h1.re (Nat.le_refl _)⟩
theorem QInv.take {m : Ms} {c : Nat} {ls own : List Nat} (h : QInv m 0 (some ⟨c, ls⟩) own ls.length) (hn : ls.length < 63) :
    ∃ r, runQ m 2 0 0 = some r ∧ ∃ own', match ls with
      | [] => r.1.code = 40 ∧ QInv (runMs m r) 0 (some ⟨c, []⟩) own' 0
      | y :: ys => r.1.code = 0 ∧ r.1.val = y ∧ QInv (runMs m r) 0 (some ⟨c, ys⟩) own' ys.length := by
  obtain ⟨r, e, hr, own', h1⟩ := h.step hn 2 0 (by decide) (by decide) (by decide)
  have h2 := hr.res
  refine ⟨r, e, own', ?_⟩
  cases ls with
  | nil => exact ⟨h2.1, h1.re (Nat.le_refl _)⟩
  | cons y ys => exact ⟨h2.1, h2.2, h1.re (Nat.le_refl _)⟩
set_option maxHeartbeats 4000000 in
theorem qorders_t (q : HProp) (lv tv : Value) (list : List N64) (takes : List Bool) (c : Nat) (hc : c < 18446744073709551616) (hv : ListR n64V q lv list) (ht : ListR boolV q tv takes) : Tri Tryd.prog 4 #[lv, tv, .int .u64 (c : Int)] [q] fun v L => v = .bool true ∧ L = [q] := by
  obtain ⟨oad, ocap, rfl, _, hv⟩ := hv
  obtain ⟨tad, tcap, rfl, _, ht⟩ := ht
  by_cases h30 : 30 < list.length
  · refine Tri.of_body (vs := [_, _, _]) Tryd.func4 rfl rfl fun w0 F => ?_
    repeat' (first | refine Ga ?_ | (refine Gb ?_; intro b) | (refine Gd ?_; intro g cap rest hcap) | (refine Gc ?_; intro ad cap)  | (refine Gt alive_t ?_; rintro _ _ ⟨rfl, rfl⟩) | (refine Ge ?_ ?_ <;> (intro h; try (exfalso; omega))) | fail)
    all_goals first | (exfalso; omega) | skip
    all_goals refine St.d1 Tryd.func4 ⟨_, ⟨rfl, rfl⟩, Ent.go⟩
  by_cases hlt : takes.length < list.length
  · refine Tri.of_body (vs := [_, _, _]) Tryd.func4 rfl rfl fun w0 F => ?_
    repeat' (first | refine Ga ?_ | (refine Gb ?_; intro b) | (refine Gd ?_; intro g cap rest hcap) | (refine Gc ?_; intro ad cap)  | (refine Gt alive_t ?_; rintro _ _ ⟨rfl, rfl⟩) | (refine Ge ?_ ?_ <;> (intro h; try (exfalso; omega))) | fail)
    all_goals first | (exfalso; omega) | skip
    all_goals refine St.d1 Tryd.func4 ⟨_, ⟨rfl, rfl⟩, Ent.go⟩
  obtain ⟨r0, hr0, own0, hi0⟩ := (qinv0 0).new c hc
  have hrun0 := fun S => lrun_t S ms0 (qinv0 0).ok 0 (by decide) 0 c r0 hr0
  unfold doneV at hrun0
  generalize runMs ms0 r0 = m0 at hrun0 hi0
  rw [show ((0 : Nat) : Int) = 0 from rfl] at hrun0
  generalize r0.1.steps = st0 at hrun0
  generalize r0.1.dw = dw0 at hrun0
  generalize r0.1.code = co0 at hrun0
  generalize r0.1.val = vl0 at hrun0
  generalize r0.1.news = nw0 at hrun0
  refine Tri.of_body (vs := [_, _, _]) Tryd.func4 rfl rfl fun w0 F => ?_
  repeat' (first | refine St.halt 8 ?_ |refine Ga ?_ | (refine Gb ?_; intro b) | (refine Gd ?_; intro g cap rest hcap) | (refine Gc ?_; intro ad cap)  | (refine Gt alive_t ?_; rintro _ _ ⟨rfl, rfl⟩) | (refine Gt mnew_t ?_; rintro _ _ ⟨S, rfl, rfl⟩) | (refine Gt (hrun0 _) ?_; rintro _ _ ⟨nad0, ncap0, rfl, rfl⟩) | (refine Ge ?_ ?_ <;> (intro h; try (exfalso; omega))) | fail)
  all_goals first | (exfalso; omega) | skip
  apply Halt.go
  rename_i Bi
  revert b; intro Bo
  refine St.conv ?_ (Sub.refl _) (Ent.row_bl (sz := 1) (n := 0) rfl (by decide))
  refine St.conv ?_ (Sub.refl _) (Ent.cons (Ent.row_bl (sz := 1) (n := 0) rfl (by decide)))
  repeat' (first | refine Ga ?_ | (refine Gb ?_; intro b) | (refine Gd ?_; intro g cap rest hcap) | (refine Gc ?_; intro ad cap)  | (refine Ge ?_ ?_ <;> (intro h; try (exfalso; omega))) | fail)
  refine St.loopY (Lr := ?Lr1) (ι := { x : Nat × Ms × List Nat × List Nat × List Nat × List Nat × Option Addr × Nat × Option Addr × Nat // x.1 ≤ list.length ∧ QInv x.2.1 0 (some ⟨c, x.2.2.1⟩) x.2.2.2.1 x.2.2.1.length ∧ x.2.2.2.2.1 = x.2.2.2.2.2.1 ++ x.2.2.1 ∧ x.2.2.2.2.1.length ≤ x.1 }) (fun x => list.length - x.1.1)
    (fun x => [(36, .int .i64 (x.1.1 : Int)), (8, .slice x.1.2.2.2.2.2.2.1 x.1.2.2.2.2.1.length x.1.2.2.2.2.2.2.2.1), (9, .slice x.1.2.2.2.2.2.2.2.2.1 x.1.2.2.2.2.2.1.length x.1.2.2.2.2.2.2.2.2.2)])
    (fun x => [MsE S x.1.2.1, Row (.slice x.1.2.2.2.2.2.2.1 x.1.2.2.2.2.1.length x.1.2.2.2.2.2.2.2.1) 25 1 x.1.2.2.2.2.1.length (u64s x.1.2.2.2.2.1), Row (.slice x.1.2.2.2.2.2.2.2.2.1 x.1.2.2.2.2.2.1.length x.1.2.2.2.2.2.2.2.2.2) 25 1 x.1.2.2.2.2.2.1.length (u64s x.1.2.2.2.2.2.1)])
    ⟨(0, m0, [], own0, [], [], some ⟨Bi, 0, none⟩, 0, some ⟨Bo, 0, none⟩, 0), Nat.zero_le _, hi0, rfl, Nat.le_refl _⟩ ?hE1 ?hL1 ?round1
  case hE1 => exact Sub.go
  case hL1 => exact Takes.go
  case round1 =>
    rintro ⟨⟨k, m, ls, own, ins, outs, iad, icap, oad, ocap⟩, hk, hi, hins, hil⟩ IH; dsimp only at hk hi hins hil IH ⊢
    have hil2 : ins.length = outs.length + ls.length := by rw [hins, List.length_append]
    by_cases hkl : k < list.length
    · obtain ⟨bf, o, l, l1, rfl, hrd, hdr, htk⟩ := ListR.at (f := n64V) (sz := 1) (fun _ => rfl) hv k hkl
      generalize list[k] = v at htk
      obtain ⟨v, hvb⟩ := v
      unfold n64V at htk
      dsimp only at htk hvb
      have hn1 : NthN (o + (k : Int).toNat * 1) l (.int .u64 (v : Int)) := NthN.part hdr htk (j := 0) (NthN.of rfl)
      obtain ⟨bf2, o2, l2, l12, rfl, hrd2, hdr2, htk2⟩ := ListR.at (f := boolV) (sz := 1) (fun _ => rfl) ht k (by omega)
      generalize takes[k] = tk at htk2
      unfold boolV at htk2
      have hn2 : NthN (o2 + (k : Int).toNat * 1) l2 (.bool tk) := NthN.part hdr2 htk2 (j := 0) (NthN.of rfl)
      obtain ⟨r, hr, own1, hput⟩ := hi.put (by omega) v hvb
      have hrun := lrun_t S m hi.ok 1 (by decide) 0 v r hr
      unfold doneV at hrun
      generalize runMs m r = m1 at hrun hput
      rw [show ((0 : Nat) : Int) = 0 from rfl] at hrun
      generalize r.1.steps = str at hrun
      generalize r.1.dw = dwr at hrun
      generalize r.1.news = nwr at hrun
      generalize r.1.code = co at hrun hput
      generalize r.1.val = vl at hrun
      by_cases hf : c ≤ ls.length
      · rw [if_pos hf] at hput
        obtain ⟨rfl, hi1⟩ := hput
        repeat' (first | refine St.halt 13 ?_ |refine Ga ?_ | (refine Gb ?_; intro b) | (refine Gd ?_; intro g cap rest hcap) | (refine Gc ?_; intro ad cap)  | (refine Gt hrun ?_; rintro _ _ ⟨nad, ncap, rfl, rfl⟩) | (refine Ge ?_ ?_ <;> (intro h; try (exfalso; omega))) | fail)
        all_goals first | (exfalso; omega) | skip
        apply Halt.go
        rw [show decide ((c : Int) ≤ (ins.length : Int) - outs.length) = true from decide_eq_true (by omega)]
        repeat' (first | refine St.halt 17 ?_ |refine Ga ?_ | (refine Gb ?_; intro b) | (refine Gd ?_; intro g cap rest hcap) | (refine Gc ?_; intro ad cap)  | (refine Ge ?_ ?_ <;> (intro h; try (exfalso; omega))) | fail)
        apply Halt.go
        cases tk with
        | false =>
          repeat' (first | refine Ga ?_ | (refine Gb ?_; intro b) | (refine Gd ?_; intro g cap rest hcap) | (refine Gc ?_; intro ad cap)  | (refine Ge ?_ ?_ <;> (intro h; try (exfalso; omega))) | fail)
          all_goals first | (exfalso; omega) | skip
          refine IH ⟨(k + 1, m1, ls, own1, ins, outs, iad, icap, oad, ocap), hkl, hi1, hins, by simp only [List.length_append, List.length_cons, List.length_nil] at *; omega⟩ (by show list.length - (k + 1) < list.length - k; omega) ?_ ?_
          · exact Sub.go
          · exact Ent.go
        | true =>
          obtain ⟨r2, hr2, own2, htake⟩ := hi1.take (by simp only [List.length_append, List.length_cons, List.length_nil] at *; omega)
          have hrun2 := lrun_t S m1 hi1.ok 2 (by decide) 0 0 r2 hr2
          unfold doneV at hrun2
          generalize runMs m1 r2 = m2 at hrun2 htake
          rw [show ((0 : Nat) : Int) = 0 from rfl] at hrun2
          generalize r2.1.steps = str2 at hrun2
          generalize r2.1.dw = dwr2 at hrun2
          generalize r2.1.news = nwr2 at hrun2
          generalize r2.1.code = co2 at hrun2 htake
          generalize r2.1.val = vl2 at hrun2 htake
          cases ls with
          | nil =>
            obtain ⟨rfl, hi2⟩ := htake
            repeat' (first | refine Ga ?_ | (refine Gb ?_; intro b) | (refine Gd ?_; intro g cap rest hcap) | (refine Gc ?_; intro ad cap)  | (refine Gt hrun2 ?_; rintro _ _ ⟨nad2, ncap2, rfl, rfl⟩) | (refine Ge ?_ ?_ <;> (intro h; try (exfalso; omega))) | fail)
            all_goals first | (exfalso; omega) | skip
            refine IH ⟨(k + 1, m2, [], own2, ins, outs, iad, icap, oad, ocap), hkl, hi2, hins, by simp only [List.length_append, List.length_cons, List.length_nil] at *; omega⟩ (by show list.length - (k + 1) < list.length - k; omega) ?_ ?_
            · exact Sub.go
            · exact Ent.go
          | cons y ys =>
            obtain ⟨rfl, rfl, hi2⟩ := htake
            repeat' (first | refine Ga ?_ | (refine Gb ?_; intro b) | (refine Gd ?_; intro g cap rest hcap) | (refine Gc ?_; intro ad cap)  | (refine Gt hrun2 ?_; rintro _ _ ⟨nad2, ncap2, rfl, rfl⟩) | (refine Ge ?_ ?_ <;> (intro h; try (exfalso; omega))) | fail)
            all_goals first | (exfalso; omega) | skip
            refine IH ⟨(k + 1, m2, ys, own2, ins, outs ++ [vl2], iad, icap, ad, cap), hkl, hi2, by rw [hins, List.append_assoc]; rfl, by simp only [List.length_append, List.length_cons, List.length_nil] at *; omega⟩ (by show list.length - (k + 1) < list.length - k; omega) ?_ ?_
            · dsimp only; simp only [List.length_append, List.length_singleton]; exact Sub.go
            · dsimp only; simp only [List.length_append, List.length_singleton]; rw [show u64s (outs ++ [vl2]) = u64s outs ++ [.int .u64 (vl2 : Int)] by simp [u64s]]; exact Ent.go
      · rw [if_neg hf] at hput
        obtain ⟨rfl, hi1⟩ := hput
        repeat' (first | refine St.halt 13 ?_ |refine Ga ?_ | (refine Gb ?_; intro b) | (refine Gd ?_; intro g cap rest hcap) | (refine Gc ?_; intro ad cap)  | (refine Gt hrun ?_; rintro _ _ ⟨nad, ncap, rfl, rfl⟩) | (refine Ge ?_ ?_ <;> (intro h; try (exfalso; omega))) | fail)
        all_goals first | (exfalso; omega) | skip
        apply Halt.go
        rw [show decide ((c : Int) ≤ (ins.length : Int) - outs.length) = false from decide_eq_false (by omega)]
        repeat' (first | refine St.halt 17 ?_ |refine Ga ?_ | (refine Gb ?_; intro b) | (refine Gd ?_; intro g cap rest hcap) | (refine Gc ?_; intro ad cap)  | (refine Ge ?_ ?_ <;> (intro h; try (exfalso; omega))) | fail)
        apply Halt.go
        revert cap ad; intro iad1 icap1
        have hins1 : ins ++ [v] = outs ++ (ls ++ [v]) := by rw [hins, List.append_assoc]
        have hlen1 : (ls ++ [v]).length = ls.length + 1 := by simp
        generalize ls ++ [v] = ls1 at hi1 hins1 hlen1
        cases tk with
        | false =>
          repeat' (first | refine Ga ?_ | (refine Gb ?_; intro b) | (refine Gd ?_; intro g cap rest hcap) | (refine Gc ?_; intro ad cap)  | (refine Ge ?_ ?_ <;> (intro h; try (exfalso; omega))) | fail)
          all_goals first | (exfalso; omega) | skip
          refine IH ⟨(k + 1, m1, ls1, own1, ins ++ [v], outs, iad1, icap1, oad, ocap), hkl, hi1, hins1, by simp only [List.length_append, List.length_cons, List.length_nil] at *; omega⟩ (by show list.length - (k + 1) < list.length - k; omega) ?_ ?_
          · dsimp only; rw [List.length_append, List.length_singleton]; exact Sub.go
          · dsimp only; rw [List.length_append, List.length_singleton, show u64s (ins ++ [v]) = u64s ins ++ [.int .u64 (v : Int)] by simp [u64s]]; exact Ent.go
        | true =>
          obtain ⟨r2, hr2, own2, htake⟩ := hi1.take (by simp only [List.length_append, List.length_cons, List.length_nil] at *; omega)
          have hrun2 := lrun_t S m1 hi1.ok 2 (by decide) 0 0 r2 hr2
          unfold doneV at hrun2
          generalize runMs m1 r2 = m2 at hrun2 htake
          rw [show ((0 : Nat) : Int) = 0 from rfl] at hrun2
          generalize r2.1.steps = str2 at hrun2
          generalize r2.1.dw = dwr2 at hrun2
          generalize r2.1.news = nwr2 at hrun2
          generalize r2.1.code = co2 at hrun2 htake
          generalize r2.1.val = vl2 at hrun2 htake
          cases ls1 with
          | nil =>
            obtain ⟨rfl, hi2⟩ := htake
            repeat' (first | refine Ga ?_ | (refine Gb ?_; intro b) | (refine Gd ?_; intro g cap rest hcap) | (refine Gc ?_; intro ad cap)  | (refine Gt hrun2 ?_; rintro _ _ ⟨nad2, ncap2, rfl, rfl⟩) | (refine Ge ?_ ?_ <;> (intro h; try (exfalso; omega))) | fail)
            all_goals first | (exfalso; omega) | skip
            refine IH ⟨(k + 1, m2, [], own2, ins ++ [v], outs, iad1, icap1, oad, ocap), hkl, hi2, hins1, by simp only [List.length_append, List.length_cons, List.length_nil] at *; omega⟩ (by show list.length - (k + 1) < list.length - k; omega) ?_ ?_
            · dsimp only; rw [List.length_append, List.length_singleton]; exact Sub.go
            · dsimp only; rw [List.length_append, List.length_singleton, show u64s (ins ++ [v]) = u64s ins ++ [.int .u64 (v : Int)] by simp [u64s]]; exact Ent.go
          | cons y ys =>
            obtain ⟨rfl, rfl, hi2⟩ := htake
            repeat' (first | refine Ga ?_ | (refine Gb ?_; intro b) | (refine Gd ?_; intro g cap rest hcap) | (refine Gc ?_; intro ad cap)  | (refine Gt hrun2 ?_; rintro _ _ ⟨nad2, ncap2, rfl, rfl⟩) | (refine Ge ?_ ?_ <;> (intro h; try (exfalso; omega))) | fail)
            all_goals first | (exfalso; omega) | skip
            refine IH ⟨(k + 1, m2, ys, own2, ins ++ [v], outs ++ [vl2], iad1, icap1, ad, cap), hkl, hi2, by rw [hins1, List.append_assoc]; rfl, by simp only [List.length_append, List.length_cons, List.length_nil] at *; omega⟩ (by show list.length - (k + 1) < list.length - k; omega) ?_ ?_
            · dsimp only; simp only [List.length_append, List.length_singleton]; exact Sub.go
            · dsimp only; simp only [List.length_append, List.length_singleton]; rw [show u64s (outs ++ [vl2]) = u64s outs ++ [.int .u64 (vl2 : Int)] by simp [u64s], show u64s (ins ++ [v]) = u64s ins ++ [.int .u64 (v : Int)] by simp [u64s]]; exact Ent.go
    · obtain rfl : k = list.length := by omega
      clear IH
      repeat' (first | refine Ga ?_ | (refine Gb ?_; intro b) | (refine Gd ?_; intro g cap rest hcap) | (refine Gc ?_; intro ad cap)  | (refine Ge ?_ ?_ <;> (intro h; try (exfalso; omega))) | fail)
      all_goals first | (exfalso; omega) | skip
      refine St.loopY (Lr := ?Lr2) (ι := { x : Nat × Ms × List Nat × List Nat × List Nat × Option Addr × Nat // x.1 ≤ ins.length ∧ QInv x.2.1 0 (some ⟨c, x.2.2.1⟩) x.2.2.2.1 x.2.2.1.length ∧ ins = x.2.2.2.2.1 ++ x.2.2.1 ∧ x.2.2.1.length + x.1 ≤ ins.length }) (fun x => ins.length - x.1.1)
        (fun x => [(85, .int .i64 (x.1.1 : Int)), (9, .slice x.1.2.2.2.2.2.1 x.1.2.2.2.2.1.length x.1.2.2.2.2.2.2)])
        (fun x => [MsE S x.1.2.1, Row (.slice x.1.2.2.2.2.2.1 x.1.2.2.2.2.1.length x.1.2.2.2.2.2.2) 25 1 x.1.2.2.2.2.1.length (u64s x.1.2.2.2.2.1)])
        ⟨(0, m, ls, own, outs, oad, ocap), Nat.zero_le _, hi, hins, by dsimp only; omega⟩ ?hE2 ?hL2 ?round2
      case hE2 => exact Sub.go
      case hL2 => exact Takes.go
      case round2 =>
        rintro ⟨⟨i, m1, ls1, own1, outs1, oad1, ocap1⟩, hk1, hi1, hins1, hil1⟩ IH; dsimp only at hk1 hi1 hins1 hil1 IH ⊢
        have hil2 : ins.length = outs1.length + ls1.length := by rw [hins1, List.length_append]
        by_cases hkl : i < ins.length
        · obtain ⟨r2, hr2, own2, htake⟩ := hi1.take (by omega)
          have hrun2 := lrun_t S m1 hi1.ok 2 (by decide) 0 0 r2 hr2
          unfold doneV at hrun2
          generalize runMs m1 r2 = m2 at hrun2 htake
          rw [show ((0 : Nat) : Int) = 0 from rfl] at hrun2
          generalize r2.1.steps = str2 at hrun2
          generalize r2.1.dw = dwr2 at hrun2
          generalize r2.1.news = nwr2 at hrun2
          generalize r2.1.code = co2 at hrun2 htake
          generalize r2.1.val = vl2 at hrun2 htake
          cases ls1 with
          | nil =>
            obtain ⟨rfl, hi2⟩ := htake
            repeat' (first | refine Ga ?_ | (refine Gb ?_; intro b) | (refine Gd ?_; intro g cap rest hcap) | (refine Gc ?_; intro ad cap)  | (refine Gt hrun2 ?_; rintro _ _ ⟨nad2, ncap2, rfl, rfl⟩) | (refine Ge ?_ ?_ <;> (intro h; try (exfalso; omega))) | fail)
            all_goals first | (exfalso; omega) | skip
            refine IH ⟨(i + 1, m2, [], own2, outs1, oad1, ocap1), hkl, hi2, hins1, by simp only [List.length_nil] at *; omega⟩ (by show ins.length - (i + 1) < ins.length - i; omega) ?_ ?_
            · exact Sub.go
            · exact Ent.go
          | cons y ys =>
            obtain ⟨rfl, rfl, hi2⟩ := htake
            repeat' (first | refine Ga ?_ | (refine Gb ?_; intro b) | (refine Gd ?_; intro g cap rest hcap) | (refine Gc ?_; intro ad cap)  | (refine Gt hrun2 ?_; rintro _ _ ⟨nad2, ncap2, rfl, rfl⟩) | (refine Ge ?_ ?_ <;> (intro h; try (exfalso; omega))) | fail)
            all_goals first | (exfalso; omega) | skip
            refine IH ⟨(i + 1, m2, ys, own2, outs1 ++ [vl2], ad, cap), hkl, hi2, by rw [hins1, List.append_assoc]; rfl, by simp only [List.length_cons] at *; omega⟩ (by show ins.length - (i + 1) < ins.length - i; omega) ?_ ?_
            · dsimp only; rw [List.length_append, List.length_singleton]; exact Sub.go
            · dsimp only; rw [List.length_append, List.length_singleton, show u64s (outs1 ++ [vl2]) = u64s outs1 ++ [.int .u64 (vl2 : Int)] by simp [u64s]]; exact Ent.go
        · obtain rfl : i = ins.length := by omega
          clear IH
          have hz : ls1 = [] := List.eq_nil_of_length_eq_zero (by omega)
          subst hz
          rw [List.append_nil] at hins1
          subst hins1
          repeat' (first | refine St.halt 28 ?_ |refine Ga ?_ | (refine Gb ?_; intro b) | (refine Gd ?_; intro g cap rest hcap) | (refine Gc ?_; intro ad cap)  | (refine Ge ?_ ?_ <;> (intro h; try (exfalso; omega))) | fail)
          all_goals first | (exfalso; omega) | skip
          apply Halt.go
          refine St.conv ?_ (Sub.refl _) (Ent.of_take (p := Row (.slice iad ins.length icap) 25 1 ins.length (u64s ins)) Take.go)
          refine St.rowS fun R1 hR1 => ?_
          refine St.conv ?_ (Sub.refl _) (Ent.of_take (p := Row (.slice oad1 ins.length ocap1) 25 1 ins.length (u64s ins)) Take.go)
          refine St.rowS fun R2 hR2 => ?_
          refine St.conv ?_ (Sub.refl _) (Ent.of_take (p := R1) Take.go)
          refine St.conv ?_ (Sub.refl _) (Ent.of_take (p := R2) Take.go)
          refine St.conv ?_ (Sub.refl _) (Ent.star_in [R2, R1])
          have hsm := rsame_r (star [R2, R1]) _ _ ins ins (hR1.weak fun b l h => RdC.star (.tail _ (.head _)) h) (hR2.weak fun b l h => RdC.star (.head _) h) (by omega)
          rw [show decide (ins = ins) = true from decide_eq_true rfl] at hsm
          repeat' (first | refine Ga ?_ | (refine Gb ?_; intro b) | (refine Gd ?_; intro g cap rest hcap) | (refine Gc ?_; intro ad cap) | refine Gl hsm ?_ | (refine Ge ?_ ?_ <;> (intro h; try (exfalso; omega))) | fail)
          refine St.d1 Tryd.func4 ⟨_, ⟨rfl, rfl⟩, ?_⟩
          exact Ent.go
end Go.Proofs.YtahefjapgfmmkaaDoor
