/-
  Package tumblerlaw11: ExecPlays. The closed facts of the row, one by one.
-/
import Derived.Test.YthmbgodcpgkkeaaGreatNe
import Derived.Test.YthmbgodcpgkkeaaGreatLp
import Derived.Test.YthmbgodcpgkkeaaGreatLq
import Derived.Test.YthmbgodcpgkkeaaGreatRows
import Derived.ProofKit
import Derived.JoinedOf
section
namespace Go.Proofs.YthmbgodcpgkkeaaGreat
set_option maxRecDepth 100000
theorem AndIs.leN (a : Int) (b : Nat) (hb : b < 9223372036854775808) : ∃ c : Nat, AndIs .i64 a (b : Int) (c : Int) ∧ c ≤ b := by
  have e1 : (BitVec.ofInt 64 (b : Int)).toNat = b := by
    rw [BitVec.toNat_ofInt]
    have : (2 : Nat) ^ 64 = 18446744073709551616 := by decide
    omega
  have e2 : (BitVec.ofInt 64 a &&& BitVec.ofInt 64 (b : Int)).toNat ≤ b := by
    rw [BitVec.toNat_and, e1]
    exact Nat.and_le_right
  refine ⟨(BitVec.ofInt 64 a &&& BitVec.ofInt 64 (b : Int)).toNat, ?_, by omega⟩
  unfold AndIs
  rw [show IntKind.i64.bits = 64 from rfl]
  exact wrap_fits (by simp only [fits]; omega)
theorem rvnew_r (c : Cfg) (who : Int) (seq : Nat) : RTri Tryz.prog 24 #[.agg ⟨c.v⟩, .int .i64 who, .int .u64 (seq : Int)] [] (.agg ⟨rvV c (.new who seq)⟩) := by
  apply RTri.of_pure
  refine Tri.of_body (vs := [_, _, _]) Tryz.func24 rfl rfl fun w0 F => ?_
  repeat' (first | refine Ga ?_ | (refine Gb ?_; intro b) | (refine Gd ?_; intro g cap rest hcap) | (refine Gc ?_; intro ad cap)  | (refine Ge ?_ ?_ <;> (intro h; try (exfalso; omega))) | fail)
  all_goals exact St.d1 Tryz.func24 ⟨_, ⟨rfl, rfl⟩, Ent.go⟩
theorem rsnew_r (room : Nat) (h : room ≤ 65536) : RTri Tryz.prog 26 #[.int .i64 (room : Int)] [] (.agg ⟨[.int .i64 (room : Int), .slice none 0 0]⟩) := by
  apply RTri.of_pure
  refine Tri.of_body (vs := [_]) Tryz.func26 rfl rfl fun w0 F => ?_
  repeat' (first | refine Ga ?_ | (refine Gb ?_; intro b) | (refine Gd ?_; intro g cap rest hcap) | (refine Gc ?_; intro ad cap)  | (refine Ge ?_ ?_ <;> (intro h; try (exfalso; omega))) | fail)
  all_goals first | (exfalso; omega) | skip
  all_goals exact St.d1 Tryz.func26 ⟨_, ⟨rfl, rfl⟩, Ent.go⟩
section
set_option maxHeartbeats 1000000 in
theorem plays_far {q : HProp} {c : Cfg} (seq : Nat) {fv jv ov : Value} {first outs : List Out} {jobs : List Jb} (hfv : ListR Out.v q fv first) (hjv : JobsR q jv jobs) (hov : ListR Out.v q ov outs) (room : Int) (hjn : jobs.length ≤ 9223372036854775807) (hno : ¬ (fewB c jobs = true ∧ first.length ≤ 60 ∧ outs.length ≤ 60)) :
    Tri Tryz.prog 3 #[.agg ⟨c.v⟩, .int .u64 (seq : Int), fv, jv, ov, .int .i64 room] [q] (playQ q) := by
  have hfew := few_r c q jv jobs hjv hjn
  obtain ⟨fad, fcap, rfl, _⟩ := id hfv
  obtain ⟨jad, jcap, rfl, _⟩ := id hjv
  obtain ⟨oad, ocap, rfl, _⟩ := id hov
  cases hb : fewB c jobs with
  | false =>
    rw [hb] at hfew
    refine Tri.of_body (vs := [_, _, _, _, _, _]) Tryz.func3 rfl rfl fun w0 F => ?_
    repeat' (first | refine Ga ?_ | (refine Gb ?_; intro b) | (refine Gd ?_; intro g cap rest hcap) | (refine Gc ?_; intro ad cap) | (refine St.draw (id := 20) [(0, 1), (1, 0), (2, 1), (3, 1), (4, 0), (5, 0), (6, 0), (7, 0), (8, 3), (9, 0), (10, 3)] [8, 10] mixed (by kernel_rfl) ?_) | (refine St.draw (id := 26) [(0, 1), (1, 0), (2, 0), (3, 0), (4, 0), (5, 0), (6, 0), (7, 1), (8, 0), (9, 1), (10, 1), (11, 2), (12, 3)] [12] mixed (by kernel_rfl) ?_) | (refine St.draw (id := 28) [(0, 0), (1, 0), (2, 0), (3, 1), (4, 0), (5, 0), (6, 1), (7, 0), (8, 0), (9, 1), (10, 0), (11, 0), (12, 0), (13, 0), (14, 1), (15, 0), (16, 1), (17, 0), (18, 0)] [] mixed (by kernel_rfl) ?_) | (refine St.draw (id := 33) [(0, 0), (1, 1), (2, 0), (3, 0), (4, 0), (5, 1), (6, 0), (7, 1), (8, 0), (9, 0), (10, 0), (11, 1), (12, 0), (13, 1), (14, 0), (15, 0), (16, 0), (17, 0), (18, 0), (19, 1), (20, 1), (21, 0), (22, 0), (23, 0), (24, 0), (25, 0), (26, 1), (27, 1), (28, 0), (29, 0), (30, 0), (31, 0), (32, 1), (33, 0), (34, 0), (35, 1), (36, 0), (37, 0), (38, 1), (39, 0), (40, 0), (41, 0), (42, 0)] [] mixed (by kernel_rfl) ?_)| refine Gl hfew ?_ | (refine Gt alive_t ?_; rintro _ _ ⟨rfl, rfl⟩) | (refine Ge ?_ ?_ <;> (intro h; try (exfalso; omega))) | fail)
    all_goals first | (exfalso; omega) | skip
    all_goals exact St.d1 Tryz.func3 ⟨_, ⟨rfl, rfl⟩, Ent.go⟩
  | true =>
    rw [hb] at hfew
    have hno : 60 < first.length ∨ 60 < outs.length := by
      refine Decidable.byContradiction fun e => hno ⟨hb, ?_⟩
      omega
    by_cases h1 : 60 < first.length
    · refine Tri.of_body (vs := [_, _, _, _, _, _]) Tryz.func3 rfl rfl fun w0 F => ?_
      repeat' (first | refine Ga ?_ | (refine Gb ?_; intro b) | (refine Gd ?_; intro g cap rest hcap) | (refine Gc ?_; intro ad cap) | (refine St.draw (id := 20) [(0, 1), (1, 0), (2, 1), (3, 1), (4, 0), (5, 0), (6, 0), (7, 0), (8, 3), (9, 0), (10, 3)] [8, 10] mixed (by kernel_rfl) ?_) | (refine St.draw (id := 26) [(0, 1), (1, 0), (2, 0), (3, 0), (4, 0), (5, 0), (6, 0), (7, 1), (8, 0), (9, 1), (10, 1), (11, 2), (12, 3)] [12] mixed (by kernel_rfl) ?_) | (refine St.draw (id := 28) [(0, 0), (1, 0), (2, 0), (3, 1), (4, 0), (5, 0), (6, 1), (7, 0), (8, 0), (9, 1), (10, 0), (11, 0), (12, 0), (13, 0), (14, 1), (15, 0), (16, 1), (17, 0), (18, 0)] [] mixed (by kernel_rfl) ?_) | (refine St.draw (id := 33) [(0, 0), (1, 1), (2, 0), (3, 0), (4, 0), (5, 1), (6, 0), (7, 1), (8, 0), (9, 0), (10, 0), (11, 1), (12, 0), (13, 1), (14, 0), (15, 0), (16, 0), (17, 0), (18, 0), (19, 1), (20, 1), (21, 0), (22, 0), (23, 0), (24, 0), (25, 0), (26, 1), (27, 1), (28, 0), (29, 0), (30, 0), (31, 0), (32, 1), (33, 0), (34, 0), (35, 1), (36, 0), (37, 0), (38, 1), (39, 0), (40, 0), (41, 0), (42, 0)] [] mixed (by kernel_rfl) ?_)| refine Gl hfew ?_ | (refine Gt alive_t ?_; rintro _ _ ⟨rfl, rfl⟩) | (refine Ge ?_ ?_ <;> (intro h; try (exfalso; omega))) | fail)
      all_goals first | (exfalso; omega) | skip
      all_goals exact St.d1 Tryz.func3 ⟨_, ⟨rfl, rfl⟩, Ent.go⟩
    · have h3 : 60 < outs.length := by omega
      refine Tri.of_body (vs := [_, _, _, _, _, _]) Tryz.func3 rfl rfl fun w0 F => ?_
      repeat' (first | refine Ga ?_ | (refine Gb ?_; intro b) | (refine Gd ?_; intro g cap rest hcap) | (refine Gc ?_; intro ad cap) | (refine St.draw (id := 20) [(0, 1), (1, 0), (2, 1), (3, 1), (4, 0), (5, 0), (6, 0), (7, 0), (8, 3), (9, 0), (10, 3)] [8, 10] mixed (by kernel_rfl) ?_) | (refine St.draw (id := 26) [(0, 1), (1, 0), (2, 0), (3, 0), (4, 0), (5, 0), (6, 0), (7, 1), (8, 0), (9, 1), (10, 1), (11, 2), (12, 3)] [12] mixed (by kernel_rfl) ?_) | (refine St.draw (id := 28) [(0, 0), (1, 0), (2, 0), (3, 1), (4, 0), (5, 0), (6, 1), (7, 0), (8, 0), (9, 1), (10, 0), (11, 0), (12, 0), (13, 0), (14, 1), (15, 0), (16, 1), (17, 0), (18, 0)] [] mixed (by kernel_rfl) ?_) | (refine St.draw (id := 33) [(0, 0), (1, 1), (2, 0), (3, 0), (4, 0), (5, 1), (6, 0), (7, 1), (8, 0), (9, 0), (10, 0), (11, 1), (12, 0), (13, 1), (14, 0), (15, 0), (16, 0), (17, 0), (18, 0), (19, 1), (20, 1), (21, 0), (22, 0), (23, 0), (24, 0), (25, 0), (26, 1), (27, 1), (28, 0), (29, 0), (30, 0), (31, 0), (32, 1), (33, 0), (34, 0), (35, 1), (36, 0), (37, 0), (38, 1), (39, 0), (40, 0), (41, 0), (42, 0)] [] mixed (by kernel_rfl) ?_)| refine Gl hfew ?_ | (refine Gt alive_t ?_; rintro _ _ ⟨rfl, rfl⟩) | (refine Ge ?_ ?_ <;> (intro h; try (exfalso; omega))) | fail)
      all_goals first | (exfalso; omega) | skip
      all_goals exact St.d1 Tryz.func3 ⟨_, ⟨rfl, rfl⟩, Ent.go⟩
set_option maxHeartbeats 4000000 in
theorem plays_near {q : HProp} {c : Cfg} (seq : Nat) {fv jv ov : Value} {first outs : List Out} {jobs : List Jb} (hfv : ListR Out.v q fv first) (hjv : JobsR q jv jobs) (hov : ListR Out.v q ov outs) (hjo : ∀ j ∈ jobs, JbOk q j) (_hfo : ∀ o ∈ first, o.was.val < 18446744073709551616) (hoo : ∀ o ∈ outs, o.was.val < 18446744073709551616) (room : Int) (hb : fewB c jobs = true) (h1 : first.length ≤ 60) (h2 : outs.length ≤ 60) :
    Tri Tryz.prog 3 #[.agg ⟨c.v⟩, .int .u64 (seq : Int), fv, jv, ov, .int .i64 room] [q] (playQ q) := by
  have hjl : jobs.length ≤ 6 := by
    unfold fewB at hb
    simp only [Bool.and_eq_true, decide_eq_true_eq] at hb
    omega
  have hfew := few_r c q jv jobs hjv (by omega)
  rw [hb] at hfew
  unfold fewB at hb
  simp only [Bool.and_eq_true, decide_eq_true_eq] at hb
  obtain ⟨_, ⟨hcr, hfu⟩, _⟩ := hb
  have hc := Cfg.small hcr
  have hf0 : 0 ≤ c.fuel := by have := of_decide_eq_true hcr; omega
  have hof := of_r c
  unfold Cfg.ofV at hof
  rw [if_pos hcr] at hof
  have hread := rread_t hfv (by omega) hc seq (.live 0) (Nat.zero_le _)
  have hpool := pool_at (c := c) (os := first) hc seq
  obtain ⟨fad, fcap, rfl, hfr⟩ := id hfv
  obtain ⟨jad, jcap, rfl, hjr⟩ := id hjv
  obtain ⟨oad, ocap, rfl, hor⟩ := id hov
  generalize rread c first seq (.live 0) = X at hread hpool
  obtain ⟨t', ⟨named, limbo, wt, wl⟩, s⟩ := X
  unfold ReadQ plV tpV Cfg.v at hread
  dsimp only [List.cons_append, List.nil_append, Tp.live, op0, mop] at hread hpool
  unfold Cfg.v
  by_cases hs1 : s = 1
  · subst hs1
    have hp1 := hpool rfl
    obtain ⟨a1, a2, a3⟩ := hp1
    obtain ⟨b1, b2, b3, b4, b5, b6⟩ := a3 rfl
    dsimp only at a1 b1 b2 b3 b4 b5 b6
    clear hpool
    obtain ⟨r, hr, hr2⟩ := AndIs.leN room 255 (by decide)
    have hwn := wnew_t r (by omega)
    have hvn := vnew_t c 0 seq
    have hpn := pnew_t c seq
    have hrn := rvnew_r c 0 seq
    have hsn := rsnew_r r (by omega)
    unfold Cfg.v at hof hfew
    refine Tri.of_body (vs := [_, _, _, _, _, _]) Tryz.func3 rfl rfl fun w0 F => ?_
    repeat' (first | refine Ga ?_ | (refine Gb ?_; intro b) | (refine Gd ?_; intro g cap rest hcap) | (refine Gc ?_; intro ad cap) | (refine St.draw (id := 20) [(0, 1), (1, 0), (2, 1), (3, 1), (4, 0), (5, 0), (6, 0), (7, 0), (8, 3), (9, 0), (10, 3)] [8, 10] mixed (by kernel_rfl) ?_) | (refine St.draw (id := 26) [(0, 1), (1, 0), (2, 0), (3, 0), (4, 0), (5, 0), (6, 0), (7, 1), (8, 0), (9, 1), (10, 1), (11, 2), (12, 3)] [12] mixed (by kernel_rfl) ?_) | (refine St.draw (id := 28) [(0, 0), (1, 0), (2, 0), (3, 1), (4, 0), (5, 0), (6, 1), (7, 0), (8, 0), (9, 1), (10, 0), (11, 0), (12, 0), (13, 0), (14, 1), (15, 0), (16, 1), (17, 0), (18, 0)] [] mixed (by kernel_rfl) ?_) | (refine St.draw (id := 33) [(0, 0), (1, 1), (2, 0), (3, 0), (4, 0), (5, 1), (6, 0), (7, 1), (8, 0), (9, 0), (10, 0), (11, 1), (12, 0), (13, 1), (14, 0), (15, 0), (16, 0), (17, 0), (18, 0), (19, 1), (20, 1), (21, 0), (22, 0), (23, 0), (24, 0), (25, 0), (26, 1), (27, 1), (28, 0), (29, 0), (30, 0), (31, 0), (32, 1), (33, 0), (34, 0), (35, 1), (36, 0), (37, 0), (38, 1), (39, 0), (40, 0), (41, 0), (42, 0)] [] mixed (by kernel_rfl) ?_)| refine Gl hfew ?_ | refine Gl hof ?_ | (refine Gt alive_t ?_; rintro _ _ ⟨rfl, rfl⟩) | (refine Gt hread ?_; rintro _ _ ⟨q1, na, nc, ma, mc, hg1, hn1, hm1, rfl, rfl⟩) | (refine Gt hpn ?_; rintro _ _ ⟨Pb, rfl, rfl⟩) | (refine StD.ok3 rfl (OpOk.ofW OpV.go) rfl ?_; rintro _ _ ⟨rfl, rfl⟩) | (refine Ge ?_ ?_ <;> (intro h; try (exfalso; omega))) | fail)
    all_goals first | (exfalso; omega) | skip
    refine St.loopY (Lr := ?Lr1) (ι := { x : Nat // x ≤ first.length ∧ PoOk x (fedM (XPo c) first (Po.new seq) x) }) (fun x => first.length - x.1)
      (fun x => [(71, .int .i64 (x.1 : Int))]) (fun x => [Pl Pb c (fedM (XPo c) first (Po.new seq) x.1)]) ⟨0, Nat.zero_le _, PoOk.new seq⟩ ?hE1 ?hL1 ?round1
    case hE1 => exact Sub.go
    case hL1 => exact Takes.go
    case round1 =>
      rintro ⟨k, hk, hp⟩ IH; dsimp only at hk hp IH ⊢
      by_cases hlt : k < first.length
      · obtain ⟨bf, o, l, l1, rfl, hrd, hdr, htk⟩ := (hfv.gr hg1).at' (fun _ => rfl) (sz := 3) k hlt
        have hfd : fedM (XPo c) first (Po.new seq) (k + 1) = (fedM (XPo c) first (Po.new seq) k).tell c first[k] := by
          rw [fedM, XPo_tell, List.getD_eq_getElem?_getD, List.getElem?_eq_getElem hlt]; rfl
        have hpt := hp.tell hc first[k]
        have ht := ptell_t Pb c hc (fedM (XPo c) first (Po.new seq) k) first[k] ⟨hp.next.1, by have := hp.next; omega⟩ (by have := hp.names; omega) (by have := hp.limbo; omega)
        rw [← hfd] at ht hpt
        repeat' (first | refine Ga ?_ | (refine Gb ?_; intro b) | (refine Gd ?_; intro g cap rest hcap) | (refine Gc ?_; intro ad cap) | (refine St.draw (id := 20) [(0, 1), (1, 0), (2, 1), (3, 1), (4, 0), (5, 0), (6, 0), (7, 0), (8, 3), (9, 0), (10, 3)] [8, 10] mixed (by kernel_rfl) ?_) | (refine St.draw (id := 26) [(0, 1), (1, 0), (2, 0), (3, 0), (4, 0), (5, 0), (6, 0), (7, 1), (8, 0), (9, 1), (10, 1), (11, 2), (12, 3)] [12] mixed (by kernel_rfl) ?_) | (refine St.draw (id := 28) [(0, 0), (1, 0), (2, 0), (3, 1), (4, 0), (5, 0), (6, 1), (7, 0), (8, 0), (9, 1), (10, 0), (11, 0), (12, 0), (13, 0), (14, 1), (15, 0), (16, 1), (17, 0), (18, 0)] [] mixed (by kernel_rfl) ?_) | (refine St.draw (id := 33) [(0, 0), (1, 1), (2, 0), (3, 0), (4, 0), (5, 1), (6, 0), (7, 1), (8, 0), (9, 0), (10, 0), (11, 1), (12, 0), (13, 1), (14, 0), (15, 0), (16, 0), (17, 0), (18, 0), (19, 1), (20, 1), (21, 0), (22, 0), (23, 0), (24, 0), (25, 0), (26, 1), (27, 1), (28, 0), (29, 0), (30, 0), (31, 0), (32, 1), (33, 0), (34, 0), (35, 1), (36, 0), (37, 0), (38, 1), (39, 0), (40, 0), (41, 0), (42, 0)] [] mixed (by kernel_rfl) ?_) | (refine Gt ht ?_; rintro _ _ ⟨rfl, rfl⟩) | (refine Ge ?_ ?_ <;> (intro h; try (exfalso; omega))) | fail)
        all_goals first | (exfalso; omega) | skip
        refine IH ⟨k + 1, hlt, hpt⟩ (by show _ - (k + 1) < _ - k; omega) ?_ ?_
        · exact Sub.go
        · exact Ent.go
      · obtain rfl : k = first.length := by omega
        clear IH
        generalize fedM (XPo c) first (Po.new seq) first.length = p at *
        subst b1 b2 b5 b6
        have hps := fun W => psettle_t Pb W r c hc p [] hp.nt.1 (by have := hp.limbo; omega) (by have := hp.limbo; simp; omega)
        have hrs := rsettle_t (c := c) hc (show ListR entV q1 (.slice none 0 0) [] from ⟨none, 0, rfl, Nat.le_refl _, .inl rfl⟩) (Nat.zero_le _) r (by omega) na p.names.length nc ma p.limbo.length mc hn1 (by have := hp.names; omega) hm1 (by have := hp.limbo; omega) p.nt p.nl p.nt p.nl (by have := hp.nt; omega)
        have hst := Start.settled2 hc (by omega) r h1 hp
        have hval := setGo_val c (by have := hc.b1; omega) r p.names p.limbo 0 ⟨0, p.nt, []⟩ (fun _ h => by cases h)
        unfold plV Cfg.v at hrs
        unfold rvV Cfg.v at hrn
        dsimp only [List.cons_append, List.nil_append] at hrs hrn
        repeat' (first | refine St.halt 22 ?_ |refine Ga ?_ | (refine Gb ?_; intro b) | (refine Gd ?_; intro g cap rest hcap) | (refine Gc ?_; intro ad cap) | (refine St.draw (id := 20) [(0, 1), (1, 0), (2, 1), (3, 3), (4, 0), (5, 0), (6, 0), (7, 0), (8, 3), (9, 0), (10, 3)] [3, 8, 10] mixed (by kernel_rfl) ?_) | (refine St.draw (id := 26) [(0, 1), (1, 0), (2, 0), (3, 0), (4, 0), (5, 0), (6, 0), (7, 1), (8, 0), (9, 1), (10, 1), (11, 2), (12, 3)] [12] mixed (by kernel_rfl) ?_) | (refine St.draw (id := 28) [(0, 0), (1, 0), (2, 0), (3, 1), (4, 0), (5, 0), (6, 1), (7, 0), (8, 0), (9, 1), (10, 0), (11, 0), (12, 0), (13, 0), (14, 1), (15, 0), (16, 1), (17, 0), (18, 0)] [] mixed (by kernel_rfl) ?_) | (refine St.draw (id := 33) [(0, 0), (1, 1), (2, 0), (3, 0), (4, 0), (5, 1), (6, 0), (7, 1), (8, 0), (9, 0), (10, 0), (11, 1), (12, 0), (13, 1), (14, 0), (15, 0), (16, 0), (17, 0), (18, 0), (19, 1), (20, 1), (21, 0), (22, 0), (23, 0), (24, 0), (25, 0), (26, 1), (27, 1), (28, 0), (29, 0), (30, 0), (31, 0), (32, 1), (33, 0), (34, 0), (35, 1), (36, 0), (37, 0), (38, 1), (39, 0), (40, 0), (41, 0), (42, 0)] [] mixed (by kernel_rfl) ?_)| refine Gl hrn ?_ | refine Gl hsn ?_ | (refine Gt hwn ?_; rintro _ _ ⟨W, rfl, rfl⟩) | (refine Gt hvn ?_; rintro _ _ ⟨V, rfl, rfl⟩) | (refine Gt (hps _) ?_; rintro _ _ ⟨rfl, rfl⟩) | (refine Gt hrs ?_; rintro _ _ ⟨q2, sa, sn, sc, hg2, hl2, rfl, rfl⟩) | (refine StD.ok3 rfl (OpOk.ofW OpV.go) rfl ?_; rintro _ _ ⟨rfl, rfl⟩) | (refine Ge ?_ ?_ <;> (intro h; try (exfalso; omega))) | fail)
        all_goals first | (exfalso; omega) | skip
        obtain ⟨ad9, cap9, e9, _⟩ := id hl2
        injection e9 with e9a e9b e9c
        subst e9b
        exact Halt.go (St.conv (plays_jobs hjr hjl hjo hov h2 hoo hc hf0 hfu seq r (by omega) ⟨na, p.names.length, nc, none, 0, 0, p.nt, p.nl, 0, 0, r, none, 0, 0⟩ rfl ⟨0, 0, Vw.new 0 seq, Rv.new 0 seq, p.settled c r [], (setGo c r p.names 0 p.limbo ⟨0, p.nt, []⟩).puts, q2, sa, sc⟩
          ⟨Nat.zero_le _, Nat.zero_le _, hg1.trans hg2, hl2, hval, VR.new 0 seq, rfl, by show (1 : Int) ≠ 2; decide, fun e => absurd (show (1 : Int) = 0 from e) (by decide), ⟨Int.le_refl _, by show (0 : Int) ≤ 1000; decide⟩, hst.1, by have := hst.2; dsimp only; omega⟩ ⟨rfl, rfl⟩ V Pb W _ _ w0 F) Sub.go Ent.go)
  · refine Tri.of_body (vs := [_, _, _, _, _, _]) Tryz.func3 rfl rfl fun w0 F => ?_
    repeat' (first | refine Ga ?_ | (refine Gb ?_; intro b) | (refine Gd ?_; intro g cap rest hcap) | (refine Gc ?_; intro ad cap) | (refine St.draw (id := 20) [(0, 1), (1, 0), (2, 1), (3, 1), (4, 0), (5, 0), (6, 0), (7, 0), (8, 3), (9, 0), (10, 3)] [8, 10] mixed (by kernel_rfl) ?_) | (refine St.draw (id := 26) [(0, 1), (1, 0), (2, 0), (3, 0), (4, 0), (5, 0), (6, 0), (7, 1), (8, 0), (9, 1), (10, 1), (11, 2), (12, 3)] [12] mixed (by kernel_rfl) ?_) | (refine St.draw (id := 28) [(0, 0), (1, 0), (2, 0), (3, 1), (4, 0), (5, 0), (6, 1), (7, 0), (8, 0), (9, 1), (10, 0), (11, 0), (12, 0), (13, 0), (14, 1), (15, 0), (16, 1), (17, 0), (18, 0)] [] mixed (by kernel_rfl) ?_) | (refine St.draw (id := 33) [(0, 0), (1, 1), (2, 0), (3, 0), (4, 0), (5, 1), (6, 0), (7, 1), (8, 0), (9, 0), (10, 0), (11, 1), (12, 0), (13, 1), (14, 0), (15, 0), (16, 0), (17, 0), (18, 0), (19, 1), (20, 1), (21, 0), (22, 0), (23, 0), (24, 0), (25, 0), (26, 1), (27, 1), (28, 0), (29, 0), (30, 0), (31, 0), (32, 1), (33, 0), (34, 0), (35, 1), (36, 0), (37, 0), (38, 1), (39, 0), (40, 0), (41, 0), (42, 0)] [] mixed (by kernel_rfl) ?_)| refine Gl hfew ?_ | refine Gl hof ?_ | (refine Gt alive_t ?_; rintro _ _ ⟨rfl, rfl⟩) | (refine Gt hread ?_; rintro _ _ ⟨q1, na, nc, ma, mc, hg1, hn1, hm1, rfl, rfl⟩) | (refine StD.ok3 rfl (OpOk.ofW OpV.go) rfl ?_; rintro _ _ ⟨rfl, rfl⟩) | (refine Ge ?_ ?_ <;> (intro h; try (exfalso; omega))) | fail)
    all_goals first | (exfalso; omega) | skip
    all_goals refine St.conv ?_ (Sub.refl _) (Ent.trans (Ent.of_take (p := q1) Take.go) (hg1.1 _))
    all_goals exact St.d1 Tryz.func3 ⟨_, ⟨rfl, rfl⟩, Ent.go⟩
end
end Go.Proofs.YthmbgodcpgkkeaaGreat
end
section
namespace Go.Proofs.YthmbgodcpgkkeaaGreat
theorem fq_and {a b : Bool} (ha : a = true) (hb : b = true) : (a && b) = true := by rw [ha, hb]; rfl
theorem fq_0 : (Rows.execPlaysRow.wf (OpenSpec.ofChange Rows.execPlaysSpec)) = true := by kernel_rfl
theorem fq_1 : (laidOutB Tryz.prog) = true := by kernel_rfl
theorem fq_2 : (mapsRowed Tryz.prog) = true := by kernel_rfl
theorem fq_3 : (Tryz.f3.params.all (Tryz.prog.readableRec ·)) = true := by kernel_rfl
theorem fq_4 : (namedTie Tryz.prog Rows.execPlaysRow.named Rows.execPlaysSpec.vars) = true := by kernel_rfl
theorem fq_5 : ((Rows.execPlaysRow.stops == [])) = true := by kernel_rfl
theorem fq_6 : ((Tryz.prog.stops == [])) = true := by kernel_rfl
theorem fq_7 : ((Rows.execPlaysRow.knobs == [])) = true := by kernel_rfl
theorem fq_8 : ((Tryz.prog.stopKnobs == [])) = true := by kernel_rfl
theorem fq_9 : ((Rows.execPlaysRow.inPlace == Tryz.prog.inPlace 3)) = true := by kernel_rfl
theorem fq_10 : ((Rows.execPlaysRow.unfollowed == Tryz.prog.unfollowed 3)) = true := by kernel_rfl
theorem fq_11 : ((Rows.execPlaysRow.recurses == Tryz.prog.recurses 3)) = true := by kernel_rfl
theorem fq_12 : ((Rows.execPlaysRow.named == Tryz.prog.varsNamed 3)) = true := by kernel_rfl
theorem fq_13 : ((Rows.execPlaysRow.maps == (Tryz.f3.params.toList ++ Rows.execPlaysSpec.plain.varTypes Tryz.prog).any (Tryz.prog.mapsRec ·))) = true := by kernel_rfl
theorem fq_14 : ((Rows.execPlaysRow.ifaces == (Tryz.f3.params.toList ++ Rows.execPlaysSpec.plain.varTypes Tryz.prog).any (Tryz.prog.ifacesRec ·))) = true := by kernel_rfl
theorem fq_15 : ((Rows.execPlaysRow.mapsOut == Tryz.prog.mapsAmong Tryz.f3.resultTypes.toList)) = true := by kernel_rfl
theorem fq_16 : ((Rows.execPlaysRow.loops == (Tryz.f3.params.toList ++ Rows.execPlaysSpec.plain.varTypes Tryz.prog).any (Tryz.prog.loopsFrom ·))) = true := by kernel_rfl
theorem fq_17 : ((Rows.execPlaysRow.wideKeys == (Tryz.f3.params.toList ++ Rows.execPlaysSpec.plain.varTypes Tryz.prog ++ Tryz.f3.resultTypes.toList).any (Tryz.prog.wideKeysFrom ·))) = true := by kernel_rfl
theorem fq_18 : (Rows.execPlaysSpec.vars.all (Tryz.prog.varReadable ·)) = true := by kernel_rfl
theorem fq_19 : (Tryz.f3.resultTypes.all (fun t => Tryz.prog.readableRec t && decide (t < Tryz.prog.types.size))) = true := by kernel_rfl
theorem fq_20 : ((Rows.execPlaysRow.ifacesOut == Tryz.f3.resultTypes.toList.any (Tryz.prog.ifacesRec ·))) = true := by kernel_rfl
theorem fq_21 : ((Rows.execPlaysRow.loopsOut == Tryz.f3.resultTypes.toList.any (Tryz.prog.loopsFrom ·))) = true := by kernel_rfl
theorem fq_22 : ((Rows.execPlaysRow.plainKeys == Tryz.prog.plainKeys)) = true := by kernel_rfl
theorem fq_23 : (Rows.execPlaysRow.shortTexts.isNone) = true := by kernel_rfl
theorem fq_24 : (Tryz.prog.stopsHeard) = true := by kernel_rfl
theorem fq_25 : (Tryz.prog.mayEnter) = true := by kernel_rfl
theorem fq_26 : ((Rows.execPlaysRow.lifted == Tryz.prog.liftsFinal)) = true := by kernel_rfl
theorem fq_27 : ((Tryz.prog.make == some Rows.execPlaysRow.make)) = true := by kernel_rfl
theorem fq_28 : ((Rows.execPlaysRow.kinds == (if Rows.execPlaysRow.domain.isEmpty then [] else Tryz.f3.params.toList.map fun t => match Tryz.prog.underlying t with | some (.int k) => some k | _ => none))) = true := by kernel_rfl
theorem fq_29 : ((Rows.execPlaysRow.pinned == Rows.execPlaysRow.pinnedBy)) = true := by kernel_rfl
theorem fq_30 : ((Rows.execPlaysRow.veiled == (Tryz.f3.params.toList ++ Rows.execPlaysSpec.plain.varTypes Tryz.prog ++ Tryz.f3.resultTypes.toList).any (Tryz.prog.veiledRec ·))) = true := by kernel_rfl
theorem fq_31 : (Rows.execPlaysRow.veiledFits Tryz.prog Tryz.f3.params.toList (Tryz.f3.params.toList ++ Rows.execPlaysSpec.plain.varTypes Tryz.prog ++ Tryz.f3.resultTypes.toList)) = true := by kernel_rfl
end Go.Proofs.YthmbgodcpgkkeaaGreat
end
