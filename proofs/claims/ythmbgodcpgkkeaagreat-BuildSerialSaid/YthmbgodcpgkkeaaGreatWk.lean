/-
  Package tumblerlaw14: BuildNone.
-/
import Derived.Test.YthmbgodcpgkkeaaGreatWj
namespace Go.Proofs.YthmbgodcpgkkeaaGreat
set_option maxRecDepth 100000
theorem AndIs.leJ (a : Int) (b : Nat) (hb : b < 9223372036854775808) : ∃ c : Nat, AndIs .i64 a (b : Int) (c : Int) ∧ c ≤ b := by
  have h := and_le_j a b hb
  refine ⟨(IntKind.i64.wrap ((BitVec.ofInt IntKind.i64.bits a &&& BitVec.ofInt IntKind.i64.bits (b : Int)).toNat : Int)).toNat, ?_, by omega⟩
  unfold AndIs
  omega
theorem none_far {q : HProp} {c : Cfg} {pv rv : Value} {progs : Progs} {rounds : List (List Aq)} {mad : Option Addr} {makers : List Int} {mcap : Nat} (hpv : ProgsG q pv progs) (hrv : RoundsG q rv rounds) (_hml : makers.length ≤ 9223372036854775807) (hb : ¬ (few14B { c with first := 0 } progs = true ∧ rounds.length ≤ 5 ∧ rounds.length ≤ makers.length)) :
    Tri Tryz.prog 5 #[.agg ⟨c.v⟩, pv, rv, .slice mad makers.length mcap] [q] fun r L => r = .bool true ∧ L = [q] := by
  obtain ⟨th, bk, wr, fu, fi, la⟩ := c
  dsimp only at hb
  have hfew := few14_r ⟨th, bk, wr, fu, 0, la⟩ q pv progs hpv
  obtain ⟨rad, rcap, rfl, hrl, _⟩ := hrv
  unfold Cfg.v at hfew ⊢
  dsimp only at hfew ⊢
  cases hb1 : few14B ⟨th, bk, wr, fu, 0, la⟩ progs with
  | false =>
    rw [hb1] at hfew
    refine Tri.of_body (vs := [_, _, _, _]) Tryz.func5 rfl rfl fun w0 F => ?_
    repeat' (first | refine Ga ?_ | (refine Gb ?_; intro b) | (refine Gd ?_; intro g cap rest hcap) | (refine Gc ?_; intro ad cap) | (refine St.draw (id := 16) [(0, 0), (1, 1), (2, 0), (3, 0), (4, 1), (5, 0), (6, 0), (7, 1), (8, 0), (9, 0), (10, 3), (11, 0), (12, 3)] [10, 12] mixed (by kernel_rfl) ?_) | (refine St.draw (id := 19) [(0, 1), (1, 0), (2, 0), (3, 0), (4, 0), (5, 1), (6, 0), (7, 0), (8, 1), (9, 0), (10, 0), (11, 0), (12, 0), (13, 3), (14, 0)] [13] mixed (by kernel_rfl) ?_) | (refine St.draw (id := 29) [(0, 1), (1, 0), (2, 0), (3, 0), (5, 1), (6, 0), (7, 0), (8, 0), (4, 3), (9, 3), (10, 0), (11, 0)] [4, 9] mixed (by kernel_rfl) ?_)| refine Gl hfew ?_ | (refine Gt alive_t ?_; rintro _ _ ⟨rfl, rfl⟩) | (refine Ge ?_ ?_ <;> (intro h; try (exfalso; omega))) | fail)
    all_goals first | (exfalso; omega) | skip
    all_goals exact St.d1 Tryz.func5 ⟨_, ⟨rfl, rfl⟩, Ent.go⟩
  | true =>
    rw [hb1] at hfew
    by_cases h5 : rounds.length ≤ 5
    · have hlt : makers.length < rounds.length := Nat.lt_of_not_le fun h => hb ⟨hb1, h5, h⟩
      refine Tri.of_body (vs := [_, _, _, _]) Tryz.func5 rfl rfl fun w0 F => ?_
      repeat' (first | refine Ga ?_ | (refine Gb ?_; intro b) | (refine Gd ?_; intro g cap rest hcap) | (refine Gc ?_; intro ad cap) | (refine St.draw (id := 16) [(0, 0), (1, 1), (2, 0), (3, 0), (4, 1), (5, 0), (6, 0), (7, 1), (8, 0), (9, 0), (10, 3), (11, 0), (12, 3)] [10, 12] mixed (by kernel_rfl) ?_) | (refine St.draw (id := 19) [(0, 1), (1, 0), (2, 0), (3, 0), (4, 0), (5, 1), (6, 0), (7, 0), (8, 1), (9, 0), (10, 0), (11, 0), (12, 0), (13, 3), (14, 0)] [13] mixed (by kernel_rfl) ?_) | (refine St.draw (id := 29) [(0, 1), (1, 0), (2, 0), (3, 0), (5, 1), (6, 0), (7, 0), (8, 0), (4, 3), (9, 3), (10, 0), (11, 0)] [4, 9] mixed (by kernel_rfl) ?_)| refine Gl hfew ?_ | (refine Gt alive_t ?_; rintro _ _ ⟨rfl, rfl⟩) | (refine Ge ?_ ?_ <;> (intro h; try (exfalso; omega))) | fail)
      all_goals first | (exfalso; omega) | skip
      all_goals exact St.d1 Tryz.func5 ⟨_, ⟨rfl, rfl⟩, Ent.go⟩
    · refine Tri.of_body (vs := [_, _, _, _]) Tryz.func5 rfl rfl fun w0 F => ?_
      repeat' (first | refine Ga ?_ | (refine Gb ?_; intro b) | (refine Gd ?_; intro g cap rest hcap) | (refine Gc ?_; intro ad cap) | (refine St.draw (id := 16) [(0, 0), (1, 1), (2, 0), (3, 0), (4, 1), (5, 0), (6, 0), (7, 1), (8, 0), (9, 0), (10, 3), (11, 0), (12, 3)] [10, 12] mixed (by kernel_rfl) ?_) | (refine St.draw (id := 19) [(0, 1), (1, 0), (2, 0), (3, 0), (4, 0), (5, 1), (6, 0), (7, 0), (8, 1), (9, 0), (10, 0), (11, 0), (12, 0), (13, 3), (14, 0)] [13] mixed (by kernel_rfl) ?_) | (refine St.draw (id := 29) [(0, 1), (1, 0), (2, 0), (3, 0), (5, 1), (6, 0), (7, 0), (8, 0), (4, 3), (9, 3), (10, 0), (11, 0)] [4, 9] mixed (by kernel_rfl) ?_)| refine Gl hfew ?_ | (refine Gt alive_t ?_; rintro _ _ ⟨rfl, rfl⟩) | (refine Ge ?_ ?_ <;> (intro h; try (exfalso; omega))) | fail)
      all_goals first | (exfalso; omega) | skip
      all_goals exact St.d1 Tryz.func5 ⟨_, ⟨rfl, rfl⟩, Ent.go⟩
theorem boot_none {c : Cfg} (hc : Small c) (hfirst : c.first = 0) {u : Int} (hu : 0 ≤ u ∧ u < c.threads) : pendB c c.boot u = false := by
  have hw := atAnn hc hu
  have ho := own_in (c := c) (a := c.at 1 u 0) (by rw [hw]; dsimp only; omega)
  have hf := f717 hc
  have hsz : (c.size : Int) = c.f17 := by
    have hb := boot_mem hc hfirst
    have := hb.mem.sz hc
    rw [hb.mem.len] at this
    exact this
  have hz : ∀ k : Nat, (k : Int) ≤ c.blocks → (cellI (c.bootN k) (c.at 1 u 0)).seq = 0 := fun k => by
    induction k with
    | zero =>
      intro _
      have e0 : cellI (List.replicate c.size ⟨0, 0⟩) (c.at 1 u 0) = ⟨0, 0⟩ := by
        unfold cellI
        rw [List.getD_eq_getElem?_getD, List.getElem?_replicate]
        split <;> rfl
      unfold Cfg.bootN
      rw [cellI_setOf (by omega) (by rw [setOf_len, List.length_replicate]; omega), cellI_setOf (by omega) (by rw [List.length_replicate]; omega), e0]
      split
      · rfl
      · split
        · exact hfirst
        · rfl
    | succ k ih =>
      intro hk
      rw [Cfg.bootN, cellI_setOf (by omega) (by rw [Cfg.bootN_len]; omega)]
      split
      · rfl
      · exact ih (by omega)
  unfold pendB annC
  rw [show c.boot = c.bootN c.blocks.toNat from rfl, hz c.blocks.toNat (by have := hc.b0; omega)]
  rfl
/-- where nothing is left to be done -/
def NoPend (c : Cfg) (M : Pm) : Prop := ∀ u : Int, 0 ≤ u → u < c.threads → pendB c M.cs u = false
theorem Bdone.none {q : Tq} {rows : List BRow} {cs2 : List Cell} {ms : Ms} (h : Bdone q rows cs2 ms) : ∀ u : Int, 0 ≤ u → u < q.c.threads → pendB q.c cs2 u = false := fun u h0 h1 => by
  have e1 := h.ann u ⟨h0, h1⟩
  have e2 := h.tag u ⟨h0, h1⟩
  unfold pendB
  rw [e1, e2]
  cases hp : pendB q.c q.cs u with
  | true =>
    rw [if_pos rfl]
    simp
  | false =>
    rw [if_neg (by decide)]
    exact hp
set_option maxHeartbeats 8000000 in
theorem none_near {q : HProp} {c : Cfg} {pv rv : Value} {progs : Progs} {rounds : List (List Aq)} {mad : Option Addr} {makers : List Int} {mcap : Nat} (hpv : ProgsG q pv progs) (hrv : RoundsG q rv rounds) (hmv : ListR i64C q (.slice mad makers.length mcap) makers) (_hml : makers.length ≤ 9223372036854775807) (hb : few14B { c with first := 0 } progs = true) (h5 : rounds.length ≤ 5) (hmk : rounds.length ≤ makers.length) :
    Tri Tryz.prog 5 #[.agg ⟨c.v⟩, pv, rv, .slice mad makers.length mcap] [q] fun r L => r = .bool true ∧ L = [q] := by
  obtain ⟨th, bk, wr, fu, fi, la⟩ := c
  dsimp only at hb
  have hfew := few14_r ⟨th, bk, wr, fu, 0, la⟩ q pv progs hpv
  rw [hb] at hfew
  unfold few14B at hb
  simp only [Bool.and_eq_true, decide_eq_true_eq] at hb
  obtain ⟨hsh, ⟨hcr, hfu⟩, hpl⟩ := hb
  have hof := of_r ⟨th, bk, wr, fu, 0, la⟩
  unfold Cfg.ofV at hof
  rw [if_pos hcr] at hof
  generalize hcc : (⟨th, bk, wr, fu, 0, la⟩ : Cfg) = c at hcr hfu hof
  have hc := Cfg.small hcr
  have hf0 : 0 ≤ c.fuel := by have := of_decide_eq_true hcr; omega
  have hfu2 : c.fuel ≤ 200 := by rw [← hcc]; first | exact hfu | (rw [← hcc] at hfu; exact hfu)
  have hfirst : c.first = 0 := by rw [← hcc]
  have hth : c.threads = th := by rw [← hcc]
  have ht0 := hc.t0; have ht1 := hc.t1
  have hboot := bootm_t c hc
  have hpr := hpv.r (by omega)
  obtain ⟨rad, rcap, rfl, hrl, hrr⟩ := id hrv
  obtain ⟨pad, pcap, rfl, _, _⟩ := id hpv
  unfold Cfg.v at hfew ⊢
  dsimp only at hfew ⊢
  have hcv : c.v = [.int .i64 th, .int .i64 bk, .int .i64 wr, .int .i64 fu, .int .u64 ((0 : Nat) : Int), .int .u64 (la : Int)] := by rw [← hcc]; rfl
  rw [hcv] at hof
  have hplan := fun (Mb C : Nat) (M : Pm) (hst : M.st.length = 8) (who : Int) (seq N : Nat) => plan_t Mb C c hc ⟨hf0, by omega⟩ M hst who seq (.slice pad progs.length pcap) q progs hpr N
  have hrn0 : RN c 0 ⟨c.boot, zeros8, []⟩ ms0 := ⟨rfl, Nat.le_refl _, fs0 c, [], boot_mem hc hfirst⟩
  have hnp0 : NoPend c ⟨c.boot, zeros8, []⟩ := fun u h0 h1 => boot_none hc hfirst ⟨h0, h1⟩
  refine Tri.of_body (vs := [_, _, _, _]) Tryz.func5 rfl rfl fun w0 F => ?_
  repeat' (first | refine Ga ?_ | (refine Gb ?_; intro b) | (refine Gd ?_; intro g cap rest hcap) | (refine Gc ?_; intro ad cap) | (refine St.draw (id := 16) [(0, 0), (1, 1), (2, 0), (3, 0), (4, 1), (5, 0), (6, 0), (7, 1), (8, 0), (9, 0), (10, 3), (11, 0), (12, 3)] [10, 12] mixed (by kernel_rfl) ?_) | (refine St.draw (id := 19) [(0, 1), (1, 0), (2, 0), (3, 0), (4, 0), (5, 1), (6, 0), (7, 0), (8, 1), (9, 0), (10, 0), (11, 0), (12, 0), (13, 3), (14, 0)] [13] mixed (by kernel_rfl) ?_) | (refine St.draw (id := 29) [(0, 1), (1, 0), (2, 0), (3, 0), (5, 1), (6, 0), (7, 0), (8, 0), (4, 3), (9, 3), (10, 0), (11, 0)] [4, 9] mixed (by kernel_rfl) ?_)| refine Gl hfew ?_ | refine Gl hof ?_ | (refine Gt alive_t ?_; rintro _ _ ⟨rfl, rfl⟩) | (refine Gt hboot ?_; rintro _ _ ⟨Mb, C, rfl, rfl⟩) | (refine Ge ?_ ?_ <;> (intro h; try (exfalso; omega))) | fail)
  all_goals first | (exfalso; omega) | skip
  refine St.loopY (Lr := ?Lr1) (ι := { x : Nat × Pm // x.1 ≤ rounds.length ∧ (∃ ms, RN c x.1 x.2 ms) ∧ NoPend c x.2 }) (fun x => rounds.length - x.1.1) (fun x => [(55, .int .i64 (x.1.1 : Int))]) (fun x => [Mm Mb C x.1.2]) ⟨(0, ⟨c.boot, zeros8, []⟩), Nat.zero_le _, ⟨ms0, hrn0⟩, hnp0⟩ ?hE1 ?hL1 ?round1
  case hE1 => exact Sub.go
  case hL1 => exact Takes.go
  case round1 =>
    rintro ⟨⟨n, M⟩, hn, hrn, hnp⟩ IH; dsimp only at hn hrn hnp IH ⊢
    by_cases hlt : n < rounds.length
    · clear hnp
      obtain ⟨bj, o, l, cv, rfl, hrd, hnth, hrnd⟩ := hrr n hlt
      generalize rounds[n] = rd at hrnd
      have hn5 : n ≤ 4 := by omega
      obtain ⟨dad, dcap, rfl, hdc, hdr⟩ := id hrnd
      by_cases h8 : rd.length ≤ 8
      · repeat' (first | refine Ga ?_ | (refine Gb ?_; intro b) | (refine Gd ?_; intro g cap rest hcap) | (refine Gc ?_; intro ad cap) | (refine St.draw (id := 16) [(0, 0), (1, 1), (2, 0), (3, 0), (4, 1), (5, 0), (6, 0), (7, 1), (8, 0), (9, 0), (10, 3), (11, 0), (12, 3)] [10, 12] mixed (by kernel_rfl) ?_) | (refine St.draw (id := 19) [(0, 1), (1, 0), (2, 0), (3, 0), (4, 0), (5, 1), (6, 0), (7, 0), (8, 1), (9, 0), (10, 0), (11, 0), (12, 0), (13, 3), (14, 0)] [13] mixed (by kernel_rfl) ?_) | (refine St.draw (id := 29) [(0, 1), (1, 0), (2, 0), (3, 0), (5, 1), (6, 0), (7, 0), (8, 0), (4, 3), (9, 3), (10, 0), (11, 0)] [4, 9] mixed (by kernel_rfl) ?_) | (refine Ge ?_ ?_ <;> (intro h; try (exfalso; omega))) | fail)
        all_goals first | (exfalso; omega) | skip
        refine St.loopY (Lr := ?Lr2) (ι := { y : Nat × Pm // y.1 ≤ rd.length ∧ ∃ ms, RN c n y.2 ms }) (fun y => rd.length - y.1.1) (fun y => [(65, .int .i64 (y.1.1 : Int))]) (fun y => [Mm Mb C y.1.2]) ⟨(0, M), Nat.zero_le _, hrn⟩ ?hE2 ?hL2 ?round2
        case hE2 => exact Sub.go
        case hL2 => exact Takes.go
        case round2 =>
          rintro ⟨⟨j, M1⟩, hj, hr1⟩ IH2; dsimp only at hj hr1 IH2 ⊢
          by_cases hjl : j < rd.length
          · obtain ⟨jb, jo, jl, jl1, rfl, hjrd, hjdr, hjtk⟩ := hrnd.at' Aq.v_len j hjl
            generalize rd[j] = a at hjtk
            obtain ⟨aw, ap, a0, a1, a2, a3⟩ := a
            unfold Aq.v at hjtk
            dsimp only at hjtk
            obtain ⟨mk, hand, hmk2⟩ := AndIs.leJ aw 255 (by decide)
            obtain ⟨mp, handp, hmp⟩ := AndIs.leJ ap 15 (by decide)
            have hw0 : 0 ≤ (mk : Int) % th := Int.emod_nonneg _ (by omega)
            have hw1 : (mk : Int) % th < th := Int.emod_lt_of_pos _ (by omega)
            obtain ⟨ms, hr1⟩ := hr1
            have hwant := want_t Mb C c hc M1 ((mk : Int) % th) mp (by omega) a0 a1 a2 a3 (n + 1)
            rw [show ((n + 1 : Nat) : Int) = (n : Int) + 1 by omega] at hwant
            have hr2 := hr1.want hc (who := (mk : Int) % th) ⟨hw0, by omega⟩ mp (args := [a0, a1, a2, a3]) rfl (n + 1)
            repeat' (first | refine Ga ?_ | (refine Gb ?_; intro b) | (refine Gd ?_; intro g cap rest hcap) | (refine Gc ?_; intro ad cap) | (refine St.draw (id := 16) [(0, 0), (1, 1), (2, 0), (3, 0), (4, 1), (5, 0), (6, 0), (7, 1), (8, 0), (9, 0), (10, 3), (11, 0), (12, 3)] [10, 12] mixed (by kernel_rfl) ?_) | (refine St.draw (id := 19) [(0, 1), (1, 0), (2, 0), (3, 0), (4, 0), (5, 1), (6, 0), (7, 0), (8, 1), (9, 0), (10, 0), (11, 0), (12, 0), (13, 3), (14, 0)] [13] mixed (by kernel_rfl) ?_) | (refine St.draw (id := 29) [(0, 1), (1, 0), (2, 0), (3, 0), (5, 1), (6, 0), (7, 0), (8, 0), (4, 3), (9, 3), (10, 0), (11, 0)] [4, 9] mixed (by kernel_rfl) ?_) | (refine Gt hwant ?_; rintro _ _ ⟨rfl, rfl⟩) | (refine Ge ?_ ?_ <;> (intro h; try (exfalso; omega))) | fail)
            all_goals first | (exfalso; omega) | skip
            refine IH2 ⟨(j + 1, _), hjl, ⟨ms, hr2⟩⟩ (by show rd.length - (j + 1) < rd.length - j; omega) ?_ ?_
            · exact Sub.go
            · exact Ent.go
          · obtain rfl : j = rd.length := by omega
            clear IH2
            obtain ⟨ms, hr1⟩ := hr1
            obtain ⟨fs, ls, hmem⟩ := hr1.mem
            obtain ⟨kb, ko, kl, kl1, rfl, hkrd, hkdr, hktk⟩ := hmv.at' i64C_len n (by omega)
            generalize makers[n] = mkr at hktk
            unfold i64C at hktk
            have hnk : NthN (ko + (n : Int).toNat * 1) kl (.int .i64 mkr) := NthN.part (j := 0) hkdr hktk .zero
            obtain ⟨mk, hand, hmk2⟩ := AndIs.leJ mkr 255 (by decide)
            have hw0 : 0 ≤ (mk : Int) % th := Int.emod_nonneg _ (by omega)
            have hw1 : (mk : Int) % th < th := Int.emod_lt_of_pos _ (by omega)
            have hq : Tok ⟨c, progs, M1.cs, n, (mk : Int) % th, fs, ls, ms⟩ := ⟨hc, ⟨hf0, hfu2⟩, hmem, hw0, by dsimp only; omega⟩
            obtain ⟨N, ms2, hN, hak, hpd⟩ := plan_is hq (M := M1) rfl hr1.st
            have hplan := hplan Mb C M1 hr1.st ((mk : Int) % th) n N (by have := hr1.tr; omega) hak
            generalize pit c progs ((mk : Int) % th) (M1, Bm.new ((mk : Int) % th) n) N = z at hplan hpd
            obtain ⟨M2, m⟩ := z
            dsimp only at hplan hpd
            have hst := fun B => bstatus_r B c (.slice pad progs.length pcap) q progs m
            rw [hpd.s] at hst
            have hent := fun B => bentries_z B c hc (.slice pad progs.length pcap) q progs m hpd.inv
            repeat' (first | refine Ga ?_ | (refine Gb ?_; intro b) | (refine Gd ?_; intro g cap rest hcap) | (refine Gc ?_; intro ad cap) | (refine St.draw (id := 16) [(0, 0), (1, 1), (2, 0), (3, 0), (4, 1), (5, 0), (6, 0), (7, 1), (8, 0), (9, 0), (10, 3), (11, 0), (12, 3)] [10, 12] mixed (by kernel_rfl) ?_) | (refine St.draw (id := 19) [(0, 1), (1, 0), (2, 0), (3, 0), (4, 0), (5, 1), (6, 0), (7, 0), (8, 1), (9, 0), (10, 0), (11, 0), (12, 0), (13, 3), (14, 0)] [13] mixed (by kernel_rfl) ?_) | (refine St.draw (id := 29) [(0, 1), (1, 0), (2, 0), (3, 0), (5, 1), (6, 0), (7, 0), (8, 0), (4, 3), (9, 3), (10, 0), (11, 0)] [4, 9] mixed (by kernel_rfl) ?_)| refine Gl (hst _) ?_ | (refine Gt hplan ?_; rintro _ _ ⟨B, rfl, rfl⟩) | (refine Gt (hent _) ?_; rintro _ _ ⟨RE, ead, ecap, hRE, rfl, rfl⟩) | (refine Ge ?_ ?_ <;> (intro h; try (exfalso; omega))) | fail)
            all_goals first | (exfalso; omega) | skip
            have hdone := hpd.done
            have hst2 := hpd.st
            have htr2 := hpd.tr
            have hEl : (entriesOf c m.e.puts).length ≤ 1000000000 := by
              have h1 : (entriesOf c m.e.puts).length ≤ m.e.puts.length := Nat.le_trans (List.length_filter_le _ _) (allP_len _)
              have h2 := hpd.inv.len
              omega
            dsimp only at hdone htr2
            generalize entriesOf c m.e.puts = E at hRE hdone hEl
            obtain ⟨ead2, ecap2, e2, _⟩ := id hRE
            injection e2 with e2a e2b e2c
            subst e2a e2c
            refine St.loopY (Lr := ?Lr3) (ι := { x : Nat // x ≤ E.length }) (fun x => E.length - x.1) (fun x => [(108, .int .i64 (x.1 : Int))]) (fun x => [Mm Mb C ⟨putEs (n + 1) (E.take x.1) M2.cs, M2.st, M2.tr⟩]) ⟨0, Nat.zero_le _⟩ ?hE3 ?hL3 ?round3
            case hE3 => exact Sub.go
            case hL3 => exact Takes.go
            case round3 =>
              rintro ⟨x, hx⟩ IH3; dsimp only at hx IH3 ⊢
              by_cases hxl : x < E.length
              · obtain ⟨lb, lo, ll, l1, rfl, hrd3, hdr3, htk3⟩ := hRE.at' entV_len x hxl
                have hnx : putEs (n + 1) (E.take (x + 1)) M2.cs = setOf (putEs (n + 1) (E.take x) M2.cs) E[x].1 ⟨E[x].2, n + 1⟩ := by
                  rw [List.take_succ_eq_append_getElem hxl]
                  unfold putEs
                  rw [List.foldl_append]; rfl
                generalize E[x] = e at htk3 hnx
                obtain ⟨ea, ev⟩ := e
                unfold entV at htk3
                dsimp only at htk3 hnx
                have hms := mset_t Mb C ⟨putEs (n + 1) (E.take x) M2.cs, M2.st, M2.tr⟩ ea ⟨ev, n + 1⟩
                unfold Cell.v at hms
                dsimp only at hms
                rw [← hnx, show ((n + 1 : Nat) : Int) = (n : Int) + 1 by omega] at hms
                repeat' (first | refine Ga ?_ | (refine Gb ?_; intro b) | (refine Gd ?_; intro g cap rest hcap) | (refine Gc ?_; intro ad cap) | (refine St.draw (id := 16) [(0, 0), (1, 1), (2, 0), (3, 0), (4, 1), (5, 0), (6, 0), (7, 1), (8, 0), (9, 0), (10, 3), (11, 0), (12, 3)] [10, 12] mixed (by kernel_rfl) ?_) | (refine St.draw (id := 19) [(0, 1), (1, 0), (2, 0), (3, 0), (4, 0), (5, 1), (6, 0), (7, 0), (8, 1), (9, 0), (10, 0), (11, 0), (12, 0), (13, 3), (14, 0)] [13] mixed (by kernel_rfl) ?_) | (refine St.draw (id := 29) [(0, 1), (1, 0), (2, 0), (3, 0), (5, 1), (6, 0), (7, 0), (8, 0), (4, 3), (9, 3), (10, 0), (11, 0)] [4, 9] mixed (by kernel_rfl) ?_) | (refine Gt hms ?_; rintro _ _ ⟨er, rfl, rfl⟩) | (refine Ge ?_ ?_ <;> (intro h; try (exfalso; omega))) | fail)
                all_goals first | (exfalso; omega) | skip
                refine IH3 ⟨x + 1, hxl⟩ (by show E.length - (x + 1) < E.length - x; omega) ?_ ?_
                · exact Sub.go
                · exact Ent.go
              · obtain rfl : x = E.length := by omega
                clear IH3
                rw [List.take_length]
                repeat' (first | refine Ga ?_ | (refine Gb ?_; intro b) | (refine Gd ?_; intro g cap rest hcap) | (refine Gc ?_; intro ad cap) | (refine St.draw (id := 16) [(0, 0), (1, 1), (2, 0), (3, 0), (4, 1), (5, 0), (6, 0), (7, 1), (8, 0), (9, 0), (10, 3), (11, 0), (12, 3)] [10, 12] mixed (by kernel_rfl) ?_) | (refine St.draw (id := 19) [(0, 1), (1, 0), (2, 0), (3, 0), (4, 0), (5, 1), (6, 0), (7, 0), (8, 1), (9, 0), (10, 0), (11, 0), (12, 0), (13, 3), (14, 0)] [13] mixed (by kernel_rfl) ?_) | (refine St.draw (id := 29) [(0, 1), (1, 0), (2, 0), (3, 0), (5, 1), (6, 0), (7, 0), (8, 0), (4, 3), (9, 3), (10, 0), (11, 0)] [4, 9] mixed (by kernel_rfl) ?_) | (refine Ge ?_ ?_ <;> (intro h; try (exfalso; omega))) | fail)
                all_goals first | (exfalso; omega) | skip
                refine IH ⟨(n + 1, ⟨putEs (n + 1) E M2.cs, M2.st, M2.tr⟩), hlt, ⟨ms2, ⟨hst2, by have := hr1.tr; dsimp only; omega, hdone.mem⟩⟩, hdone.none⟩ (by show rounds.length - (n + 1) < rounds.length - n; omega) ?_ ?_
                · exact Sub.go
                · exact Ent.go
      · clear IH
        repeat' (first | refine Ga ?_ | (refine Gb ?_; intro b) | (refine Gd ?_; intro g cap rest hcap) | (refine Gc ?_; intro ad cap) | (refine St.draw (id := 16) [(0, 0), (1, 1), (2, 0), (3, 0), (4, 1), (5, 0), (6, 0), (7, 1), (8, 0), (9, 0), (10, 3), (11, 0), (12, 3)] [10, 12] mixed (by kernel_rfl) ?_) | (refine St.draw (id := 19) [(0, 1), (1, 0), (2, 0), (3, 0), (4, 0), (5, 1), (6, 0), (7, 0), (8, 1), (9, 0), (10, 0), (11, 0), (12, 0), (13, 3), (14, 0)] [13] mixed (by kernel_rfl) ?_) | (refine St.draw (id := 29) [(0, 1), (1, 0), (2, 0), (3, 0), (5, 1), (6, 0), (7, 0), (8, 0), (4, 3), (9, 3), (10, 0), (11, 0)] [4, 9] mixed (by kernel_rfl) ?_) | (refine Ge ?_ ?_ <;> (intro h; try (exfalso; omega))) | fail)
        all_goals first | (exfalso; omega) | skip
        all_goals exact St.d1 Tryz.func5 ⟨_, ⟨rfl, rfl⟩, Ent.go⟩
    · obtain rfl : n = rounds.length := by omega
      clear IH
      obtain ⟨ms, hrn⟩ := hrn
      obtain ⟨fs, ls, hmem⟩ := hrn.mem
      have hq : Tok ⟨c, progs, M.cs, rounds.length, 0, fs, ls, ms⟩ := ⟨hc, ⟨hf0, hfu2⟩, hmem, Int.le_refl _, by dsimp only; omega⟩
      obtain ⟨N, ms2, hN, hak, hpd⟩ := plan_is hq (M := M) rfl hrn.st
      have hp1 := hplan Mb C M hrn.st 0 rounds.length N (by have := hrn.tr; omega) hak
      dsimp only at hpd
      generalize pit c progs 0 (M, Bm.new 0 rounds.length) N = z at hp1 hpd
      obtain ⟨M2, m⟩ := z
      dsimp only at hp1 hpd
      obtain ⟨t1, t2, t3⟩ := hpd.triv hnp
      dsimp only at t1 t2 t3
      have hst2 := hpd.st
      have htr2 := hpd.tr
      obtain ⟨N2, ms3, hN2, hak2, hpd2⟩ := plan_is hq (M := M2) t1 hst2
      have hp2 := hplan Mb C M2 hst2 0 rounds.length N2 (by have := hrn.tr; omega) hak2
      dsimp only at hpd2
      generalize pit c progs 0 (M2, Bm.new 0 rounds.length) N2 = z at hp2 hpd2
      obtain ⟨M3, m2⟩ := z
      dsimp only at hp2 hpd2
      obtain ⟨u1, u2, u3⟩ := hpd2.triv hnp
      dsimp only at u1 u2 u3
      have hkin := triv_kinds hq
      dsimp only at hkin
      have hst := fun B => bstatus_r B c (.slice pad progs.length pcap) q progs m
      rw [hpd.s] at hst
      have hrow1 := fun B => brows_t B c hc (.slice pad progs.length pcap) q progs m hpd.inv
      have hrow2 := fun B => brows_t B c hc (.slice pad progs.length pcap) q progs m2 hpd2.inv
      rw [t2] at hrow1
      rw [u2] at hrow2
      have hent1 := fun B => bentries_z B c hc (.slice pad progs.length pcap) q progs m hpd.inv
      have hent2 := fun B => bentries_z B c hc (.slice pad progs.length pcap) q progs m2 hpd2.inv
      have hEl : (entriesOf c m.e.puts).length ≤ 1000000 := by
        have h1 : (entriesOf c m.e.puts).length ≤ m.e.puts.length := Nat.le_trans (List.length_filter_le _ _) (allP_len _)
        have h2 := hpd.inv.len
        omega
      rw [u3] at hent2
      rw [t3] at hent1 hEl
      generalize entriesOf c (endP c c.cap.toNat (Tq.p0 ⟨c, progs, M.cs, rounds.length, 0, fs, ls, ms⟩) (Tq.P0 ⟨c, progs, M.cs, rounds.length, 0, fs, ls, ms⟩)) = E at hent1 hent2 hEl hkin
      repeat' (first | refine St.halt 30 ?_ |refine Ga ?_ | (refine Gb ?_; intro b) | (refine Gd ?_; intro g cap rest hcap) | (refine Gc ?_; intro ad cap) | (refine St.draw (id := 16) [(0, 0), (1, 1), (2, 0), (3, 0), (4, 1), (5, 0), (6, 0), (7, 1), (8, 0), (9, 0), (10, 3), (11, 0), (12, 3)] [10, 12] mixed (by kernel_rfl) ?_) | (refine St.draw (id := 19) [(0, 1), (1, 0), (2, 0), (3, 0), (4, 0), (5, 1), (6, 0), (7, 0), (8, 1), (9, 0), (10, 0), (11, 0), (12, 0), (13, 3), (14, 0)] [13] mixed (by kernel_rfl) ?_) | (refine St.drawT (id := 29) [(0, 1), (1, 0), (2, 0), (3, 0), (6, 0), (7, 0), (8, 0)] (.pick [(4, 3), (5, 2), (9, 3), (10, 0), (11, 0)] .done (.pick [(5, 2), (4, 3), (9, 3), (10, 0), (11, 0)] .done .nope)) [4, 9] mixed (by kernel_rfl) ?_) | apply StD.pick | exact StD.nope  | (refine Gt hp1 ?_; rintro _ _ ⟨B, rfl, rfl⟩) | (refine Gu hp1 ?_; rintro _ _ ⟨B, rfl, rfl⟩; refine ⟨Ent.go, ?_⟩) | (refine Gt hp2 ?_; rintro _ _ ⟨B2, rfl, rfl⟩) | (refine Gu hp2 ?_; rintro _ _ ⟨B2, rfl, rfl⟩; refine ⟨Ent.go, ?_⟩) | (apply Zq; rfl; exact Ob; exact Ent.go) | (refine Ge ?_ ?_ <;> (intro h; try (exfalso; omega))) | fail)
      all_goals first | (exfalso; omega) | skip
      · refine Halt.go ?_
        repeat' (first | refine St.halt 32 ?_ |refine Ga ?_ | (refine Gb ?_; intro b) | (refine Gd ?_; intro g cap rest hcap) | (refine Gc ?_; intro ad cap) | (refine St.draw (id := 16) [(0, 0), (1, 1), (2, 0), (3, 0), (4, 1), (5, 0), (6, 0), (7, 1), (8, 0), (9, 0), (10, 3), (11, 0), (12, 3)] [10, 12] mixed (by kernel_rfl) ?_) | (refine St.draw (id := 19) [(0, 1), (1, 0), (2, 0), (3, 0), (4, 0), (5, 1), (6, 0), (7, 0), (8, 1), (9, 0), (10, 0), (11, 0), (12, 0), (13, 3), (14, 0)] [13] mixed (by kernel_rfl) ?_) | (refine St.drawT (id := 29) [(0, 1), (1, 0), (2, 0), (3, 0), (6, 0), (7, 0), (8, 0)] (.pick [(4, 3), (5, 2), (9, 3), (10, 0), (11, 0)] .done (.pick [(5, 2), (4, 3), (9, 3), (10, 0), (11, 0)] .done .nope)) [4, 9] mixed (by kernel_rfl) ?_) | apply StD.pick | exact StD.nope | refine Gl (hst _) ?_ | refine Gl (same8o_r hR1 hR2 hEl) ?_ | (refine Gt (hrow1 _) ?_; rintro _ _ ⟨rad1, rcap1, rs1, hrs1, rfl, rfl⟩) | (refine Gu (hrow1 _) ?_; rintro _ _ ⟨rad1, rcap1, rs1, hrs1, rfl, rfl⟩; refine ⟨Ent.go, ?_⟩) | (refine Gt (hrow2 _) ?_; rintro _ _ ⟨rad2, rcap2, rs2, hrs2, rfl, rfl⟩) | (refine Gu (hrow2 _) ?_; rintro _ _ ⟨rad2, rcap2, rs2, hrs2, rfl, rfl⟩; refine ⟨Ent.go, ?_⟩) | (refine Gt (as14_t hRE1 hEl) ?_; rintro _ _ ⟨R1, oa1, oc1, hR1, rfl, rfl⟩) | (refine Gu (as14_t hRE1 hEl) ?_; rintro _ _ ⟨R1, oa1, oc1, hR1, rfl, rfl⟩; refine ⟨Ent.go, ?_⟩) | (refine Gt (as14_t hRE2 hEl) ?_; rintro _ _ ⟨R2, oa2, oc2, hR2, rfl, rfl⟩) | (refine Gu (as14_t hRE2 hEl) ?_; rintro _ _ ⟨R2, oa2, oc2, hR2, rfl, rfl⟩; refine ⟨Ent.go, ?_⟩) | (refine Gt (hent1 _) ?_; rintro _ _ ⟨RE1, ead1, ecap1, hRE1, rfl, rfl⟩) | (refine Gu (hent1 _) ?_; rintro _ _ ⟨RE1, ead1, ecap1, hRE1, rfl, rfl⟩; refine ⟨Ent.go, ?_⟩) | (refine Gt (hent2 _) ?_; rintro _ _ ⟨RE2, ead2, ecap2, hRE2, rfl, rfl⟩) | (refine Gu (hent2 _) ?_; rintro _ _ ⟨RE2, ead2, ecap2, hRE2, rfl, rfl⟩; refine ⟨Ent.go, ?_⟩) | (apply Zq; rfl; exact Ob; exact Ent.go) | (refine Ge ?_ ?_ <;> (intro h; try (exfalso; omega))) | fail)
        all_goals first | (exfalso; omega) | skip
        refine Halt.go ?_
        clear hrow1 hrow2 hent2 hp1 hp2 hplan
        repeat' (first | refine Ga ?_ | (refine Gb ?_; intro b) | (refine Gd ?_; intro g cap rest hcap) | (refine Gc ?_; intro ad cap) | (refine St.draw (id := 16) [(0, 0), (1, 1), (2, 0), (3, 0), (4, 1), (5, 0), (6, 0), (7, 1), (8, 0), (9, 0), (10, 3), (11, 0), (12, 3)] [10, 12] mixed (by kernel_rfl) ?_) | (refine St.draw (id := 19) [(0, 1), (1, 0), (2, 0), (3, 0), (4, 0), (5, 1), (6, 0), (7, 0), (8, 1), (9, 0), (10, 0), (11, 0), (12, 0), (13, 3), (14, 0)] [13] mixed (by kernel_rfl) ?_) | (refine St.drawT (id := 29) [(0, 1), (1, 0), (2, 0), (3, 0), (6, 0), (7, 0), (8, 0)] (.pick [(4, 3), (5, 2), (9, 3), (10, 0), (11, 0)] .done (.pick [(5, 2), (4, 3), (9, 3), (10, 0), (11, 0)] .done .nope)) [4, 9] mixed (by kernel_rfl) ?_) | apply StD.pick | exact StD.nope  | (refine Gt (hent1 _) ?_; rintro _ _ ⟨RE, ead, ecap, hRE, rfl, rfl⟩) | (refine Gu (hent1 _) ?_; rintro _ _ ⟨RE, ead, ecap, hRE, rfl, rfl⟩; refine ⟨Ent.go, ?_⟩) | (apply Zq; rfl; exact Ob; exact Ent.go) | (refine Ge ?_ ?_ <;> (intro h; try (exfalso; omega))) | fail)
        all_goals first | (exfalso; omega) | skip
        obtain ⟨ead9, ecap9, e2, _⟩ := id hRE
        injection e2 with e2a e2b e2c
        subst e2a e2c
        refine St.loopY (Lr := ?Lr4) (ι := { x : Nat // x ≤ E.length }) (fun x => E.length - x.1) (fun x => [(165, .int .i64 (x.1 : Int))]) (fun _ => []) ⟨0, Nat.zero_le _⟩ ?hE4 ?hL4 ?round4
        case hE4 => exact Sub.go
        case hL4 => exact Takes.go
        case round4 =>
          rintro ⟨x, hx⟩ IH3; dsimp only at hx IH3 ⊢
          by_cases hxl : x < E.length
          · obtain ⟨lb, lo, ll, l1, rfl, hrd3, hdr3, htk3⟩ := hRE.at' entV_len x hxl
            have hki := hkin E[x] (List.getElem_mem hxl)
            generalize E[x] = e at htk3 hki
            obtain ⟨ea, ev⟩ := e
            unfold entV at htk3
            dsimp only at htk3 hki
            have hwh := what_r c hc ea
            generalize c.what ea = wa at hwh hki
            obtain ⟨wk, wb, wj⟩ := wa
            dsimp only at hwh hki
            have h5 : wk = 11 ∨ wk = 12 ∨ wk = 13 ∨ wk = 14 ∨ wk = 15 := by omega
            rcases h5 with rfl | rfl | rfl | rfl | rfl
            all_goals
              repeat' (first | refine Ga ?_ | (refine Gb ?_; intro b) | (refine Gd ?_; intro g cap rest hcap) | (refine Gc ?_; intro ad cap) | (refine St.draw (id := 16) [(0, 0), (1, 1), (2, 0), (3, 0), (4, 1), (5, 0), (6, 0), (7, 1), (8, 0), (9, 0), (10, 3), (11, 0), (12, 3)] [10, 12] mixed (by kernel_rfl) ?_) | (refine St.draw (id := 19) [(0, 1), (1, 0), (2, 0), (3, 0), (4, 0), (5, 1), (6, 0), (7, 0), (8, 1), (9, 0), (10, 0), (11, 0), (12, 0), (13, 3), (14, 0)] [13] mixed (by kernel_rfl) ?_) | (refine St.drawT (id := 29) [(0, 1), (1, 0), (2, 0), (3, 0), (6, 0), (7, 0), (8, 0)] (.pick [(4, 3), (5, 2), (9, 3), (10, 0), (11, 0)] .done (.pick [(5, 2), (4, 3), (9, 3), (10, 0), (11, 0)] .done .nope)) [4, 9] mixed (by kernel_rfl) ?_) | apply StD.pick | exact StD.nope | refine Gl hwh ?_ | (apply Zq; rfl; exact Ob; exact Ent.go) | (refine Ge ?_ ?_ <;> (intro h; try (exfalso; omega))) | fail)
            all_goals first | (exfalso; omega) | skip
            all_goals
              refine IH3 ⟨x + 1, hxl⟩ (by show E.length - (x + 1) < E.length - x; omega) ?_ ?_
              · exact Sub.go
              · exact Ent.go
          · obtain rfl : x = E.length := by omega
            clear IH3
            repeat' (first | refine Ga ?_ | (refine Gb ?_; intro b) | (refine Gd ?_; intro g cap rest hcap) | (refine Gc ?_; intro ad cap) | (refine St.draw (id := 16) [(0, 0), (1, 1), (2, 0), (3, 0), (4, 1), (5, 0), (6, 0), (7, 1), (8, 0), (9, 0), (10, 3), (11, 0), (12, 3)] [10, 12] mixed (by kernel_rfl) ?_) | (refine St.draw (id := 19) [(0, 1), (1, 0), (2, 0), (3, 0), (4, 0), (5, 1), (6, 0), (7, 0), (8, 1), (9, 0), (10, 0), (11, 0), (12, 0), (13, 3), (14, 0)] [13] mixed (by kernel_rfl) ?_) | (refine St.drawT (id := 29) [(0, 1), (1, 0), (2, 0), (3, 0), (6, 0), (7, 0), (8, 0)] (.pick [(4, 3), (5, 2), (9, 3), (10, 0), (11, 0)] .done (.pick [(5, 2), (4, 3), (9, 3), (10, 0), (11, 0)] .done .nope)) [4, 9] mixed (by kernel_rfl) ?_) | apply StD.pick | exact StD.nope  | (apply Zq; rfl; exact Ob; exact Ent.go) | (refine Ge ?_ ?_ <;> (intro h; try (exfalso; omega))) | fail)
            all_goals first | (exfalso; omega) | skip
            exact St.d1 Tryz.func5 ⟨_, ⟨rfl, rfl⟩, Ent.go⟩
      · refine Halt.go ?_
        repeat' (first | refine St.halt 32 ?_ |refine Ga ?_ | (refine Gb ?_; intro b) | (refine Gd ?_; intro g cap rest hcap) | (refine Gc ?_; intro ad cap) | (refine St.draw (id := 16) [(0, 0), (1, 1), (2, 0), (3, 0), (4, 1), (5, 0), (6, 0), (7, 1), (8, 0), (9, 0), (10, 3), (11, 0), (12, 3)] [10, 12] mixed (by kernel_rfl) ?_) | (refine St.draw (id := 19) [(0, 1), (1, 0), (2, 0), (3, 0), (4, 0), (5, 1), (6, 0), (7, 0), (8, 1), (9, 0), (10, 0), (11, 0), (12, 0), (13, 3), (14, 0)] [13] mixed (by kernel_rfl) ?_) | (refine St.drawT (id := 29) [(0, 1), (1, 0), (2, 0), (3, 0), (6, 0), (7, 0), (8, 0)] (.pick [(4, 3), (5, 2), (9, 3), (10, 0), (11, 0)] .done (.pick [(5, 2), (4, 3), (9, 3), (10, 0), (11, 0)] .done .nope)) [4, 9] mixed (by kernel_rfl) ?_) | apply StD.pick | exact StD.nope | refine Gl (hst _) ?_ | refine Gl (same8o_r hR1 hR2 hEl) ?_ | (refine Gt (hrow1 _) ?_; rintro _ _ ⟨rad1, rcap1, rs1, hrs1, rfl, rfl⟩) | (refine Gu (hrow1 _) ?_; rintro _ _ ⟨rad1, rcap1, rs1, hrs1, rfl, rfl⟩; refine ⟨Ent.go, ?_⟩) | (refine Gt (hrow2 _) ?_; rintro _ _ ⟨rad2, rcap2, rs2, hrs2, rfl, rfl⟩) | (refine Gu (hrow2 _) ?_; rintro _ _ ⟨rad2, rcap2, rs2, hrs2, rfl, rfl⟩; refine ⟨Ent.go, ?_⟩) | (refine Gt (as14_t hRE1 hEl) ?_; rintro _ _ ⟨R1, oa1, oc1, hR1, rfl, rfl⟩) | (refine Gu (as14_t hRE1 hEl) ?_; rintro _ _ ⟨R1, oa1, oc1, hR1, rfl, rfl⟩; refine ⟨Ent.go, ?_⟩) | (refine Gt (as14_t hRE2 hEl) ?_; rintro _ _ ⟨R2, oa2, oc2, hR2, rfl, rfl⟩) | (refine Gu (as14_t hRE2 hEl) ?_; rintro _ _ ⟨R2, oa2, oc2, hR2, rfl, rfl⟩; refine ⟨Ent.go, ?_⟩) | (refine Gt (hent1 _) ?_; rintro _ _ ⟨RE1, ead1, ecap1, hRE1, rfl, rfl⟩) | (refine Gu (hent1 _) ?_; rintro _ _ ⟨RE1, ead1, ecap1, hRE1, rfl, rfl⟩; refine ⟨Ent.go, ?_⟩) | (refine Gt (hent2 _) ?_; rintro _ _ ⟨RE2, ead2, ecap2, hRE2, rfl, rfl⟩) | (refine Gu (hent2 _) ?_; rintro _ _ ⟨RE2, ead2, ecap2, hRE2, rfl, rfl⟩; refine ⟨Ent.go, ?_⟩) | (apply Zq; rfl; exact Ob; exact Ent.go) | (refine Ge ?_ ?_ <;> (intro h; try (exfalso; omega))) | fail)
        all_goals first | (exfalso; omega) | skip
        refine Halt.go ?_
        clear hrow1 hrow2 hent2 hp1 hp2 hplan
        repeat' (first | refine Ga ?_ | (refine Gb ?_; intro b) | (refine Gd ?_; intro g cap rest hcap) | (refine Gc ?_; intro ad cap) | (refine St.draw (id := 16) [(0, 0), (1, 1), (2, 0), (3, 0), (4, 1), (5, 0), (6, 0), (7, 1), (8, 0), (9, 0), (10, 3), (11, 0), (12, 3)] [10, 12] mixed (by kernel_rfl) ?_) | (refine St.draw (id := 19) [(0, 1), (1, 0), (2, 0), (3, 0), (4, 0), (5, 1), (6, 0), (7, 0), (8, 1), (9, 0), (10, 0), (11, 0), (12, 0), (13, 3), (14, 0)] [13] mixed (by kernel_rfl) ?_) | (refine St.drawT (id := 29) [(0, 1), (1, 0), (2, 0), (3, 0), (6, 0), (7, 0), (8, 0)] (.pick [(4, 3), (5, 2), (9, 3), (10, 0), (11, 0)] .done (.pick [(5, 2), (4, 3), (9, 3), (10, 0), (11, 0)] .done .nope)) [4, 9] mixed (by kernel_rfl) ?_) | apply StD.pick | exact StD.nope  | (refine Gt (hent1 _) ?_; rintro _ _ ⟨RE, ead, ecap, hRE, rfl, rfl⟩) | (refine Gu (hent1 _) ?_; rintro _ _ ⟨RE, ead, ecap, hRE, rfl, rfl⟩; refine ⟨Ent.go, ?_⟩) | (apply Zq; rfl; exact Ob; exact Ent.go) | (refine Ge ?_ ?_ <;> (intro h; try (exfalso; omega))) | fail)
        all_goals first | (exfalso; omega) | skip
        obtain ⟨ead9, ecap9, e2, _⟩ := id hRE
        injection e2 with e2a e2b e2c
        subst e2a e2c
        refine St.loopY (Lr := ?Lr5) (ι := { x : Nat // x ≤ E.length }) (fun x => E.length - x.1) (fun x => [(165, .int .i64 (x.1 : Int))]) (fun _ => []) ⟨0, Nat.zero_le _⟩ ?hE5 ?hL5 ?round5
        case hE5 => exact Sub.go
        case hL5 => exact Takes.go
        case round5 =>
          rintro ⟨x, hx⟩ IH3; dsimp only at hx IH3 ⊢
          by_cases hxl : x < E.length
          · obtain ⟨lb, lo, ll, l1, rfl, hrd3, hdr3, htk3⟩ := hRE.at' entV_len x hxl
            have hki := hkin E[x] (List.getElem_mem hxl)
            generalize E[x] = e at htk3 hki
            obtain ⟨ea, ev⟩ := e
            unfold entV at htk3
            dsimp only at htk3 hki
            have hwh := what_r c hc ea
            generalize c.what ea = wa at hwh hki
            obtain ⟨wk, wb, wj⟩ := wa
            dsimp only at hwh hki
            have h5 : wk = 11 ∨ wk = 12 ∨ wk = 13 ∨ wk = 14 ∨ wk = 15 := by omega
            rcases h5 with rfl | rfl | rfl | rfl | rfl
            all_goals
              repeat' (first | refine Ga ?_ | (refine Gb ?_; intro b) | (refine Gd ?_; intro g cap rest hcap) | (refine Gc ?_; intro ad cap) | (refine St.draw (id := 16) [(0, 0), (1, 1), (2, 0), (3, 0), (4, 1), (5, 0), (6, 0), (7, 1), (8, 0), (9, 0), (10, 3), (11, 0), (12, 3)] [10, 12] mixed (by kernel_rfl) ?_) | (refine St.draw (id := 19) [(0, 1), (1, 0), (2, 0), (3, 0), (4, 0), (5, 1), (6, 0), (7, 0), (8, 1), (9, 0), (10, 0), (11, 0), (12, 0), (13, 3), (14, 0)] [13] mixed (by kernel_rfl) ?_) | (refine St.drawT (id := 29) [(0, 1), (1, 0), (2, 0), (3, 0), (6, 0), (7, 0), (8, 0)] (.pick [(4, 3), (5, 2), (9, 3), (10, 0), (11, 0)] .done (.pick [(5, 2), (4, 3), (9, 3), (10, 0), (11, 0)] .done .nope)) [4, 9] mixed (by kernel_rfl) ?_) | apply StD.pick | exact StD.nope | refine Gl hwh ?_ | (apply Zq; rfl; exact Ob; exact Ent.go) | (refine Ge ?_ ?_ <;> (intro h; try (exfalso; omega))) | fail)
            all_goals first | (exfalso; omega) | skip
            all_goals
              refine IH3 ⟨x + 1, hxl⟩ (by show E.length - (x + 1) < E.length - x; omega) ?_ ?_
              · exact Sub.go
              · exact Ent.go
          · obtain rfl : x = E.length := by omega
            clear IH3
            repeat' (first | refine Ga ?_ | (refine Gb ?_; intro b) | (refine Gd ?_; intro g cap rest hcap) | (refine Gc ?_; intro ad cap) | (refine St.draw (id := 16) [(0, 0), (1, 1), (2, 0), (3, 0), (4, 1), (5, 0), (6, 0), (7, 1), (8, 0), (9, 0), (10, 3), (11, 0), (12, 3)] [10, 12] mixed (by kernel_rfl) ?_) | (refine St.draw (id := 19) [(0, 1), (1, 0), (2, 0), (3, 0), (4, 0), (5, 1), (6, 0), (7, 0), (8, 1), (9, 0), (10, 0), (11, 0), (12, 0), (13, 3), (14, 0)] [13] mixed (by kernel_rfl) ?_) | (refine St.drawT (id := 29) [(0, 1), (1, 0), (2, 0), (3, 0), (6, 0), (7, 0), (8, 0)] (.pick [(4, 3), (5, 2), (9, 3), (10, 0), (11, 0)] .done (.pick [(5, 2), (4, 3), (9, 3), (10, 0), (11, 0)] .done .nope)) [4, 9] mixed (by kernel_rfl) ?_) | apply StD.pick | exact StD.nope  | (apply Zq; rfl; exact Ob; exact Ent.go) | (refine Ge ?_ ?_ <;> (intro h; try (exfalso; omega))) | fail)
            all_goals first | (exfalso; omega) | skip
            exact St.d1 Tryz.func5 ⟨_, ⟨rfl, rfl⟩, Ent.go⟩
end Go.Proofs.YthmbgodcpgkkeaaGreat
