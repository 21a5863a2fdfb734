/-
  Package tumblerlaw14: BuildSerial.
-/
import Derived.Test.YthmbgodcpgkkeaaGreatWl
namespace Go.Proofs.YthmbgodcpgkkeaaGreat
set_option maxRecDepth 100000
theorem bserial_far {q : HProp} {c : Cfg} {pv rv : Value} {progs : Progs} {rounds : List (List Aq)} {mad : Option Addr} {makers : List Int} {mcap : Nat} (hpv : ProgsG q pv progs) (hrv : RoundsG q rv rounds) (_hml : makers.length ≤ 9223372036854775807) (hb : ¬ (few14B { c with first := 0 } progs = true ∧ rounds.length ≤ 5 ∧ rounds.length ≤ makers.length)) :
    Tri Tryz.prog 6 #[.agg ⟨c.v⟩, pv, rv, .slice mad makers.length mcap] [q] fun r L => r = .bool true ∧ L = [q] := by
  obtain ⟨th, bk, wr, fu, fi, la⟩ := c
  dsimp only at hb
  have hfew := few14_r ⟨th, bk, wr, fu, 0, la⟩ q pv progs hpv
  obtain ⟨rad, rcap, rfl, hrl, _⟩ := hrv
  unfold Cfg.v at hfew ⊢
  dsimp only at hfew ⊢
  cases hb1 : few14B ⟨th, bk, wr, fu, 0, la⟩ progs with
  | false =>
    rw [hb1] at hfew
    refine Tri.of_body (vs := [_, _, _, _]) Tryz.func6 rfl rfl fun w0 F => ?_
    repeat' (first | refine Ga ?_ | (refine Gb ?_; intro b) | (refine Gd ?_; intro g cap rest hcap) | (refine Gc ?_; intro ad cap) | (refine St.draw (id := 18) [(0, 0), (1, 1), (2, 0), (3, 0), (4, 1), (5, 0), (6, 0), (7, 1), (8, 0), (9, 0), (10, 3), (11, 0), (12, 3)] [10, 12] mixed (by kernel_rfl) ?_) | (refine St.draw (id := 22) [(0, 1), (1, 0), (2, 0), (3, 0), (4, 0), (5, 1), (6, 0), (7, 0), (8, 1), (9, 0), (10, 0), (11, 0), (12, 0), (13, 3), (14, 0)] [13] mixed (by kernel_rfl) ?_) | (refine St.draw (id := 30) [(0, 0), (1, 0), (2, 0), (3, 0), (4, 0), (5, 0), (6, 0), (7, 1), (8, 0), (9, 0), (10, 0), (11, 0), (12, 0), (13, 1), (14, 0), (15, 0), (16, 0), (17, 0), (18, 0), (19, 1), (20, 0), (21, 0), (22, 0), (23, 0), (24, 0)] [] mixed (by kernel_rfl) ?_)| refine Gl hfew ?_ | (refine Gt alive_t ?_; rintro _ _ ⟨rfl, rfl⟩) | (refine Ge ?_ ?_ <;> (intro h; try (exfalso; omega))) | fail)
    all_goals first | (exfalso; omega) | skip
    all_goals exact St.d1 Tryz.func6 ⟨_, ⟨rfl, rfl⟩, Ent.go⟩
  | true =>
    rw [hb1] at hfew
    by_cases h5 : rounds.length ≤ 5
    · have hlt : makers.length < rounds.length := Nat.lt_of_not_le fun h => hb ⟨hb1, h5, h⟩
      refine Tri.of_body (vs := [_, _, _, _]) Tryz.func6 rfl rfl fun w0 F => ?_
      repeat' (first | refine Ga ?_ | (refine Gb ?_; intro b) | (refine Gd ?_; intro g cap rest hcap) | (refine Gc ?_; intro ad cap) | (refine St.draw (id := 18) [(0, 0), (1, 1), (2, 0), (3, 0), (4, 1), (5, 0), (6, 0), (7, 1), (8, 0), (9, 0), (10, 3), (11, 0), (12, 3)] [10, 12] mixed (by kernel_rfl) ?_) | (refine St.draw (id := 22) [(0, 1), (1, 0), (2, 0), (3, 0), (4, 0), (5, 1), (6, 0), (7, 0), (8, 1), (9, 0), (10, 0), (11, 0), (12, 0), (13, 3), (14, 0)] [13] mixed (by kernel_rfl) ?_) | (refine St.draw (id := 30) [(0, 0), (1, 0), (2, 0), (3, 0), (4, 0), (5, 0), (6, 0), (7, 1), (8, 0), (9, 0), (10, 0), (11, 0), (12, 0), (13, 1), (14, 0), (15, 0), (16, 0), (17, 0), (18, 0), (19, 1), (20, 0), (21, 0), (22, 0), (23, 0), (24, 0)] [] mixed (by kernel_rfl) ?_)| refine Gl hfew ?_ | (refine Gt alive_t ?_; rintro _ _ ⟨rfl, rfl⟩) | (refine Ge ?_ ?_ <;> (intro h; try (exfalso; omega))) | fail)
      all_goals first | (exfalso; omega) | skip
      all_goals exact St.d1 Tryz.func6 ⟨_, ⟨rfl, rfl⟩, Ent.go⟩
    · refine Tri.of_body (vs := [_, _, _, _]) Tryz.func6 rfl rfl fun w0 F => ?_
      repeat' (first | refine Ga ?_ | (refine Gb ?_; intro b) | (refine Gd ?_; intro g cap rest hcap) | (refine Gc ?_; intro ad cap) | (refine St.draw (id := 18) [(0, 0), (1, 1), (2, 0), (3, 0), (4, 1), (5, 0), (6, 0), (7, 1), (8, 0), (9, 0), (10, 3), (11, 0), (12, 3)] [10, 12] mixed (by kernel_rfl) ?_) | (refine St.draw (id := 22) [(0, 1), (1, 0), (2, 0), (3, 0), (4, 0), (5, 1), (6, 0), (7, 0), (8, 1), (9, 0), (10, 0), (11, 0), (12, 0), (13, 3), (14, 0)] [13] mixed (by kernel_rfl) ?_) | (refine St.draw (id := 30) [(0, 0), (1, 0), (2, 0), (3, 0), (4, 0), (5, 0), (6, 0), (7, 1), (8, 0), (9, 0), (10, 0), (11, 0), (12, 0), (13, 1), (14, 0), (15, 0), (16, 0), (17, 0), (18, 0), (19, 1), (20, 0), (21, 0), (22, 0), (23, 0), (24, 0)] [] mixed (by kernel_rfl) ?_)| refine Gl hfew ?_ | (refine Gt alive_t ?_; rintro _ _ ⟨rfl, rfl⟩) | (refine Ge ?_ ?_ <;> (intro h; try (exfalso; omega))) | fail)
      all_goals first | (exfalso; omega) | skip
      all_goals exact St.d1 Tryz.func6 ⟨_, ⟨rfl, rfl⟩, Ent.go⟩
/-- two elements of a slice that can be read, in one block -/
theorem ListR.two {α : Type} {f : α → List Value} {sz : Nat} (hf : ∀ x, (f x).length = sz) {q : HProp} {ad : Option Addr} {n cap : Nat} {xs : List α} (h : ListR f q (.slice ad n cap) xs) {i j : Nat} (hi : i < xs.length) (hj : j < xs.length) :
    ∃ b o l l1 l2, ad = some ⟨b, o, none⟩ ∧ RdC q b l ∧ DropN (o + (i : Int).toNat * sz) l l1 ∧ TakeN sz l1 (f xs[i]) ∧ DropN (o + (j : Int).toNat * sz) l l2 ∧ TakeN sz l2 (f xs[j]) := by
  obtain ⟨ad', cap', e, _, h⟩ := h
  injection e with e1 e2 e3
  subst e1
  rcases h with h | ⟨b, o, l, rest, h1, h2, h3⟩
  · omega
  · have key : ∀ (k : Nat) (hk : k < xs.length), ∃ l1, DropN (o + (k : Int).toNat * sz) l l1 ∧ TakeN sz l1 (f xs[k]) := fun k hk => by
      obtain ⟨b', o', l', l1, e', _, g1, g2⟩ := ListR.at (q := q) (ad := ad) hf (.inr ⟨b, o, l, rest, h1, h2, h3⟩) k hk
      refine ⟨f xs[k] ++ (xs.drop (k + 1)).flatMap f ++ rest, h3.add ((DropN.flat hf hk).more rest), ?_⟩
      rw [← hf xs[k], List.append_assoc]
      exact TakeN.app _ _
    obtain ⟨l1, g1, g2⟩ := key i hi
    obtain ⟨l2, g3, g4⟩ := key j hj
    exact ⟨b, o, l, l1, l2, h1, h2, g1, g2, g3, g4⟩
theorem Planned.who_ {q : Tq} {M M2 : Pm} {m : Bm} {ms2 : Ms} (h : Planned q M M2 m ms2) {r : BRow} (hr : r ∈ m.rows) : (0 ≤ r.who ∧ r.who < q.c.threads) ∧ pendB q.c q.cs r.who = true := by
  have : r.who ∈ m.rows.map (·.who) := List.mem_map.2 ⟨r, hr, rfl⟩
  rw [h.whos, List.mem_filter, List.mem_map] at this
  obtain ⟨⟨k, hk, e⟩, hp⟩ := this
  have := List.mem_range.1 hk
  rw [← e] at hp ⊢
  exact ⟨⟨by omega, by omega⟩, hp⟩
def TagLe (c : Cfg) (n : Nat) (M : Pm) : Prop := ∀ u : Int, 0 ≤ u ∧ u < c.threads → (cellI M.cs (c.at 7 u 0)).val ≤ n
theorem Bdone.le {q : Tq} {rows : List BRow} {cs2 : List Cell} {ms : Ms} (h : Bdone q rows cs2 ms) (ht : ∀ u : Int, 0 ≤ u ∧ u < q.c.threads → (cellI q.cs (q.c.at 7 u 0)).val ≤ q.n) (ha : ∀ u : Int, 0 ≤ u ∧ u < q.c.threads → pendB q.c q.cs u = true → (annC q.c q.cs u).seq = q.n + 1) : ∀ u : Int, 0 ≤ u ∧ u < q.c.threads → (cellI cs2 (q.c.at 7 u 0)).val ≤ q.n + 1 := fun u hu => by
  rw [h.tag u hu]
  split
  · next hp => rw [ha u hu hp]; exact Nat.le_refl _
  · have := ht u hu; omega
theorem boot_tag {c : Cfg} (hc : Small c) (hfirst : c.first = 0) {u : Int} (hu : 0 ≤ u ∧ u < c.threads) : (cellI c.boot (c.at 7 u 0)).val = 0 := by
  have hb := hc.b0
  have hi := in7 (c := c) (kind := 7) (by decide) hu
  have := (boot_cell hc hfirst (at_in hc (kind := 7) (i := u) (j := 0) (by decide) hi) c.blocks.toNat (by omega)).2.1
  exact this (ne_kind hc (by decide) (by decide) hi (in12 c) (by omega)) fun i hi' => ne_kind hc (by decide) (by decide) hi (in13 (by omega)) (by omega)
set_option maxHeartbeats 8000000 in
theorem bserial_near {q : HProp} {c : Cfg} {pv rv : Value} {progs : Progs} {rounds : List (List Aq)} {mad : Option Addr} {makers : List Int} {mcap : Nat} (hpv : ProgsG q pv progs) (hrv : RoundsG q rv rounds) (hmv : ListR i64C q (.slice mad makers.length mcap) makers) (_hml : makers.length ≤ 9223372036854775807) (hb : few14B { c with first := 0 } progs = true) (h5 : rounds.length ≤ 5) (hmk : rounds.length ≤ makers.length) :
    Tri Tryz.prog 6 #[.agg ⟨c.v⟩, pv, rv, .slice mad makers.length mcap] [q] fun r L => r = .bool true ∧ L = [q] := by
  obtain ⟨th, bk, wr, fu, fi, la⟩ := c
  dsimp only at hb
  have hfew := few14_r ⟨th, bk, wr, fu, 0, la⟩ q pv progs hpv
  rw [hb] at hfew
  unfold few14B at hb
  simp only [Bool.and_eq_true, decide_eq_true_eq] at hb
  obtain ⟨hsh, ⟨hcr, hfu⟩, hpl⟩ := hb
  have hof := of_r ⟨th, bk, wr, fu, 0, la⟩
  unfold Cfg.ofV at hof
  rw [if_pos hcr] at hof
  generalize hcc : (⟨th, bk, wr, fu, 0, la⟩ : Cfg) = c at hcr hfu hof
  have hc := Cfg.small hcr
  have hf0 : 0 ≤ c.fuel := by have := of_decide_eq_true hcr; omega
  have hfu2 : c.fuel ≤ 200 := by rw [← hcc]; first | exact hfu | (rw [← hcc] at hfu; exact hfu)
  have hfirst : c.first = 0 := by rw [← hcc]
  have hth : c.threads = th := by rw [← hcc]
  have ewr : c.writes = wr := by rw [← hcc]
  have efu : c.fuel = fu := by rw [← hcc]
  have ht0 := hc.t0; have ht1 := hc.t1; have hw0 := hc.w0; have hw1 := hc.w1
  have hboot := bootm_t c hc
  have hpr := hpv.r (by omega)
  obtain ⟨rad, rcap, rfl, hrl, hrr⟩ := id hrv
  obtain ⟨pad, pcap, rfl, _, hpe⟩ := id hpv
  unfold Cfg.v at hfew ⊢
  dsimp only at hfew ⊢
  have hcv : c.v = [.int .i64 th, .int .i64 bk, .int .i64 wr, .int .i64 fu, .int .u64 ((0 : Nat) : Int), .int .u64 (la : Int)] := by rw [← hcc]; rfl
  rw [hcv] at hof
  have hplan := fun (Mb C : Nat) (M : Pm) (hst : M.st.length = 8) (who : Int) (seq N : Nat) => plan_t Mb C c hc ⟨hf0, by omega⟩ M hst who seq (.slice pad progs.length pcap) q progs hpr N
  have hrn0 : RN c 0 ⟨c.boot, zeros8, []⟩ ms0 := ⟨rfl, Nat.le_refl _, fs0 c, [], boot_mem hc hfirst⟩
  have hnp0 : NoPend c ⟨c.boot, zeros8, []⟩ := fun u h0 h1 => boot_none hc hfirst ⟨h0, h1⟩
  have htl0 : TagLe c 0 ⟨c.boot, zeros8, []⟩ := fun u hu => Nat.le_of_eq (boot_tag hc hfirst hu)
  refine Tri.of_body (vs := [_, _, _, _]) Tryz.func6 rfl rfl fun w0 F => ?_
  repeat' (first | refine Ga ?_ | (refine Gb ?_; intro b) | (refine Gd ?_; intro g cap rest hcap) | (refine Gc ?_; intro ad cap) | (refine St.draw (id := 18) [(0, 0), (1, 1), (2, 0), (3, 0), (4, 1), (5, 0), (6, 0), (7, 1), (8, 0), (9, 0), (10, 3), (11, 0), (12, 3)] [10, 12] mixed (by kernel_rfl) ?_) | (refine St.draw (id := 22) [(0, 1), (1, 0), (2, 0), (3, 0), (4, 0), (5, 1), (6, 0), (7, 0), (8, 1), (9, 0), (10, 0), (11, 0), (12, 0), (13, 3), (14, 0)] [13] mixed (by kernel_rfl) ?_) | (refine St.draw (id := 30) [(0, 0), (1, 0), (2, 0), (3, 0), (4, 0), (5, 0), (6, 0), (7, 1), (8, 0), (9, 0), (10, 0), (11, 0), (12, 0), (13, 1), (14, 0), (15, 0), (16, 0), (17, 0), (18, 0), (19, 1), (20, 0), (21, 0), (22, 0), (23, 0), (24, 0)] [] mixed (by kernel_rfl) ?_)| refine Gl hfew ?_ | refine Gl hof ?_ | (refine Gt alive_t ?_; rintro _ _ ⟨rfl, rfl⟩) | (refine Gt hboot ?_; rintro _ _ ⟨Mb, C, rfl, rfl⟩) | (refine Gt mnew_t ?_; rintro _ _ ⟨S, rfl, rfl⟩) | (refine Ge ?_ ?_ <;> (intro h; try (exfalso; omega))) | fail)
  all_goals first | (exfalso; omega) | skip
  refine St.loopY (Lr := ?Lr1) (ι := { x : Nat × Pm × Ms // x.1 ≤ rounds.length ∧ RN c x.1 x.2.1 x.2.2 ∧ NoPend c x.2.1 ∧ TagLe c x.1 x.2.1 }) (fun x => rounds.length - x.1.1) (fun x => [(57, .int .i64 (x.1.1 : Int))]) (fun x => [Mm Mb C x.1.2.1, MsE S x.1.2.2]) ⟨(0, ⟨c.boot, zeros8, []⟩, ms0), Nat.zero_le _, hrn0, hnp0, htl0⟩ ?hE1 ?hL1 ?round1
  case hE1 => exact Sub.go
  case hL1 => exact Takes.go
  case round1 =>
    rintro ⟨⟨n, M, ms⟩, hn, hrn, hnp, htl⟩ IH; dsimp only at hn hrn hnp htl IH ⊢
    by_cases hlt : n < rounds.length
    · obtain ⟨bj, o, l, cv, rfl, hrd, hnth, hrnd⟩ := hrr n hlt
      generalize rounds[n] = rd at hrnd
      have hn5 : n ≤ 4 := by omega
      obtain ⟨dad, dcap, rfl, hdc, hdr⟩ := id hrnd
      by_cases h8 : rd.length ≤ 8
      · repeat' (first | refine Ga ?_ | (refine Gb ?_; intro b) | (refine Gd ?_; intro g cap rest hcap) | (refine Gc ?_; intro ad cap) | (refine St.draw (id := 18) [(0, 0), (1, 1), (2, 0), (3, 0), (4, 1), (5, 0), (6, 0), (7, 1), (8, 0), (9, 0), (10, 3), (11, 0), (12, 3)] [10, 12] mixed (by kernel_rfl) ?_) | (refine St.draw (id := 22) [(0, 1), (1, 0), (2, 0), (3, 0), (4, 0), (5, 1), (6, 0), (7, 0), (8, 1), (9, 0), (10, 0), (11, 0), (12, 0), (13, 3), (14, 0)] [13] mixed (by kernel_rfl) ?_) | (refine St.draw (id := 30) [(0, 0), (1, 0), (2, 0), (3, 0), (4, 0), (5, 0), (6, 0), (7, 1), (8, 0), (9, 0), (10, 0), (11, 0), (12, 0), (13, 1), (14, 0), (15, 0), (16, 0), (17, 0), (18, 0), (19, 1), (20, 0), (21, 0), (22, 0), (23, 0), (24, 0)] [] mixed (by kernel_rfl) ?_) | (refine Ge ?_ ?_ <;> (intro h; try (exfalso; omega))) | fail)
        all_goals first | (exfalso; omega) | skip
        revert b; intro bm
        refine St.loopY (Lr := ?Lr2) (ι := { y : Nat × Pm × List (Int × Value) // y.1 ≤ rd.length ∧ RN c n y.2.1 ms ∧ DK c n y.2.1 y.2.2 }) (fun y => rd.length - y.1.1) (fun y => [(68, .int .i64 (y.1.1 : Int))]) (fun y => [Mm Mb C y.1.2.1, Mp bm (Value.int .i64) vId y.1.2.2]) ⟨(0, M, []), Nat.zero_le _, hrn, DK.zero hnp htl⟩ ?hE2 ?hL2 ?round2
        case hE2 => exact Sub.go
        case hL2 => exact Takes.go
        case round2 =>
          rintro ⟨⟨j, M1, D⟩, hj, hr1, hdk⟩ IH2; dsimp only at hj hr1 hdk IH2 ⊢
          by_cases hjl : j < rd.length
          · obtain ⟨jb, jo, jl, jl1, rfl, hjrd, hjdr, hjtk⟩ := hrnd.at' Aq.v_len j hjl
            generalize rd[j] = a at hjtk
            obtain ⟨aw, ap, a0, a1, a2, a3⟩ := a
            unfold Aq.v at hjtk
            dsimp only at hjtk
            obtain ⟨mk, hand, hmk2⟩ := AndIs.leJ aw 255 (by decide)
            obtain ⟨mp, handp, hmp⟩ := AndIs.leJ ap 15 (by decide)
            have hw0 : 0 ≤ (mk : Int) % th := Int.emod_nonneg _ (by omega)
            have hw1 : (mk : Int) % th < th := Int.emod_lt_of_pos _ (by omega)
            have hwant := want_t Mb C c hc M1 ((mk : Int) % th) mp (by omega) a0 a1 a2 a3 (n + 1)
            rw [show ((n + 1 : Nat) : Int) = (n : Int) + 1 by omega] at hwant
            have hr2 := hr1.want hc (who := (mk : Int) % th) ⟨hw0, by omega⟩ mp (args := [a0, a1, a2, a3]) rfl (n + 1)
            have hdk2 := hdk.want hc hr1 (who := (mk : Int) % th) ⟨hw0, by omega⟩ hmp a0 a1 a2 a3
            unfold Aq.v at hdk2
            dsimp only at hdk2
            repeat' (first | refine Ga ?_ | (refine Gb ?_; intro b) | (refine Gd ?_; intro g cap rest hcap) | (refine Gc ?_; intro ad cap) | (refine St.draw (id := 18) [(0, 0), (1, 1), (2, 0), (3, 0), (4, 1), (5, 0), (6, 0), (7, 1), (8, 0), (9, 0), (10, 3), (11, 0), (12, 3)] [10, 12] mixed (by kernel_rfl) ?_) | (refine St.draw (id := 22) [(0, 1), (1, 0), (2, 0), (3, 0), (4, 0), (5, 1), (6, 0), (7, 0), (8, 1), (9, 0), (10, 0), (11, 0), (12, 0), (13, 3), (14, 0)] [13] mixed (by kernel_rfl) ?_) | (refine St.draw (id := 30) [(0, 0), (1, 0), (2, 0), (3, 0), (4, 0), (5, 0), (6, 0), (7, 1), (8, 0), (9, 0), (10, 0), (11, 0), (12, 0), (13, 1), (14, 0), (15, 0), (16, 0), (17, 0), (18, 0), (19, 1), (20, 0), (21, 0), (22, 0), (23, 0), (24, 0)] [] mixed (by kernel_rfl) ?_) | (refine Gt hwant ?_; rintro _ _ ⟨rfl, rfl⟩) | (refine Ge ?_ ?_ <;> (intro h; try (exfalso; omega))) | fail)
            all_goals first | (exfalso; omega) | skip
            refine IH2 ⟨(j + 1, _, _), hjl, hr2, hdk2⟩ (by show rd.length - (j + 1) < rd.length - j; omega) ?_ ?_
            · exact Sub.go
            · exact Ent.go
          · obtain rfl : j = rd.length := by omega
            clear IH2
            obtain ⟨fs, ls, hmem⟩ := hr1.mem
            obtain ⟨kb, ko, kl, kl1, rfl, hkrd, hkdr, hktk⟩ := hmv.at' i64C_len n (by omega)
            generalize makers[n] = mkr at hktk
            unfold i64C at hktk
            have hnk : NthN (ko + (n : Int).toNat * 1) kl (.int .i64 mkr) := NthN.part (j := 0) hkdr hktk .zero
            obtain ⟨mk, hand, hmk2⟩ := AndIs.leJ mkr 255 (by decide)
            have hw0 : 0 ≤ (mk : Int) % th := Int.emod_nonneg _ (by omega)
            have hw1 : (mk : Int) % th < th := Int.emod_lt_of_pos _ (by omega)
            have hq : Tok ⟨c, progs, M1.cs, n, (mk : Int) % th, fs, ls, ms⟩ := ⟨hc, ⟨hf0, hfu2⟩, hmem, hw0, by dsimp only; omega⟩
            obtain ⟨N, ms2, hN, hak, hpd⟩ := plan_is hq (M := M1) rfl hr1.st
            have hplan := hplan Mb C M1 hr1.st ((mk : Int) % th) n N (by have := hr1.tr; omega) hak
            generalize pit c progs ((mk : Int) % th) (M1, Bm.new ((mk : Int) % th) n) N = z at hplan hpd
            obtain ⟨M2, m⟩ := z
            dsimp only at hplan hpd
            have hst := fun B => bstatus_r B c (.slice pad progs.length pcap) q progs m
            rw [hpd.s] at hst
            have hrows := fun B => brows_z B c hc (.slice pad progs.length pcap) q progs m hpd.inv
            have hent := fun B => bentries_z B c hc (.slice pad progs.length pcap) q progs m hpd.inv
            have hDl : m.rows.length = D.length := hdk.len (by omega) hpd.whos
            have hrl8 : m.rows.length ≤ 8 := by
              have h1 := congrArg List.length hpd.whos
              have h2 := List.length_filter_le (pendB c M1.cs) ((List.range c.threads.toNat).map fun k : Nat => (k : Int))
              rw [List.length_map] at h1
              rw [List.length_map, List.length_range] at h2
              dsimp only at h1
              omega
            repeat' (first | refine Ga ?_ | (refine Gb ?_; intro b) | (refine Gd ?_; intro g cap rest hcap) | (refine Gc ?_; intro ad cap) | (refine St.draw (id := 18) [(0, 0), (1, 1), (2, 0), (3, 0), (4, 1), (5, 0), (6, 0), (7, 1), (8, 0), (9, 0), (10, 3), (11, 0), (12, 3)] [10, 12] mixed (by kernel_rfl) ?_) | (refine St.draw (id := 22) [(0, 1), (1, 0), (2, 0), (3, 0), (4, 0), (5, 1), (6, 0), (7, 0), (8, 1), (9, 0), (10, 0), (11, 0), (12, 0), (13, 3), (14, 0)] [13] mixed (by kernel_rfl) ?_) | (refine St.draw (id := 30) [(0, 0), (1, 0), (2, 0), (3, 0), (4, 0), (5, 0), (6, 0), (7, 1), (8, 0), (9, 0), (10, 0), (11, 0), (12, 0), (13, 1), (14, 0), (15, 0), (16, 0), (17, 0), (18, 0), (19, 1), (20, 0), (21, 0), (22, 0), (23, 0), (24, 0)] [] mixed (by kernel_rfl) ?_)| refine Gl (hst _) ?_ | (refine Gt hplan ?_; rintro _ _ ⟨B, rfl, rfl⟩) | (refine Gt (hrows _) ?_; rintro _ _ ⟨RR, wad, wcap, rs, hrs, hRR, hnw, rfl, rfl⟩) | (refine Ge ?_ ?_ <;> (intro h; try (exfalso; omega))) | fail)
            all_goals have hrl : rs.length = m.rows.length := by rw [← hrs, List.length_map]
            all_goals first | (exfalso; omega) | (exfalso; simp at h; omega) | skip
            have hcf0 := hpd.cf
            dsimp only at hcf0
            refine St.loopY (Lr := ?Lr3) (ι := { y : Nat × Ms // y.1 ≤ rs.length ∧ Cf c progs M1.cs y.2 (m.rows.drop y.1) ms2 }) (fun y => rs.length - y.1.1) (fun y => [(123, .int .i64 (y.1.1 : Int))]) (fun y => [MsE S y.1.2]) ⟨(0, ms), Nat.zero_le _, by rw [List.drop_zero]; exact hcf0⟩ ?hE3 ?hL3 ?round3
            case hE3 => exact Sub.go
            case hL3 => exact Takes.go
            case round3 =>
              rintro ⟨⟨k, msk⟩, hk, hcf⟩ IH3; dsimp only at hk hcf IH3 ⊢
              by_cases hkl : k < rs.length
              · have hkm : k < m.rows.length := by omega
                rw [List.drop_eq_getElem_cons hkm] at hcf
                have hxk : rs[k].1 = m.rows[k] := by simp only [← hrs, List.getElem_map]
                have hyk : rs[k - 1].1 = m.rows[k - 1] := by simp only [← hrs, List.getElem_map]
                obtain ⟨hwho, hpend⟩ := hpd.who_ (List.getElem_mem hkm)
                have htag := hpd.tags _ (List.getElem_mem hkm)
                have hrc := hpd.rcs _ (List.getElem_mem hkm)
                have hprev : 0 < k → (m.rows[k - 1]).who < m.rows[k].who := fun h => rows_rise hpd.whos (by omega) hkm
                have hnws := hnw rs[k] (List.getElem_mem hkl)
                have hnl := (hpd.inv.gen.news _ (List.getElem_mem hkm)).1
                dsimp only at hwho hpend htag
                rw [hdk.pend hwho] at hpend
                obtain ⟨v, hget⟩ := Option.isSome_iff_exists.1 hpend
                obtain ⟨p, b0, b1, b2, b3, rfl, hp15, han, har⟩ := hdk.get _ v hget
                rw [han] at htag
                dsimp only at htag
                cases hcf with
                | cons k0 k1 k2 =>
                  rw [han, har] at k1
                  dsimp only at k1
                  obtain ⟨ab, ao, al, al1, al2, rfl, hra, hda, hta, hdb, htb⟩ := ListR.two rowV_len hRR hkl (j := k - 1) (by omega)
                  rw [← hyk, ← hxk] at hprev
                  generalize m.rows[k] = r at hxk hwho htag hrc hget k1 hnl han har
                  subst hxk
                  generalize rs[k] = x at hta hnws hprev hwho htag hrc hget k1 hnl han har
                  generalize rs[k - 1] = y at htb hprev hyk
                  obtain ⟨⟨who, tag, rc, rv, news⟩, nad, ncp⟩ := x
                  obtain ⟨⟨who2, tag2, rc2, rv2, news2⟩, nad2, ncp2⟩ := y
                  dsimp only at hprev hwho htag hrc hget k1 hnl hnws
                  subst htag
                  unfold rowV at hta htb
                  dsimp only at hta htb
                  unfold Aq.v at hget
                  dsimp only at hget
                  have e1 : ((k : Int) - 1).toNat = (k - 1 : Nat) := by omega
                  have hpw : NthN (ao + ((k : Int) - 1).toNat * 5) al (.int .i64 who2) := by
                    rw [e1]; exact NthN.part (j := 0) hdb htb .zero
                  clear hdb htb
                  repeat' (first | refine St.halt 29 ?_ |refine Ga ?_ | (refine Gb ?_; intro b) | (refine Gd ?_; intro g cap rest hcap) | (refine Gc ?_; intro ad cap) | (refine St.draw (id := 18) [(0, 0), (1, 1), (2, 0), (3, 0), (4, 1), (5, 0), (6, 0), (7, 1), (8, 0), (9, 0), (10, 3), (11, 0), (12, 3)] [10, 12] mixed (by kernel_rfl) ?_) | (refine St.draw (id := 22) [(0, 1), (1, 0), (2, 0), (3, 0), (4, 0), (5, 1), (6, 0), (7, 0), (8, 1), (9, 0), (10, 0), (11, 0), (12, 0), (13, 3), (14, 0)] [13] mixed (by kernel_rfl) ?_) | (refine St.draw (id := 30) [(0, 0), (1, 0), (2, 0), (3, 0), (4, 0), (5, 0), (6, 0), (7, 1), (8, 0), (9, 0), (10, 0), (11, 0), (12, 0), (13, 1), (14, 0), (15, 0), (16, 0), (17, 0), (18, 0), (19, 1), (20, 0), (21, 0), (22, 0), (23, 0), (24, 0)] [] mixed (by kernel_rfl) ?_) | (refine Ge ?_ ?_ <;> (intro h; try (exfalso; omega))) | fail)
                  all_goals first | (exfalso; omega) | skip
                  refine Halt.go ?_
                  iterate 6 (first | refine Ga ?_ | (refine Gb ?_; intro b) | (refine Gd ?_; intro g cap rest hcap) | (refine Gc ?_; intro ad cap) | (refine St.draw (id := 18) [(0, 0), (1, 1), (2, 0), (3, 0), (4, 1), (5, 0), (6, 0), (7, 1), (8, 0), (9, 0), (10, 3), (11, 0), (12, 3)] [10, 12] mixed (by kernel_rfl) ?_) | (refine St.draw (id := 22) [(0, 1), (1, 0), (2, 0), (3, 0), (4, 0), (5, 1), (6, 0), (7, 0), (8, 1), (9, 0), (10, 0), (11, 0), (12, 0), (13, 3), (14, 0)] [13] mixed (by kernel_rfl) ?_) | (refine St.draw (id := 30) [(0, 0), (1, 0), (2, 0), (3, 0), (4, 0), (5, 0), (6, 0), (7, 1), (8, 0), (9, 0), (10, 0), (11, 0), (12, 0), (13, 1), (14, 0), (15, 0), (16, 0), (17, 0), (18, 0), (19, 1), (20, 0), (21, 0), (22, 0), (23, 0), (24, 0)] [] mixed (by kernel_rfl) ?_) | (refine Ge ?_ ?_ <;> (intro h; try (exfalso; omega))) | fail)
                  rw [hget]
                  simp only [Option.getD_some, Option.isSome_some]
                  unfold vId
                  repeat' (first | refine St.halt 33 ?_ |refine Ga ?_ | (refine Gb ?_; intro b) | (refine Gd ?_; intro g cap rest hcap) | (refine Gc ?_; intro ad cap) | (refine St.draw (id := 18) [(0, 0), (1, 1), (2, 0), (3, 0), (4, 1), (5, 0), (6, 0), (7, 1), (8, 0), (9, 0), (10, 3), (11, 0), (12, 3)] [10, 12] mixed (by kernel_rfl) ?_) | (refine St.draw (id := 22) [(0, 1), (1, 0), (2, 0), (3, 0), (4, 0), (5, 1), (6, 0), (7, 0), (8, 1), (9, 0), (10, 0), (11, 0), (12, 0), (13, 3), (14, 0)] [13] mixed (by kernel_rfl) ?_) | (refine St.draw (id := 30) [(0, 0), (1, 0), (2, 0), (3, 0), (4, 0), (5, 0), (6, 0), (7, 1), (8, 0), (9, 0), (10, 0), (11, 0), (12, 0), (13, 1), (14, 0), (15, 0), (16, 0), (17, 0), (18, 0), (19, 1), (20, 0), (21, 0), (22, 0), (23, 0), (24, 0)] [] mixed (by kernel_rfl) ?_) | (refine Ge ?_ ?_ <;> (intro h; try (exfalso; omega))) | fail)
                  all_goals first | (exfalso; omega) | (exfalso; simp at h; omega) | (exfalso; simp at h; done) | skip
                  all_goals
                    refine Halt.go ?_
                    by_cases hpl2 : p < progs.length
                    · obtain ⟨pb, po, pl, pcv, rfl, hprd, hpnth, hpins⟩ := hpe p hpl2
                      have epr : progOf progs p = progs[p] := by
                        unfold progOf
                        rw [List.getD_eq_getElem?_getD, List.getElem?_eq_getElem hpl2]; rfl
                      have hsl : progs[p].length ≤ 40 := of_decide_eq_true (List.all_eq_true.1 hsh progs[p] (List.getElem_mem hpl2))
                      rw [epr] at k1
                      have hrun := qrun_t S k0 k1 ⟨hf0, by omega⟩ ⟨hc.w0, by have := hc.w1; omega⟩ rfl q RR pcv hpins (by omega) nad ncp hnws
                      rw [ewr, efu, show g4 [b0, b1, b2, b3] = [Value.int .u64 (b0 : Int), .int .u64 (b1 : Int), .int .u64 (b2 : Int), .int .u64 (b3 : Int)] from rfl] at hrun
                      repeat' (first | refine Ga ?_ | (refine Gb ?_; intro b) | (refine Gd ?_; intro g cap rest hcap) | (refine Gc ?_; intro ad cap) | (refine St.draw (id := 18) [(0, 0), (1, 1), (2, 0), (3, 0), (4, 1), (5, 0), (6, 0), (7, 1), (8, 0), (9, 0), (10, 3), (11, 0), (12, 3)] [10, 12] mixed (by kernel_rfl) ?_) | (refine St.draw (id := 22) [(0, 1), (1, 0), (2, 0), (3, 0), (4, 0), (5, 1), (6, 0), (7, 0), (8, 1), (9, 0), (10, 0), (11, 0), (12, 0), (13, 3), (14, 0)] [13] mixed (by kernel_rfl) ?_) | (refine St.draw (id := 30) [(0, 0), (1, 0), (2, 0), (3, 0), (4, 0), (5, 0), (6, 0), (7, 1), (8, 0), (9, 0), (10, 0), (11, 0), (12, 0), (13, 1), (14, 0), (15, 0), (16, 0), (17, 0), (18, 0), (19, 1), (20, 0), (21, 0), (22, 0), (23, 0), (24, 0)] [] mixed (by kernel_rfl) ?_) | (refine Gt hrun ?_; rintro _ _ ⟨st, dw, nad3, ncp3, rfl, rfl⟩) | (refine Ge ?_ ?_ <;> (intro h; try (exfalso; omega))) | fail)
                      all_goals first | (exfalso; omega) | (exfalso; simp at h; omega) | (exfalso; simp at h; done) | skip
                      refine IH3 ⟨(k + 1, _), hkl, k2⟩ (by show rs.length - (k + 1) < rs.length - k; omega) ?_ ?_
                      · exact Sub.go
                      · exact Ent.go
                    · have epr : progOf progs p = [] := by
                        unfold progOf
                        rw [List.getD_eq_getElem?_getD, List.getElem?_eq_none (by omega)]; rfl
                      rw [epr] at k1
                      have hrun := qrun_t S k0 k1 ⟨hf0, by omega⟩ ⟨hc.w0, by have := hc.w1; omega⟩ rfl q RR (.slice none 0 0) ⟨none, 0, rfl, .inl rfl⟩ (by decide) nad ncp hnws
                      rw [ewr, efu, show g4 [b0, b1, b2, b3] = [Value.int .u64 (b0 : Int), .int .u64 (b1 : Int), .int .u64 (b2 : Int), .int .u64 (b3 : Int)] from rfl] at hrun
                      repeat' (first | refine Ga ?_ | (refine Gb ?_; intro b) | (refine Gd ?_; intro g cap rest hcap) | (refine Gc ?_; intro ad cap) | (refine St.draw (id := 18) [(0, 0), (1, 1), (2, 0), (3, 0), (4, 1), (5, 0), (6, 0), (7, 1), (8, 0), (9, 0), (10, 3), (11, 0), (12, 3)] [10, 12] mixed (by kernel_rfl) ?_) | (refine St.draw (id := 22) [(0, 1), (1, 0), (2, 0), (3, 0), (4, 0), (5, 1), (6, 0), (7, 0), (8, 1), (9, 0), (10, 0), (11, 0), (12, 0), (13, 3), (14, 0)] [13] mixed (by kernel_rfl) ?_) | (refine St.draw (id := 30) [(0, 0), (1, 0), (2, 0), (3, 0), (4, 0), (5, 0), (6, 0), (7, 1), (8, 0), (9, 0), (10, 0), (11, 0), (12, 0), (13, 1), (14, 0), (15, 0), (16, 0), (17, 0), (18, 0), (19, 1), (20, 0), (21, 0), (22, 0), (23, 0), (24, 0)] [] mixed (by kernel_rfl) ?_) | (refine Gt hrun ?_; rintro _ _ ⟨st, dw, nad3, ncp3, rfl, rfl⟩) | (refine Ge ?_ ?_ <;> (intro h; try (exfalso; omega))) | fail)
                      all_goals first | (exfalso; omega) | (exfalso; simp at h; omega) | (exfalso; simp at h; done) | skip
                      refine IH3 ⟨(k + 1, _), hkl, k2⟩ (by show rs.length - (k + 1) < rs.length - k; omega) ?_ ?_
                      · exact Sub.go
                      · exact Ent.go
              · obtain rfl : k = rs.length := by omega
                clear IH3
                rw [show m.rows.drop rs.length = [] from List.drop_eq_nil_of_le (by omega)] at hcf
                cases hcf
                have hdone := hpd.done
                have hst2 := hpd.st
                have htr2 := hpd.tr
                have htr1 := hr1.tr
                have hEl : (entriesOf c m.e.puts).length ≤ 1000000000 := by
                  have h1 : (entriesOf c m.e.puts).length ≤ m.e.puts.length := Nat.le_trans (List.length_filter_le _ _) (allP_len _)
                  have h2 := hpd.inv.len
                  omega
                dsimp only at hdone htr2
                have hle := hdone.le hdk.tag fun u hu hp => by
                  dsimp only at hu hp ⊢
                  rw [hdk.pend hu] at hp
                  obtain ⟨v, hv⟩ := Option.isSome_iff_exists.1 hp
                  obtain ⟨p, b0, b1, b2, b3, _, _, h1, _⟩ := hdk.get u v hv
                  rw [h1]
                have hnone := hdone.none
                have hall : ∀ x ∈ rs, ToldR c (putEs (n + 1) (entriesOf c m.e.puts) M2.cs) x.1 := fun x hx => by
                  have hm : x.1 ∈ m.rows := by rw [← hrs]; exact List.mem_map.2 ⟨x, hx, rfl⟩
                  obtain ⟨h1, h2, h3⟩ := hdone.told _ hm
                  exact ⟨(hpd.who_ hm).1, hpd.rcs _ hm, h1, h2, h3⟩
                dsimp only at hle hnone
                generalize entriesOf c m.e.puts = E at hent hdone hEl hle hnone hall
                obtain ⟨fs3, ls3, hm3⟩ := hdone.mem
                dsimp only at hm3
                have hto := told14_t Mb C c hc ⟨putEs (n + 1) E M2.cs, M2.st, M2.tr⟩ hRR (by omega) hall
                have hho := holds14_t Mb C S c hc ⟨putEs (n + 1) E M2.cs, M2.st, M2.tr⟩ hm3
                repeat' (first | refine Ga ?_ | (refine Gb ?_; intro b) | (refine Gd ?_; intro g cap rest hcap) | (refine Gc ?_; intro ad cap) | (refine St.draw (id := 18) [(0, 0), (1, 1), (2, 0), (3, 0), (4, 1), (5, 0), (6, 0), (7, 1), (8, 0), (9, 0), (10, 3), (11, 0), (12, 3)] [10, 12] mixed (by kernel_rfl) ?_) | (refine St.draw (id := 22) [(0, 1), (1, 0), (2, 0), (3, 0), (4, 0), (5, 1), (6, 0), (7, 0), (8, 1), (9, 0), (10, 0), (11, 0), (12, 0), (13, 3), (14, 0)] [13] mixed (by kernel_rfl) ?_) | (refine St.draw (id := 30) [(0, 0), (1, 0), (2, 0), (3, 0), (4, 0), (5, 0), (6, 0), (7, 1), (8, 0), (9, 0), (10, 0), (11, 0), (12, 0), (13, 1), (14, 0), (15, 0), (16, 0), (17, 0), (18, 0), (19, 1), (20, 0), (21, 0), (22, 0), (23, 0), (24, 0)] [] mixed (by kernel_rfl) ?_) | (refine Gt (hent _) ?_; rintro _ _ ⟨RE, ead, ecap, hRE, rfl, rfl⟩) | (refine Ge ?_ ?_ <;> (intro h; try (exfalso; omega))) | fail)
                all_goals first | (exfalso; omega) | skip
                obtain ⟨ead2, ecap2, e2, _⟩ := id hRE
                injection e2 with e2a e2b e2c
                subst e2a e2c
                refine St.loopY (Lr := ?Lr4) (ι := { x : Nat // x ≤ E.length }) (fun x => E.length - x.1) (fun x => [(199, .int .i64 (x.1 : Int))]) (fun x => [Mm Mb C ⟨putEs (n + 1) (E.take x.1) M2.cs, M2.st, M2.tr⟩]) ⟨0, Nat.zero_le _⟩ ?hE4 ?hL4 ?round4
                case hE4 => exact Sub.go
                case hL4 => exact Takes.go
                case round4 =>
                  rintro ⟨x, hx⟩ IH3; dsimp only at hx IH3 ⊢
                  by_cases hxl : x < E.length
                  · obtain ⟨lb, lo, ll, l1, rfl, hrd3, hdr3, htk3⟩ := hRE.at' entV_len x hxl
                    have hnx : putEs (n + 1) (E.take (x + 1)) M2.cs = setOf (putEs (n + 1) (E.take x) M2.cs) E[x].1 ⟨E[x].2, n + 1⟩ := by
                      rw [List.take_succ_eq_append_getElem hxl]
                      unfold putEs
                      rw [List.foldl_append]; rfl
                    generalize E[x] = e at htk3 hnx
                    obtain ⟨ea, ev⟩ := e
                    unfold entV at htk3
                    dsimp only at htk3 hnx
                    have hms := mset_t Mb C ⟨putEs (n + 1) (E.take x) M2.cs, M2.st, M2.tr⟩ ea ⟨ev, n + 1⟩
                    unfold Cell.v at hms
                    dsimp only at hms
                    rw [← hnx, show ((n + 1 : Nat) : Int) = (n : Int) + 1 by omega] at hms
                    repeat' (first | refine Ga ?_ | (refine Gb ?_; intro b) | (refine Gd ?_; intro g cap rest hcap) | (refine Gc ?_; intro ad cap) | (refine St.draw (id := 18) [(0, 0), (1, 1), (2, 0), (3, 0), (4, 1), (5, 0), (6, 0), (7, 1), (8, 0), (9, 0), (10, 3), (11, 0), (12, 3)] [10, 12] mixed (by kernel_rfl) ?_) | (refine St.draw (id := 22) [(0, 1), (1, 0), (2, 0), (3, 0), (4, 0), (5, 1), (6, 0), (7, 0), (8, 1), (9, 0), (10, 0), (11, 0), (12, 0), (13, 3), (14, 0)] [13] mixed (by kernel_rfl) ?_) | (refine St.draw (id := 30) [(0, 0), (1, 0), (2, 0), (3, 0), (4, 0), (5, 0), (6, 0), (7, 1), (8, 0), (9, 0), (10, 0), (11, 0), (12, 0), (13, 1), (14, 0), (15, 0), (16, 0), (17, 0), (18, 0), (19, 1), (20, 0), (21, 0), (22, 0), (23, 0), (24, 0)] [] mixed (by kernel_rfl) ?_) | (refine Gt hms ?_; rintro _ _ ⟨er, rfl, rfl⟩) | (refine Ge ?_ ?_ <;> (intro h; try (exfalso; omega))) | fail)
                    all_goals first | (exfalso; omega) | skip
                    refine IH3 ⟨x + 1, hxl⟩ (by show E.length - (x + 1) < E.length - x; omega) ?_ ?_
                    · exact Sub.go
                    · exact Ent.go
                  · obtain rfl : x = E.length := by omega
                    clear IH3
                    rw [List.take_length]
                    repeat' (first | refine Ga ?_ | (refine Gb ?_; intro b) | (refine Gd ?_; intro g cap rest hcap) | (refine Gc ?_; intro ad cap) | (refine St.draw (id := 18) [(0, 0), (1, 1), (2, 0), (3, 0), (4, 1), (5, 0), (6, 0), (7, 1), (8, 0), (9, 0), (10, 3), (11, 0), (12, 3)] [10, 12] mixed (by kernel_rfl) ?_) | (refine St.draw (id := 22) [(0, 1), (1, 0), (2, 0), (3, 0), (4, 0), (5, 1), (6, 0), (7, 0), (8, 1), (9, 0), (10, 0), (11, 0), (12, 0), (13, 3), (14, 0)] [13] mixed (by kernel_rfl) ?_) | (refine St.draw (id := 30) [(0, 0), (1, 0), (2, 0), (3, 0), (4, 0), (5, 0), (6, 0), (7, 1), (8, 0), (9, 0), (10, 0), (11, 0), (12, 0), (13, 1), (14, 0), (15, 0), (16, 0), (17, 0), (18, 0), (19, 1), (20, 0), (21, 0), (22, 0), (23, 0), (24, 0)] [] mixed (by kernel_rfl) ?_) | (refine Gt hto ?_; rintro _ _ ⟨rfl, rfl⟩) | (refine Gt hho ?_; rintro _ _ ⟨rfl, rfl⟩) | (refine Ge ?_ ?_ <;> (intro h; try (exfalso; omega))) | fail)
                    all_goals first | (exfalso; omega) | (exfalso; simp at h; done) | skip
                    refine IH ⟨(n + 1, ⟨putEs (n + 1) E M2.cs, M2.st, M2.tr⟩, _), hlt, ⟨hst2, by dsimp only; omega, ⟨fs3, ls3, hm3⟩⟩, hnone, hle⟩ (by show rounds.length - (n + 1) < rounds.length - n; omega) ?_ ?_
                    · exact Sub.go
                    · exact Ent.go
      · clear IH
        repeat' (first | refine Ga ?_ | (refine Gb ?_; intro b) | (refine Gd ?_; intro g cap rest hcap) | (refine Gc ?_; intro ad cap) | (refine St.draw (id := 18) [(0, 0), (1, 1), (2, 0), (3, 0), (4, 1), (5, 0), (6, 0), (7, 1), (8, 0), (9, 0), (10, 3), (11, 0), (12, 3)] [10, 12] mixed (by kernel_rfl) ?_) | (refine St.draw (id := 22) [(0, 1), (1, 0), (2, 0), (3, 0), (4, 0), (5, 1), (6, 0), (7, 0), (8, 1), (9, 0), (10, 0), (11, 0), (12, 0), (13, 3), (14, 0)] [13] mixed (by kernel_rfl) ?_) | (refine St.draw (id := 30) [(0, 0), (1, 0), (2, 0), (3, 0), (4, 0), (5, 0), (6, 0), (7, 1), (8, 0), (9, 0), (10, 0), (11, 0), (12, 0), (13, 1), (14, 0), (15, 0), (16, 0), (17, 0), (18, 0), (19, 1), (20, 0), (21, 0), (22, 0), (23, 0), (24, 0)] [] mixed (by kernel_rfl) ?_) | (refine Ge ?_ ?_ <;> (intro h; try (exfalso; omega))) | fail)
        all_goals first | (exfalso; omega) | skip
        all_goals exact St.d1 Tryz.func6 ⟨_, ⟨rfl, rfl⟩, Ent.go⟩
    · obtain rfl : n = rounds.length := by omega
      clear IH
      repeat' (first | refine Ga ?_ | (refine Gb ?_; intro b) | (refine Gd ?_; intro g cap rest hcap) | (refine Gc ?_; intro ad cap) | (refine St.draw (id := 18) [(0, 0), (1, 1), (2, 0), (3, 0), (4, 1), (5, 0), (6, 0), (7, 1), (8, 0), (9, 0), (10, 3), (11, 0), (12, 3)] [10, 12] mixed (by kernel_rfl) ?_) | (refine St.draw (id := 22) [(0, 1), (1, 0), (2, 0), (3, 0), (4, 0), (5, 1), (6, 0), (7, 0), (8, 1), (9, 0), (10, 0), (11, 0), (12, 0), (13, 3), (14, 0)] [13] mixed (by kernel_rfl) ?_) | (refine St.draw (id := 30) [(0, 0), (1, 0), (2, 0), (3, 0), (4, 0), (5, 0), (6, 0), (7, 1), (8, 0), (9, 0), (10, 0), (11, 0), (12, 0), (13, 1), (14, 0), (15, 0), (16, 0), (17, 0), (18, 0), (19, 1), (20, 0), (21, 0), (22, 0), (23, 0), (24, 0)] [] mixed (by kernel_rfl) ?_) | (refine Ge ?_ ?_ <;> (intro h; try (exfalso; omega))) | fail)
      all_goals first | (exfalso; omega) | skip
      exact St.d1 Tryz.func6 ⟨_, ⟨rfl, rfl⟩, Ent.go⟩
end Go.Proofs.YthmbgodcpgkkeaaGreat
