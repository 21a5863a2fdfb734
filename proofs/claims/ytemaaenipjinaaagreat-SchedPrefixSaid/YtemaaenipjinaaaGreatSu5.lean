/-
  Package tumblerlaw16: SchedPrefix.
-/
import Derived.Test.YtemaaenipjinaaaGreatSu4
namespace Go.Proofs.YtemaaenipjinaaaGreat
set_option maxRecDepth 100000
theorem AndIs.pleI (a : Int) (b : Nat) (hb : b < 9223372036854775808) : ∃ c : Nat, AndIs .i64 a (b : Int) (c : Int) ∧ c ≤ b := by
  have e1 : (BitVec.ofInt 64 (b : Int)).toNat = b := by
    rw [BitVec.toNat_ofInt]
    have : (2 : Nat) ^ 64 = 18446744073709551616 := by decide
    omega
  have e2 : (BitVec.ofInt 64 a &&& BitVec.ofInt 64 (b : Int)).toNat ≤ b := by
    rw [BitVec.toNat_and, e1]
    exact Nat.and_le_right
  refine ⟨(BitVec.ofInt 64 a &&& BitVec.ofInt 64 (b : Int)).toNat, ?_, by omega⟩
  unfold AndIs
  rw [show IntKind.i64.bits = 64 from rfl]
  exact wrap_fits (by simp only [fits]; omega)
/-- a word that is set -/
structure PokeB where
  h : Nat
  word : Int
  val : Nat
def pokeV (p : PokeB) : List Value := [.int .u64 (p.h : Int), .int .i64 p.word, .int .u64 (p.val : Int)]
/-- the cells of the three programs -/
def insC (o a b c i : Int) : List Value := [.int .i64 o, .int .i64 a, .int .i64 b, .int .i64 c, .int .u64 i]
abbrev celR : List Value := [.int .i64 8, .int .i64 1, .int .i64 0, .int .i64 0, .int .u64 0, .int .i64 8, .int .i64 2, .int .i64 0, .int .i64 0, .int .u64 1, .int .i64 8, .int .i64 3, .int .i64 0, .int .i64 0, .int .u64 2, .int .i64 10, .int .i64 3, .int .i64 2, .int .i64 0, .int .u64 0, .int .i64 20, .int .i64 1, .int .i64 0, .int .i64 0, .int .u64 0]
abbrev celW : List Value := [.int .i64 8, .int .i64 1, .int .i64 0, .int .i64 0, .int .u64 0, .int .i64 8, .int .i64 2, .int .i64 0, .int .i64 0, .int .u64 1, .int .i64 8, .int .i64 3, .int .i64 0, .int .i64 0, .int .u64 2, .int .i64 14, .int .i64 3, .int .i64 1, .int .i64 2, .int .u64 0, .int .i64 20, .int .i64 1, .int .i64 0, .int .i64 0, .int .u64 0]
abbrev celF : List Value := [.int .i64 15, .int .i64 1, .int .i64 0, .int .i64 0, .int .u64 0, .int .i64 20, .int .i64 1, .int .i64 0, .int .i64 0, .int .u64 0]
theorem prelaw_few (c : Cfg) (q0 : HProp) (pv cv : Value) (progs : Progs) (calls : List (List Jb)) (hpv : ProgsG q0 pv progs) (hcv : CallsG q0 cv calls) (kad : Option Addr) (n kcap : Nat) (cut : Int) (hb : few16B c progs calls n = false) :
    Tri Tryz.prog 9 #[.agg ⟨c.v⟩, pv, cv, .slice kad n kcap, .int .i64 cut] [q0] (lawQ q0) := by
  have hfew := few16_r c q0 pv cv progs calls hpv hcv kad n kcap
  have hal := alive16_t
  rw [hb] at hfew
  refine Tri.of_body (vs := [_, _, _, _, _]) Tryz.func9 rfl rfl fun w0 F => ?_
  repeat' (first | refine Ga ?_ | (refine Gb ?_; intro b) | (refine Gd ?_; intro g cap rest hcap) | (refine Gc ?_; intro ad cap) | (refine St.draw (id := 29) [(0, 0), (1, 1), (2, 0), (3, 0), (4, 0), (5, 0), (6, 1), (7, 1), (8, 0), (9, 0), (10, 0), (11, 0), (12, 0), (13, 0), (14, 0), (15, 1), (16, 0), (17, 1), (18, 0), (19, 0), (20, 0), (21, 0), (22, 0), (23, 0), (24, 0), (25, 1), (26, 0), (27, 1), (28, 0), (29, 0), (30, 0), (31, 0), (32, 0), (33, 0), (34, 0), (35, 1), (36, 0), (37, 1), (38, 0), (39, 0), (40, 0), (41, 0), (42, 0), (43, 0), (44, 0), (45, 1), (46, 0), (47, 1), (48, 0), (49, 0)] [] mixed (by kernel_rfl) ?_) | (refine St.draw (id := 36) [(0, 0), (1, 0), (2, 1), (3, 0), (4, 1), (5, 0), (6, 1), (7, 0), (8, 1), (9, 0), (10, 3), (11, 0), (12, 3)] [10, 12] mixed (by kernel_rfl) ?_)| refine Gl hfew ?_ | (refine Gt hal ?_; rintro _ _ ⟨rfl, rfl⟩) | (refine Ge ?_ ?_ <;> (intro h; try (exfalso; omega))) | fail)
  refine St.d1 Tryz.func9 ⟨_, ⟨rfl, rfl⟩, Ent.go⟩
theorem prelaw_bad (c : Cfg) (q0 : HProp) (pv cv : Value) (progs : Progs) (calls : List (List Jb)) (hpv : ProgsG q0 pv progs) (hcv : CallsG q0 cv calls) (kad : Option Addr) (n kcap : Nat) (cut : Int) (hb : few16B c progs calls n = true) (hn : ¬ (c.right = true ∧ (calls.length : Int) = c.threads)) :
    Tri Tryz.prog 9 #[.agg ⟨c.v⟩, pv, cv, .slice kad n kcap, .int .i64 cut] [q0] (lawQ q0) := by
  have hfew := few16_r c q0 pv cv progs calls hpv hcv kad n kcap
  have hal := alive16_t
  rw [hb] at hfew
  obtain ⟨pad, pcap, rfl, _⟩ := hpv
  obtain ⟨cad, ccap, rfl, _⟩ := hcv
  have hnb := sdnew_bad c pad progs.length pcap cad calls.length ccap hn
  refine Tri.of_body (vs := [_, _, _, _, _]) Tryz.func9 rfl rfl fun w0 F => ?_
  repeat' (first | refine Ga ?_ | (refine Gb ?_; intro b) | (refine Gd ?_; intro g cap rest hcap) | (refine Gc ?_; intro ad cap) | (refine St.draw (id := 29) [(0, 0), (1, 1), (2, 0), (3, 0), (4, 0), (5, 0), (6, 1), (7, 1), (8, 0), (9, 0), (10, 0), (11, 0), (12, 0), (13, 0), (14, 0), (15, 1), (16, 0), (17, 1), (18, 0), (19, 0), (20, 0), (21, 0), (22, 0), (23, 0), (24, 0), (25, 1), (26, 0), (27, 1), (28, 0), (29, 0), (30, 0), (31, 0), (32, 0), (33, 0), (34, 0), (35, 1), (36, 0), (37, 1), (38, 0), (39, 0), (40, 0), (41, 0), (42, 0), (43, 0), (44, 0), (45, 1), (46, 0), (47, 1), (48, 0), (49, 0)] [] mixed (by kernel_rfl) ?_) | (refine St.draw (id := 36) [(0, 0), (1, 0), (2, 1), (3, 0), (4, 1), (5, 0), (6, 1), (7, 0), (8, 1), (9, 0), (10, 3), (11, 0), (12, 3)] [10, 12] mixed (by kernel_rfl) ?_)| refine Gl hfew ?_ | (refine Gt hal ?_; rintro _ _ ⟨rfl, rfl⟩) | (refine Gt hnb ?_; rintro _ _ ⟨rfl, rfl⟩) | (refine Ge ?_ ?_ <;> (intro h; try (exfalso; omega))) | fail)
  all_goals first | (exfalso; omega) | skip
  refine St.d1 Tryz.func9 ⟨_, ⟨rfl, rfl⟩, Ent.go⟩
theorem mput_mput {κ β : Type} [DecidableEq κ] (k : κ) (x y : β) : ∀ m : List (κ × β), mput (mput m k x) k y = mput m k y
  | [] => by simp [mput]
  | (a, z) :: m => by
    by_cases h : a = k
    · subst h; simp [mput]
    · simp [mput, h, mput_mput k x y m]
theorem getD_at {α : Type} (l : List α) (d : α) {k : Nat} (h : k < l.length) : l.getD k d = l[k] := by
  rw [List.getD_eq_getElem?_getD, List.getElem?_eq_getElem h]; rfl
def kyL (l : List SRowH) : List (Int × Int × Int) := l.map fun r => keyR r.1
theorem cnt_none {l : List SRowH} (h : (kyL l).Nodup) {k : Nat} (hk : k < l.length) : mget (cntL (kyL (l.take k))) (keyR l[k].1) = none ∧ cntL (kyL (l.take (k + 1))) = mput (cntL (kyL (l.take k))) (keyR l[k].1) 1 := by
  have hs : (kyL (l.take (k + 1))).Nodup := ((List.take_sublist _ _).map _).nodup h
  have e : kyL (l.take (k + 1)) = kyL (l.take k) ++ [keyR l[k].1] := by
    unfold kyL
    rw [List.take_succ_eq_append_getElem hk, List.map_append]; rfl
  rw [e] at hs ⊢
  rw [List.nodup_append] at hs
  have hn : mget (cntL (kyL (l.take k))) (keyR l[k].1) = none := by
    rw [cntL_get hs.1, if_neg (fun hm => hs.2.2 _ hm _ (by simp) rfl)]
  refine ⟨hn, ?_⟩
  rw [cntL_snoc, hn]; rfl
theorem kyL_kS (l : List SRowH) : kyL l = (kS l).map keyR := by
  unfold kyL kS
  rw [List.map_map]; rfl
theorem sumR_snoc {l : List Rec} {k : Nat} (h : k < l.length) : sumR (l.take (k + 1)) = sumR (l.take k) + l[k].steps := by
  unfold sumR
  rw [List.take_succ_eq_append_getElem h, List.map_append, List.sum_append]
  simp
theorem sumR_take (l : List Rec) (k : Nat) : sumR (l.take k) ≤ sumR l := by
  have h : sumR l = sumR (l.take k) + sumR (l.drop k) := by
    unfold sumR
    rw [← List.sum_append, ← List.map_append, List.take_append_drop]
  omega
set_option maxHeartbeats 4000000 in
theorem prelaw_good (c : Cfg) (q0 : HProp) (pv cv : Value) (progs : Progs) (calls : List (List Jb)) (hpv : ProgsG q0 pv progs) (hcv : CallsG q0 cv calls) (hja : ∀ l ∈ calls, ∀ j ∈ l, j.args.length = 4) (kad : Option Addr) (kcap : Nat) (picks : List Int) (hk : RdS dI q0 kad picks) (cut : Int) (hb : few16B c progs calls picks.length = true) (hok : c.right = true) (hn : (calls.length : Int) = c.threads) :
    Tri Tryz.prog 9 #[.agg ⟨c.v⟩, pv, cv, .slice kad picks.length kcap, .int .i64 cut] [q0] (lawQ q0) := by
  have hfew := few16_r c q0 pv cv progs calls hpv hcv kad picks.length kcap
  have hal := alive16_t
  rw [hb] at hfew
  obtain ⟨f1, f2, f3, f4, f5, f6⟩ := few16_e hb
  have hc := Cfg.small hok
  have hcd := of_decide_eq_true hok
  have hf : 0 ≤ c.fuel ∧ c.fuel ≤ 1000 := by omega
  have hlast : c.last ≤ 140737488355328 := by omega
  have ht0 := hc.t0
  have hnw := sdnew_t c q0 pv progs hpv cv calls hcv f4 f1 f2 hok hn
  have hi0 : SdI c progs (Sd.new c calls) := SdI.new hc hn hja
  have hp0 : (Sd.new c calls).picks = 0 := rfl
  have hpi : PI (Sd.new c calls) := PI.new c calls
  obtain ⟨cu, hand, hcu⟩ := AndIs.pleI cut 1023 (by decide)
  obtain ⟨pad, pcap, rfl, _⟩ := hpv
  obtain ⟨cad, ccap, rfl, _⟩ := hcv
  refine Tri.of_body (vs := [_, _, _, _, _]) Tryz.func9 rfl rfl fun w0 F => ?_
  repeat' (first | refine St.halt 6 ?_ |refine Ga ?_ | (refine Gb ?_; intro b) | (refine Gd ?_; intro g cap rest hcap) | (refine Gc ?_; intro ad cap) | (refine St.draw (id := 29) [(0, 0), (1, 1), (2, 0), (3, 0), (4, 0), (5, 0), (6, 1), (7, 1), (8, 0), (9, 0), (10, 0), (11, 0), (12, 0), (13, 0), (14, 0), (15, 1), (16, 0), (17, 1), (18, 0), (19, 0), (20, 0), (21, 0), (22, 0), (23, 0), (24, 0), (25, 1), (26, 0), (27, 1), (28, 0), (29, 0), (30, 0), (31, 0), (32, 0), (33, 0), (34, 0), (35, 1), (36, 0), (37, 1), (38, 0), (39, 0), (40, 0), (41, 0), (42, 0), (43, 0), (44, 0), (45, 1), (46, 0), (47, 1), (48, 0), (49, 0)] [] mixed (by kernel_rfl) ?_) | (refine St.draw (id := 36) [(0, 0), (1, 0), (2, 1), (3, 0), (4, 1), (5, 0), (6, 1), (7, 0), (8, 1), (9, 0), (10, 3), (11, 0), (12, 3)] [10, 12] mixed (by kernel_rfl) ?_)| refine Gl hfew ?_ | (refine Gt hal ?_; rintro _ _ ⟨rfl, rfl⟩) | (refine Gt hnw ?_; rintro _ _ ⟨Sa, pva, Ha, hpa, rfl, rfl⟩) | (refine Ge ?_ ?_ <;> (intro h; try (exfalso; omega))) | fail)
  all_goals first | (exfalso; omega) | skip
  apply Halt.go
  repeat' (first | refine Ga ?_ | (refine Gb ?_; intro b) | (refine Gd ?_; intro g cap rest hcap) | (refine Gc ?_; intro ad cap) | (refine St.draw (id := 29) [(0, 0), (1, 1), (2, 0), (3, 0), (4, 0), (5, 0), (6, 1), (7, 1), (8, 0), (9, 0), (10, 0), (11, 0), (12, 0), (13, 0), (14, 0), (15, 1), (16, 0), (17, 1), (18, 0), (19, 0), (20, 0), (21, 0), (22, 0), (23, 0), (24, 0), (25, 1), (26, 0), (27, 1), (28, 0), (29, 0), (30, 0), (31, 0), (32, 0), (33, 0), (34, 0), (35, 1), (36, 0), (37, 1), (38, 0), (39, 0), (40, 0), (41, 0), (42, 0), (43, 0), (44, 0), (45, 1), (46, 0), (47, 1), (48, 0), (49, 0)] [] mixed (by kernel_rfl) ?_) | (refine St.draw (id := 36) [(0, 0), (1, 0), (2, 1), (3, 0), (4, 1), (5, 0), (6, 1), (7, 0), (8, 1), (9, 0), (10, 3), (11, 0), (12, 3)] [10, 12] mixed (by kernel_rfl) ?_) | (refine Gt hnw ?_; rintro _ _ ⟨Sz, pvz, Hz, hpz, rfl, rfl⟩) | (refine Ge ?_ ?_ <;> (intro h; try (exfalso; omega))) | fail)
  all_goals first | (exfalso; omega) | skip
  obtain ⟨ct, hct, hcl⟩ : ∃ ct : Nat, (cu : Int) % ((picks.length : Int) + 1) = (ct : Int) ∧ ct ≤ picks.length := ⟨cu % (picks.length + 1), by rw [Int.natCast_emod, Int.natCast_add]; rfl, by have := Nat.mod_lt cu (show 0 < picks.length + 1 by omega); omega⟩
  rw [hct]
  generalize Sd.new c calls = m0 at hi0 hp0 hpi ⊢
  have hinv := fun ts => runP_inv hc hf hi0 ts
  have hpks := fun ts => runP_picks c progs ts m0
  refine St.loopY (Lr := ?Lr1) (ι := { k : Nat // k ≤ picks.length }) (fun x => picks.length - x.1) (fun x => [(76, .int .i64 (x.1 : Int))]) (fun x => [SdE Sa c pva (frz Ha) progs (runP c progs m0 (picks.take (min x.1 ct))), SdE Sz c pvz (frz Hz) progs (runP c progs m0 (picks.take x.1))]) ⟨0, Nat.zero_le _⟩ ?hE1 ?hL1 ?round1
  case hE1 => exact Sub.go
  case hL1 => rw [Nat.zero_min]; exact Takes.go
  case round1 =>
    rintro ⟨k, hk0⟩ IH; dsimp only at hk0 IH ⊢
    by_cases hlt : k < picks.length
    · obtain ⟨bf, fo, lc, l1, rfl, hrd, hdr, htk⟩ := ListR.at (f := dI) (sz := 1) (fun _ => rfl) hk k hlt
      have hnx : picks.take (k + 1) = picks.take k ++ [picks[k]] := List.take_succ_eq_append_getElem hlt
      have IH := fun E' L' => IH ⟨k + 1, hlt⟩ (E' := E') (L' := L') (by show _ - (k + 1) < _ - k; omega)
      dsimp only at IH
      by_cases hkc : k < ct
      · rw [Nat.min_eq_left (show k + 1 ≤ ct by omega), hnx] at IH
        rw [Nat.min_eq_left (show k ≤ ct by omega)]
        generalize picks[k] = t at htk hnx IH
        unfold dI at htk
        have n0 : NthN (fo + (k : Int).toNat * 1) lc _ := NthN.part hdr htk (j := 0) .zero
        rw [runP_snoc] at IH
        have hm := hinv (picks.take k)
        generalize runP c progs m0 (picks.take k) = m at hm IH ⊢
        have ha := pick_t (Sb := Sa) hc hf hlast hpa hm t
        have hz1 := pick_t (Sb := Sz) hc hf hlast hpz hm t
        repeat' (first | refine Ga ?_ | (refine Gb ?_; intro b) | (refine Gd ?_; intro g cap rest hcap) | (refine Gc ?_; intro ad cap) | (refine St.draw (id := 29) [(0, 0), (1, 1), (2, 0), (3, 0), (4, 0), (5, 0), (6, 1), (7, 1), (8, 0), (9, 0), (10, 0), (11, 0), (12, 0), (13, 0), (14, 0), (15, 1), (16, 0), (17, 1), (18, 0), (19, 0), (20, 0), (21, 0), (22, 0), (23, 0), (24, 0), (25, 1), (26, 0), (27, 1), (28, 0), (29, 0), (30, 0), (31, 0), (32, 0), (33, 0), (34, 0), (35, 1), (36, 0), (37, 1), (38, 0), (39, 0), (40, 0), (41, 0), (42, 0), (43, 0), (44, 0), (45, 1), (46, 0), (47, 1), (48, 0), (49, 0)] [] mixed (by kernel_rfl) ?_) | (refine St.draw (id := 36) [(0, 0), (1, 0), (2, 1), (3, 0), (4, 1), (5, 0), (6, 1), (7, 0), (8, 1), (9, 0), (10, 3), (11, 0), (12, 3)] [10, 12] mixed (by kernel_rfl) ?_) | (refine Gt ha ?_; rintro _ _ ⟨rfl, rfl⟩) | (refine Gt hz1 ?_; rintro _ _ ⟨rfl, rfl⟩) | (refine Ge ?_ ?_ <;> (intro h; try (exfalso; omega))) | fail)
        all_goals first | (exfalso; omega) | skip
        refine IH _ _ ?_ ?_
        · exact Sub.go
        · exact Ent.go
      · rw [Nat.min_eq_right (show ct ≤ k + 1 by omega), hnx] at IH
        rw [Nat.min_eq_right (show ct ≤ k by omega)]
        generalize picks[k] = t at htk hnx IH
        unfold dI at htk
        have n0 : NthN (fo + (k : Int).toNat * 1) lc _ := NthN.part hdr htk (j := 0) .zero
        rw [runP_snoc] at IH
        have hm := hinv (picks.take k)
        generalize runP c progs m0 (picks.take k) = m at hm IH ⊢
        have hz1 := pick_t (Sb := Sz) hc hf hlast hpz hm t
        repeat' (first | refine Ga ?_ | (refine Gb ?_; intro b) | (refine Gd ?_; intro g cap rest hcap) | (refine Gc ?_; intro ad cap) | (refine St.draw (id := 29) [(0, 0), (1, 1), (2, 0), (3, 0), (4, 0), (5, 0), (6, 1), (7, 1), (8, 0), (9, 0), (10, 0), (11, 0), (12, 0), (13, 0), (14, 0), (15, 1), (16, 0), (17, 1), (18, 0), (19, 0), (20, 0), (21, 0), (22, 0), (23, 0), (24, 0), (25, 1), (26, 0), (27, 1), (28, 0), (29, 0), (30, 0), (31, 0), (32, 0), (33, 0), (34, 0), (35, 1), (36, 0), (37, 1), (38, 0), (39, 0), (40, 0), (41, 0), (42, 0), (43, 0), (44, 0), (45, 1), (46, 0), (47, 1), (48, 0), (49, 0)] [] mixed (by kernel_rfl) ?_) | (refine St.draw (id := 36) [(0, 0), (1, 0), (2, 1), (3, 0), (4, 1), (5, 0), (6, 1), (7, 0), (8, 1), (9, 0), (10, 3), (11, 0), (12, 3)] [10, 12] mixed (by kernel_rfl) ?_) | (refine Gt hz1 ?_; rintro _ _ ⟨rfl, rfl⟩) | (refine Ge ?_ ?_ <;> (intro h; try (exfalso; omega))) | fail)
        all_goals first | (exfalso; omega) | skip
        refine IH _ _ ?_ ?_
        · exact Sub.go
        · exact Ent.go
    · obtain rfl : k = picks.length := by omega
      clear IH
      rw [Nat.min_eq_right hcl, List.take_length]
      have hma := hinv (picks.take ct)
      have hpa0 := hpks (picks.take ct)
      have hmz := hinv picks
      have hpz0 := hpks picks
      have hlat : Lat (runP c progs m0 (picks.take ct)) (runP c progs m0 picks) := by
        conv => rhs; rw [← List.take_append_drop ct picks, runP_app]
        exact ((hpi.run (c := c) (progs := progs) (picks.take ct)).1.run (c := c) (progs := progs) (picks.drop ct)).2
      have hpz1 := (hpi.run (c := c) (progs := progs) picks).1
      rw [List.length_take, Nat.min_eq_left hcl] at hpa0
      generalize runP c progs m0 (picks.take ct) = ma at hma hpa0 hlat ⊢
      generalize runP c progs m0 picks = mz at hmz hpz0 hlat hpz1 ⊢
      have hra := records_t (Sb := Sa) (pv := pva) (q := frz Ha) hma
      have hrz := records_t (Sb := Sz) (pv := pvz) (q := frz Hz) hmz
      have hpz2 := picks_r (Sb := Sz) (c := c) (pv := pvz) (q := frz Hz) (progs := progs) (m := mz)
      have hwa := rows_s (Sb := Sa) (pv := pva) (q := frz Ha) hma (by have := hma.rows; omega)
      have hwz := rows_s (Sb := Sz) (pv := pvz) (q := frz Hz) hmz (by have := hmz.rows; omega)
      repeat' (first | refine Ga ?_ | (refine Gb ?_; intro b) | (refine Gd ?_; intro g cap rest hcap) | (refine Gc ?_; intro ad cap) | (refine St.draw (id := 29) [(0, 0), (1, 1), (2, 0), (3, 0), (4, 0), (5, 0), (6, 1), (7, 1), (8, 0), (9, 0), (10, 0), (11, 0), (12, 0), (13, 0), (14, 0), (15, 1), (16, 0), (17, 1), (18, 0), (19, 0), (20, 0), (21, 0), (22, 0), (23, 0), (24, 0), (25, 1), (26, 0), (27, 1), (28, 0), (29, 0), (30, 0), (31, 0), (32, 0), (33, 0), (34, 0), (35, 1), (36, 0), (37, 1), (38, 0), (39, 0), (40, 0), (41, 0), (42, 0), (43, 0), (44, 0), (45, 1), (46, 0), (47, 1), (48, 0), (49, 0)] [] mixed (by kernel_rfl) ?_) | (refine St.draw (id := 36) [(0, 0), (1, 0), (2, 1), (3, 0), (4, 1), (5, 0), (6, 1), (7, 0), (8, 1), (9, 0), (10, 3), (11, 0), (12, 3)] [10, 12] mixed (by kernel_rfl) ?_) | (refine Gt hra ?_; rintro _ _ ⟨ra, rca, rfl, rfl⟩) | (refine Gt hrz ?_; rintro _ _ ⟨rz, rcz, rfl, rfl⟩) | (refine Ge ?_ ?_ <;> (intro h; try (exfalso; omega))) | fail)
      refine St.gather (ps := [Row (.slice ra ma.recs.length rca) 116 13 ma.recs.length (ma.recs.flatMap recV), Row (.slice rz mz.recs.length rcz) 116 13 mz.recs.length (mz.recs.flatMap recV)]) Takes.go ?_
      refine St.frz (fun H hH => ?_)
      have hH := star_sat hH
      have hla : ListR recV (frz H) (.slice ra ma.recs.length rca) ma.recs := ListR.frz rfl hH (.head _)
      have hlz : ListR recV (frz H) (.slice rz mz.recs.length rcz) mz.recs := ListR.frz rfl hH (.tail _ (.head _))
      have hral : ma.recs.length ≤ 65536 := by have := hma.recs; have := hma.picks; omega
      have hrzl : mz.recs.length ≤ 65536 := by have := hmz.recs; have := hmz.picks; omega
      have hzp := hmz.picks
      have hsm := hpz1.sum
      have hrlen := hlat.len
      clear hH hra hrz
      refine St.loopY (Lr := ?Lr2) (ι := { k : Nat // k ≤ mz.recs.length }) (fun x => mz.recs.length - x.1) (fun x => [(97, .int .i64 (x.1 : Int)), (19, .int .i64 ((sumR (mz.recs.take x.1) : Nat) : Int))]) (fun x => []) ⟨0, Nat.zero_le _⟩ ?hE2 ?hL2 ?round2
      case hE2 => exact Sub.go
      case hL2 => exact Takes.go
      case round2 =>
        rintro ⟨k, hk1⟩ IH; dsimp only at hk1 IH ⊢
        by_cases hlt : k < mz.recs.length
        · obtain ⟨zb, zo, zl, zl1, rfl, hzrd, hzdr, hztk⟩ := hlz.at' (f := recV) (sz := 13) recV_len k hlt
          have hs1 : sumR (mz.recs.take (k + 1)) = sumR (mz.recs.take k) + mz.recs[k].steps := sumR_snoc hlt
          have hs2 : sumR (mz.recs.take (k + 1)) ≤ 65536 := by have := sumR_take mz.recs (k + 1); omega
          generalize mz.recs[k] = r at hztk hs1
          obtain ⟨p1, p2, ⟨p3, p4⟩, p5, p6, p7, p8, p9, p10⟩ := r
          unfold recV jbV g4 at hztk
          dsimp only [List.cons_append, List.nil_append] at hztk hs1
          repeat' (first | refine Ga ?_ | (refine Gb ?_; intro b) | (refine Gd ?_; intro g cap rest hcap) | (refine Gc ?_; intro ad cap) | (refine St.draw (id := 29) [(0, 0), (1, 1), (2, 0), (3, 0), (4, 0), (5, 0), (6, 1), (7, 1), (8, 0), (9, 0), (10, 0), (11, 0), (12, 0), (13, 0), (14, 0), (15, 1), (16, 0), (17, 1), (18, 0), (19, 0), (20, 0), (21, 0), (22, 0), (23, 0), (24, 0), (25, 1), (26, 0), (27, 1), (28, 0), (29, 0), (30, 0), (31, 0), (32, 0), (33, 0), (34, 0), (35, 1), (36, 0), (37, 1), (38, 0), (39, 0), (40, 0), (41, 0), (42, 0), (43, 0), (44, 0), (45, 1), (46, 0), (47, 1), (48, 0), (49, 0)] [] mixed (by kernel_rfl) ?_) | (refine St.draw (id := 36) [(0, 0), (1, 0), (2, 1), (3, 0), (4, 1), (5, 0), (6, 1), (7, 0), (8, 1), (9, 0), (10, 3), (11, 0), (12, 3)] [10, 12] mixed (by kernel_rfl) ?_) | (refine Ge ?_ ?_ <;> (intro h; try (exfalso; omega))) | fail)
          all_goals first | (exfalso; omega) | skip
          refine IH ⟨k + 1, hlt⟩ (by show _ - (k + 1) < _ - k; omega) ?_ ?_
          · dsimp only; rw [hs1, Int.natCast_add]; exact Sub.go
          · exact Ent.go
        · obtain rfl : k = mz.recs.length := by omega
          clear IH
          rw [List.take_length, hsm]
          repeat' (first | refine Ga ?_ | (refine Gb ?_; intro b) | (refine Gd ?_; intro g cap rest hcap) | (refine Gc ?_; intro ad cap) | (refine St.draw (id := 29) [(0, 0), (1, 1), (2, 0), (3, 0), (4, 0), (5, 0), (6, 1), (7, 1), (8, 0), (9, 0), (10, 0), (11, 0), (12, 0), (13, 0), (14, 0), (15, 1), (16, 0), (17, 1), (18, 0), (19, 0), (20, 0), (21, 0), (22, 0), (23, 0), (24, 0), (25, 1), (26, 0), (27, 1), (28, 0), (29, 0), (30, 0), (31, 0), (32, 0), (33, 0), (34, 0), (35, 1), (36, 0), (37, 1), (38, 0), (39, 0), (40, 0), (41, 0), (42, 0), (43, 0), (44, 0), (45, 1), (46, 0), (47, 1), (48, 0), (49, 0)] [] mixed (by kernel_rfl) ?_) | (refine St.draw (id := 36) [(0, 0), (1, 0), (2, 1), (3, 0), (4, 1), (5, 0), (6, 1), (7, 0), (8, 1), (9, 0), (10, 3), (11, 0), (12, 3)] [10, 12] mixed (by kernel_rfl) ?_)| refine Gl hpz2 ?_ | (refine Ge ?_ ?_ <;> (intro h; try (exfalso; omega))) | fail)
          all_goals first | (exfalso; omega) | skip
          refine St.loopY (Lr := ?Lr3) (ι := { k : Nat // k ≤ ma.recs.length }) (fun x => ma.recs.length - x.1) (fun x => [(119, .int .i64 (x.1 : Int))]) (fun x => []) ⟨0, Nat.zero_le _⟩ ?hE3 ?hL3 ?round3
          case hE3 => exact Sub.go
          case hL3 => exact Takes.go
          case round3 =>
            rintro ⟨k, hk1⟩ IH; dsimp only at hk1 IH ⊢
            by_cases hlt : k < ma.recs.length
            · obtain ⟨ab, ao, al, al1, rfl, hard, hadr, hatk⟩ := hla.at' (f := recV) (sz := 13) recV_len k hlt
              obtain ⟨zb, zo, zl, zl1, rfl, hzrd, hzdr, hztk⟩ := hlz.at' (f := recV) (sz := 13) recV_len k (by omega)
              have e0 := getD_at ma.recs rec0 hlt
              have e1 := getD_at mz.recs rec0 (show k < mz.recs.length by omega)
              have q1 := hlat.done k hlt
              have q2 := hlat.who k hlt
              have q3 := hlat.tag k hlt
              have q4 := hlat.frm k hlt
              have q5 := hlat.steps k hlt
              rw [e0, e1] at q1 q2 q3 q4 q5
              clear e0 e1
              generalize ma.recs[k] = x at hatk q1 q2 q3 q4 q5
              generalize (mz.recs[k]'(by omega)) = y at hztk q1 q2 q3 q4 q5
              obtain ⟨p1, p2, ⟨p3, p4⟩, p5, p6, p7, p8, p9, p10⟩ := x
              obtain ⟨y1, y2, ⟨y3, y4⟩, y5, y6, y7, y8, y9, y10⟩ := y
              dsimp only at q1 q2 q3 q4 q5
              subst q2 q3 q4
              unfold recV jbV g4 at hatk hztk
              dsimp only [List.cons_append, List.nil_append] at hatk hztk
              obtain ⟨br, rfl⟩ := hztk.split
              have z0 : NthN (zo + (k : Int).toNat * 13 + 0) zl _ := NthN.part hzdr hztk (j := 0) .zero
              have z1 : NthN (zo + (k : Int).toNat * 13 + 1) zl _ := NthN.part hzdr hztk (j := 1) (.succ .zero)
              have z7 : NthN (zo + (k : Int).toNat * 13 + 7) zl _ := NthN.part hzdr hztk (j := 7) (.succ (.succ (.succ (.succ (.succ (.succ (.succ .zero)))))))
              have z9 : NthN (zo + (k : Int).toNat * 13 + 9) zl _ := NthN.part hzdr hztk (j := 9) (.succ (.succ (.succ (.succ (.succ (.succ (.succ (.succ (.succ .zero)))))))))
              cases p8 with
              | true =>
                obtain ⟨r3, r4, r6, r7, r8, r9, r10⟩ : (y3 = p3 ∧ y4 = p4 ∧ y6 = p6 ∧ y7 = p7 ∧ y8 = true ∧ y9 = p9 ∧ y10 = p10) := by
                  have q1 := q1 rfl
                  injection q1 with _ _ q1 _ a b c d e
                  injection q1 with q1 q1'
                  exact ⟨q1, q1', a, b, c, d, e⟩
                subst r3 r4 r6 r7 r8 r9 r10
                have hre := rec_eq y1 y2 y3 (y4.getD 0 0) (y4.getD 1 0) (y4.getD 2 0) (y4.getD 3 0) y5 y6 y7 true y9 y10
                repeat' (first | refine Ga ?_ | (refine Gb ?_; intro b) | (refine Gd ?_; intro g cap rest hcap) | (refine Gc ?_; intro ad cap) | (refine St.draw (id := 29) [(0, 0), (1, 1), (2, 0), (3, 0), (4, 0), (5, 0), (6, 1), (7, 1), (8, 0), (9, 0), (10, 0), (11, 0), (12, 0), (13, 0), (14, 0), (15, 1), (16, 0), (17, 1), (18, 0), (19, 0), (20, 0), (21, 0), (22, 0), (23, 0), (24, 0), (25, 1), (26, 0), (27, 1), (28, 0), (29, 0), (30, 0), (31, 0), (32, 0), (33, 0), (34, 0), (35, 1), (36, 0), (37, 1), (38, 0), (39, 0), (40, 0), (41, 0), (42, 0), (43, 0), (44, 0), (45, 1), (46, 0), (47, 1), (48, 0), (49, 0)] [] mixed (by kernel_rfl) ?_) | (refine St.draw (id := 36) [(0, 0), (1, 0), (2, 1), (3, 0), (4, 1), (5, 0), (6, 1), (7, 0), (8, 1), (9, 0), (10, 3), (11, 0), (12, 3)] [10, 12] mixed (by kernel_rfl) ?_) | (refine Ge ?_ ?_ <;> (intro h; try (exfalso; omega))) | fail)
                all_goals first | (exfalso; omega) | (exfalso; simp at h; done) | skip
                refine IH ⟨k + 1, hlt⟩ (by show _ - (k + 1) < _ - k; omega) ?_ ?_
                · exact Sub.go
                · exact Ent.go
              | false =>
                repeat' (first | refine Ga ?_ | (refine Gb ?_; intro b) | (refine Gd ?_; intro g cap rest hcap) | (refine Gc ?_; intro ad cap) | (refine St.draw (id := 29) [(0, 0), (1, 1), (2, 0), (3, 0), (4, 0), (5, 0), (6, 1), (7, 1), (8, 0), (9, 0), (10, 0), (11, 0), (12, 0), (13, 0), (14, 0), (15, 1), (16, 0), (17, 1), (18, 0), (19, 0), (20, 0), (21, 0), (22, 0), (23, 0), (24, 0), (25, 1), (26, 0), (27, 1), (28, 0), (29, 0), (30, 0), (31, 0), (32, 0), (33, 0), (34, 0), (35, 1), (36, 0), (37, 1), (38, 0), (39, 0), (40, 0), (41, 0), (42, 0), (43, 0), (44, 0), (45, 1), (46, 0), (47, 1), (48, 0), (49, 0)] [] mixed (by kernel_rfl) ?_) | (refine St.draw (id := 36) [(0, 0), (1, 0), (2, 1), (3, 0), (4, 1), (5, 0), (6, 1), (7, 0), (8, 1), (9, 0), (10, 3), (11, 0), (12, 3)] [10, 12] mixed (by kernel_rfl) ?_) | (refine Ge ?_ ?_ <;> (intro h; try (exfalso; omega))) | fail)
                all_goals first | (exfalso; omega) | (exfalso; simp at h; done) | skip
                refine IH ⟨k + 1, hlt⟩ (by show _ - (k + 1) < _ - k; omega) ?_ ?_
                · exact Sub.go
                · exact Ent.go
            · obtain rfl : k = ma.recs.length := by omega
              clear IH
              repeat' (first | refine Ga ?_ | (refine Gb ?_; intro b) | (refine Gd ?_; intro g cap rest hcap) | (refine Gc ?_; intro ad cap) | (refine St.draw (id := 29) [(0, 0), (1, 1), (2, 0), (3, 0), (4, 0), (5, 0), (6, 1), (7, 1), (8, 0), (9, 0), (10, 0), (11, 0), (12, 0), (13, 0), (14, 0), (15, 1), (16, 0), (17, 1), (18, 0), (19, 0), (20, 0), (21, 0), (22, 0), (23, 0), (24, 0), (25, 1), (26, 0), (27, 1), (28, 0), (29, 0), (30, 0), (31, 0), (32, 0), (33, 0), (34, 0), (35, 1), (36, 0), (37, 1), (38, 0), (39, 0), (40, 0), (41, 0), (42, 0), (43, 0), (44, 0), (45, 1), (46, 0), (47, 1), (48, 0), (49, 0)] [] mixed (by kernel_rfl) ?_) | (refine St.draw (id := 36) [(0, 0), (1, 0), (2, 1), (3, 0), (4, 1), (5, 0), (6, 1), (7, 0), (8, 1), (9, 0), (10, 3), (11, 0), (12, 3)] [10, 12] mixed (by kernel_rfl) ?_) | (refine Gt hwz ?_; rintro _ _ ⟨wz, wcz, rsz, hrsz, rfl, rfl⟩) | (refine Ge ?_ ?_ <;> (intro h; try (exfalso; omega))) | fail)
              all_goals first | (exfalso; omega) | skip
              revert b; intro mb
              refine St.gather (ps := [Row (.slice wz rsz.length wcz) 120 6 rsz.length (rsz.flatMap srV)]) Takes.go ?_
              refine St.frz (fun Hw hHw => ?_)
              have hHw := star_sat hHw
              have hlw : ListR srV (frz Hw) (.slice wz rsz.length wcz) rsz := ListR.frz rfl hHw (.head _)
              obtain ⟨sw, hki⟩ := hpz1.ki
              have hnd : (kyL rsz).Nodup := by
                rw [kyL_kS, hrsz]
                exact ((sortR_perm mz.rows).map keyR).nodup_iff.2 hki.nd
              have hwl : rsz.length ≤ 1000000 := by
                have h1 := congrArg List.length hrsz
                rw [sortR_len] at h1
                unfold kS at h1
                rw [List.length_map] at h1
                have := hmz.rows
                omega
              clear hHw hwz hla hlz
              refine St.loopY (Lr := ?Lr4) (ι := { k : Nat // k ≤ rsz.length }) (fun x => rsz.length - x.1) (fun x => [(179, .int .i64 (x.1 : Int))]) (fun x => [Mp mb k3 (Value.int .i64) (cntL (kyL (rsz.take x.1)))]) ⟨0, Nat.zero_le _⟩ ?hE4 ?hL4 ?round4
              case hE4 => exact Sub.go
              case hL4 => show Takes [Mp mb k3 (Value.int .i64) []] _ _; exact Takes.go
              case round4 =>
                rintro ⟨k, hk1⟩ IH; dsimp only at hk1 IH ⊢
                by_cases hlt : k < rsz.length
                · obtain ⟨zb, zo, zl, zl1, rfl, hzrd, hzdr, hztk⟩ := hlw.at' (f := srV) (sz := 6) srV_len k hlt
                  obtain ⟨hno, hpu⟩ := cnt_none hnd hlt
                  generalize rsz[k] = y at hztk hno hpu
                  obtain ⟨⟨xa, xw, xt, xc, xv, xn⟩, xad, xcap⟩ := y
                  unfold srV at hztk
                  unfold keyR at hno hpu
                  dsimp only at hztk hno hpu
                  have IH := fun E' L' => IH ⟨k + 1, hlt⟩ (E' := E') (L' := L') (by show _ - (k + 1) < _ - k; omega)
                  dsimp only at IH
                  rw [hpu] at IH
                  have hg0 : (mget (cntL (kyL (rsz.take k))) (xa, xw, xt)).getD 0 = 0 := by rw [hno]; rfl
                  generalize cntL (kyL (rsz.take k)) = mm at hno hpu hg0 IH ⊢
                  have hmm : mput (if (mget mm (xa, xw, xt)).isSome = true then mm else mput mm (xa, xw, xt) 0) (xa, xw, xt) 1 = mput mm (xa, xw, xt) 1 := by
                    rw [hno]
                    show mput (mput mm (xa, xw, xt) 0) (xa, xw, xt) 1 = _
                    exact mput_mput _ _ _ _
                  have hg2 : (mget (if (mget mm (xa, xw, xt)).isSome = true then mm else mput mm (xa, xw, xt) 0) (xa, xw, xt)).getD 0 = 0 := by
                    rw [hno]
                    show (mget (mput mm (xa, xw, xt) 0) (xa, xw, xt)).getD 0 = 0
                    rw [mgetK_mput, if_pos rfl]; rfl
                  repeat' (first | refine Ga ?_ | (refine Gb ?_; intro b) | (refine Gd ?_; intro g cap rest hcap) | (refine Gc ?_; intro ad cap) | (refine St.draw (id := 29) [(0, 0), (1, 1), (2, 0), (3, 0), (4, 0), (5, 0), (6, 1), (7, 1), (8, 0), (9, 0), (10, 0), (11, 0), (12, 0), (13, 0), (14, 0), (15, 1), (16, 0), (17, 1), (18, 0), (19, 0), (20, 0), (21, 0), (22, 0), (23, 0), (24, 0), (25, 1), (26, 0), (27, 1), (28, 0), (29, 0), (30, 0), (31, 0), (32, 0), (33, 0), (34, 0), (35, 1), (36, 0), (37, 1), (38, 0), (39, 0), (40, 0), (41, 0), (42, 0), (43, 0), (44, 0), (45, 1), (46, 0), (47, 1), (48, 0), (49, 0)] [] mixed (by kernel_rfl) ?_) | (refine St.drawT (id := 36) [(0, 0), (1, 0), (2, 1), (3, 0), (4, 1), (5, 0), (6, 1), (7, 0)] (.pick [(8, 2), (9, 0), (10, 3), (11, 0), (12, 3)] .done (.pick [(10, 3), (11, 0), (8, 2), (9, 0), (12, 3)] .done .nope)) [10, 12] mixed (by kernel_rfl) ?_) | apply StD.pick | exact StD.nope  | (apply Zq; rfl; exact Ob; exact Ent.go) | (refine Ge ?_ ?_ <;> (intro h; try (exfalso; omega))) | fail)
                  (apply StD.v0 (v := k3 (xa, xw, xt)); rfl; (apply OpV.buildA; (focus (repeat (first | rfl | constructor))); (focus (repeat (first | exact Fill.nil | (apply Fill.cons; exact ⟨rfl, rfl⟩; rfl; (focus (first | assumption | (repeat constructor)))))))); rfl)
                  repeat' (first | refine Ga ?_ | (refine Gb ?_; intro b) | (refine Gd ?_; intro g cap rest hcap) | (refine Gc ?_; intro ad cap) | (refine St.draw (id := 29) [(0, 0), (1, 1), (2, 0), (3, 0), (4, 0), (5, 0), (6, 1), (7, 1), (8, 0), (9, 0), (10, 0), (11, 0), (12, 0), (13, 0), (14, 0), (15, 1), (16, 0), (17, 1), (18, 0), (19, 0), (20, 0), (21, 0), (22, 0), (23, 0), (24, 0), (25, 1), (26, 0), (27, 1), (28, 0), (29, 0), (30, 0), (31, 0), (32, 0), (33, 0), (34, 0), (35, 1), (36, 0), (37, 1), (38, 0), (39, 0), (40, 0), (41, 0), (42, 0), (43, 0), (44, 0), (45, 1), (46, 0), (47, 1), (48, 0), (49, 0)] [] mixed (by kernel_rfl) ?_) | (refine St.drawT (id := 36) [(0, 0), (1, 0), (2, 1), (3, 0), (4, 1), (5, 0), (6, 1), (7, 0)] (.pick [(8, 2), (9, 0), (10, 3), (11, 0), (12, 3)] .done (.pick [(10, 3), (11, 0), (8, 2), (9, 0), (12, 3)] .done .nope)) [10, 12] mixed (by kernel_rfl) ?_) | apply StD.pick | exact StD.nope  | (apply Zq; rfl; exact Ob; exact Ent.go) | (refine Ge ?_ ?_ <;> (intro h; try (exfalso; omega))) | fail)
                  · skip
                    (apply StD.ok3; rfl; (apply OpOk.mapEntry (k := (xa, xw, xt)); rfl; rfl; (focus (repeat first | exact Take.here | apply Take.there))); rfl)
                    rintro _ _ ⟨st, rfl, rfl⟩
                    repeat' (first | refine Ga ?_ | (refine Gb ?_; intro b) | (refine Gd ?_; intro g cap rest hcap) | (refine Gc ?_; intro ad cap) | (refine St.draw (id := 29) [(0, 0), (1, 1), (2, 0), (3, 0), (4, 0), (5, 0), (6, 1), (7, 1), (8, 0), (9, 0), (10, 0), (11, 0), (12, 0), (13, 0), (14, 0), (15, 1), (16, 0), (17, 1), (18, 0), (19, 0), (20, 0), (21, 0), (22, 0), (23, 0), (24, 0), (25, 1), (26, 0), (27, 1), (28, 0), (29, 0), (30, 0), (31, 0), (32, 0), (33, 0), (34, 0), (35, 1), (36, 0), (37, 1), (38, 0), (39, 0), (40, 0), (41, 0), (42, 0), (43, 0), (44, 0), (45, 1), (46, 0), (47, 1), (48, 0), (49, 0)] [] mixed (by kernel_rfl) ?_) | (refine St.drawT (id := 36) [(0, 0), (1, 0), (2, 1), (3, 0), (4, 1), (5, 0), (6, 1), (7, 0)] (.pick [(8, 2), (9, 0), (10, 3), (11, 0), (12, 3)] .done (.pick [(10, 3), (11, 0), (8, 2), (9, 0), (12, 3)] .done .nope)) [10, 12] mixed (by kernel_rfl) ?_) | apply StD.pick | exact StD.nope  | (apply Zq; rfl; exact Ob; exact Ent.go) | (refine Ge ?_ ?_ <;> (intro h; try (exfalso; omega))) | fail)
                    all_goals first | (exfalso; omega) | skip
                    refine IH _ _ ?_ ?_
                    · exact Sub.go
                    · rw [hg0, show (0 : Int) + 1 = 1 from rfl, hmm]
                      exact Ent.go
                  · skip
                    (apply StD.ok3; rfl; (apply OpOk.mapEntry (k := (xa, xw, xt)); rfl; rfl; (focus (repeat first | exact Take.here | apply Take.there))); rfl)
                    rintro _ _ ⟨st, rfl, rfl⟩
                    repeat' (first | refine Ga ?_ | (refine Gb ?_; intro b) | (refine Gd ?_; intro g cap rest hcap) | (refine Gc ?_; intro ad cap) | (refine St.draw (id := 29) [(0, 0), (1, 1), (2, 0), (3, 0), (4, 0), (5, 0), (6, 1), (7, 1), (8, 0), (9, 0), (10, 0), (11, 0), (12, 0), (13, 0), (14, 0), (15, 1), (16, 0), (17, 1), (18, 0), (19, 0), (20, 0), (21, 0), (22, 0), (23, 0), (24, 0), (25, 1), (26, 0), (27, 1), (28, 0), (29, 0), (30, 0), (31, 0), (32, 0), (33, 0), (34, 0), (35, 1), (36, 0), (37, 1), (38, 0), (39, 0), (40, 0), (41, 0), (42, 0), (43, 0), (44, 0), (45, 1), (46, 0), (47, 1), (48, 0), (49, 0)] [] mixed (by kernel_rfl) ?_) | (refine St.drawT (id := 36) [(0, 0), (1, 0), (2, 1), (3, 0), (4, 1), (5, 0), (6, 1), (7, 0)] (.pick [(8, 2), (9, 0), (10, 3), (11, 0), (12, 3)] .done (.pick [(10, 3), (11, 0), (8, 2), (9, 0), (12, 3)] .done .nope)) [10, 12] mixed (by kernel_rfl) ?_) | apply StD.pick | exact StD.nope  | (apply Zq; rfl; exact Ob; exact Ent.go) | (refine Ge ?_ ?_ <;> (intro h; try (exfalso; omega))) | fail)
                    (apply StD.v2; rfl; (exact OpV.lookup1 (k := (xa, xw, xt)) rfl rfl (ReadsM.here RdM.mps)); rfl)
                    repeat' (first | refine Ga ?_ | (refine Gb ?_; intro b) | (refine Gd ?_; intro g cap rest hcap) | (refine Gc ?_; intro ad cap) | (refine St.draw (id := 29) [(0, 0), (1, 1), (2, 0), (3, 0), (4, 0), (5, 0), (6, 1), (7, 1), (8, 0), (9, 0), (10, 0), (11, 0), (12, 0), (13, 0), (14, 0), (15, 1), (16, 0), (17, 1), (18, 0), (19, 0), (20, 0), (21, 0), (22, 0), (23, 0), (24, 0), (25, 1), (26, 0), (27, 1), (28, 0), (29, 0), (30, 0), (31, 0), (32, 0), (33, 0), (34, 0), (35, 1), (36, 0), (37, 1), (38, 0), (39, 0), (40, 0), (41, 0), (42, 0), (43, 0), (44, 0), (45, 1), (46, 0), (47, 1), (48, 0), (49, 0)] [] mixed (by kernel_rfl) ?_) | (refine St.drawT (id := 36) [(0, 0), (1, 0), (2, 1), (3, 0), (4, 1), (5, 0), (6, 1), (7, 0)] (.pick [(8, 2), (9, 0), (10, 3), (11, 0), (12, 3)] .done (.pick [(10, 3), (11, 0), (8, 2), (9, 0), (12, 3)] .done .nope)) [10, 12] mixed (by kernel_rfl) ?_) | apply StD.pick | exact StD.nope  | (apply Zq; rfl; exact Ob; exact Ent.go) | (refine Ge ?_ ?_ <;> (intro h; try (exfalso; omega))) | fail)
                    all_goals first | (exfalso; omega) | skip
                    refine IH _ _ ?_ ?_
                    · exact Sub.go
                    · rw [hg2, show (0 : Int) + 1 = 1 from rfl, hmm]
                      exact Ent.go
                · obtain rfl : k = rsz.length := by omega
                  clear IH
                  rw [List.take_length]
                  repeat' (first | refine Ga ?_ | (refine Gb ?_; intro b) | (refine Gd ?_; intro g cap rest hcap) | (refine Gc ?_; intro ad cap) | (refine St.draw (id := 29) [(0, 0), (1, 1), (2, 0), (3, 0), (4, 0), (5, 0), (6, 1), (7, 1), (8, 0), (9, 0), (10, 0), (11, 0), (12, 0), (13, 0), (14, 0), (15, 1), (16, 0), (17, 1), (18, 0), (19, 0), (20, 0), (21, 0), (22, 0), (23, 0), (24, 0), (25, 1), (26, 0), (27, 1), (28, 0), (29, 0), (30, 0), (31, 0), (32, 0), (33, 0), (34, 0), (35, 1), (36, 0), (37, 1), (38, 0), (39, 0), (40, 0), (41, 0), (42, 0), (43, 0), (44, 0), (45, 1), (46, 0), (47, 1), (48, 0), (49, 0)] [] mixed (by kernel_rfl) ?_) | (refine St.draw (id := 36) [(0, 0), (1, 0), (2, 1), (3, 0), (4, 1), (5, 0), (6, 1), (7, 0), (8, 1), (9, 0), (10, 3), (11, 0), (12, 3)] [10, 12] mixed (by kernel_rfl) ?_) | (refine Gt hwa ?_; rintro _ _ ⟨wa, wca, rsa, hrsa, rfl, rfl⟩) | (refine Ge ?_ ?_ <;> (intro h; try (exfalso; omega))) | fail)
                  all_goals first | (exfalso; omega) | skip
                  refine St.gather (ps := [Row (.slice wa rsa.length wca) 120 6 rsa.length (rsa.flatMap srV)]) Takes.go ?_
                  refine St.frz (fun Hx hHx => ?_)
                  have hHx := star_sat hHx
                  have hlx : ListR srV (frz Hx) (.slice wa rsa.length wca) rsa := ListR.frz rfl hHx (.head _)
                  have hmem : ∀ r ∈ rsa, keyR r.1 ∈ kyL rsz := fun r hr => by
                    obtain ⟨l, hl⟩ := hlat.rows
                    have h1 : r.1 ∈ kS rsa := List.mem_map.2 ⟨r, hr, rfl⟩
                    rw [hrsa] at h1
                    have h2 := (sortR_perm ma.rows).mem_iff.1 h1
                    rw [kyL_kS, hrsz]
                    refine List.mem_map.2 ⟨r.1, (sortR_perm mz.rows).mem_iff.2 ?_, rfl⟩
                    rw [hl]; exact List.mem_append_left _ h2
                  have hxl : rsa.length ≤ 1000000 := by
                    have h1 := congrArg List.length hrsa
                    rw [sortR_len] at h1
                    unfold kS at h1
                    rw [List.length_map] at h1
                    have := hma.rows
                    omega
                  clear hHx hwa
                  refine St.loopY (Lr := ?Lr5) (ι := { k : Nat // k ≤ rsa.length }) (fun x => rsa.length - x.1) (fun x => [(199, .int .i64 (x.1 : Int))]) (fun x => []) ⟨0, Nat.zero_le _⟩ ?hE5 ?hL5 ?round5
                  case hE5 => exact Sub.go
                  case hL5 => exact Takes.go
                  case round5 =>
                    rintro ⟨k, hk1⟩ IH; dsimp only at hk1 IH ⊢
                    by_cases hlt : k < rsa.length
                    · obtain ⟨zb, zo, zl, zl1, rfl, hzrd, hzdr, hztk⟩ := hlx.at' (f := srV) (sz := 6) srV_len k hlt
                      have hin := hmem _ (List.getElem_mem hlt)
                      generalize rsa[k] = y at hztk hin
                      obtain ⟨⟨xa, xw, xt, xc, xv, xn⟩, xad, xcap⟩ := y
                      unfold srV at hztk
                      unfold keyR at hin
                      dsimp only at hztk hin
                      have hg1 : (mget (cntL (kyL rsz)) (xa, xw, xt)).getD 0 = 1 := by rw [cntL_get hnd, if_pos hin]; rfl
                      repeat' (first | refine Ga ?_ | (refine Gb ?_; intro b) | (refine Gd ?_; intro g cap rest hcap) | (refine Gc ?_; intro ad cap) | (refine St.draw (id := 29) [(0, 0), (1, 1), (2, 0), (3, 0), (4, 0), (5, 0), (6, 1), (7, 1), (8, 0), (9, 0), (10, 0), (11, 0), (12, 0), (13, 0), (14, 0), (15, 1), (16, 0), (17, 1), (18, 0), (19, 0), (20, 0), (21, 0), (22, 0), (23, 0), (24, 0), (25, 1), (26, 0), (27, 1), (28, 0), (29, 0), (30, 0), (31, 0), (32, 0), (33, 0), (34, 0), (35, 1), (36, 0), (37, 1), (38, 0), (39, 0), (40, 0), (41, 0), (42, 0), (43, 0), (44, 0), (45, 1), (46, 0), (47, 1), (48, 0), (49, 0)] [] mixed (by kernel_rfl) ?_) | (refine St.draw (id := 36) [(0, 0), (1, 0), (2, 1), (3, 0), (4, 1), (5, 0), (6, 1), (7, 0), (8, 1), (9, 0), (10, 3), (11, 0), (12, 3)] [10, 12] mixed (by kernel_rfl) ?_) | (refine Ge ?_ ?_ <;> (intro h; try (exfalso; omega))) | fail)
                      (apply StL.v (v := k3 (xa, xw, xt)); (apply OpV.buildA; (focus (repeat (first | rfl | constructor))); (focus (repeat (first | exact Fill.nil | (apply Fill.cons; exact ⟨rfl, rfl⟩; rfl; (focus (first | assumption | (repeat constructor)))))))); rfl)
                      repeat' (first | refine Ga ?_ | (refine Gb ?_; intro b) | (refine Gd ?_; intro g cap rest hcap) | (refine Gc ?_; intro ad cap) | (refine St.draw (id := 29) [(0, 0), (1, 1), (2, 0), (3, 0), (4, 0), (5, 0), (6, 1), (7, 1), (8, 0), (9, 0), (10, 0), (11, 0), (12, 0), (13, 0), (14, 0), (15, 1), (16, 0), (17, 1), (18, 0), (19, 0), (20, 0), (21, 0), (22, 0), (23, 0), (24, 0), (25, 1), (26, 0), (27, 1), (28, 0), (29, 0), (30, 0), (31, 0), (32, 0), (33, 0), (34, 0), (35, 1), (36, 0), (37, 1), (38, 0), (39, 0), (40, 0), (41, 0), (42, 0), (43, 0), (44, 0), (45, 1), (46, 0), (47, 1), (48, 0), (49, 0)] [] mixed (by kernel_rfl) ?_) | (refine St.draw (id := 36) [(0, 0), (1, 0), (2, 1), (3, 0), (4, 1), (5, 0), (6, 1), (7, 0), (8, 1), (9, 0), (10, 3), (11, 0), (12, 3)] [10, 12] mixed (by kernel_rfl) ?_) | (refine Ge ?_ ?_ <;> (intro h; try (exfalso; omega))) | fail)
                      all_goals first | (exfalso; omega) | skip
                      refine IH ⟨k + 1, hlt⟩ (by show _ - (k + 1) < _ - k; omega) ?_ ?_
                      · exact Sub.go
                      · exact Ent.go
                    · obtain rfl : k = rsa.length := by omega
                      clear IH
                      repeat' (first | refine Ga ?_ | (refine Gb ?_; intro b) | (refine Gd ?_; intro g cap rest hcap) | (refine Gc ?_; intro ad cap) | (refine St.draw (id := 29) [(0, 0), (1, 1), (2, 0), (3, 0), (4, 0), (5, 0), (6, 1), (7, 1), (8, 0), (9, 0), (10, 0), (11, 0), (12, 0), (13, 0), (14, 0), (15, 1), (16, 0), (17, 1), (18, 0), (19, 0), (20, 0), (21, 0), (22, 0), (23, 0), (24, 0), (25, 1), (26, 0), (27, 1), (28, 0), (29, 0), (30, 0), (31, 0), (32, 0), (33, 0), (34, 0), (35, 1), (36, 0), (37, 1), (38, 0), (39, 0), (40, 0), (41, 0), (42, 0), (43, 0), (44, 0), (45, 1), (46, 0), (47, 1), (48, 0), (49, 0)] [] mixed (by kernel_rfl) ?_) | (refine St.draw (id := 36) [(0, 0), (1, 0), (2, 1), (3, 0), (4, 1), (5, 0), (6, 1), (7, 0), (8, 1), (9, 0), (10, 3), (11, 0), (12, 3)] [10, 12] mixed (by kernel_rfl) ?_) | (refine Ge ?_ ?_ <;> (intro h; try (exfalso; omega))) | fail)
                      all_goals first | (exfalso; omega) | skip
                      refine St.d1 Tryz.func9 ⟨_, ⟨rfl, rfl⟩, Ent.go⟩
theorem prelaw_t (c : Cfg) (q0 : HProp) (pv cv : Value) (progs : Progs) (calls : List (List Jb)) (hpv : ProgsG q0 pv progs) (hcv : CallsG q0 cv calls) (hja : ∀ l ∈ calls, ∀ j ∈ l, j.args.length = 4) (kad : Option Addr) (kcap : Nat) (picks : List Int) (hk : RdS dI q0 kad picks) (cut : Int) :
    Tri Tryz.prog 9 #[.agg ⟨c.v⟩, pv, cv, .slice kad picks.length kcap, .int .i64 cut] [q0] (lawQ q0) := by
  cases hb : few16B c progs calls picks.length with
  | true =>
    by_cases hn : c.right = true ∧ (calls.length : Int) = c.threads
    · exact prelaw_good c q0 pv cv progs calls hpv hcv hja kad kcap picks hk cut hb hn.1 hn.2
    · exact prelaw_bad c q0 pv cv progs calls hpv hcv kad picks.length kcap cut hb hn
  | false => exact prelaw_few c q0 pv cv progs calls hpv hcv kad picks.length kcap cut hb
end Go.Proofs.YtemaaenipjinaaaGreat
