/-
  Package tumblerlaw21: ChainOrders.
-/
import Derived.Test.YtalgmlhcbilicaaGreatDoorCm
import Derived.Test.YtalgmlhcbilicaaGreatDoorCf
namespace Go.Proofs.YtalgmlhcbilicaaGreatDoor
set_option maxRecDepth 100000
section lists
theorem mem_insL' {v x : Nat} {ks : List Nat} : x ∈ insL v ks ↔ x = v ∨ x ∈ ks := by
  have h := List.takeWhile_append_dropWhile (p := fun x => decide (x < v)) (l := ks)
  unfold insL loL hiL
  rw [List.mem_append, List.mem_cons]
  conv => rhs; rw [← h]
  rw [List.mem_append]
  constructor
  · rintro (h | h | h)
    · exact .inr (.inl h)
    · exact .inl h
    · exact .inr (.inr h)
  · rintro (h | h | h)
    · exact .inr (.inl h)
    · exact .inl h
    · exact .inr (.inr h)
theorem mem_delL {v x : Nat} {ks : List Nat} : x ∈ delL v ks ↔ x ∈ ks ∧ x ≠ v := by
  unfold delL
  rw [List.mem_filter]
  simp
def addL (v : Nat) (ks : List Nat) : List Nat := if v ∈ ks then ks else insL v ks
def setL (l : List Nat) : List Nat := l.foldl (fun ks v => addL v ks) []
theorem mem_addL {v x : Nat} {ks : List Nat} : x ∈ addL v ks ↔ x = v ∨ x ∈ ks := by
  unfold addL
  by_cases h : v ∈ ks
  · rw [if_pos h]
    exact ⟨.inr, fun h2 => h2.elim (fun e => by rw [e]; exact h) id⟩
  · rw [if_neg h]
    exact mem_insL'
theorem addL_len (v : Nat) (ks : List Nat) : (addL v ks).length ≤ ks.length + 1 := by
  unfold addL
  split
  · omega
  · rw [insL_len]; omega
theorem setL_snoc (l : List Nat) (v : Nat) : setL (l ++ [v]) = addL v (setL l) := by
  unfold setL
  rw [List.foldl_append]; rfl
theorem mem_setL {x : Nat} (l : List Nat) : x ∈ setL l ↔ x ∈ l := by
  have key : ∀ (l acc : List Nat), x ∈ l.foldl (fun ks v => addL v ks) acc ↔ x ∈ acc ∨ x ∈ l := by
    intro l
    induction l with
    | nil => intro acc; simp
    | cons v l ih =>
      intro acc
      rw [List.foldl_cons, ih, mem_addL, List.mem_cons]
      constructor
      · rintro ((h | h) | h)
        · exact .inr (.inl h)
        · exact .inl h
        · exact .inr (.inr h)
      · rintro (h | h | h)
        · exact .inl (.inr h)
        · exact .inl (.inl h)
        · exact .inr h
  exact (key l []).trans ⟨fun h => h.elim (fun h => (by cases h)) id, .inr⟩
theorem setL_len (l : List Nat) : (setL l).length ≤ l.length := by
  have key : ∀ (l acc : List Nat), (l.foldl (fun ks v => addL v ks) acc).length ≤ acc.length + l.length := by
    intro l
    induction l with
    | nil => intro acc; exact Nat.le_refl _
    | cons v l ih =>
      intro acc
      have h1 := ih (addL v acc)
      have h2 := addL_len v acc
      rw [List.foldl_cons, List.length_cons]
      omega
  have := key l []
  unfold setL
  simpa using this
theorem rising_eq : ∀ {xs ys : List Nat}, xs.Pairwise (· < ·) → ys.Pairwise (· < ·) → (∀ z, z ∈ xs ↔ z ∈ ys) → xs = ys
  | [], [], _, _, _ => rfl
  | [], y :: ys, _, _, h => absurd ((h y).mpr (by simp)) (by simp)
  | x :: xs, [], _, _, h => absurd ((h x).mp (by simp)) (by simp)
  | x :: xs, y :: ys, hx, hy, h => by
    obtain ⟨hx1, hx2⟩ := List.pairwise_cons.mp hx
    obtain ⟨hy1, hy2⟩ := List.pairwise_cons.mp hy
    have e : x = y := by
      rcases List.mem_cons.mp ((h x).mp (by simp)) with e | a
      · exact e
      rcases List.mem_cons.mp ((h y).mpr (by simp)) with e | b
      · exact e.symm
      have := hy1 x a
      have := hx1 y b
      omega
    subst e
    rw [rising_eq hx2 hy2 fun z => ?_]
    constructor
    · intro hz
      rcases List.mem_cons.mp ((h z).mp (List.mem_cons_of_mem _ hz)) with e | a
      · have := hx1 z hz; omega
      · exact a
    · intro hz
      rcases List.mem_cons.mp ((h z).mpr (List.mem_cons_of_mem _ hz)) with e | a
      · have := hy1 z hz; omega
      · exact a
/-- which one is put into the other set -/
def turnI (n c j : Nat) : Nat := ((n - 1 - j) + c) % n
def turnL (aa : List Nat) (c k : Nat) : List Nat := (List.range k).map fun j => aa.getD (turnI aa.length c j) 0
theorem turnL_snoc (aa : List Nat) (c k : Nat) : turnL aa c (k + 1) = turnL aa c k ++ [aa.getD (turnI aa.length c k) 0] := by
  unfold turnL
  rw [List.range_succ, List.map_append]; rfl
theorem turnI_inv {n i : Nat} (c : Nat) (hi : i < n) : turnI n c ((n - 1 + c + n - i) % n) = i := by
  have h0 : 0 < n := by omega
  unfold turnI
  have h1 := Nat.div_add_mod (n - 1 + c + n - i) n
  have h2 := Nat.mod_lt (n - 1 + c + n - i) h0
  have h3 : 1 ≤ (n - 1 + c + n - i) / n := (Nat.one_le_div_iff h0).mpr (by omega)
  generalize (n - 1 + c + n - i) % n = j at *
  obtain ⟨p, hp⟩ : ∃ p, (n - 1 + c + n - i) / n = p + 1 := ⟨_, (Nat.sub_add_cancel h3).symm⟩
  rw [hp, Nat.mul_add, Nat.mul_one] at h1
  have h4 : n - 1 - j + c = i + n * p := by omega
  rw [h4, Nat.add_mul_mod_self_left, Nat.mod_eq_of_lt hi]
theorem mem_turnL (aa : List Nat) (c x : Nat) : x ∈ turnL aa c aa.length ↔ x ∈ aa := by
  unfold turnL
  rw [List.mem_map]
  constructor
  · rintro ⟨j, hj, rfl⟩
    rw [List.mem_range] at hj
    have : turnI aa.length c j < aa.length := Nat.mod_lt _ (by omega)
    rw [List.getD_eq_getElem?_getD, List.getElem?_eq_getElem this]
    exact List.getElem_mem this
  · intro hx
    obtain ⟨i, hi, rfl⟩ := List.getElem_of_mem hx
    have h0 : 0 < aa.length := by omega
    refine ⟨(aa.length - 1 + c + aa.length - i) % aa.length, List.mem_range.mpr (Nat.mod_lt _ h0), ?_⟩
    rw [turnI_inv c hi, List.getD_eq_getElem?_getD, List.getElem?_eq_getElem hi]; rfl
end lists
theorem AndIs.leI (a : Int) (b : Nat) (hb : b < 9223372036854775808) : ∃ c : Int, AndIs .i64 a (b : Int) c ∧ 0 ≤ c ∧ c ≤ b := by
  have e1 : (BitVec.ofInt 64 (b : Int)).toNat = b := by
    rw [BitVec.toNat_ofInt]
    have : (2 : Nat) ^ 64 = 18446744073709551616 := by decide
    omega
  have e2 : (BitVec.ofInt 64 a &&& BitVec.ofInt 64 (b : Int)).toNat ≤ b := by
    rw [BitVec.toNat_and, e1]
    exact Nat.and_le_right
  refine ⟨((BitVec.ofInt 64 a &&& BitVec.ofInt 64 (b : Int)).toNat : Int), ?_, by omega, by omega⟩
  unfold AndIs
  rw [show IntKind.i64.bits = 64 from rfl]
  exact wrap_fits (by simp only [fits]; omega)
theorem doesM_add {ks : List Nat} (h : ks.length < 40) (v : Nat) : doesM 1 (some ⟨40, ks⟩) v = (some ⟨40, addL v ks⟩, 0, if v ∈ ks then 0 else 1) := by
  unfold addL
  show (if v ∈ ks then (some (Qu.mk 40 ks), (0 : Int), 0) else if 40 ≤ ks.length then _ else _) = _
  by_cases hm : v ∈ ks
  · rw [if_pos hm, if_pos hm, if_pos hm]
  · rw [if_neg hm, if_neg hm, if_neg hm, if_neg (by omega)]
abbrev N64 := { x : Nat // x < 18446744073709551616 }
def n64V (x : N64) : List Value := [.int .u64 (x.1 : Int)]
theorem gets64 (A : List N64) (i : Nat) (hi : i < A.length) : (A.map (·.1)).getD i 0 = (A[i]).1 := by
  rw [List.getD_eq_getElem?_getD, List.getElem?_map, List.getElem?_eq_getElem hi]; rfl
theorem dec_some (S : Nat) {m : Ms} {own ls : List Nat} {n : Nat} (hi : QInv m 0 (some ⟨40, ls⟩) own n) (hl : ls.length ≤ 60) : Tri Tryz.prog 10 #[.pointer (some ⟨S, 0, none⟩), .int .i64 0] [MsE S m]
    fun v L => ∃ pv H, v = .tuple ⟨[pv, .int .i64 0]⟩ ∧ QuR H pv (some ⟨40, ls⟩) ∧ L = [H, MsE S m] := by
  have h := decode_t S m hi.ok ((0 : Nat) : Int)
  rw [decM_rep hi.rep (by decide) hl] at h
  exact h
theorem same2_r (H1 H2 : HProp) (v u : Value) (xs : List Nat) (hv : SlR H1 v xs) (hu : SlR H2 u xs) (hln : xs.length ≤ 1000000) : RTri Tryz.prog 19 #[v, u] [H1, H2] (.bool true) := by
  have h := (rsame_r (star [H1, H2]) v u xs xs (hv.weak fun b l h => RdC.star (p := H1) (.head _) h) (hu.weak fun b l h => RdC.star (p := H2) (.tail _ (.head _)) h) hln).ent (Ent.star_in [H1, H2] (M := []))
  rw [show decide (xs = xs) = true from decide_eq_true rfl] at h
  exact h
set_option maxHeartbeats 4000000 in
theorem qorders_t (q : HProp) (av bv : Value) (aa bs : List N64) (turn : Int) (ha : ListR n64V q av aa) (hb : ListR n64V q bv bs) : Tri Tryz.prog 7 #[av, bv, .int .i64 turn] [q] fun v L => v = .bool true ∧ L = [q] := by
  obtain ⟨aad, acap, rfl, _, ha⟩ := ha
  obtain ⟨bad, bcap, rfl, _, hb⟩ := hb
  by_cases h15 : 15 < aa.length ∨ 15 < bs.length
  · by_cases h15a : 15 < aa.length
    · refine Tri.of_body (vs := [_, _, _]) Tryz.func7 rfl rfl fun w0 F => ?_
      repeat' (first | refine Ga ?_ | (refine Gb ?_; intro b) | (refine Gd ?_; intro g cap rest hcap) | (refine Gc ?_; intro ad cap) | (refine St.draw (id := 16) [(0, 0), (1, 0), (2, 0), (3, 0), (4, 0), (5, 0), (6, 0), (7, 0), (8, 0), (9, 0), (10, 1), (11, 0), (12, 0), (13, 0), (14, 1), (15, 1), (16, 0), (17, 0)] [] mixed (by kernel_rfl) ?_) | (refine St.draw (id := 32) [(0, 0), (1, 0), (2, 0), (3, 0), (4, 0), (5, 0), (6, 1), (7, 0), (8, 0), (9, 0), (10, 1), (11, 1), (12, 0), (13, 0), (14, 0), (17, 0), (18, 0), (19, 0), (20, 1), (21, 0), (22, 0), (15, 3), (16, 0), (23, 0), (24, 0), (25, 0)] [15] mixed (by kernel_rfl) ?_) | (refine Gt alive_t ?_; rintro _ _ ⟨rfl, rfl⟩) | (refine Ge ?_ ?_ <;> (intro h; try (exfalso; omega))) | fail)
      all_goals first | (exfalso; omega) | skip
      refine St.d1 Tryz.func7 ⟨_, ⟨rfl, rfl⟩, Ent.go⟩
    · have h15b : 15 < bs.length := by omega
      refine Tri.of_body (vs := [_, _, _]) Tryz.func7 rfl rfl fun w0 F => ?_
      repeat' (first | refine Ga ?_ | (refine Gb ?_; intro b) | (refine Gd ?_; intro g cap rest hcap) | (refine Gc ?_; intro ad cap) | (refine St.draw (id := 16) [(0, 0), (1, 0), (2, 0), (3, 0), (4, 0), (5, 0), (6, 0), (7, 0), (8, 0), (9, 0), (10, 1), (11, 0), (12, 0), (13, 0), (14, 1), (15, 1), (16, 0), (17, 0)] [] mixed (by kernel_rfl) ?_) | (refine St.draw (id := 32) [(0, 0), (1, 0), (2, 0), (3, 0), (4, 0), (5, 0), (6, 1), (7, 0), (8, 0), (9, 0), (10, 1), (11, 1), (12, 0), (13, 0), (14, 0), (17, 0), (18, 0), (19, 0), (20, 1), (21, 0), (22, 0), (15, 3), (16, 0), (23, 0), (24, 0), (25, 0)] [15] mixed (by kernel_rfl) ?_) | (refine Gt alive_t ?_; rintro _ _ ⟨rfl, rfl⟩) | (refine Ge ?_ ?_ <;> (intro h; try (exfalso; omega))) | fail)
      all_goals first | (exfalso; omega) | skip
      refine St.d1 Tryz.func7 ⟨_, ⟨rfl, rfl⟩, Ent.go⟩
  have h15a : ¬15 < aa.length := fun h => h15 (.inl h)
  have h15b : ¬15 < bs.length := fun h => h15 (.inr h)
  clear h15
  obtain ⟨c, hand, hc0, hc1⟩ := AndIs.leI turn 63 (by decide)
  rw [show ((63 : Nat) : Int) = 63 from rfl] at hand hc1
  have hal : (aa.map (·.1)).length = aa.length := List.length_map _
  have hnew := fun S => run_of S (qinv0 0) (by decide) 0 40 (by decide) (by decide) (by decide) (q' := some ⟨40, []⟩) (c := 0) (v := 0) rfl
  refine Tri.of_body (vs := [_, _, _]) Tryz.func7 rfl rfl fun w0 F => ?_
  repeat' (first | refine St.halt 6 ?_ |refine Ga ?_ | (refine Gb ?_; intro b) | (refine Gd ?_; intro g cap rest hcap) | (refine Gc ?_; intro ad cap) | (refine St.draw (id := 16) [(0, 0), (1, 0), (2, 0), (3, 0), (4, 0), (5, 0), (6, 0), (7, 0), (8, 0), (9, 0), (10, 1), (11, 0), (12, 0), (13, 0), (14, 1), (15, 1), (16, 0), (17, 0)] [] mixed (by kernel_rfl) ?_) | (refine St.draw (id := 32) [(0, 0), (1, 0), (2, 0), (3, 0), (4, 0), (5, 0), (6, 1), (7, 0), (8, 0), (9, 0), (10, 1), (11, 1), (12, 0), (13, 0), (14, 0), (17, 0), (18, 0), (19, 0), (20, 1), (21, 0), (22, 0), (15, 3), (16, 0), (23, 0), (24, 0), (25, 0)] [15] mixed (by kernel_rfl) ?_) | (refine Gt alive_t ?_; rintro _ _ ⟨rfl, rfl⟩) | (refine Gt mnew_t ?_; rintro _ _ ⟨S, rfl, rfl⟩) | (refine Ge ?_ ?_ <;> (intro h; try (exfalso; omega))) | fail)
  all_goals first | (exfalso; omega) | skip
  apply Halt.go
  rename_i S1
  obtain ⟨m0, own0, st0, dw0, nl0, hi0, hrun0⟩ := hnew S1
  obtain ⟨x0, own1, st1, dw1, nl1, hi1, hrun1⟩ := hnew S
  obtain ⟨cn, rfl⟩ : ∃ cn : Nat, c = cn := ⟨c.toNat, by omega⟩
  repeat' (first | refine Ga ?_ | (refine Gb ?_; intro b) | (refine Gd ?_; intro g cap rest hcap) | (refine Gc ?_; intro ad cap) | (refine St.draw (id := 16) [(0, 0), (1, 0), (2, 0), (3, 0), (4, 0), (5, 0), (6, 0), (7, 0), (8, 0), (9, 0), (10, 1), (11, 0), (12, 0), (13, 0), (14, 1), (15, 1), (16, 0), (17, 0)] [] mixed (by kernel_rfl) ?_) | (refine St.draw (id := 32) [(0, 0), (1, 0), (2, 0), (3, 0), (4, 0), (5, 0), (6, 1), (7, 0), (8, 0), (9, 0), (10, 1), (11, 1), (12, 0), (13, 0), (14, 0), (17, 0), (18, 0), (19, 0), (20, 1), (21, 0), (22, 0), (15, 3), (16, 0), (23, 0), (24, 0), (25, 0)] [15] mixed (by kernel_rfl) ?_) | (refine Gt hrun0 ?_; rintro _ _ ⟨nad0, ncap0, rfl, rfl⟩) | (refine Gt hrun1 ?_; rintro _ _ ⟨nad1, ncap1, rfl, rfl⟩) | (refine Ge ?_ ?_ <;> (intro h; try (exfalso; omega))) | fail)
  refine St.loopY (Lr := ?Lr1) (ι := { x : Nat × Ms × Ms × List Nat × List Nat // x.1 ≤ aa.length ∧ QInv x.2.1 0 (some ⟨40, setL ((aa.map (·.1)).take x.1)⟩) x.2.2.2.1 (x.1 + 1) ∧ QInv x.2.2.1 0 (some ⟨40, setL (turnL (aa.map (·.1)) cn x.1)⟩) x.2.2.2.2 (x.1 + 1) }) (fun x => aa.length - x.1.1)
    (fun x => [(38, .int .i64 (x.1.1 : Int))]) (fun x => [MsE S1 x.1.2.1, MsE S x.1.2.2.1]) ⟨(0, m0, x0, own0, own1), Nat.zero_le _, hi0, hi1⟩ ?hE1 ?hL1 ?round1
  case hE1 => exact Sub.go
  case hL1 => exact Takes.go
  case round1 =>
    rintro ⟨⟨k, m, x, own, owx⟩, hk, hi, hix⟩ IH; dsimp only at hk hi hix IH ⊢
    by_cases hlt : k < aa.length
    · obtain ⟨bf, o, l, rfl, hrd, hall⟩ := ListR.fix (f := n64V) (sz := 1) (fun _ => rfl) ha (by omega)
      have hti : turnI aa.length cn k < aa.length := Nat.mod_lt _ (by omega)
      obtain ⟨l1, hd1, ht1⟩ := hall k hlt
      obtain ⟨l2, hd2, ht2⟩ := hall (turnI aa.length cn k) hti
      have hs1 : setL ((aa.map (·.1)).take (k + 1)) = addL (aa[k]).1 (setL ((aa.map (·.1)).take k)) := by
        rw [List.take_succ_eq_append_getElem (by rw [hal]; exact hlt), setL_snoc, List.getElem_map]
      have hs2 : setL (turnL (aa.map (·.1)) cn (k + 1)) = addL (aa[turnI aa.length cn k]).1 (setL (turnL (aa.map (·.1)) cn k)) := by
        rw [turnL_snoc, setL_snoc, hal, gets64 aa _ hti]
      have hX : ((((aa.length : Int) - 1) - (k : Int)) + (cn : Int)) % (aa.length : Int) = ((turnI aa.length cn k : Nat) : Int) := by
        rw [show ((aa.length : Int) - 1) - (k : Int) + (cn : Int) = ((aa.length - 1 - k + cn : Nat) : Int) by omega]
        rfl
      have hv1 := (aa[k]).2
      have hv2 := (aa[turnI aa.length cn k]).2
      unfold n64V at ht1 ht2
      generalize (aa[k]).1 = v1 at *
      generalize (aa[turnI aa.length cn k]).1 = v2 at *
      have hn1 : NthN (o + (k : Int).toNat * 1) l (.int .u64 (v1 : Int)) := NthN.part hd1 ht1 (j := 0) (NthN.of rfl)
      have hn2 : NthN (o + (((((aa.length : Int) - 1) - (k : Int)) + (cn : Int)) % (aa.length : Int)).toNat * 1) l (.int .u64 (v2 : Int)) := by
        rw [hX]; exact NthN.part hd2 ht2 (j := 0) (NthN.of rfl)
      have hXl : 0 ≤ ((((aa.length : Int) - 1) - (k : Int)) + (cn : Int)) % (aa.length : Int) ∧ ((((aa.length : Int) - 1) - (k : Int)) + (cn : Int)) % (aa.length : Int) < aa.length := by
        rw [hX]; omega
      obtain ⟨hX0, hX1⟩ := hXl
      have hl1 := setL_len ((aa.map (·.1)).take k)
      rw [List.length_take, hal] at hl1
      have hl2 := setL_len (turnL (aa.map (·.1)) cn k)
      rw [show (turnL (aa.map (·.1)) cn k).length = k by unfold turnL; rw [List.length_map, List.length_range]] at hl2
      obtain ⟨m', own', st, dw, nl, hi', hrun⟩ := run_of S1 hi (by omega) 1 v1 (by decide) (by decide) hv1 (doesM_add (by omega) v1)
      obtain ⟨x', owx', stx, dwx, nlx, hix', hrunx⟩ := run_of S hix (by omega) 1 v2 (by decide) (by decide) hv2 (doesM_add (by omega) v2)
      rw [← hs1] at hi'
      rw [← hs2] at hix'
      repeat' (first | refine Ga ?_ | (refine Gb ?_; intro b) | (refine Gd ?_; intro g cap rest hcap) | (refine Gc ?_; intro ad cap) | (refine St.draw (id := 16) [(0, 0), (1, 0), (2, 0), (3, 0), (4, 0), (5, 0), (6, 0), (7, 0), (8, 0), (9, 0), (10, 1), (11, 0), (12, 0), (13, 0), (14, 1), (15, 1), (16, 0), (17, 0)] [] mixed (by kernel_rfl) ?_) | (refine St.draw (id := 32) [(0, 0), (1, 0), (2, 0), (3, 0), (4, 0), (5, 0), (6, 1), (7, 0), (8, 0), (9, 0), (10, 1), (11, 1), (12, 0), (13, 0), (14, 0), (17, 0), (18, 0), (19, 0), (20, 1), (21, 0), (22, 0), (15, 3), (16, 0), (23, 0), (24, 0), (25, 0)] [15] mixed (by kernel_rfl) ?_) | (refine Gt hrun ?_; rintro _ _ ⟨nad, ncap, rfl, rfl⟩) | (refine Gt hrunx ?_; rintro _ _ ⟨nadx, ncapx, rfl, rfl⟩) | (refine Ge ?_ ?_ <;> (intro h; try (exfalso; omega))) | fail)
      all_goals first | (exfalso; omega) | skip
      refine IH ⟨(k + 1, m', x', own', owx'), hlt, hi', hix'⟩ (by show aa.length - (k + 1) < aa.length - k; omega) ?_ ?_
      · exact Sub.go
      · exact Ent.go
    · obtain rfl : k = aa.length := by omega
      clear IH
      rw [List.take_of_length_le (by rw [hal]; exact Nat.le_refl _)] at hi
      have hPQ : setL (turnL (aa.map (·.1)) cn aa.length) = setL (aa.map (·.1)) := rising_eq hix.rep.rising hi.rep.rising fun z => by
        have e := mem_turnL (aa.map (·.1)) cn z
        rw [hal] at e
        exact (mem_setL _).trans (e.trans (mem_setL _).symm)
      rw [hPQ] at hix
      have hPl := setL_len (aa.map (·.1))
      rw [hal] at hPl
      generalize setL (aa.map (·.1)) = P at *
      have hd1 := dec_some S1 hi (by omega)
      have hd2 := dec_some S hix (by omega)
      repeat' (first | refine St.halt 16 ?_ |refine Ga ?_ | (refine Gb ?_; intro b) | (refine Gd ?_; intro g cap rest hcap) | (refine Gc ?_; intro ad cap) | (refine St.draw (id := 16) [(0, 0), (1, 0), (2, 0), (3, 0), (4, 0), (5, 0), (6, 0), (7, 0), (8, 0), (9, 0), (10, 1), (11, 0), (12, 0), (13, 0), (14, 1), (15, 1), (16, 0), (17, 0)] [] mixed (by kernel_rfl) ?_) | (refine St.draw (id := 32) [(0, 0), (1, 0), (2, 0), (3, 0), (4, 0), (5, 0), (6, 1), (7, 0), (8, 0), (9, 0), (10, 1), (11, 1), (12, 0), (13, 0), (14, 0), (17, 0), (18, 0), (19, 0), (20, 1), (21, 0), (22, 0), (15, 3), (16, 0), (23, 0), (24, 0), (25, 0)] [15] mixed (by kernel_rfl) ?_) | (refine Gt hd1 ?_; rintro _ _ ⟨pv1, H1, rfl, hq1, rfl⟩) | (refine Gt hd2 ?_; rintro _ _ ⟨pv2, H2, rfl, hq2, rfl⟩) | (refine Ge ?_ ?_ <;> (intro h; try (exfalso; omega))) | fail)
      apply Halt.go
      obtain ⟨Q1, lv1, rfl, hr1, hsl1⟩ := hq1
      obtain ⟨Q2, lv2, rfl, hr2, hsl2⟩ := hq2
      obtain ⟨pad1, pcap1, rfl⟩ := hsl1.val
      obtain ⟨pad2, pcap2, rfl⟩ := hsl2.val
      have hsm := same2_r H1 H2 _ _ P hsl1 hsl2 (by omega)
      repeat' (first | refine St.halt 19 ?_ |refine Ga ?_ | (refine Gb ?_; intro b) | (refine Gd ?_; intro g cap rest hcap) | (refine Gc ?_; intro ad cap) | (refine St.draw (id := 16) [(0, 0), (1, 0), (2, 0), (3, 0), (4, 0), (5, 0), (6, 0), (7, 0), (8, 0), (9, 0), (10, 1), (11, 0), (12, 0), (13, 0), (14, 1), (15, 1), (16, 0), (17, 0)] [] mixed (by kernel_rfl) ?_) | (refine St.draw (id := 32) [(0, 0), (1, 0), (2, 0), (3, 0), (4, 0), (5, 0), (6, 1), (7, 0), (8, 0), (9, 0), (10, 1), (11, 1), (12, 0), (13, 0), (14, 0), (17, 0), (18, 0), (19, 0), (20, 1), (21, 0), (22, 0), (15, 3), (16, 0), (23, 0), (24, 0), (25, 0)] [15] mixed (by kernel_rfl) ?_)| refine Gl hsm ?_ | (refine Ge ?_ ?_ <;> (intro h; try (exfalso; omega))) | fail)
      all_goals first | (exfalso; omega) | skip
      apply Halt.go
      revert b; intro Bf
      refine St.conv ?_ (Sub.refl _) (Ent.row_bl (sz := 1) (n := 0) rfl (by decide))
      have hPup := hi.rep.rising
      repeat' (first | refine Ga ?_ | (refine Gb ?_; intro b) | (refine Gd ?_; intro g cap rest hcap) | (refine Gc ?_; intro ad cap) | (refine St.draw (id := 16) [(0, 0), (1, 0), (2, 0), (3, 0), (4, 0), (5, 0), (6, 0), (7, 0), (8, 0), (9, 0), (10, 1), (11, 0), (12, 0), (13, 0), (14, 1), (15, 1), (16, 0), (17, 0)] [] mixed (by kernel_rfl) ?_) | (refine St.draw (id := 32) [(0, 0), (1, 0), (2, 0), (3, 0), (4, 0), (5, 0), (6, 1), (7, 0), (8, 0), (9, 0), (10, 1), (11, 1), (12, 0), (13, 0), (14, 0), (17, 0), (18, 0), (19, 0), (20, 1), (21, 0), (22, 0), (15, 3), (16, 0), (23, 0), (24, 0), (25, 0)] [15] mixed (by kernel_rfl) ?_) | (refine Ge ?_ ?_ <;> (intro h; try (exfalso; omega))) | fail)
      refine St.loopY (Lr := ?Lr2) (ι := { x : Nat × Ms × List Nat × List Nat × List Nat × Option Addr × Nat // x.1 ≤ bs.length ∧ QInv x.2.1 0 (some ⟨40, x.2.2.1⟩) x.2.2.2.1 (15 + x.1) ∧ (∀ z, z ∈ x.2.2.1 ↔ z ∈ P ∨ z ∈ x.2.2.2.2.1) ∧ (∀ z ∈ x.2.2.2.2.1, z ∉ P) ∧ x.2.2.2.2.1.Nodup ∧ x.2.2.2.2.1.length ≤ x.1 ∧ x.2.2.1.length ≤ P.length + x.1 ∧ ∀ z ∈ x.2.2.2.2.1, z < 18446744073709551616 }) (fun x => bs.length - x.1.1)
        (fun x => [(94, .int .i64 (x.1.1 : Int)), (15, .slice x.1.2.2.2.2.2.1 x.1.2.2.2.2.1.length x.1.2.2.2.2.2.2)]) (fun x => [MsE S1 x.1.2.1, Row (.slice x.1.2.2.2.2.2.1 x.1.2.2.2.2.1.length x.1.2.2.2.2.2.2) 25 1 x.1.2.2.2.2.1.length (u64s x.1.2.2.2.2.1)])
        ⟨(0, m, P, own, [], some ⟨Bf, 0, none⟩, 0), Nat.zero_le _, hi.at (by show P.length ≤ 15 + 0; omega), fun z => by simp, fun _ h => (by cases h), .nil, Nat.le_refl _, Nat.le_refl _, fun _ h => (by cases h)⟩ ?hE2 ?hL2 ?round2
      case hE2 => exact Sub.go
      case hL2 => exact Takes.go
      case round2 =>
        rintro ⟨⟨k, m, ls, own, fr, fad, fcap⟩, hk, hi, hls, hfp, hfn, hfl, hll, hf64⟩ IH; dsimp only at hk hi hls hfp hfn hfl hll hf64 IH ⊢
        by_cases hlt : k < bs.length
        · obtain ⟨bf, o, l, l1, rfl, hrd, hdr, htk⟩ := ListR.at (f := n64V) (sz := 1) (fun _ => rfl) hb k hlt
          generalize bs[k] = key at htk
          obtain ⟨v, hv64⟩ := key
          unfold n64V at htk
          dsimp only at htk
          have hn1 : NthN (o + (k : Int).toNat * 1) l (.int .u64 (v : Int)) := NthN.part hdr htk (j := 0) (NthN.of rfl)
          obtain ⟨m', own', st, dw, nl, hi', hrun⟩ := run_of S1 hi (by omega) 1 v (by decide) (by decide) hv64 (doesM_add (by omega) v)
          by_cases hin : v ∈ ls
          · rw [if_pos hin] at hrun
            have ha : addL v ls = ls := if_pos hin
            rw [ha] at hi'
            repeat' (first | refine Ga ?_ | (refine Gb ?_; intro b) | (refine Gd ?_; intro g cap rest hcap) | (refine Gc ?_; intro ad cap) | (refine St.draw (id := 16) [(0, 0), (1, 0), (2, 0), (3, 0), (4, 0), (5, 0), (6, 0), (7, 0), (8, 0), (9, 0), (10, 1), (11, 0), (12, 0), (13, 0), (14, 1), (15, 1), (16, 0), (17, 0)] [] mixed (by kernel_rfl) ?_) | (refine St.draw (id := 32) [(0, 0), (1, 0), (2, 0), (3, 0), (4, 0), (5, 0), (6, 1), (7, 0), (8, 0), (9, 0), (10, 1), (11, 1), (12, 0), (13, 0), (14, 0), (17, 0), (18, 0), (19, 0), (20, 1), (21, 0), (22, 0), (15, 3), (16, 0), (23, 0), (24, 0), (25, 0)] [15] mixed (by kernel_rfl) ?_) | (refine Gt hrun ?_; rintro _ _ ⟨nad, ncap, rfl, rfl⟩) | (refine Ge ?_ ?_ <;> (intro h; try (exfalso; omega))) | fail)
            all_goals first | (exfalso; omega) | skip
            refine IH ⟨(k + 1, m', ls, own', fr, fad, fcap), hlt, hi', hls, hfp, hfn, by dsimp only; omega, by dsimp only; omega, hf64⟩ (by show bs.length - (k + 1) < bs.length - k; omega) ?_ ?_
            · exact Sub.go
            · exact Ent.go
          · rw [if_neg hin] at hrun
            have hvP : v ∉ P := fun h => hin ((hls v).mpr (.inl h))
            have hvf : v ∉ fr := fun h => hin ((hls v).mpr (.inr h))
            have hal2 := addL_len v ls
            repeat' (first | refine Ga ?_ | (refine Gb ?_; intro b) | (refine Gd ?_; intro g cap rest hcap) | (refine Gc ?_; intro ad cap) | (refine St.draw (id := 16) [(0, 0), (1, 0), (2, 0), (3, 0), (4, 0), (5, 0), (6, 0), (7, 0), (8, 0), (9, 0), (10, 1), (11, 0), (12, 0), (13, 0), (14, 1), (15, 1), (16, 0), (17, 0)] [] mixed (by kernel_rfl) ?_) | (refine St.draw (id := 32) [(0, 0), (1, 0), (2, 0), (3, 0), (4, 0), (5, 0), (6, 1), (7, 0), (8, 0), (9, 0), (10, 1), (11, 1), (12, 0), (13, 0), (14, 0), (17, 0), (18, 0), (19, 0), (20, 1), (21, 0), (22, 0), (15, 3), (16, 0), (23, 0), (24, 0), (25, 0)] [15] mixed (by kernel_rfl) ?_) | (refine Gt hrun ?_; rintro _ _ ⟨nad, ncap, rfl, rfl⟩) | (refine Ge ?_ ?_ <;> (intro h; try (exfalso; omega))) | fail)
            all_goals first | (exfalso; omega) | skip
            refine IH ⟨(k + 1, m', addL v ls, own', fr ++ [v], ad, cap), hlt, hi', fun z => ?_, fun z hz => ?_, ?_, by dsimp only; rw [List.length_append]; show fr.length + 1 ≤ k + 1; omega, by dsimp only; omega, fun z hz => ?_⟩ (by show bs.length - (k + 1) < bs.length - k; omega) ?_ ?_
            · dsimp only
              rw [mem_addL, hls z, List.mem_append, List.mem_singleton]
              constructor
              · rintro (h | h | h)
                · exact .inr (.inr h)
                · exact .inl h
                · exact .inr (.inl h)
              · rintro (h | h | h)
                · exact .inr (.inl h)
                · exact .inr (.inr h)
                · exact .inl h
            · rcases List.mem_append.mp hz with hz | hz
              · exact hfp z hz
              · rw [List.mem_singleton.mp hz]; exact hvP
            · dsimp only
              exact List.nodup_append.mpr ⟨hfn, by simp, fun a ha b hb e => hvf (by rw [← List.mem_singleton.mp hb, ← e]; exact ha)⟩
            · rcases List.mem_append.mp hz with hz | hz
              · exact hf64 z hz
              · rw [List.mem_singleton.mp hz]; exact hv64
            · dsimp only; rw [List.length_append]; exact Sub.go
            · dsimp only; rw [List.length_append, show u64s (fr ++ [v]) = u64s fr ++ [.int .u64 (v : Int)] by simp [u64s]]; exact Ent.go
        · obtain rfl : k = bs.length := by omega
          clear IH
          repeat' (first | refine St.halt 25 ?_ |refine Ga ?_ | (refine Gb ?_; intro b) | (refine Gd ?_; intro g cap rest hcap) | (refine Gc ?_; intro ad cap) | (refine St.draw (id := 16) [(0, 0), (1, 0), (2, 0), (3, 0), (4, 0), (5, 0), (6, 0), (7, 0), (8, 0), (9, 0), (10, 1), (11, 0), (12, 0), (13, 0), (14, 1), (15, 1), (16, 0), (17, 0)] [] mixed (by kernel_rfl) ?_) | (refine St.draw (id := 32) [(0, 0), (1, 0), (2, 0), (3, 0), (4, 0), (5, 0), (6, 1), (7, 0), (8, 0), (9, 0), (10, 1), (11, 1), (12, 0), (13, 0), (14, 0), (17, 0), (18, 0), (19, 0), (20, 1), (21, 0), (22, 0), (15, 3), (16, 0), (23, 0), (24, 0), (25, 0)] [15] mixed (by kernel_rfl) ?_) | (refine Ge ?_ ?_ <;> (intro h; try (exfalso; omega))) | fail)
          apply Halt.go
          refine St.conv ?_ (Sub.refl _) (Ent.of_take (p := Row (.slice fad fr.length fcap) 25 1 fr.length (u64s fr)) Take.go)
          refine St.rowS fun R hR => ?_
          apply St.seq
          apply St.region
          repeat' (first | refine Ga ?_ | (refine Gb ?_; intro b) | (refine Gd ?_; intro g cap rest hcap) | (refine Gc ?_; intro ad cap) | (refine St.draw (id := 16) [(0, 0), (1, 0), (2, 0), (3, 0), (4, 0), (5, 0), (6, 0), (7, 0), (8, 0), (9, 0), (10, 1), (11, 0), (12, 0), (13, 0), (14, 1), (15, 1), (16, 0), (17, 0)] [] mixed (by kernel_rfl) ?_) | (refine St.draw (id := 32) [(0, 0), (1, 0), (2, 0), (3, 0), (4, 0), (5, 0), (6, 1), (7, 0), (8, 0), (9, 0), (10, 1), (11, 1), (12, 0), (13, 0), (14, 0), (17, 0), (18, 0), (19, 0), (20, 1), (21, 0), (22, 0), (15, 3), (16, 0), (23, 0), (24, 0), (25, 0)] [15] mixed (by kernel_rfl) ?_) | (refine Ge ?_ ?_ <;> (intro h; try (exfalso; omega))) | fail)
          refine St.loopY (Lr := ?Lr3) (ι := { x : Nat × Ms × List Nat × List Nat // x.1 ≤ fr.length ∧ QInv x.2.1 0 (some ⟨40, x.2.2.1⟩) x.2.2.2 31 ∧ ∀ z, z ∈ x.2.2.1 ↔ z ∈ P ∨ z ∈ fr.drop x.1 }) (fun x => fr.length - x.1.1)
            (fun x => [(111, .int .i64 (x.1.1 : Int))]) (fun x => [MsE S1 x.1.2.1]) ⟨(0, m, ls, own), Nat.zero_le _, hi.at (by show ls.length ≤ 31; omega), hls⟩ ?hE3 ?hL3 ?round3
          case hE3 => exact Sub.go
          case hL3 => exact Takes.go
          case round3 =>
            rintro ⟨⟨k, m, ls, own⟩, hk, hi, hls⟩ IH; dsimp only at hk hi hls IH ⊢
            by_cases hlt : k < fr.length
            · obtain ⟨b1, o1, c1, l1, hve, hr1', hn1⟩ := hR.at (by omega)
              injection hve with hve1 hve2 hve3
              subst hve1 hve3
              have e1 := hn1 k hlt
              have hy64 := hf64 (fr[k]) (List.getElem_mem hlt)
              have hyP := hfp (fr[k]) (List.getElem_mem hlt)
              have hdk : fr.drop k = fr[k] :: fr.drop (k + 1) := by simp
              have hyn : fr[k] ∉ fr.drop (k + 1) := by
                have h1 : (fr.drop k).Nodup := hfn.sublist (List.drop_sublist _ _)
                rw [hdk, List.nodup_cons] at h1
                exact h1.1
              have hin : fr[k] ∈ ls := (hls _).mpr (.inr (by rw [hdk]; exact List.mem_cons_self ..))
              have hls' : ∀ z, z ∈ delL (fr[k]) ls ↔ z ∈ P ∨ z ∈ fr.drop (k + 1) := fun z => by
                rw [mem_delL, hls z, hdk, List.mem_cons]
                constructor
                · rintro ⟨h | h | h, hne⟩
                  · exact .inl h
                  · exact absurd h hne
                  · exact .inr h
                · rintro (h | h)
                  · exact ⟨.inl h, fun e => hyP (by rw [← e]; exact h)⟩
                  · exact ⟨.inr (.inr h), fun e => hyn (by rw [← e]; exact h)⟩
              generalize fr[k] = y at *
              obtain ⟨m', own', st, dw, nl, hi', hrun⟩ := run_of S1 hi (by decide) 2 y (by decide) (by decide) hy64 (q' := some ⟨40, delL y ls⟩) (c := 0) (v := 1) (if_pos hin)
              repeat' (first | refine Ga ?_ | (refine Gb ?_; intro b) | (refine Gd ?_; intro g cap rest hcap) | (refine Gc ?_; intro ad cap) | (refine St.draw (id := 16) [(0, 0), (1, 0), (2, 0), (3, 0), (4, 0), (5, 0), (6, 0), (7, 0), (8, 0), (9, 0), (10, 1), (11, 0), (12, 0), (13, 0), (14, 1), (15, 1), (16, 0), (17, 0)] [] mixed (by kernel_rfl) ?_) | (refine St.draw (id := 32) [(0, 0), (1, 0), (2, 0), (3, 0), (4, 0), (5, 0), (6, 1), (7, 0), (8, 0), (9, 0), (10, 1), (11, 1), (12, 0), (13, 0), (14, 0), (17, 0), (18, 0), (19, 0), (20, 1), (21, 0), (22, 0), (15, 3), (16, 0), (23, 0), (24, 0), (25, 0)] [15] mixed (by kernel_rfl) ?_) | (refine Gt hrun ?_; rintro _ _ ⟨nad, ncap, rfl, rfl⟩) | (refine Ge ?_ ?_ <;> (intro h; try (exfalso; omega))) | fail)
              all_goals first | (exfalso; omega) | skip
              refine IH ⟨(k + 1, m', delL y ls, own'), hlt, hi'.at (by have h1 := delL_len y ls; have h2 : ls.length ≤ 31 := hi.n; show (delL y ls).length ≤ 31; omega), hls'⟩ (by show fr.length - (k + 1) < fr.length - k; omega) ?_ ?_
              · exact Sub.go
              · exact Ent.go
            · obtain rfl : k = fr.length := by omega
              clear IH
              have hlP : ls = P := rising_eq hi.rep.rising hPup fun z => by rw [hls z, List.drop_length]; simp
              rw [hlP] at hi
              have hd3 := dec_some S1 hi (by omega)
              have hol : own.length = P.length + 1 := hi.rep.own_eq
              have hbl := hi.len
              have hhd := handles_t S1 m (by omega)
              rw [show m.blocks.length = P.length + 1 by omega] at hhd
              repeat' (first | refine St.halt 32 ?_ |refine Ga ?_ | (refine Gb ?_; intro b) | (refine Gd ?_; intro g cap rest hcap) | (refine Gc ?_; intro ad cap) | (refine St.draw (id := 16) [(0, 0), (1, 0), (2, 0), (3, 0), (4, 0), (5, 0), (6, 0), (7, 0), (8, 0), (9, 0), (10, 1), (11, 0), (12, 0), (13, 0), (14, 1), (15, 1), (16, 0), (17, 0)] [] mixed (by kernel_rfl) ?_) | (refine St.draw (id := 32) [(0, 0), (1, 0), (2, 0), (3, 0), (4, 0), (5, 0), (6, 1), (7, 0), (8, 0), (9, 0), (10, 1), (11, 1), (12, 0), (13, 0), (14, 0), (17, 0), (18, 0), (19, 0), (20, 1), (21, 0), (22, 0), (15, 3), (16, 0), (23, 0), (24, 0), (25, 0)] [15] mixed (by kernel_rfl) ?_) | (refine Gt hd3 ?_; rintro _ _ ⟨pv3, H3, rfl, hq3, rfl⟩) | (refine Ge ?_ ?_ <;> (intro h; try (exfalso; omega))) | fail)
              apply Halt.go
              obtain ⟨Q3, lv3, rfl, hr3, hsl3⟩ := hq3
              obtain ⟨pad3, pcap3, rfl⟩ := hsl3.val
              have hsm3 := same2_r H1 H3 _ _ P hsl1 hsl3 (by omega)
              repeat' (first | refine Ga ?_ | (refine Gb ?_; intro b) | (refine Gd ?_; intro g cap rest hcap) | (refine Gc ?_; intro ad cap) | (refine St.draw (id := 16) [(0, 0), (1, 0), (2, 0), (3, 0), (4, 0), (5, 0), (6, 0), (7, 0), (8, 0), (9, 0), (10, 1), (11, 0), (12, 0), (13, 0), (14, 1), (15, 1), (16, 0), (17, 0)] [] mixed (by kernel_rfl) ?_) | (refine St.draw (id := 32) [(0, 0), (1, 0), (2, 0), (3, 0), (4, 0), (5, 0), (6, 1), (7, 0), (8, 0), (9, 0), (10, 1), (11, 1), (12, 0), (13, 0), (14, 0), (17, 0), (18, 0), (19, 0), (20, 1), (21, 0), (22, 0), (15, 2), (16, 0), (23, 0), (24, 0), (25, 0)] [] mixed (by kernel_rfl) ?_)| refine Gl hsm3 ?_ | (apply StD.gcallt2; rfl; rfl; rfl; exact Og; exact hhd; exact Oh; rintro _ _ ⟨had, hcap, rfl, rfl⟩; refine ⟨Ent.go, ?_⟩) | (apply StD.skip2; rfl; rfl; rfl; rfl; exact Ent.go; rfl) | (apply StD.skipu2; rfl; rfl; rfl; exact Ent.go; rfl) | (refine Ge ?_ ?_ <;> (intro h; try (exfalso; first | omega | contradiction))) | fail)
              all_goals first | (exfalso; omega) | skip
              all_goals refine St.d1 Tryz.func7 ⟨_, ⟨?_, rfl⟩, Ent.go⟩
              all_goals (
                show Value.bool (((P.length + 1 : Nat) : Int) == 1 + (P.length : Int)) = .bool true
                rw [show ((P.length + 1 : Nat) : Int) = 1 + (P.length : Int) by omega, beq_self_eq_true])
end Go.Proofs.YtalgmlhcbilicaaGreatDoor
