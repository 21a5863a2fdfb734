/-
  Package table: Decode, of a map as it lies.
-/
import Derived.Test.YtphheopbngdhhaaGreatDoorTso
namespace Go.Proofs.YtphheopbngdhhaaGreatDoor
set_option maxRecDepth 100000
/-- a map's value, in the heap -/
def TaR (H : HProp) (pv : Value) : Option Tb → Prop
  | none => pv = .pointer none
  | some t => ∃ b lv, pv = .pointer (some ⟨b, 0, none⟩) ∧ RdC H b [.int .u64 (t.cap : Int), lv] ∧ ListR prV H lv t.pairs
theorem d1_r (Bb key w0 w1 w2 w3 w4 w5 w6 w7 : Nat) (h : w3 = 0 ∨ (0 < w4 ∧ key % w4 < w5)) : RTri Tryz.prog 41 #[.int .u64 (key : Int), .pointer (some ⟨Bb, 0, none⟩)] [bl Bb 105 [.int .u64 (w0 : Int), .int .u64 (w1 : Int), .int .u64 (w2 : Int), .int .u64 (w3 : Int), .int .u64 (w4 : Int), .int .u64 (w5 : Int), .int .u64 (w6 : Int), .int .u64 (w7 : Int)]] (.bool true) := by
  refine RTri.of_reads fun p hp => ?_
  have r1 : RdC p Bb [.int .u64 (w0 : Int), .int .u64 (w1 : Int), .int .u64 (w2 : Int), .int .u64 (w3 : Int), .int .u64 (w4 : Int), .int .u64 (w5 : Int), .int .u64 (w6 : Int), .int .u64 (w7 : Int)] := RdC.of_sat hp (.here RdC.bl)
  by_cases h3 : w3 = 0
  · subst h3
    rw [show (((0 : Nat) : Nat) : Int) = 0 from rfl] at r1
    refine Tri.of_body (vs := [_, _]) Tryz.func41 rfl rfl fun w0 F => ?_
    repeat' (first | refine Ga ?_ | (refine Gb ?_; intro b) | (refine Gd ?_; intro g cap rest hcap) | (refine Gc ?_; intro ad cap) | (refine St.draw (id := 1) [(0, 0), (1, 1), (2, 0), (3, 0), (4, 0), (5, 0), (6, 1), (7, 0), (8, 0), (9, 1), (10, 0), (11, 0), (12, 0)] [] mixed (by kernel_rfl) ?_) | (refine Ge ?_ ?_ <;> (intro h; try (exfalso; omega))) | fail)
    all_goals first | (exfalso; omega) | skip
    all_goals refine St.d1 Tryz.func41 ⟨_, ⟨rfl, rfl⟩, Ent.go⟩
  · obtain ⟨h4, h5⟩ := h.resolve_left h3
    have h5' : (key : Int) % (w4 : Int) < (w5 : Int) := by rw [← Int.natCast_emod]; omega
    refine Tri.of_body (vs := [_, _]) Tryz.func41 rfl rfl fun w0 F => ?_
    repeat' (first | refine Ga ?_ | (refine Gb ?_; intro b) | (refine Gd ?_; intro g cap rest hcap) | (refine Gc ?_; intro ad cap) | (refine St.draw (id := 1) [(0, 0), (1, 1), (2, 0), (3, 0), (4, 0), (5, 0), (6, 1), (7, 0), (8, 0), (9, 1), (10, 0), (11, 0), (12, 0)] [] mixed (by kernel_rfl) ?_) | (refine Ge ?_ ?_ <;> (intro h; try (exfalso; omega))) | fail)
    all_goals first | (exfalso; omega) | skip
    all_goals (refine St.d1 Tryz.func41 ⟨_, ⟨?_, rfl⟩, Ent.go⟩; simp only [resV]; first | rfl | exact congrArg Value.bool (decide_eq_true (by omega)))
theorem d2_r (key : Nat) : RTri Tryz.prog 42 #[.int .u64 (key : Int)] [] (.bool true) := by
  apply RTri.of_pure
  refine Tri.of_body (vs := [_]) Tryz.func42 rfl rfl fun w0 F => ?_
  repeat' (first | refine Ga ?_ | (refine Gb ?_; intro b) | (refine Gd ?_; intro g cap rest hcap) | (refine Gc ?_; intro ad cap)  | (refine Ge ?_ ?_ <;> (intro h; try (exfalso; omega))) | fail)
  refine St.d1 Tryz.func42 ⟨_, ⟨rfl, rfl⟩, Ent.go⟩
set_option maxHeartbeats 1000000 in
theorem right_rd (S X mb v0 v1 v2 v3 v4 v5 v6 v7 : Nat) (h : stageOk v2 v4 v5 v3) : RTri Tryz.prog 39 #[.pointer (some ⟨X, 0, none⟩)] [bl X 111 [.pointer (some ⟨S, 0, none⟩), .int .u64 (v0 : Int), .int .u64 (v1 : Int), .int .u64 (v2 : Int), .int .u64 (v3 : Int), .int .u64 (v4 : Int), .int .u64 (v5 : Int), .int .u64 (v6 : Int), .int .u64 (v7 : Int), .map (some mb)]] (.bool true) := by
  refine RTri.of_reads fun p hp => ?_
  have r1 : RdC p X [.pointer (some ⟨S, 0, none⟩), .int .u64 (v0 : Int), .int .u64 (v1 : Int), .int .u64 (v2 : Int), .int .u64 (v3 : Int), .int .u64 (v4 : Int), .int .u64 (v5 : Int), .int .u64 (v6 : Int), .int .u64 (v7 : Int), .map (some mb)] := RdC.of_sat hp (.here RdC.bl)
  have hd : (v2 : Int).tdiv 2 = v2 / 2 := rfl
  have h2 : v2 = 2 ∨ v2 = 4 ∨ v2 = 8 := by rcases h with ⟨_, _, _, h⟩ | ⟨_, h, _, _⟩ <;> omega
  have h3 : v3 = 0 → v4 = 0 ∧ v5 = 0 := fun e => by rcases h with ⟨_, h, h', _⟩ | ⟨h, _⟩ <;> omega
  have h4 : v3 ≠ 0 → 2 < v2 ∧ v4 = v2 / 2 ∧ v5 < v4 := fun e => by rcases h with ⟨h, _⟩ | ⟨_, h, h', h2⟩ <;> omega
  refine Tri.of_body (vs := [_]) Tryz.func39 rfl rfl fun w0 F => ?_
  repeat' (first | refine Ga ?_ | (refine Gb ?_; intro b) | (refine Gd ?_; intro g cap rest hcap) | (refine Gc ?_; intro ad cap) | (refine St.draw (id := 1) [(0, 0), (1, 0), (2, 0), (3, 0), (4, 1), (5, 0), (6, 0), (7, 0), (8, 0), (9, 1), (10, 0), (11, 0), (12, 0), (13, 0), (14, 1), (15, 0), (16, 0), (17, 0), (18, 0), (19, 1), (20, 0), (21, 0), (22, 0), (23, 0)] [] mixed (by kernel_rfl) ?_) | (refine Ge ?_ ?_ <;> (intro h; try (exfalso; omega))) | fail)
  all_goals first | (exfalso; omega) | skip
  all_goals (refine St.d1 Tryz.func39 ⟨_, ⟨?_, rfl⟩, Ent.go⟩; simp only [resV]; first | rfl | exact congrArg Value.bool (decide_eq_true (by omega)))
theorem sorted_eq : ∀ {l l' : Prs}, SortP l → UpP l' → l'.Perm l → l' = l
  | [], l', _, _, hp => hp.eq_nil
  | x :: xs, l', hs, hu, hp => by
    cases l' with
    | nil => exact absurd hp.symm.eq_nil (by simp)
    | cons y ys =>
      obtain ⟨s1, s2⟩ := List.pairwise_cons.mp hs
      obtain ⟨u1, u2⟩ := List.pairwise_cons.mp hu
      have hxy : y = x := by
        have h1 : x ∈ y :: ys := hp.mem_iff.mpr (by simp)
        have h2 : y ∈ x :: xs := hp.mem_iff.mp (by simp)
        rcases List.mem_cons.mp h1 with e | h1
        · exact e.symm
        · rcases List.mem_cons.mp h2 with e | h2
          · exact e
          · have a := u1 x h1
            have b := s1 y h2
            omega
      subst hxy
      rw [sorted_eq s2 u2 hp.cons_inv]
theorem rows_within {R : List Nat} {B : Bks} {root : Nat} {S : TabS} (hp : RepT R B root S) : ((S.rw false).take S.n).flatten = (S.rw false).flatten ∧ (S.hk true ≠ 0 → ((S.rw true).take S.od).flatten = (S.rw true).flatten) := by
  obtain ⟨s1, s2, s3, s4⟩ := stage_n hp.st
  have key : ∀ (b : Bool) (n : Nat), (∀ i c, (S.rw b)[i]? = some c → n ≤ i → c = []) → ((S.rw b).take n).flatten = (S.rw b).flatten := by
    intro b n h
    have h1 : (S.rw b).flatten = ((S.rw b).take n).flatten ++ ((S.rw b).drop n).flatten := by rw [← List.flatten_append, List.take_append_drop]
    have h2 : ((S.rw b).drop n).flatten = [] := by
      refine List.eq_nil_iff_forall_not_mem.mpr fun x hx => ?_
      obtain ⟨c, hc, hxc⟩ := List.mem_flatten.mp hx
      obtain ⟨j, hj⟩ := List.mem_iff_getElem?.mp hc
      rw [List.getElem?_drop] at hj
      rw [h (n + j) c hj (by omega)] at hxc
      cases hxc
    rw [h1, h2, List.append_nil]
  refine ⟨key false S.n fun i c hc hi => ?_, fun h0 => key true S.od fun i c hc hi => ?_⟩
  · refine List.eq_nil_iff_forall_not_mem.mpr fun x hx => ?_
    obtain ⟨h1, _⟩ := hp.ok false i c hc x hx
    have := Nat.mod_lt x.2.1 (Nat.pos_of_ne_zero s1)
    omega
  · refine List.eq_nil_iff_forall_not_mem.mpr fun x hx => ?_
    obtain ⟨_, h1, _⟩ := hp.ok true i c hc x hx
    have := Nat.mod_lt x.2.1 (Nat.pos_of_ne_zero (s4 h0).1)
    omega
theorem getD_row {f : Bool → List Nds} {b : Bool} {i : Nat} : (f b).getD i [] = row f b i := rfl
theorem mem_getD {A : List Nds} {i : Nat} {x : Nd} (h : x ∈ A.getD i []) : A[i]? = some (A.getD i []) := by
  rw [List.getD_eq_getElem?_getD] at h ⊢
  cases hc : A[i]? with
  | none => rw [hc] at h; cases h
  | some c => rfl
def toP (p : Int × Nat) : Nat × Nat := (p.1.toNat, p.2)
theorem toP_seen (c : Nds) : (seenOf c).map toP = c.map (·.2) := by
  unfold seenOf
  rw [List.map_map]
  rfl
set_option maxHeartbeats 4000000 in
theorem decode_t (S : Nat) (m : Ms) (hm : MsOk m) (root own : Nat) (s : Nat × Nat × Nat) (t : Tb) (hr : root < 16) (hrep : Rep m.roots m.blocks root own s (some t)) (h12 : t.pairs.length ≤ 1000) : Tri Tryz.prog 12 #[.pointer (some ⟨S, 0, none⟩), .int .i64 (root : Int)] [MsE S m]
    fun v L => ∃ pv H, v = .tuple ⟨[pv, .int .i64 0]⟩ ∧ TaR H pv (some t) ∧ L = [H, MsE S m] := by
  obtain ⟨T, hp, _, ecap, hperm, hsort, _⟩ := hrep
  obtain ⟨b1, b2, b3⟩ := hp.base
  obtain ⟨s1, s2, s3, s4⟩ := stage_n hp.st
  obtain ⟨q1, q2⟩ := rows_within hp
  have hrt := mroot_r S m (root : Int)
  rw [show rootOf m.roots (root : Int) = T.h by unfold rootOf; rw [if_neg (by omega), Int.toNat_natCast]; exact hp.r] at hrt
  have hb := mblock_r S m hm T.h
  rw [hp.hb] at hb
  rw [show aggL ((some [3, T.hk false, T.n, T.hk true, T.od, T.at_, (nodes T.rw).length, T.cap] : Option (List Nat)).getD zero8) = .agg ⟨[.int .u64 ((3 : Nat) : Int), .int .u64 (T.hk false : Int), .int .u64 (T.n : Int), .int .u64 (T.hk true : Int), .int .u64 (T.od : Int), .int .u64 (T.at_ : Int), .int .u64 ((nodes T.rw).length : Int), .int .u64 (T.cap : Int)]⟩ from rfl] at hb
  have hl : t.pairs.length = (nodes T.rw).length := by rw [hperm.length_eq, List.length_map]
  have hkn : ((seenOf (nodes T.rw)).map (·.1)).Nodup := by
    have h1 := (hperm.map (·.1)).nodup_iff.mp hsort.nodup
    have h2 : (seenOf (nodes T.rw)).map (·.1) = (((nodes T.rw).map (·.2)).map (·.1)).map (fun n : Nat => (n : Int)) := by
      unfold seenOf
      rw [List.map_map, List.map_map, List.map_map]; rfl
    rw [h2]
    exact List.Pairwise.map _ (fun a b h => by omega) h1
  have hlc := hp.lc
  have hnz : ∀ b, 0 ∉ (T.rw b).flatten.map (·.1) := fun b hm' => by
    obtain ⟨z, hz, e⟩ := List.mem_map.mp hm'
    refine (b3 z ?_).1 e
    unfold nodes
    cases b
    · exact List.mem_append_left _ hz
    · exact List.mem_append_right _ hz
  have hh0 := hp.h0
  have hrd := fun X mb => right_rd S X mb 3 (T.hk false) T.n (T.hk true) T.od T.at_ (nodes T.rw).length T.cap hp.st
  have hb1 := fun X mb Bb w0 w1 w2 w3 w4 w5 w6 w7 => buckets_t S X mb T.n 0 41 (T.hk false) w0 w1 w2 w3 w4 w5 w6 w7 m hm [.pointer (some ⟨Bb, 0, none⟩)] (bl Bb 105 [.int .u64 ((3 : Nat) : Int), .int .u64 (T.hk false : Int), .int .u64 (T.n : Int), .int .u64 (T.hk true : Int), .int .u64 (T.od : Int), .int .u64 (T.at_ : Int), .int .u64 ((nodes T.rw).length : Int), .int .u64 (T.cap : Int)])
    (T.rw false) (hp.l8 false) s2 (hp.gk false hp.hn0) (hp.ch false) (hnz false) (fun i hi => by omega) (fun i _ x hx => (hp.ok false i _ (mem_getD hx) x hx).1.symm) (fun x hx => by
      obtain ⟨c, hc, hxc⟩ := List.mem_flatten.mp hx
      obtain ⟨j, hj⟩ := List.mem_iff_getElem?.mp hc
      refine d1_r Bb x.2.1 _ _ _ _ _ _ _ _ ?_
      by_cases h0 : T.hk true = 0
      · exact .inl h0
      · exact .inr ⟨Nat.pos_of_ne_zero (s4 h0).1, (hp.ok false j c hj x hxc).2 h0⟩) []
    (by
      have h1 : nodes T.rw = (T.rw false).flatten ++ (T.rw true).flatten := rfl
      rw [h1, seenOf_app, List.map_append] at hkn
      exact (List.nodup_append.mp hkn).1)
  rw [q1] at hb1
  by_cases h0 : T.hk true = 0
  · have hE : (T.rw true).flatten = [] := by
      refine List.eq_nil_iff_forall_not_mem.mpr fun x hx => ?_
      obtain ⟨c, hc, hxc⟩ := List.mem_flatten.mp hx
      obtain ⟨j, hj⟩ := List.mem_iff_getElem?.mp hc
      exact (hp.ok true j c hj x hxc).1 h0
    have hN : nodes T.rw = (T.rw false).flatten := by show _ ++ _ = _; rw [hE, List.append_nil]
    have hsN : ([] ++ seenOf (T.rw false).flatten : Seen) = seenOf (nodes T.rw) := by rw [hN, List.nil_append]
    have hsl : ([] ++ seenOf (T.rw false).flatten : Seen).length = (nodes T.rw).length := by rw [hsN]; exact List.length_map ..
    refine Tri.of_body (vs := [_, _]) Tryz.func12 rfl rfl fun w0 F => ?_
    repeat' (first | refine Ga ?_ | (refine Gb ?_; intro b) | (refine Gd ?_; intro g cap rest hcap) | (refine Gc ?_; intro ad cap) | (refine St.draw (id := 13) [(0, 0), (1, 0), (2, 0), (3, 0), (4, 0), (5, 0), (6, 1), (7, 1), (8, 0), (9, 0), (10, 1), (11, 0), (12, 0), (13, 0), (14, 0), (15, 1), (16, 0), (17, 1), (18, 0), (19, 0)] [] mixed (by kernel_rfl) ?_)| refine Gl hrt ?_ | refine Gl hb ?_ | refine Gl (hrd _ _) ?_ | (refine Gt (hb1 _ _ _ _ _ _ _ _ _ _ _) ?_; rintro _ _ ⟨rfl, rfl⟩) | (refine Ge ?_ ?_ <;> (intro h; try (exfalso; omega))) | fail)
    all_goals first | (exfalso; omega) | skip
    revert b; intro rg
    revert b; intro Bt
    rename_i Bb X mb hx2 hx3
    refine St.conv ?_ (Sub.refl _) (Ent.row_nil 88 2)
    have hss : ∀ p ∈ ([] ++ seenOf (T.rw false).flatten), (0 : Int) ≤ p.1 := fun p hp' => by
      have hp2 : p ∈ seenOf (nodes T.rw) := by rw [← hsN]; exact hp'
      obtain ⟨x, _, rfl⟩ := List.mem_map.mp hp2
      exact Int.natCast_nonneg _
    have hst : (([] ++ seenOf (T.rw false).flatten) : Seen).map toP = (nodes T.rw).map (·.2) := by rw [hsN, toP_seen]
    refine St.loopY (Lr := ?Lr1) (ι := { x : Prs × Seen × Option (Int × Nat) × Option Addr × Nat // (x.1 ++ x.2.1.map toP).Perm ((nodes T.rw).map (·.2)) ∧ ∀ p ∈ x.2.1, (0 : Int) ≤ p.1 }) (fun x => x.1.2.1.length) (fun _ => [])
      (fun x => [Mr rg mb u64K u64N ([] ++ seenOf (T.rw false).flatten) x.1.2.1 x.1.2.2.1, bl Bt 86 [.int .u64 (T.cap : Int), .slice x.1.2.2.2.1 x.1.1.length x.1.2.2.2.2], Row (.slice x.1.2.2.2.1 x.1.1.length x.1.2.2.2.2) 88 2 x.1.1.length (x.1.1.flatMap prV)]) ⟨([], ([] ++ seenOf (T.rw false).flatten), none, none, 0), by dsimp only; rw [List.nil_append, hst], hss⟩ ?hE1 ?hL1 ?round1
    case hE1 => exact Sub.go
    case hL1 => exact Takes.go
    case round1 =>
      rintro ⟨⟨pre, left, cur, pad, pcap⟩, hpp, hnn⟩ IH; dsimp only at hpp hnn IH ⊢
      by_cases hne : left = []
      · subst hne
        clear IH
        rw [List.map_nil, List.append_nil] at hpp
        have hpl : pre.length ≤ 1000 := by rw [hpp.length_eq, ← hperm.length_eq]; exact h12
        have hso := psortw_t pad pcap pre (by omega)
        unfold rowP at hso
        repeat' (first | refine Ga ?_ | (refine Gb ?_; intro b) | (refine Gd ?_; intro g cap rest hcap) | (refine Gc ?_; intro ad cap) | (refine St.draw (id := 13) [(0, 0), (1, 0), (2, 0), (3, 0), (4, 0), (5, 0), (6, 1), (7, 0), (8, 0), (9, 0), (10, 1), (11, 0), (12, 0), (13, 0), (14, 0), (15, 1), (16, 0), (17, 1), (18, 0), (19, 0)] [] mixed (by kernel_rfl) ?_) | (refine Gt hso ?_; rintro _ _ ⟨ys, hys, hup, rfl, rfl⟩) | (refine Ge ?_ ?_ <;> (intro h; try (exfalso; omega))) | fail)
        all_goals first | (exfalso; omega) | skip
        have hyt : ys = t.pairs := sorted_eq hsort hup (hys.trans (hpp.trans hperm.symm))
        have hyl : pre.length = t.pairs.length := by rw [← hyt]; exact hys.length_eq.symm
        rw [hyt, ← ecap, hyl]
        refine St.conv ?_ (Sub.refl _) (Ent.of_take (p := Row (.slice pad t.pairs.length pcap) 88 2 t.pairs.length (t.pairs.flatMap prV)) Take.go)
        refine St.rowL rfl fun R hR => ?_
        refine St.d1 Tryz.func12 ⟨_, ⟨_, star [bl Bt 86 [.int .u64 (t.cap : Int), .slice pad t.pairs.length pcap], R], rfl, ⟨Bt, _, rfl, RdC.star (p := bl Bt 86 [.int .u64 (t.cap : Int), .slice pad t.pairs.length pcap]) (.head _) RdC.bl, hR.weak fun b l h => RdC.star (.tail _ (.head _)) h⟩, rfl⟩, ?_⟩
        refine Ent.trans ?_ (Ent.star_in _)
        exact Ent.go
      · apply St.seq
        apply St.region
        (apply StL.ok; (apply OpOk.nextM1 hne; rfl; (focus (repeat first | exact Take.here | apply Take.there))); rfl; rintro _ _ ⟨l1, ⟨k, u⟩, l2, hsp, rfl, rfl⟩)
        obtain ⟨kn, rfl⟩ : ∃ kn : Nat, k = kn := ⟨k.toNat, by have := hnn (k, u) (by rw [hsp]; simp); dsimp only at this; omega⟩
        have hu1 : u64K (kn : Int) = .int .u64 (kn : Int) := rfl
        have hu2 : u64N u = .int .u64 (u : Int) := rfl
        have hprl : pre.length ≤ 1000 := by have h1 := hpp.length_eq; rw [List.length_append, ← hperm.length_eq] at h1; omega
        rw [hsp, List.map_append, List.map_cons] at hpp
        repeat' (first | refine Ga ?_ | (refine Gb ?_; intro b) | (refine Gd ?_; intro g cap rest hcap) | (refine Gc ?_; intro ad cap) | (refine St.draw (id := 13) [(0, 0), (1, 0), (2, 0), (3, 0), (4, 0), (5, 0), (6, 1), (7, 0), (8, 0), (9, 0), (10, 1), (11, 0), (12, 0), (13, 0), (14, 0), (15, 1), (16, 0), (17, 1), (18, 0), (19, 0)] [] mixed (by kernel_rfl) ?_) | (refine Ge ?_ ?_ <;> (intro h; try (exfalso; omega))) | fail)
        all_goals first | (exfalso; omega) | skip
        refine IH ⟨(pre ++ [(kn, u)], l1 ++ l2, some ((kn : Int), u), ad, cap), ?_, fun p hp' => hnn p (by rw [hsp]; rcases List.mem_append.mp hp' with h | h <;> simp [h])⟩ (by show (l1 ++ l2).length < left.length; rw [hsp]; simp) ?_ ?_
        · refine List.Perm.trans ?_ hpp
          dsimp only
          rw [List.map_append, List.append_assoc]
          refine List.Perm.append_left _ ?_
          exact (List.perm_middle (a := toP ((kn : Int), u)) (l₁ := l1.map toP) (l₂ := l2.map toP)).symm
        · exact Sub.go
        · dsimp only; rw [List.length_append, List.flatMap_append]; exact Ent.go
  · have hsN : ([] ++ seenOf (T.rw false).flatten ++ seenOf (T.rw true).flatten : Seen) = seenOf (nodes T.rw) := by
      show _ = seenOf (_ ++ _)
      rw [seenOf_app, List.nil_append]
    have hsl : ([] ++ seenOf (T.rw false).flatten ++ seenOf (T.rw true).flatten : Seen).length = (nodes T.rw).length := by rw [hsN]; exact List.length_map ..
    have hb2 := fun X mb Bb w0 w1 w2 w3 w4 w5 w6 w7 => buckets_t S X mb T.od T.at_ 42 (T.hk true) w0 w1 w2 w3 w4 w5 w6 w7 m hm [] (bl Bb 105 [.int .u64 ((3 : Nat) : Int), .int .u64 (T.hk false : Int), .int .u64 (T.n : Int), .int .u64 (T.hk true : Int), .int .u64 (T.od : Int), .int .u64 (T.at_ : Int), .int .u64 ((nodes T.rw).length : Int), .int .u64 (T.cap : Int)])
      (T.rw true) (hp.l8 true) (by omega) (hp.gk true h0) (hp.ch true) (hnz true) (fun i hi => List.eq_nil_iff_forall_not_mem.mpr fun x hx => by
        obtain ⟨_, _, h⟩ := hp.ok true i _ (mem_getD hx) x hx
        omega) (fun i _ x hx => (hp.ok true i _ (mem_getD hx) x hx).2.1.symm) (fun x _ => (d2_r x.2.1).ent Ent.go) ([] ++ seenOf (T.rw false).flatten)
      (by
        rw [← hsN, List.map_append] at hkn
        exact hkn)
    rw [q2 h0] at hb2
    refine Tri.of_body (vs := [_, _]) Tryz.func12 rfl rfl fun w0 F => ?_
    repeat' (first | refine Ga ?_ | (refine Gb ?_; intro b) | (refine Gd ?_; intro g cap rest hcap) | (refine Gc ?_; intro ad cap) | (refine St.draw (id := 13) [(0, 0), (1, 0), (2, 0), (3, 0), (4, 0), (5, 0), (6, 1), (7, 1), (8, 0), (9, 0), (10, 1), (11, 0), (12, 0), (13, 0), (14, 0), (15, 1), (16, 0), (17, 1), (18, 0), (19, 0)] [] mixed (by kernel_rfl) ?_)| refine Gl hrt ?_ | refine Gl hb ?_ | refine Gl (hrd _ _) ?_ | (refine Gt (hb1 _ _ _ _ _ _ _ _ _ _ _) ?_; rintro _ _ ⟨rfl, rfl⟩) | (refine Gt (hb2 _ _ _ _ _ _ _ _ _ _ _) ?_; rintro _ _ ⟨rfl, rfl⟩) | (refine Ge ?_ ?_ <;> (intro h; try (exfalso; omega))) | fail)
    all_goals first | (exfalso; omega) | skip
    revert b; intro rg
    revert b; intro Bt
    rename_i Bb X mb hx2 hx3
    refine St.conv ?_ (Sub.refl _) (Ent.row_nil 88 2)
    have hss : ∀ p ∈ ([] ++ seenOf (T.rw false).flatten ++ seenOf (T.rw true).flatten), (0 : Int) ≤ p.1 := fun p hp' => by
      have hp2 : p ∈ seenOf (nodes T.rw) := by rw [← hsN]; exact hp'
      obtain ⟨x, _, rfl⟩ := List.mem_map.mp hp2
      exact Int.natCast_nonneg _
    have hst : (([] ++ seenOf (T.rw false).flatten ++ seenOf (T.rw true).flatten) : Seen).map toP = (nodes T.rw).map (·.2) := by rw [hsN, toP_seen]
    refine St.loopY (Lr := ?Lr2) (ι := { x : Prs × Seen × Option (Int × Nat) × Option Addr × Nat // (x.1 ++ x.2.1.map toP).Perm ((nodes T.rw).map (·.2)) ∧ ∀ p ∈ x.2.1, (0 : Int) ≤ p.1 }) (fun x => x.1.2.1.length) (fun _ => [])
      (fun x => [Mr rg mb u64K u64N ([] ++ seenOf (T.rw false).flatten ++ seenOf (T.rw true).flatten) x.1.2.1 x.1.2.2.1, bl Bt 86 [.int .u64 (T.cap : Int), .slice x.1.2.2.2.1 x.1.1.length x.1.2.2.2.2], Row (.slice x.1.2.2.2.1 x.1.1.length x.1.2.2.2.2) 88 2 x.1.1.length (x.1.1.flatMap prV)]) ⟨([], ([] ++ seenOf (T.rw false).flatten ++ seenOf (T.rw true).flatten), none, none, 0), by dsimp only; rw [List.nil_append, hst], hss⟩ ?hE2 ?hL2 ?round2
    case hE2 => exact Sub.go
    case hL2 => exact Takes.go
    case round2 =>
      rintro ⟨⟨pre, left, cur, pad, pcap⟩, hpp, hnn⟩ IH; dsimp only at hpp hnn IH ⊢
      by_cases hne : left = []
      · subst hne
        clear IH
        rw [List.map_nil, List.append_nil] at hpp
        have hpl : pre.length ≤ 1000 := by rw [hpp.length_eq, ← hperm.length_eq]; exact h12
        have hso := psortw_t pad pcap pre (by omega)
        unfold rowP at hso
        repeat' (first | refine Ga ?_ | (refine Gb ?_; intro b) | (refine Gd ?_; intro g cap rest hcap) | (refine Gc ?_; intro ad cap) | (refine St.draw (id := 13) [(0, 0), (1, 0), (2, 0), (3, 0), (4, 0), (5, 0), (6, 1), (7, 0), (8, 0), (9, 0), (10, 1), (11, 0), (12, 0), (13, 0), (14, 0), (15, 1), (16, 0), (17, 1), (18, 0), (19, 0)] [] mixed (by kernel_rfl) ?_) | (refine Gt hso ?_; rintro _ _ ⟨ys, hys, hup, rfl, rfl⟩) | (refine Ge ?_ ?_ <;> (intro h; try (exfalso; omega))) | fail)
        all_goals first | (exfalso; omega) | skip
        have hyt : ys = t.pairs := sorted_eq hsort hup (hys.trans (hpp.trans hperm.symm))
        have hyl : pre.length = t.pairs.length := by rw [← hyt]; exact hys.length_eq.symm
        rw [hyt, ← ecap, hyl]
        refine St.conv ?_ (Sub.refl _) (Ent.of_take (p := Row (.slice pad t.pairs.length pcap) 88 2 t.pairs.length (t.pairs.flatMap prV)) Take.go)
        refine St.rowL rfl fun R hR => ?_
        refine St.d1 Tryz.func12 ⟨_, ⟨_, star [bl Bt 86 [.int .u64 (t.cap : Int), .slice pad t.pairs.length pcap], R], rfl, ⟨Bt, _, rfl, RdC.star (p := bl Bt 86 [.int .u64 (t.cap : Int), .slice pad t.pairs.length pcap]) (.head _) RdC.bl, hR.weak fun b l h => RdC.star (.tail _ (.head _)) h⟩, rfl⟩, ?_⟩
        refine Ent.trans ?_ (Ent.star_in _)
        exact Ent.go
      · apply St.seq
        apply St.region
        (apply StL.ok; (apply OpOk.nextM1 hne; rfl; (focus (repeat first | exact Take.here | apply Take.there))); rfl; rintro _ _ ⟨l1, ⟨k, u⟩, l2, hsp, rfl, rfl⟩)
        obtain ⟨kn, rfl⟩ : ∃ kn : Nat, k = kn := ⟨k.toNat, by have := hnn (k, u) (by rw [hsp]; simp); dsimp only at this; omega⟩
        have hu1 : u64K (kn : Int) = .int .u64 (kn : Int) := rfl
        have hu2 : u64N u = .int .u64 (u : Int) := rfl
        have hprl : pre.length ≤ 1000 := by have h1 := hpp.length_eq; rw [List.length_append, ← hperm.length_eq] at h1; omega
        rw [hsp, List.map_append, List.map_cons] at hpp
        repeat' (first | refine Ga ?_ | (refine Gb ?_; intro b) | (refine Gd ?_; intro g cap rest hcap) | (refine Gc ?_; intro ad cap) | (refine St.draw (id := 13) [(0, 0), (1, 0), (2, 0), (3, 0), (4, 0), (5, 0), (6, 1), (7, 0), (8, 0), (9, 0), (10, 1), (11, 0), (12, 0), (13, 0), (14, 0), (15, 1), (16, 0), (17, 1), (18, 0), (19, 0)] [] mixed (by kernel_rfl) ?_) | (refine Ge ?_ ?_ <;> (intro h; try (exfalso; omega))) | fail)
        all_goals first | (exfalso; omega) | skip
        refine IH ⟨(pre ++ [(kn, u)], l1 ++ l2, some ((kn : Int), u), ad, cap), ?_, fun p hp' => hnn p (by rw [hsp]; rcases List.mem_append.mp hp' with h | h <;> simp [h])⟩ (by show (l1 ++ l2).length < left.length; rw [hsp]; simp) ?_ ?_
        · refine List.Perm.trans ?_ hpp
          dsimp only
          rw [List.map_append, List.append_assoc]
          refine List.Perm.append_left _ ?_
          exact (List.perm_middle (a := toP ((kn : Int), u)) (l₁ := l1.map toP) (l₂ := l2.map toP)).symm
        · exact Sub.go
        · dsimp only; rw [List.length_append, List.flatMap_append]; exact Ent.go
end Go.Proofs.YtphheopbngdhhaaGreatDoor
