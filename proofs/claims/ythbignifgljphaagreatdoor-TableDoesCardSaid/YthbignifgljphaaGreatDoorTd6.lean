/-
  Package table: Does; packages tumblerref22, tumblerlaw22: Same, same; TableDoes.
-/
import Derived.Test.YthbignifgljphaaGreatDoorTd4
import Derived.Test.YthbignifgljphaaGreatDoorTh0
import Derived.Test.YthbignifgljphaaGreatDoorTs4
namespace Go.Proofs.YthbignifgljphaaGreatDoor
set_option maxRecDepth 100000
theorem TaR.weak {q q' : HProp} {v : Value} {x : Option Tb} (h : TaR q v x) (hq : ∀ b l, RdC q b l → RdC q' b l) : TaR q' v x := by
  cases x with
  | none => exact h
  | some x =>
    obtain ⟨b, lv, h1, h2, h3⟩ := h
    exact ⟨b, lv, h1, hq _ _ h2, h3.weak hq⟩
theorem does_0 (H : HProp) (pv : Value) (q : Option Tb) (key val : Nat) (hq : TaR H pv q) : Tri Tryz.prog 10 #[pv, bs (nmB 0), .int .u64 (key : Int), .int .u64 (val : Int)] [H] (doesQ H (doesM 0 q key val)) := by
  have hg := gives_r 4
  unfold doesM nmB
  cases q with
  | none =>
    have hq : pv = .pointer none := hq
    subst hq
    dsimp only
    refine Tri.of_body (vs := [_, _, _, _]) Tryz.func10 rfl rfl fun w0 F => ?_
    repeat' (first | refine Ga ?_ | (refine Gb ?_; intro b) | (refine Gd ?_; intro g cap rest hcap) | (refine Gc ?_; intro ad cap) | refine Gl hg ?_ | (refine Ge ?_ ?_ <;> (intro h; try (exfalso; omega))) | fail)
    refine St.d1 Tryz.func10 ⟨_, ⟨_, star [bl b 71 [.int .u64 (key : Int), .slice none 0 0], H], rfl, ⟨b, _, rfl, RdC.star (p := bl b 71 [.int .u64 (key : Int), .slice none 0 0]) (.head _) RdC.bl, ⟨none, 0, rfl, Nat.le_refl _, .inl rfl⟩⟩, fun b l h => RdC.star (.tail _ (.head _)) h, rfl⟩, ?_⟩
    refine Ent.trans ?_ (Ent.star_in _)
    exact Ent.go
  | some x =>
    have hq' := hq
    obtain ⟨b, lv, rfl, hrd, hls⟩ := hq
    dsimp only
    refine Tri.of_body (vs := [_, _, _, _]) Tryz.func10 rfl rfl fun w0 F => ?_
    repeat' (first | refine Ga ?_ | (refine Gb ?_; intro b) | (refine Gd ?_; intro g cap rest hcap) | (refine Gc ?_; intro ad cap) | refine Gl hg ?_ | (refine Ge ?_ ?_ <;> (intro h; try (exfalso; omega))) | fail)
    refine St.d1 Tryz.func10 ⟨_, ⟨_, H, rfl, hq', fun b l h => h, rfl⟩, ?_⟩
    exact Ent.go
theorem does_6 (H : HProp) (pv : Value) (q : Option Tb) (key val : Nat) (hq : TaR H pv q) : Tri Tryz.prog 10 #[pv, bs (nmB 6), .int .u64 (key : Int), .int .u64 (val : Int)] [H] (doesQ H (doesM 6 q key val)) := by
  have hn := names_t
  have hc := contains_6
  have hd : doesM 6 q key val = (q, 4, 0) := rfl
  rw [hd]
  unfold namesL at hc
  unfold nmB at *
  refine Tri.of_body (vs := [_, _, _, _]) Tryz.func10 rfl rfl fun w0 F => ?_
  repeat' (first | refine Ga ?_ | (refine Gb ?_; intro b) | (refine Gd ?_; intro g cap rest hcap) | (refine Gc ?_; intro ad cap)  | (refine Gt hn ?_; rintro _ _ ⟨nb, rfl, rfl⟩) | (refine Gt (hc nb) ?_; rintro _ _ ⟨rfl, rfl⟩) | (refine Ge ?_ ?_ <;> (intro h; try (exfalso; omega))) | fail)
  refine St.d1 Tryz.func10 ⟨_, ⟨_, H, rfl, hq, fun b l h => h, rfl⟩, ?_⟩
  exact Ent.go
theorem does_1n (H : HProp) (key val : Nat) : Tri Tryz.prog 10 #[.pointer none, bs (nmB 1), .int .u64 (key : Int), .int .u64 (val : Int)] [H] (doesQ H (doesM 1 none key val)) := by
  have hn := names_t
  have hc := contains_1
  have hg := gives_r 3
  have hd : doesM 1 none key val = (none, 40, 3) := rfl
  rw [hd]
  unfold namesL at hc
  unfold nmB at *
  refine Tri.of_body (vs := [_, _, _, _]) Tryz.func10 rfl rfl fun w0 F => ?_
  repeat' (first | refine Ga ?_ | (refine Gb ?_; intro b) | (refine Gd ?_; intro g cap rest hcap) | (refine Gc ?_; intro ad cap) | refine Gl hg ?_ | (refine Gt hn ?_; rintro _ _ ⟨nb, rfl, rfl⟩) | (refine Gt (hc nb) ?_; rintro _ _ ⟨rfl, rfl⟩) | (refine Ge ?_ ?_ <;> (intro h; try (exfalso; omega))) | fail)
  refine St.d1 Tryz.func10 ⟨_, ⟨_, H, rfl, rfl, fun b l h => h, rfl⟩, ?_⟩
  exact Ent.go
theorem does_2n (H : HProp) (key val : Nat) : Tri Tryz.prog 10 #[.pointer none, bs (nmB 2), .int .u64 (key : Int), .int .u64 (val : Int)] [H] (doesQ H (doesM 2 none key val)) := by
  have hn := names_t
  have hc := contains_2
  have hg := gives_r 3
  have hd : doesM 2 none key val = (none, 40, 3) := rfl
  rw [hd]
  unfold namesL at hc
  unfold nmB at *
  refine Tri.of_body (vs := [_, _, _, _]) Tryz.func10 rfl rfl fun w0 F => ?_
  repeat' (first | refine Ga ?_ | (refine Gb ?_; intro b) | (refine Gd ?_; intro g cap rest hcap) | (refine Gc ?_; intro ad cap) | refine Gl hg ?_ | (refine Gt hn ?_; rintro _ _ ⟨nb, rfl, rfl⟩) | (refine Gt (hc nb) ?_; rintro _ _ ⟨rfl, rfl⟩) | (refine Ge ?_ ?_ <;> (intro h; try (exfalso; omega))) | fail)
  refine St.d1 Tryz.func10 ⟨_, ⟨_, H, rfl, rfl, fun b l h => h, rfl⟩, ?_⟩
  exact Ent.go
theorem does_3n (H : HProp) (key val : Nat) : Tri Tryz.prog 10 #[.pointer none, bs (nmB 3), .int .u64 (key : Int), .int .u64 (val : Int)] [H] (doesQ H (doesM 3 none key val)) := by
  have hn := names_t
  have hc := contains_3
  have hg := gives_r 3
  have hd : doesM 3 none key val = (none, 40, 3) := rfl
  rw [hd]
  unfold namesL at hc
  unfold nmB at *
  refine Tri.of_body (vs := [_, _, _, _]) Tryz.func10 rfl rfl fun w0 F => ?_
  repeat' (first | refine Ga ?_ | (refine Gb ?_; intro b) | (refine Gd ?_; intro g cap rest hcap) | (refine Gc ?_; intro ad cap) | refine Gl hg ?_ | (refine Gt hn ?_; rintro _ _ ⟨nb, rfl, rfl⟩) | (refine Gt (hc nb) ?_; rintro _ _ ⟨rfl, rfl⟩) | (refine Ge ?_ ?_ <;> (intro h; try (exfalso; omega))) | fail)
  refine St.d1 Tryz.func10 ⟨_, ⟨_, H, rfl, rfl, fun b l h => h, rfl⟩, ?_⟩
  exact Ent.go
theorem does_4n (H : HProp) (key val : Nat) : Tri Tryz.prog 10 #[.pointer none, bs (nmB 4), .int .u64 (key : Int), .int .u64 (val : Int)] [H] (doesQ H (doesM 4 none key val)) := by
  have hn := names_t
  have hc := contains_4
  have hg := gives_r 3
  have hd : doesM 4 none key val = (none, 40, 3) := rfl
  rw [hd]
  unfold namesL at hc
  unfold nmB at *
  refine Tri.of_body (vs := [_, _, _, _]) Tryz.func10 rfl rfl fun w0 F => ?_
  repeat' (first | refine Ga ?_ | (refine Gb ?_; intro b) | (refine Gd ?_; intro g cap rest hcap) | (refine Gc ?_; intro ad cap) | refine Gl hg ?_ | (refine Gt hn ?_; rintro _ _ ⟨nb, rfl, rfl⟩) | (refine Gt (hc nb) ?_; rintro _ _ ⟨rfl, rfl⟩) | (refine Ge ?_ ?_ <;> (intro h; try (exfalso; omega))) | fail)
  refine St.d1 Tryz.func10 ⟨_, ⟨_, H, rfl, rfl, fun b l h => h, rfl⟩, ?_⟩
  exact Ent.go
theorem does_5n (H : HProp) (key val : Nat) : Tri Tryz.prog 10 #[.pointer none, bs (nmB 5), .int .u64 (key : Int), .int .u64 (val : Int)] [H] (doesQ H (doesM 5 none key val)) := by
  have hn := names_t
  have hc := contains_5
  have hg := gives_r 3
  have hd : doesM 5 none key val = (none, 40, 3) := rfl
  rw [hd]
  unfold namesL at hc
  unfold nmB at *
  refine Tri.of_body (vs := [_, _, _, _]) Tryz.func10 rfl rfl fun w0 F => ?_
  repeat' (first | refine Ga ?_ | (refine Gb ?_; intro b) | (refine Gd ?_; intro g cap rest hcap) | (refine Gc ?_; intro ad cap) | refine Gl hg ?_ | (refine Gt hn ?_; rintro _ _ ⟨nb, rfl, rfl⟩) | (refine Gt (hc nb) ?_; rintro _ _ ⟨rfl, rfl⟩) | (refine Ge ?_ ?_ <;> (intro h; try (exfalso; omega))) | fail)
  refine St.d1 Tryz.func10 ⟨_, ⟨_, H, rfl, rfl, fun b l h => h, rfl⟩, ?_⟩
  exact Ent.go
theorem does_5 (H : HProp) (pv : Value) (x : Tb) (key val : Nat) (hq : TaR H pv (some x)) (hl : x.pairs.length ≤ 1000) : Tri Tryz.prog 10 #[pv, bs (nmB 5), .int .u64 (key : Int), .int .u64 (val : Int)] [H] (doesQ H (doesM 5 (some x) key val)) := by
  have hn := names_t
  have hc := contains_5
  have hg := gives_r 5
  have hq' := hq
  obtain ⟨b, lv, rfl, hrd, hls⟩ := hq
  obtain ⟨ad, cap, rfl, _⟩ := hls
  unfold namesL at hc
  by_cases h0 : x.pairs.length = 0
  · have hd : doesM 5 (some x) key val = (none, 0, 0) := by simp [doesM, h0]
    rw [hd]
    rw [h0] at hrd
    unfold nmB at *
    refine Tri.of_body (vs := [_, _, _, _]) Tryz.func10 rfl rfl fun w0 F => ?_
    repeat' (first | refine Ga ?_ | (refine Gb ?_; intro b) | (refine Gd ?_; intro g cap rest hcap) | (refine Gc ?_; intro ad cap) | refine Gl hg ?_ | (refine Gt hn ?_; rintro _ _ ⟨nb, rfl, rfl⟩) | (refine Gt (hc nb) ?_; rintro _ _ ⟨rfl, rfl⟩) | (refine Ge ?_ ?_ <;> (intro h; try (exfalso; omega))) | fail)
    all_goals first | (exfalso; omega) | skip
    refine St.d1 Tryz.func10 ⟨_, ⟨_, H, rfl, rfl, fun b l h => h, rfl⟩, ?_⟩
    exact Ent.go
  · have hd : doesM 5 (some x) key val = (some x, 40, 5) := by simp [doesM, h0]
    rw [hd]
    unfold nmB at *
    refine Tri.of_body (vs := [_, _, _, _]) Tryz.func10 rfl rfl fun w0 F => ?_
    repeat' (first | refine Ga ?_ | (refine Gb ?_; intro b) | (refine Gd ?_; intro g cap rest hcap) | (refine Gc ?_; intro ad cap) | refine Gl hg ?_ | (refine Gt hn ?_; rintro _ _ ⟨nb, rfl, rfl⟩) | (refine Gt (hc nb) ?_; rintro _ _ ⟨rfl, rfl⟩) | (refine Ge ?_ ?_ <;> (intro h; try (exfalso; omega))) | fail)
    all_goals first | (exfalso; omega) | skip
    refine St.d1 Tryz.func10 ⟨_, ⟨_, H, rfl, hq', fun b l h => h, rfl⟩, ?_⟩
    exact Ent.go
theorem does_1 (H : HProp) (pv : Value) (x : Tb) (key val : Nat) (hq : TaR H pv (some x)) (hup : SortP x.pairs) (hl : x.pairs.length ≤ 1000) : Tri Tryz.prog 10 #[pv, bs (nmB 1), .int .u64 (key : Int), .int .u64 (val : Int)] [H] (doesQ H (doesM 1 (some x) key val)) := by
  have hn := names_t
  have hc := contains_1
  have hk := key_1 H pv x key val hq hup hl
  obtain ⟨b, lv, rfl, hrd, hls⟩ := hq
  obtain ⟨ad, cap, rfl, _⟩ := hls
  generalize doesM 1 (some x) key val = m at hk ⊢
  unfold doesQ at *
  unfold namesL at hc
  unfold nmB at *
  refine Tri.of_body (vs := [_, _, _, _]) Tryz.func10 rfl rfl fun w0 F => ?_
  repeat' (first | refine Ga ?_ | (refine Gb ?_; intro b) | (refine Gd ?_; intro g cap rest hcap) | (refine Gc ?_; intro ad cap)  | (refine Gt hn ?_; rintro _ _ ⟨nb, rfl, rfl⟩) | (refine Gt (hc nb) ?_; rintro _ _ ⟨rfl, rfl⟩) | (refine Gt hk ?_; rintro _ _ ⟨pv2, H2, rfl, hq2, hmo, rfl⟩) | (refine Ge ?_ ?_ <;> (intro h; try (exfalso; omega))) | fail)
  all_goals first | (exfalso; omega) | skip
  refine St.d1 Tryz.func10 ⟨_, ⟨_, H2, rfl, hq2, hmo, rfl⟩, Ent.go⟩
theorem does_2 (H : HProp) (pv : Value) (x : Tb) (key val : Nat) (hq : TaR H pv (some x)) (hup : SortP x.pairs) (hl : x.pairs.length ≤ 1000) : Tri Tryz.prog 10 #[pv, bs (nmB 2), .int .u64 (key : Int), .int .u64 (val : Int)] [H] (doesQ H (doesM 2 (some x) key val)) := by
  have hn := names_t
  have hc := contains_2
  have hk := key_2 H pv x key val hq hup hl
  obtain ⟨b, lv, rfl, hrd, hls⟩ := hq
  obtain ⟨ad, cap, rfl, _⟩ := hls
  generalize doesM 2 (some x) key val = m at hk ⊢
  unfold doesQ at *
  unfold namesL at hc
  unfold nmB at *
  refine Tri.of_body (vs := [_, _, _, _]) Tryz.func10 rfl rfl fun w0 F => ?_
  repeat' (first | refine Ga ?_ | (refine Gb ?_; intro b) | (refine Gd ?_; intro g cap rest hcap) | (refine Gc ?_; intro ad cap)  | (refine Gt hn ?_; rintro _ _ ⟨nb, rfl, rfl⟩) | (refine Gt (hc nb) ?_; rintro _ _ ⟨rfl, rfl⟩) | (refine Gt hk ?_; rintro _ _ ⟨pv2, H2, rfl, hq2, hmo, rfl⟩) | (refine Ge ?_ ?_ <;> (intro h; try (exfalso; omega))) | fail)
  all_goals first | (exfalso; omega) | skip
  refine St.d1 Tryz.func10 ⟨_, ⟨_, H2, rfl, hq2, hmo, rfl⟩, Ent.go⟩
theorem does_3 (H : HProp) (pv : Value) (x : Tb) (key val : Nat) (hq : TaR H pv (some x)) (hup : SortP x.pairs) (hl : x.pairs.length ≤ 1000) : Tri Tryz.prog 10 #[pv, bs (nmB 3), .int .u64 (key : Int), .int .u64 (val : Int)] [H] (doesQ H (doesM 3 (some x) key val)) := by
  have hn := names_t
  have hc := contains_3
  have hk := key_3 H pv x key val hq hup hl
  obtain ⟨b, lv, rfl, hrd, hls⟩ := hq
  obtain ⟨ad, cap, rfl, _⟩ := hls
  generalize doesM 3 (some x) key val = m at hk ⊢
  unfold doesQ at *
  unfold namesL at hc
  unfold nmB at *
  refine Tri.of_body (vs := [_, _, _, _]) Tryz.func10 rfl rfl fun w0 F => ?_
  repeat' (first | refine Ga ?_ | (refine Gb ?_; intro b) | (refine Gd ?_; intro g cap rest hcap) | (refine Gc ?_; intro ad cap)  | (refine Gt hn ?_; rintro _ _ ⟨nb, rfl, rfl⟩) | (refine Gt (hc nb) ?_; rintro _ _ ⟨rfl, rfl⟩) | (refine Gt hk ?_; rintro _ _ ⟨pv2, H2, rfl, hq2, hmo, rfl⟩) | (refine Ge ?_ ?_ <;> (intro h; try (exfalso; omega))) | fail)
  all_goals first | (exfalso; omega) | skip
  refine St.d1 Tryz.func10 ⟨_, ⟨_, H2, rfl, hq2, hmo, rfl⟩, Ent.go⟩
theorem does_t (k : Nat) (hk : k ≤ 6) (H : HProp) (pv : Value) (q : Option Tb) (key val : Nat) (hq : TaR H pv q) (hl : ∀ x, q = some x → x.pairs.length ≤ 1000 ∧ SortP x.pairs) : Tri Tryz.prog 10 #[pv, bs (nmB k), .int .u64 (key : Int), .int .u64 (val : Int)] [H] (doesQ H (doesM k q key val)) := by
  rcases (by omega : k = 0 ∨ k = 1 ∨ k = 2 ∨ k = 3 ∨ k = 4 ∨ k = 5 ∨ k = 6) with rfl | rfl | rfl | rfl | rfl | rfl | rfl
  · exact does_0 H pv q key val hq
  · cases q with
    | none => obtain rfl : pv = .pointer none := hq; exact does_1n H key val
    | some x => exact does_1 H pv x key val hq (hl x rfl).2 (hl x rfl).1
  · cases q with
    | none => obtain rfl : pv = .pointer none := hq; exact does_2n H key val
    | some x => exact does_2 H pv x key val hq (hl x rfl).2 (hl x rfl).1
  · cases q with
    | none => obtain rfl : pv = .pointer none := hq; exact does_3n H key val
    | some x => exact does_3 H pv x key val hq (hl x rfl).2 (hl x rfl).1
  · cases q with
    | none => obtain rfl : pv = .pointer none := hq; exact does_4n H key val
    | some x =>
      have hd : doesM 4 (some x) key val = (some x, 0, x.pairs.length) := rfl
      rw [hd]
      exact does_4 H pv x key val hq (hl x rfl).1
  · cases q with
    | none => obtain rfl : pv = .pointer none := hq; exact does_5n H key val
    | some x => exact does_5 H pv x key val hq (hl x rfl).1
  · exact does_6 H pv q key val hq
set_option maxHeartbeats 1000000 in
theorem psame_r (H1 H2 : HProp) (v u : Value) (xs : Prs) (hv : ListR prV H1 v xs) (hu : ListR prV H2 u xs) (hln : xs.length ≤ 1000000) : RTri Tryz.prog 34 #[v, u] [H1, H2] (.bool true) := by
  refine RTri.of_reads fun p hp => ?_
  have hv := hv.weak (q' := p) fun b l h => RdC.of_sat hp (ReadsC.here h)
  have hu := hu.weak (q' := p) fun b l h => RdC.of_sat hp (ReadsC.there (ReadsC.here h))
  obtain ⟨ad1, cap1, rfl, _, hv⟩ := hv
  obtain ⟨ad2, cap2, rfl, _, hu⟩ := hu
  refine Tri.of_body (vs := [_, _]) Tryz.func34 rfl rfl fun w0 F => ?_
  repeat' (first | refine Ga ?_ | (refine Gb ?_; intro b) | (refine Gd ?_; intro g cap rest hcap) | (refine Gc ?_; intro ad cap) | (refine St.draw (id := 6) [(0, 0), (1, 0), (2, 0), (3, 1), (4, 0), (5, 0), (6, 0), (7, 1), (8, 0)] [] mixed (by kernel_rfl) ?_) | (refine Ge ?_ ?_ <;> (intro h; try (exfalso; omega))) | fail)
  all_goals first | (exfalso; omega) | skip
  refine St.loopY (Lr := ?Lr1) (ι := { x : Nat // x ≤ xs.length }) (fun x => xs.length - x.1) (fun x => [(5, .int .i64 (x.1 : Int))]) (fun _ => []) ⟨0, Nat.zero_le _⟩ ?hE1 ?hL1 ?round1
  case hE1 => exact Sub.go
  case hL1 => exact Takes.go
  case round1 =>
    rintro ⟨k, hk⟩ IH; dsimp only at hk IH ⊢
    by_cases hlt : k < xs.length
    · obtain ⟨b1, o1, l1, r1, rfl, hrd1, hdr1, htk1⟩ := ListR.at (f := prV) (sz := 2) prV_len hv k hlt
      obtain ⟨b2, o2, l2, r2, rfl, hrd2, hdr2, htk2⟩ := ListR.at (f := prV) (sz := 2) prV_len hu k hlt
      generalize xs[k] = x at htk1 htk2
      obtain ⟨a, w⟩ := x
      unfold prV at htk1 htk2
      dsimp only at htk1 htk2
      have hne : ¬((!((a : Int) == (a : Int) && ((w : Int) == (w : Int) && true))) = true) := by simp
      repeat' (first | refine Ga ?_ | (refine Gb ?_; intro b) | (refine Gd ?_; intro g cap rest hcap) | (refine Gc ?_; intro ad cap) | (refine St.draw (id := 6) [(0, 0), (1, 0), (2, 0), (3, 1), (4, 0), (5, 0), (6, 0), (7, 1), (8, 0)] [] mixed (by kernel_rfl) ?_) | (refine Ge ?_ ?_ <;> (intro h; try (exfalso; first | omega | contradiction))) | fail)
      all_goals first | (exfalso; omega) | (exfalso; simp_all; done) | skip
      refine IH ⟨k + 1, hlt⟩ (by show xs.length - (k + 1) < xs.length - k; omega) ?_ ?_
      · exact Sub.go
      · exact Ent.go
    · obtain rfl : k = xs.length := by omega
      clear IH
      repeat' (first | refine Ga ?_ | (refine Gb ?_; intro b) | (refine Gd ?_; intro g cap rest hcap) | (refine Gc ?_; intro ad cap) | (refine St.draw (id := 6) [(0, 0), (1, 0), (2, 0), (3, 1), (4, 0), (5, 0), (6, 0), (7, 1), (8, 0)] [] mixed (by kernel_rfl) ?_) | (refine Ge ?_ ?_ <;> (intro h; try (exfalso; omega))) | fail)
      all_goals first | (exfalso; omega) | skip
      refine St.d1 Tryz.func34 ⟨_, ⟨rfl, rfl⟩, Ent.go⟩
set_option maxHeartbeats 1000000 in
theorem lsame_r (H : HProp) (pv xv : Value) (q : Option Tb) (hq : TaR H pv q) (hx : XuT H xv q) (hln : ∀ y, q = some y → y.pairs.length ≤ 1000) : RTri Tryz.prog 13 #[pv, xv] [H] (.bool true) := by
  refine RTri.of_reads fun p hp => ?_
  have hpr : ∀ b l, RdC H b l → RdC p b l := fun b l h => RdC.of_sat hp (ReadsC.here h)
  have hq := hq.weak hpr
  have hx := hx.weak hpr
  cases q with
  | none =>
    obtain rfl : pv = .pointer none := hq
    obtain rfl : xv = .agg ⟨[.bool false, .int .u64 0, .slice none 0 0]⟩ := hx
    refine Tri.of_body (vs := [_, _]) Tryz.func13 rfl rfl fun w0 F => ?_
    repeat' (first | refine Ga ?_ | (refine Gb ?_; intro b) | (refine Gd ?_; intro g cap rest hcap) | (refine Gc ?_; intro ad cap) | (refine St.draw (id := 9) [(0, 0), (1, 1), (2, 0), (3, 0), (4, 0), (5, 0), (6, 1), (7, 0), (8, 1), (9, 0), (10, 0), (11, 0), (12, 0), (13, 0), (14, 1), (15, 1), (16, 0), (17, 0)] [] mixed (by kernel_rfl) ?_) | (refine Ge ?_ ?_ <;> (intro h; try (exfalso; omega))) | fail)
    refine St.d1 Tryz.func13 ⟨_, ⟨rfl, rfl⟩, Ent.go⟩
  | some q =>
    obtain ⟨b, lq, rfl, hrd, hlq⟩ := hq
    obtain ⟨lv, rfl, hlx⟩ := hx
    have hl := hln q rfl
    have hlx' := hlx
    obtain ⟨xad, xcap, rfl, _⟩ := hlx'
    obtain ⟨qad, qcap, rfl, _, hlq⟩ := hlq
    refine Tri.of_body (vs := [_, _]) Tryz.func13 rfl rfl fun w0 F => ?_
    repeat' (first | refine Ga ?_ | (refine Gb ?_; intro b) | (refine Gd ?_; intro g cap rest hcap) | (refine Gc ?_; intro ad cap) | (refine St.draw (id := 9) [(0, 0), (1, 1), (2, 0), (3, 0), (4, 0), (5, 0), (6, 1), (7, 0), (8, 1), (9, 0), (10, 0), (11, 0), (12, 0), (13, 0), (14, 1), (15, 1), (16, 0), (17, 0)] [] mixed (by kernel_rfl) ?_) | (refine Ge ?_ ?_ <;> (intro h; try (exfalso; omega))) | fail)
    all_goals first | (exfalso; omega) | skip
    revert b; intro B
    revert b; intro Bx
    refine St.conv ?_ (Sub.refl _) (Ent.row_bl (sz := 2) (n := 0) rfl (by decide))
    refine St.loopY (Lr := ?Lr1) (ι := { x : Nat × Option Addr × Nat // x.1 ≤ q.pairs.length }) (fun x => q.pairs.length - x.1.1)
      (fun x => [(19, .int .i64 (x.1.1 : Int)), (5, .slice x.1.2.1 x.1.1 x.1.2.2)]) (fun x => [Row (.slice x.1.2.1 x.1.1 x.1.2.2) 78 2 x.1.1 ((q.pairs.take x.1.1).flatMap prV)]) ⟨(0, some ⟨B, 0, none⟩, 0), Nat.zero_le _⟩ ?hE1 ?hL1 ?round1
    case hE1 => exact Sub.go
    case hL1 => exact Takes.go
    case round1 =>
      rintro ⟨⟨i, oad, ocap⟩, hi⟩ IH; dsimp only at hi IH ⊢
      by_cases hlt : i < q.pairs.length
      · obtain ⟨bf, o, l, l1, rfl, hrd1, hdr, htk⟩ := ListR.at (f := prV) (sz := 2) prV_len hlq i hlt
        have ht1 : (q.pairs.take (i + 1)).flatMap prV = (q.pairs.take i).flatMap prV ++ prV q.pairs[i] := by
          rw [List.take_succ_eq_append_getElem hlt, List.flatMap_append, List.flatMap_cons, List.flatMap_nil, List.append_nil]
        generalize q.pairs[i] = x at htk ht1
        obtain ⟨a, b0⟩ := x
        unfold prV at htk
        dsimp only at htk ht1
        repeat' (first | refine Ga ?_ | (refine Gb ?_; intro b) | (refine Gd ?_; intro g cap rest hcap) | (refine Gc ?_; intro ad cap) | (refine St.draw (id := 9) [(0, 0), (1, 1), (2, 0), (3, 0), (4, 0), (5, 0), (6, 1), (7, 0), (8, 1), (9, 0), (10, 0), (11, 0), (12, 0), (13, 0), (14, 1), (15, 1), (16, 0), (17, 0)] [] mixed (by kernel_rfl) ?_) | (refine Ge ?_ ?_ <;> (intro h; try (exfalso; omega))) | fail)
        all_goals first | (exfalso; omega) | skip
        refine IH ⟨(i + 1, ad, cap), hlt⟩ (by show q.pairs.length - (i + 1) < q.pairs.length - i; omega) ?_ ?_
        · exact Sub.go
        · dsimp only; rw [ht1]; exact Ent.go
      · obtain rfl : i = q.pairs.length := by omega
        clear IH
        rw [List.take_length]
        refine St.conv ?_ (Sub.refl _) (Ent.of_take (p := Row (.slice oad q.pairs.length ocap) 78 2 q.pairs.length (q.pairs.flatMap prV)) Take.go)
        refine St.rowL rfl fun R hR => ?_
        have hsm := psame_r R p _ _ q.pairs hR hlx (by omega)
        repeat' (first | refine Ga ?_ | (refine Gb ?_; intro b) | (refine Gd ?_; intro g cap rest hcap) | (refine Gc ?_; intro ad cap) | (refine St.draw (id := 9) [(0, 0), (1, 1), (2, 0), (3, 0), (4, 0), (5, 0), (6, 1), (7, 0), (8, 1), (9, 0), (10, 0), (11, 0), (12, 0), (13, 0), (14, 1), (15, 1), (16, 0), (17, 0)] [] mixed (by kernel_rfl) ?_)| refine Gl hsm ?_ | (refine Ge ?_ ?_ <;> (intro h; try (exfalso; omega))) | fail)
        all_goals first | (exfalso; omega) | skip
        refine St.d1 Tryz.func13 ⟨_, ⟨rfl, rfl⟩, Ent.go⟩
def rdoesV (H : HProp) (m : Option Tb × Int × Nat) (v : Value) (L : List HProp) : Prop :=
  ∃ (yp : Bool) (yn : Nat) (yad : Option Addr) (ym ycap : Nat) (H' : HProp), v = .tuple ⟨[.agg ⟨[.bool yp, .int .u64 (yn : Int), .slice yad ym ycap]⟩, .agg ⟨[.int .i64 m.2.1, .int .u64 (m.2.2 : Int)]⟩]⟩ ∧ XuT H' (.agg ⟨[.bool yp, .int .u64 (yn : Int), .slice yad ym ycap]⟩) m.1 ∧ (∀ b l, RdC H b l → RdC H' b l) ∧ L = [H']
theorem rdoesQ.v {H : HProp} {m : Option Tb × Int × Nat} {v : Value} {L : List HProp} (h : rdoesQ H m v L) : rdoesV H m v L := by
  obtain ⟨xv', H', rfl, hx, hmo, rfl⟩ := h
  have hx' := hx
  cases hm : m.1 with
  | none =>
    rw [hm] at hx
    have hx : xv' = .agg ⟨[.bool false, .int .u64 0, .slice none 0 0]⟩ := hx
    subst hx
    exact ⟨false, 0, none, 0, 0, H', rfl, hx', hmo, rfl⟩
  | some t =>
    rw [hm] at hx
    obtain ⟨lv, rfl, h2⟩ := hx
    obtain ⟨a, c, rfl, _⟩ := h2
    exact ⟨true, t.cap, a, t.pairs.length, c, H', rfl, hx', hmo, rfl⟩
theorem nameM_nm (n : Int) : ∃ k, k ≤ 6 ∧ nameM n = nmB k := by
  unfold nameM
  split
  · exact ⟨6, by decide, rfl⟩
  · exact ⟨n.toNat, by omega, rfl⟩
def upT (n : Nat) (q : Option Tb) : Prop := ∀ x, q = some x → x.pairs.length ≤ n ∧ SortP x.pairs
theorem doesM_up (k : Nat) {n : Nat} {q : Option Tb} (key val : Nat) (h : upT n q) : upT (n + 1) (doesM k q key val).1 := by
  intro y hy
  cases q with
  | none =>
    rw [doesM_none] at hy
    repeat' split at hy
    all_goals dsimp only at hy
    all_goals first | (cases hy; done) | (injection hy with hy; rw [← hy]; exact ⟨Nat.zero_le _, .nil⟩)
  | some t =>
    obtain ⟨hl, hs⟩ := h t rfl
    have h1 := withP_len key val t.pairs
    have h2 := withoutP_len key t.pairs
    rw [doesM_some] at hy
    repeat' split at hy
    all_goals dsimp only at hy
    all_goals first
      | (cases hy; done)
      | (injection hy with hy; rw [← hy]; exact ⟨by omega, hs⟩)
      | (injection hy with hy; rw [← hy]; exact ⟨by dsimp only; omega, withP_sort hs⟩)
      | (injection hy with hy; rw [← hy]; exact ⟨by dsimp only; omega, withoutP_sort hs⟩)
set_option maxHeartbeats 4000000 in
theorem qdoes_t (q : HProp) (qv : Value) (ops : List OpB) (hv : ListR opbV q qv ops) : Tri Tryz.prog 3 #[qv] [q] fun v L => v = .bool true ∧ L = [q] := by
  obtain ⟨oad, ocap, rfl, _, hv⟩ := hv
  by_cases h60 : 60 < ops.length
  · refine Tri.of_body (vs := [_]) Tryz.func3 rfl rfl fun w0 F => ?_
    repeat' (first | refine Ga ?_ | (refine Gb ?_; intro b) | (refine Gd ?_; intro g cap rest hcap) | (refine Gc ?_; intro ad cap) | (refine St.drawa (id := 10) [(0, 0), (1, 0), (2, 1), (3, 1), (4, 0), (5, 1), (6, 0), (7, 1), (8, 3), (9, 0), (10, 0), (11, 0)] [(13, 0), (14, 3)] [8, 14] 12 mixed rfl (by intro w; rfl) (by kernel_rfl) ?_) | (refine St.drawT (id := 11) [(0, 1), (1, 0), (2, 1), (3, 1), (4, 0), (5, 1), (6, 0), (7, 1)] (.pick [(8, 3), (9, 0), (10, 0), (11, 0)] (.pick [(12, 2), (13, 2), (14, 3), (15, 3)] .done (.pick [(13, 2), (12, 2), (14, 3), (15, 3)] .done .nope)) (.pick [(12, 2)] (.pick [(8, 3), (9, 0), (10, 0), (11, 0), (13, 2), (14, 3), (15, 3)] .done (.pick [(13, 2), (8, 3), (9, 0), (10, 0), (11, 0), (14, 3), (15, 3)] .done .nope)) (.pick [(13, 2)] (.pick [(8, 3), (9, 0), (10, 0), (11, 0), (12, 2), (14, 3), (15, 3)] .done (.pick [(12, 2), (8, 3), (9, 0), (10, 0), (11, 0), (14, 3), (15, 3)] .done .nope)) .nope))) [8, 14, 15] mixed (by kernel_rfl) ?_) | (refine St.draw (id := 14) [(0, 0), (1, 1), (2, 0), (3, 3)] [3] mixed (by kernel_rfl) ?_) | apply StD.pick | exact StD.nope  | (refine Gt alive_t ?_; rintro _ _ ⟨rfl, rfl⟩) | (refine Ge ?_ ?_ <;> (intro h; try (exfalso; omega))) | fail)
    all_goals first | (exfalso; omega) | skip
    refine St.d1 Tryz.func3 ⟨_, ⟨rfl, rfl⟩, Ent.go⟩
  · refine Tri.of_body (vs := [_]) Tryz.func3 rfl rfl fun w0 F => ?_
    repeat' (first | refine Ga ?_ | (refine Gb ?_; intro b) | (refine Gd ?_; intro g cap rest hcap) | (refine Gc ?_; intro ad cap) | (refine St.drawa (id := 10) [(0, 0), (1, 0), (2, 1), (3, 1), (4, 0), (5, 1), (6, 0), (7, 1), (8, 3), (9, 0), (10, 0), (11, 0)] [(13, 0), (14, 3)] [8, 14] 12 mixed rfl (by intro w; rfl) (by kernel_rfl) ?_) | (refine St.drawT (id := 11) [(0, 1), (1, 0), (2, 1), (3, 1), (4, 0), (5, 1), (6, 0), (7, 1)] (.pick [(8, 3), (9, 0), (10, 0), (11, 0)] (.pick [(12, 2), (13, 2), (14, 3), (15, 3)] .done (.pick [(13, 2), (12, 2), (14, 3), (15, 3)] .done .nope)) (.pick [(12, 2)] (.pick [(8, 3), (9, 0), (10, 0), (11, 0), (13, 2), (14, 3), (15, 3)] .done (.pick [(13, 2), (8, 3), (9, 0), (10, 0), (11, 0), (14, 3), (15, 3)] .done .nope)) (.pick [(13, 2)] (.pick [(8, 3), (9, 0), (10, 0), (11, 0), (12, 2), (14, 3), (15, 3)] .done (.pick [(12, 2), (8, 3), (9, 0), (10, 0), (11, 0), (14, 3), (15, 3)] .done .nope)) .nope))) [8, 14, 15] mixed (by kernel_rfl) ?_) | (refine St.draw (id := 14) [(0, 0), (1, 1), (2, 0), (3, 3)] [3] mixed (by kernel_rfl) ?_) | apply StD.pick | exact StD.nope  | (refine Gt alive_t ?_; rintro _ _ ⟨rfl, rfl⟩) | (refine Ge ?_ ?_ <;> (intro h; try (exfalso; omega))) | fail)
    all_goals first | (exfalso; omega) | skip
    revert b; intro B
    refine St.conv ?_ (Sub.refl _) (Ent.star_in [])
    refine St.loopY (Lr := ?Lr1) (ι := { x : Nat × Option Tb × HProp × Value × Bool × Nat × Option Addr × Nat × Nat // x.1 ≤ ops.length ∧ upT x.1 x.2.1 ∧ TaR x.2.2.1 x.2.2.2.1 x.2.1 ∧ XuT x.2.2.1 (.agg ⟨[.bool x.2.2.2.2.1, .int .u64 (x.2.2.2.2.2.1 : Int), .slice x.2.2.2.2.2.2.1 x.2.2.2.2.2.2.2.1 x.2.2.2.2.2.2.2.2]⟩) x.2.1 }) (fun x => ops.length - x.1.1)
      (fun x => [(19, .int .i64 (x.1.1 : Int)), (3, x.1.2.2.2.1)]) (fun x => [x.1.2.2.1, bl B 28 [.bool x.1.2.2.2.2.1, .int .u64 (x.1.2.2.2.2.2.1 : Int), .slice x.1.2.2.2.2.2.2.1 x.1.2.2.2.2.2.2.2.1 x.1.2.2.2.2.2.2.2.2]]) ⟨(0, none, star [], .pointer none, false, 0, none, 0, 0), Nat.zero_le _, fun _ h => (by cases h), rfl, rfl⟩ ?hE1 ?hL1 ?round1
    case hE1 => exact Sub.go
    case hL1 => exact Takes.go
    case round1 =>
      rintro ⟨⟨k, qu, H, pv, xp, xn, xad, xm, xcap⟩, hk, hup, hqu, hxu⟩ IH; dsimp only at hk hup hqu hxu IH ⊢
      by_cases hlt : k < ops.length
      · obtain ⟨bf, o, l, l1, rfl, hrd, hdr, htk⟩ := ListR.at (f := opbV) (sz := 3) (fun _ => rfl) hv k hlt
        generalize ops[k] = op at htk
        obtain ⟨⟨nm, key, val⟩, harg, hval⟩ := op
        unfold opbV at htk
        dsimp only at htk harg hval
        have hnm := qname_r nm
        obtain ⟨j, hj, e⟩ := nameM_nm nm
        rw [e] at hnm
        have hl1 : ∀ x, qu = some x → x.pairs.length ≤ 1000 := fun x hx => by have := (hup x hx).1; omega
        have hdo := does_t j hj H pv qu key val hqu (fun x hx => ⟨hl1 x hx, (hup x hx).2⟩)
        have hup2 := doesM_up j key val hup
        have hrd0 := fun H' hx => rdoes_t j hj H' (.agg ⟨[.bool xp, .int .u64 (xn : Int), .slice xad xm xcap]⟩) qu key val hx hl1
        have hrd0 := fun H' hx => (hrd0 H' hx).mono (Q' := rdoesV H' (doesM j qu key val)) (fun _ _ h => h.v)
        generalize doesM j qu key val = r at hdo hrd0 hup2
        obtain ⟨qu2, rc, rv⟩ := r
        unfold doesQ at hdo
        unfold rdoesV at hrd0
        dsimp only at hdo hrd0 hup2
        repeat' (first | refine St.halt 11 ?_ |refine Ga ?_ | (refine Gb ?_; intro b) | (refine Gd ?_; intro g cap rest hcap) | (refine Gc ?_; intro ad cap) | (refine St.drawa (id := 10) [(0, 0), (1, 0), (2, 1), (3, 1), (4, 0), (5, 1), (6, 0), (7, 1), (8, 3), (9, 0), (10, 0), (11, 0)] [(13, 0), (14, 3)] [8, 14] 12 mixed rfl (by intro w; rfl) (by kernel_rfl) ?_) | (refine St.drawT (id := 11) [(0, 1), (1, 0), (2, 1), (3, 1), (4, 0), (5, 1), (6, 0), (7, 1)] (.pick [(8, 3), (9, 0), (10, 0), (11, 0)] (.pick [(12, 2), (13, 2), (14, 3), (15, 3)] .done (.pick [(13, 2), (12, 2), (14, 3), (15, 3)] .done .nope)) (.pick [(12, 2)] (.pick [(8, 3), (9, 0), (10, 0), (11, 0), (13, 2), (14, 3), (15, 3)] .done (.pick [(13, 2), (8, 3), (9, 0), (10, 0), (11, 0), (14, 3), (15, 3)] .done .nope)) (.pick [(13, 2)] (.pick [(8, 3), (9, 0), (10, 0), (11, 0), (12, 2), (14, 3), (15, 3)] .done (.pick [(12, 2), (8, 3), (9, 0), (10, 0), (11, 0), (14, 3), (15, 3)] .done .nope)) .nope))) [8, 14, 15] mixed (by kernel_rfl) ?_) | (refine St.draw (id := 14) [(0, 0), (1, 1), (2, 0), (3, 3)] [3] mixed (by kernel_rfl) ?_) | apply StD.pick | exact StD.nope | refine Gl hnm ?_ | (refine Gt hdo ?_; rintro _ _ ⟨pv2, H2, rfl, hqu2, hmo, rfl⟩) | (refine Ge ?_ ?_ <;> (intro h; try (exfalso; omega))) | fail)
        apply Halt.go
        have hxu2 := hxu.weak hmo
        have hrd := hrd0 H2 hxu2
        revert b; intro Br
        revert b; intro Bo
        apply St.seq
        refine St.drawT0 (L0 := [bl Br 33 [.int .i64 rc, .int .u64 (rv : Int)], bl Bo 30 [.int .i64 nm, .int .u64 (key : Int), .int .u64 (val : Int)], bl B 28 [.bool xp, .int .u64 (xn : Int), .slice xad xm xcap]]) (id := 11) [(0, 1), (1, 0), (2, 1), (3, 1), (4, 0), (5, 1), (6, 0), (7, 1)] (.pick [(8, 3), (9, 0), (10, 0), (11, 0)] (.pick [(12, 2), (13, 2), (14, 3), (15, 3)] .done (.pick [(13, 2), (12, 2), (14, 3), (15, 3)] .done .nope)) (.pick [(12, 2)] (.pick [(8, 3), (9, 0), (10, 0), (11, 0), (13, 2), (14, 3), (15, 3)] .done (.pick [(13, 2), (8, 3), (9, 0), (10, 0), (11, 0), (14, 3), (15, 3)] .done .nope)) (.pick [(13, 2)] (.pick [(8, 3), (9, 0), (10, 0), (11, 0), (12, 2), (14, 3), (15, 3)] .done (.pick [(12, 2), (8, 3), (9, 0), (10, 0), (11, 0), (14, 3), (15, 3)] .done .nope)) .nope))) [8, 14, 15] mixed (by kernel_rfl) ?_
        repeat' (first | refine St.halt 12 ?_ |refine Ga ?_ | (refine Gb ?_; intro b) | (refine Gd ?_; intro g cap rest hcap) | (refine Gc ?_; intro ad cap) | (refine St.drawa (id := 10) [(0, 0), (1, 0), (2, 1), (3, 1), (4, 0), (5, 1), (6, 0), (7, 1), (8, 3), (9, 0), (10, 0), (11, 0)] [(13, 0), (14, 3)] [8, 14] 12 mixed rfl (by intro w; rfl) (by kernel_rfl) ?_) | (refine St.drawT (id := 11) [(0, 1), (1, 0), (2, 1), (3, 1), (4, 0), (5, 1), (6, 0), (7, 1)] (.pick [(8, 3), (9, 0), (10, 0), (11, 0)] (.pick [(12, 2), (13, 2), (14, 3), (15, 3)] .done (.pick [(13, 2), (12, 2), (14, 3), (15, 3)] .done .nope)) (.pick [(12, 2)] (.pick [(8, 3), (9, 0), (10, 0), (11, 0), (13, 2), (14, 3), (15, 3)] .done (.pick [(13, 2), (8, 3), (9, 0), (10, 0), (11, 0), (14, 3), (15, 3)] .done .nope)) (.pick [(13, 2)] (.pick [(8, 3), (9, 0), (10, 0), (11, 0), (12, 2), (14, 3), (15, 3)] .done (.pick [(12, 2), (8, 3), (9, 0), (10, 0), (11, 0), (14, 3), (15, 3)] .done .nope)) .nope))) [8, 14, 15] mixed (by kernel_rfl) ?_) | (refine St.draw (id := 14) [(0, 0), (1, 1), (2, 0), (3, 3)] [3] mixed (by kernel_rfl) ?_) | apply StD.pick | exact StD.nope | refine Gl hnm ?_ | (refine Gt hrd ?_; rintro _ _ ⟨yp, yn, yad, ym, ycap, H3, rfl, hxu3, hmo3, rfl⟩) | (refine Ge ?_ ?_ <;> (intro h; try (exfalso; omega))) | fail)
        all_goals (
          apply Halt.go
          have hqu3 := hqu2.weak hmo3
          have hqo := (hqu.weak hmo).weak hmo3
          have hxo := hxu2.weak hmo3
          have hs1 := lsame_r H3 pv2 _ qu2 hqu3 hxu3 (fun y hy => by have := (hup2 y hy).1; omega)
          have hs2 := lsame_r H3 pv _ qu hqo hxo (fun y hy => by have := hl1 y hy; omega)
          have hne : ¬((!(rc == rc && ((rv : Int) == (rv : Int) && true))) = true) := by simp
          repeat' (first | refine Ga ?_ | (refine Gb ?_; intro b) | (refine Gd ?_; intro g cap rest hcap) | (refine Gc ?_; intro ad cap) | (refine St.drawa (id := 10) [(0, 0), (1, 0), (2, 1), (3, 1), (4, 0), (5, 1), (6, 0), (7, 1), (8, 3), (9, 0), (10, 0), (11, 0)] [(13, 0), (14, 3)] [8, 14] 12 mixed rfl (by intro w; rfl) (by kernel_rfl) ?_) | (refine St.drawT (id := 11) [(0, 1), (1, 0), (2, 1), (3, 1), (4, 0), (5, 1), (6, 0), (7, 1)] (.pick [(8, 3), (9, 0), (10, 0), (11, 0)] (.pick [(12, 2), (13, 2), (14, 3), (15, 3)] .done (.pick [(13, 2), (12, 2), (14, 3), (15, 3)] .done .nope)) (.pick [(12, 2)] (.pick [(8, 3), (9, 0), (10, 0), (11, 0), (13, 2), (14, 3), (15, 3)] .done (.pick [(13, 2), (8, 3), (9, 0), (10, 0), (11, 0), (14, 3), (15, 3)] .done .nope)) (.pick [(13, 2)] (.pick [(8, 3), (9, 0), (10, 0), (11, 0), (12, 2), (14, 3), (15, 3)] .done (.pick [(12, 2), (8, 3), (9, 0), (10, 0), (11, 0), (14, 3), (15, 3)] .done .nope)) .nope))) [8, 14, 15] mixed (by kernel_rfl) ?_) | (refine St.draw (id := 14) [(0, 0), (1, 1), (2, 0), (3, 3)] [3] mixed (by kernel_rfl) ?_) | apply StD.pick | exact StD.nope | refine Gl hs1 ?_ | refine Gl hs2 ?_ | (refine Ge ?_ ?_ <;> (intro h; try (exfalso; first | omega | contradiction))) | fail)
          all_goals first | (exfalso; simp_all; done) | skip
          refine IH ⟨(k + 1, qu2, H3, pv2, yp, yn, yad, ym, ycap), hlt, hup2, hqu3, hxu3⟩ (by show ops.length - (k + 1) < ops.length - k; omega) ?_ ?_
          · exact Sub.go
          · exact Ent.go)
      · obtain rfl : k = ops.length := by omega
        clear IH
        repeat' (first | refine Ga ?_ | (refine Gb ?_; intro b) | (refine Gd ?_; intro g cap rest hcap) | (refine Gc ?_; intro ad cap) | (refine St.drawa (id := 10) [(0, 0), (1, 0), (2, 1), (3, 1), (4, 0), (5, 1), (6, 0), (7, 1), (8, 3), (9, 0), (10, 0), (11, 0)] [(13, 0), (14, 3)] [8, 14] 12 mixed rfl (by intro w; rfl) (by kernel_rfl) ?_) | (refine St.drawT (id := 11) [(0, 1), (1, 0), (2, 1), (3, 1), (4, 0), (5, 1), (6, 0), (7, 1)] (.pick [(8, 3), (9, 0), (10, 0), (11, 0)] (.pick [(12, 2), (13, 2), (14, 3), (15, 3)] .done (.pick [(13, 2), (12, 2), (14, 3), (15, 3)] .done .nope)) (.pick [(12, 2)] (.pick [(8, 3), (9, 0), (10, 0), (11, 0), (13, 2), (14, 3), (15, 3)] .done (.pick [(13, 2), (8, 3), (9, 0), (10, 0), (11, 0), (14, 3), (15, 3)] .done .nope)) (.pick [(13, 2)] (.pick [(8, 3), (9, 0), (10, 0), (11, 0), (12, 2), (14, 3), (15, 3)] .done (.pick [(12, 2), (8, 3), (9, 0), (10, 0), (11, 0), (14, 3), (15, 3)] .done .nope)) .nope))) [8, 14, 15] mixed (by kernel_rfl) ?_) | (refine St.draw (id := 14) [(0, 0), (1, 1), (2, 0), (3, 3)] [3] mixed (by kernel_rfl) ?_) | apply StD.pick | exact StD.nope  | (refine Ge ?_ ?_ <;> (intro h; try (exfalso; omega))) | fail)
        refine St.d1 Tryz.func3 ⟨_, ⟨rfl, rfl⟩, Ent.go⟩
end Go.Proofs.YthbignifgljphaaGreatDoor
