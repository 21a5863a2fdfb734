/-
  Package chain: Does, of what no key is about.
-/
import Derived.Test.YtphheopbngdhhaaGreatDoorCc
namespace Go.Proofs.YtphheopbngdhhaaGreatDoor
set_option maxRecDepth 100000
theorem SlR.val {q : HProp} {v : Value} {xs : List Nat} (h : SlR q v xs) : ∃ ad cap, v = .slice ad xs.length cap := by
  rcases h with ⟨h, rfl⟩ | ⟨b, o, l, r, cap, h, _⟩
  · exact ⟨none, 0, h⟩
  · exact ⟨_, _, h⟩
theorem SlR.at {q : HProp} {v : Value} {xs : List Nat} (h : SlR q v xs) (h0 : 0 < xs.length) : ∃ b o cap l, v = .slice (some ⟨b, o, none⟩) xs.length cap ∧ RdC q b l ∧ ∀ (k : Nat) (hk : k < xs.length), NthN (o + (k : Int).toNat * 1) l (.int .u64 (xs[k] : Int)) := by
  rcases h with ⟨_, rfl⟩ | ⟨b, o, l, r, cap, h1, h2, h3, h4, h5⟩
  · cases h0
  · refine ⟨b, o, cap, l, h1, h3, fun k hk => ?_⟩
    have := NthN.part h4 h5 (NthN.u64s hk)
    rw [show (k : Int).toNat * 1 = k by omega]
    rw [show xs[k] = xs.getD k 0 by rw [List.getD_eq_getElem?_getD, List.getElem?_eq_getElem hk]; rfl]
    exact this
/-- behind what is done -/
def doesQ (H : HProp) (m : Option Qu × Int × Nat) (v : Value) (L : List HProp) : Prop :=
  ∃ pv' H', v = .tuple ⟨[pv', .agg ⟨[.int .i64 m.2.1, .int .u64 (m.2.2 : Int)]⟩]⟩ ∧ QuR H' pv' m.1 ∧ (∀ b l, RdC H b l → RdC H' b l) ∧ L = [H']
theorem does_0 (H : HProp) (pv : Value) (q : Option Qu) (arg : Nat) (hq : QuR H pv q) : Tri Tryz.prog 60 #[pv, bs (nmB 0), .int .u64 (arg : Int)] [H] (doesQ H (doesM 0 q arg)) := by
  have hg := gives_r 4
  unfold doesM nmB
  cases q with
  | none =>
    have hq : pv = .pointer none := hq
    subst hq
    dsimp only
    refine Tri.of_body (vs := [_, _, _]) Tryz.func60 rfl rfl fun w0 F => ?_
    repeat' (first | refine Ga ?_ | (refine Gb ?_; intro b) | (refine Gd ?_; intro g cap rest hcap) | (refine Gc ?_; intro ad cap) | (refine St.draw (id := 16) [(0, 0), (1, 0), (2, 0), (3, 0), (4, 1), (5, 0), (6, 1), (7, 0), (8, 0), (9, 3)] [9] mixed (by kernel_rfl) ?_)| refine Gl hg ?_ | (refine Ge ?_ ?_ <;> (intro h; try (exfalso; omega))) | fail)
    refine St.d1 Tryz.func60 ⟨_, ⟨_, star [bl b 142 [.int .u64 (arg : Int), .slice none 0 0], H], rfl, ⟨b, _, rfl, RdC.star (p := bl b 142 [.int .u64 (arg : Int), .slice none 0 0]) (.head _) RdC.bl, .inl ⟨rfl, rfl⟩⟩, fun b l h => RdC.star (.tail _ (.head _)) h, rfl⟩, ?_⟩
    refine Ent.trans ?_ (Ent.star_in _)
    exact Ent.go
  | some x =>
    have hq' := hq
    obtain ⟨b, lv, rfl, hrd, hsl⟩ := hq
    dsimp only
    refine Tri.of_body (vs := [_, _, _]) Tryz.func60 rfl rfl fun w0 F => ?_
    repeat' (first | refine Ga ?_ | (refine Gb ?_; intro b) | (refine Gd ?_; intro g cap rest hcap) | (refine Gc ?_; intro ad cap) | (refine St.draw (id := 16) [(0, 0), (1, 0), (2, 0), (3, 0), (4, 1), (5, 0), (6, 1), (7, 0), (8, 0), (9, 3)] [9] mixed (by kernel_rfl) ?_)| refine Gl hg ?_ | (refine Ge ?_ ?_ <;> (intro h; try (exfalso; omega))) | fail)
    refine St.d1 Tryz.func60 ⟨_, ⟨_, H, rfl, hq', fun b l h => h, rfl⟩, ?_⟩
    exact Ent.go
theorem does_7 (H : HProp) (pv : Value) (q : Option Qu) (arg : Nat) (hq : QuR H pv q) : Tri Tryz.prog 60 #[pv, bs (nmB 7), .int .u64 (arg : Int)] [H] (doesQ H (doesM 7 q arg)) := by
  have hn := names_t
  have hc := contains_7
  unfold namesL at hc
  unfold doesM nmB at *
  refine Tri.of_body (vs := [_, _, _]) Tryz.func60 rfl rfl fun w0 F => ?_
  repeat' (first | refine Ga ?_ | (refine Gb ?_; intro b) | (refine Gd ?_; intro g cap rest hcap) | (refine Gc ?_; intro ad cap) | (refine St.draw (id := 16) [(0, 0), (1, 0), (2, 0), (3, 0), (4, 1), (5, 0), (6, 1), (7, 0), (8, 0), (9, 3)] [9] mixed (by kernel_rfl) ?_) | (refine Gt hn ?_; rintro _ _ ⟨nb, rfl, rfl⟩) | (refine Gt (hc nb) ?_; rintro _ _ ⟨rfl, rfl⟩) | (refine Ge ?_ ?_ <;> (intro h; try (exfalso; omega))) | fail)
  refine St.d1 Tryz.func60 ⟨_, ⟨_, H, rfl, hq, fun b l h => h, rfl⟩, ?_⟩
  exact Ent.go
theorem does_1n (H : HProp) (arg : Nat) : Tri Tryz.prog 60 #[.pointer none, bs (nmB 1), .int .u64 (arg : Int)] [H] (doesQ H (doesM 1 none arg)) := by
  have hn := names_t
  have hc := contains_1
  have hg := gives_r 3
  unfold namesL at hc
  unfold doesM nmB at *
  refine Tri.of_body (vs := [_, _, _]) Tryz.func60 rfl rfl fun w0 F => ?_
  repeat' (first | refine Ga ?_ | (refine Gb ?_; intro b) | (refine Gd ?_; intro g cap rest hcap) | (refine Gc ?_; intro ad cap) | (refine St.draw (id := 16) [(0, 0), (1, 0), (2, 0), (3, 0), (4, 1), (5, 0), (6, 1), (7, 0), (8, 0), (9, 3)] [9] mixed (by kernel_rfl) ?_)| refine Gl hg ?_ | (refine Gt hn ?_; rintro _ _ ⟨nb, rfl, rfl⟩) | (refine Gt (hc nb) ?_; rintro _ _ ⟨rfl, rfl⟩) | (refine Ge ?_ ?_ <;> (intro h; try (exfalso; omega))) | fail)
  refine St.d1 Tryz.func60 ⟨_, ⟨_, H, rfl, rfl, fun b l h => h, rfl⟩, ?_⟩
  exact Ent.go
theorem does_2n (H : HProp) (arg : Nat) : Tri Tryz.prog 60 #[.pointer none, bs (nmB 2), .int .u64 (arg : Int)] [H] (doesQ H (doesM 2 none arg)) := by
  have hn := names_t
  have hc := contains_2
  have hg := gives_r 3
  unfold namesL at hc
  unfold doesM nmB at *
  refine Tri.of_body (vs := [_, _, _]) Tryz.func60 rfl rfl fun w0 F => ?_
  repeat' (first | refine Ga ?_ | (refine Gb ?_; intro b) | (refine Gd ?_; intro g cap rest hcap) | (refine Gc ?_; intro ad cap) | (refine St.draw (id := 16) [(0, 0), (1, 0), (2, 0), (3, 0), (4, 1), (5, 0), (6, 1), (7, 0), (8, 0), (9, 3)] [9] mixed (by kernel_rfl) ?_)| refine Gl hg ?_ | (refine Gt hn ?_; rintro _ _ ⟨nb, rfl, rfl⟩) | (refine Gt (hc nb) ?_; rintro _ _ ⟨rfl, rfl⟩) | (refine Ge ?_ ?_ <;> (intro h; try (exfalso; omega))) | fail)
  refine St.d1 Tryz.func60 ⟨_, ⟨_, H, rfl, rfl, fun b l h => h, rfl⟩, ?_⟩
  exact Ent.go
theorem does_3n (H : HProp) (arg : Nat) : Tri Tryz.prog 60 #[.pointer none, bs (nmB 3), .int .u64 (arg : Int)] [H] (doesQ H (doesM 3 none arg)) := by
  have hn := names_t
  have hc := contains_3
  have hg := gives_r 3
  unfold namesL at hc
  unfold doesM nmB at *
  refine Tri.of_body (vs := [_, _, _]) Tryz.func60 rfl rfl fun w0 F => ?_
  repeat' (first | refine Ga ?_ | (refine Gb ?_; intro b) | (refine Gd ?_; intro g cap rest hcap) | (refine Gc ?_; intro ad cap) | (refine St.draw (id := 16) [(0, 0), (1, 0), (2, 0), (3, 0), (4, 1), (5, 0), (6, 1), (7, 0), (8, 0), (9, 3)] [9] mixed (by kernel_rfl) ?_)| refine Gl hg ?_ | (refine Gt hn ?_; rintro _ _ ⟨nb, rfl, rfl⟩) | (refine Gt (hc nb) ?_; rintro _ _ ⟨rfl, rfl⟩) | (refine Ge ?_ ?_ <;> (intro h; try (exfalso; omega))) | fail)
  refine St.d1 Tryz.func60 ⟨_, ⟨_, H, rfl, rfl, fun b l h => h, rfl⟩, ?_⟩
  exact Ent.go
theorem does_4n (H : HProp) (arg : Nat) : Tri Tryz.prog 60 #[.pointer none, bs (nmB 4), .int .u64 (arg : Int)] [H] (doesQ H (doesM 4 none arg)) := by
  have hn := names_t
  have hc := contains_4
  have hg := gives_r 3
  unfold namesL at hc
  unfold doesM nmB at *
  refine Tri.of_body (vs := [_, _, _]) Tryz.func60 rfl rfl fun w0 F => ?_
  repeat' (first | refine Ga ?_ | (refine Gb ?_; intro b) | (refine Gd ?_; intro g cap rest hcap) | (refine Gc ?_; intro ad cap) | (refine St.draw (id := 16) [(0, 0), (1, 0), (2, 0), (3, 0), (4, 1), (5, 0), (6, 1), (7, 0), (8, 0), (9, 3)] [9] mixed (by kernel_rfl) ?_)| refine Gl hg ?_ | (refine Gt hn ?_; rintro _ _ ⟨nb, rfl, rfl⟩) | (refine Gt (hc nb) ?_; rintro _ _ ⟨rfl, rfl⟩) | (refine Ge ?_ ?_ <;> (intro h; try (exfalso; omega))) | fail)
  refine St.d1 Tryz.func60 ⟨_, ⟨_, H, rfl, rfl, fun b l h => h, rfl⟩, ?_⟩
  exact Ent.go
theorem does_5n (H : HProp) (arg : Nat) : Tri Tryz.prog 60 #[.pointer none, bs (nmB 5), .int .u64 (arg : Int)] [H] (doesQ H (doesM 5 none arg)) := by
  have hn := names_t
  have hc := contains_5
  have hg := gives_r 3
  unfold namesL at hc
  unfold doesM nmB at *
  refine Tri.of_body (vs := [_, _, _]) Tryz.func60 rfl rfl fun w0 F => ?_
  repeat' (first | refine Ga ?_ | (refine Gb ?_; intro b) | (refine Gd ?_; intro g cap rest hcap) | (refine Gc ?_; intro ad cap) | (refine St.draw (id := 16) [(0, 0), (1, 0), (2, 0), (3, 0), (4, 1), (5, 0), (6, 1), (7, 0), (8, 0), (9, 3)] [9] mixed (by kernel_rfl) ?_)| refine Gl hg ?_ | (refine Gt hn ?_; rintro _ _ ⟨nb, rfl, rfl⟩) | (refine Gt (hc nb) ?_; rintro _ _ ⟨rfl, rfl⟩) | (refine Ge ?_ ?_ <;> (intro h; try (exfalso; omega))) | fail)
  refine St.d1 Tryz.func60 ⟨_, ⟨_, H, rfl, rfl, fun b l h => h, rfl⟩, ?_⟩
  exact Ent.go
theorem does_6n (H : HProp) (arg : Nat) : Tri Tryz.prog 60 #[.pointer none, bs (nmB 6), .int .u64 (arg : Int)] [H] (doesQ H (doesM 6 none arg)) := by
  have hn := names_t
  have hc := contains_6
  have hg := gives_r 3
  unfold namesL at hc
  unfold doesM nmB at *
  refine Tri.of_body (vs := [_, _, _]) Tryz.func60 rfl rfl fun w0 F => ?_
  repeat' (first | refine Ga ?_ | (refine Gb ?_; intro b) | (refine Gd ?_; intro g cap rest hcap) | (refine Gc ?_; intro ad cap) | (refine St.draw (id := 16) [(0, 0), (1, 0), (2, 0), (3, 0), (4, 1), (5, 0), (6, 1), (7, 0), (8, 0), (9, 3)] [9] mixed (by kernel_rfl) ?_)| refine Gl hg ?_ | (refine Gt hn ?_; rintro _ _ ⟨nb, rfl, rfl⟩) | (refine Gt (hc nb) ?_; rintro _ _ ⟨rfl, rfl⟩) | (refine Ge ?_ ?_ <;> (intro h; try (exfalso; omega))) | fail)
  refine St.d1 Tryz.func60 ⟨_, ⟨_, H, rfl, rfl, fun b l h => h, rfl⟩, ?_⟩
  exact Ent.go
theorem does_4 (H : HProp) (pv : Value) (x : Qu) (arg : Nat) (hq : QuR H pv (some x)) (hl : x.list.length ≤ 1000) : Tri Tryz.prog 60 #[pv, bs (nmB 4), .int .u64 (arg : Int)] [H] (doesQ H (doesM 4 (some x) arg)) := by
  have hn := names_t
  have hc := contains_4
  have hg := gives_r 1
  have hq' := hq
  obtain ⟨b, lv, rfl, hrd, hsl⟩ := hq
  obtain ⟨qc, ql⟩ := x
  dsimp only at hrd hsl hl
  unfold namesL at hc
  unfold doesM nmB at *
  dsimp only
  obtain ⟨ad, cap, rfl⟩ := hsl.val
  cases ql with
  | nil =>
    dsimp only
    refine Tri.of_body (vs := [_, _, _]) Tryz.func60 rfl rfl fun w0 F => ?_
    repeat' (first | refine Ga ?_ | (refine Gb ?_; intro b) | (refine Gd ?_; intro g cap rest hcap) | (refine Gc ?_; intro ad cap) | (refine St.draw (id := 16) [(0, 0), (1, 0), (2, 0), (3, 0), (4, 1), (5, 0), (6, 1), (7, 0), (8, 0), (9, 3)] [9] mixed (by kernel_rfl) ?_)| refine Gl hg ?_ | (refine Gt hn ?_; rintro _ _ ⟨nb, rfl, rfl⟩) | (refine Gt (hc nb) ?_; rintro _ _ ⟨rfl, rfl⟩) | (refine Ge ?_ ?_ <;> (intro h; try (exfalso; omega))) | fail)
    refine St.d1 Tryz.func60 ⟨_, ⟨_, H, rfl, hq', fun b l h => h, rfl⟩, ?_⟩
    exact Ent.go
  | cons y ys =>
    dsimp only
    have hln : (y :: ys).length = ys.length + 1 := rfl
    obtain ⟨_, bf, o, l, r, rfl, hrd2, hdr, htk⟩ := hsl.at0
    have hn0 : NthN (o + (0 : Int).toNat * 1) l (.int .u64 (y : Int)) := NthN.part hdr (TakeN.succ TakeN.zero : TakeN 1 (Value.int .u64 (y : Int) :: r) [Value.int .u64 (y : Int)]) (j := 0) (NthN.of rfl)
    refine Tri.of_body (vs := [_, _, _]) Tryz.func60 rfl rfl fun w0 F => ?_
    repeat' (first | refine Ga ?_ | (refine Gb ?_; intro b) | (refine Gd ?_; intro g cap rest hcap) | (refine Gc ?_; intro ad cap) | (refine St.draw (id := 16) [(0, 0), (1, 0), (2, 0), (3, 0), (4, 1), (5, 0), (6, 1), (7, 0), (8, 0), (9, 3)] [9] mixed (by kernel_rfl) ?_)| refine Gl hg ?_ | (refine Gt hn ?_; rintro _ _ ⟨nb, rfl, rfl⟩) | (refine Gt (hc nb) ?_; rintro _ _ ⟨rfl, rfl⟩) | (refine Ge ?_ ?_ <;> (intro h; try (exfalso; omega))) | fail)
    all_goals refine St.d1 Tryz.func60 ⟨_, ⟨_, H, rfl, hq', fun b l h => h, rfl⟩, ?_⟩
    all_goals exact Ent.go
theorem does_5 (H : HProp) (pv : Value) (x : Qu) (arg : Nat) (hq : QuR H pv (some x)) (hl : x.list.length ≤ 1000) : Tri Tryz.prog 60 #[pv, bs (nmB 5), .int .u64 (arg : Int)] [H] (doesQ H (doesM 5 (some x) arg)) := by
  have hn := names_t
  have hc := contains_5
  have hq' := hq
  obtain ⟨b, lv, rfl, hrd, hsl⟩ := hq
  obtain ⟨ad, cap, rfl⟩ := hsl.val
  unfold namesL at hc
  unfold doesM nmB at *
  dsimp only
  refine Tri.of_body (vs := [_, _, _]) Tryz.func60 rfl rfl fun w0 F => ?_
  repeat' (first | refine Ga ?_ | (refine Gb ?_; intro b) | (refine Gd ?_; intro g cap rest hcap) | (refine Gc ?_; intro ad cap) | (refine St.draw (id := 16) [(0, 0), (1, 0), (2, 0), (3, 0), (4, 1), (5, 0), (6, 1), (7, 0), (8, 0), (9, 3)] [9] mixed (by kernel_rfl) ?_) | (refine Gt hn ?_; rintro _ _ ⟨nb, rfl, rfl⟩) | (refine Gt (hc nb) ?_; rintro _ _ ⟨rfl, rfl⟩) | (refine Ge ?_ ?_ <;> (intro h; try (exfalso; omega))) | fail)
  all_goals refine St.d1 Tryz.func60 ⟨_, ⟨_, H, rfl, hq', fun b l h => h, rfl⟩, ?_⟩
  all_goals exact Ent.go
theorem does_6 (H : HProp) (pv : Value) (x : Qu) (arg : Nat) (hq : QuR H pv (some x)) (hl : x.list.length ≤ 1000) : Tri Tryz.prog 60 #[pv, bs (nmB 6), .int .u64 (arg : Int)] [H] (doesQ H (doesM 6 (some x) arg)) := by
  have hn := names_t
  have hc := contains_6
  have hg := gives_r 5
  have hq' := hq
  obtain ⟨b, lv, rfl, hrd, hsl⟩ := hq
  obtain ⟨qc, ql⟩ := x
  dsimp only at hrd hsl hl
  unfold namesL at hc
  unfold doesM nmB at *
  dsimp only
  obtain ⟨ad, cap, rfl⟩ := hsl.val
  cases ql with
  | nil =>
    dsimp only
    refine Tri.of_body (vs := [_, _, _]) Tryz.func60 rfl rfl fun w0 F => ?_
    repeat' (first | refine Ga ?_ | (refine Gb ?_; intro b) | (refine Gd ?_; intro g cap rest hcap) | (refine Gc ?_; intro ad cap) | (refine St.draw (id := 16) [(0, 0), (1, 0), (2, 0), (3, 0), (4, 1), (5, 0), (6, 1), (7, 0), (8, 0), (9, 3)] [9] mixed (by kernel_rfl) ?_)| refine Gl hg ?_ | (refine Gt hn ?_; rintro _ _ ⟨nb, rfl, rfl⟩) | (refine Gt (hc nb) ?_; rintro _ _ ⟨rfl, rfl⟩) | (refine Ge ?_ ?_ <;> (intro h; try (exfalso; omega))) | fail)
    refine St.d1 Tryz.func60 ⟨_, ⟨_, H, rfl, rfl, fun b l h => h, rfl⟩, ?_⟩
    exact Ent.go
  | cons y ys =>
    dsimp only
    have hln : (y :: ys).length = ys.length + 1 := rfl
    refine Tri.of_body (vs := [_, _, _]) Tryz.func60 rfl rfl fun w0 F => ?_
    repeat' (first | refine Ga ?_ | (refine Gb ?_; intro b) | (refine Gd ?_; intro g cap rest hcap) | (refine Gc ?_; intro ad cap) | (refine St.draw (id := 16) [(0, 0), (1, 0), (2, 0), (3, 0), (4, 1), (5, 0), (6, 1), (7, 0), (8, 0), (9, 3)] [9] mixed (by kernel_rfl) ?_)| refine Gl hg ?_ | (refine Gt hn ?_; rintro _ _ ⟨nb, rfl, rfl⟩) | (refine Gt (hc nb) ?_; rintro _ _ ⟨rfl, rfl⟩) | (refine Ge ?_ ?_ <;> (intro h; try (exfalso; omega))) | fail)
    all_goals refine St.d1 Tryz.func60 ⟨_, ⟨_, H, rfl, hq', fun b l h => h, rfl⟩, ?_⟩
    all_goals exact Ent.go
end Go.Proofs.YtphheopbngdhhaaGreatDoor
