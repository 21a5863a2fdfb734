/-
  Package chain: key, Does, of what a key is about.
-/
import Derived.Test.YtalgmlhcbilicaaDoorDe
namespace Go.Proofs.YtalgmlhcbilicaaDoor
set_option maxRecDepth 100000
theorem OpOk.ofV' {P : Program} {n' : Fi} {op : Op} {ty : TypeId} {E : Env} {L : List HProp} {v : Value} (h : OpV P n' op ty E L v) : OpOk P n' op ty E L (fun v' L' => v' = v ∧ L' = L) := by
  unfold OpV at h
  unfold OpOk
  exact fun d ps af g a w ha X hs => ⟨v, w, L, .inl (h d ps af g a w ha hs.head_of), ⟨rfl, rfl⟩, hs, Old.refl w⟩
theorem loL_take (k : Nat) : ∀ xs : List Nat, loL k xs = xs.take (loL k xs).length ∧ hiL k xs = xs.drop (loL k xs).length
  | [] => ⟨rfl, rfl⟩
  | x :: xs => by
    have ih := loL_take k xs
    unfold loL hiL at *
    by_cases h : x < k
    · rw [List.takeWhile_cons_of_pos (by simpa using h), List.dropWhile_cons_of_pos (by simpa using h), List.length_cons, List.take_succ_cons, List.drop_succ_cons, ← ih.1]
      exact ⟨rfl, ih.2⟩
    · rw [List.takeWhile_cons_of_neg (by simpa using h), List.dropWhile_cons_of_neg (by simpa using h)]
      exact ⟨rfl, rfl⟩
theorem insL_at (k : Nat) (xs : List Nat) : insL k xs = xs.take (loL k xs).length ++ k :: xs.drop (loL k xs).length := by
  obtain ⟨h1, h2⟩ := loL_take k xs
  unfold insL
  rw [← h1, ← h2]
theorem loL_le (k : Nat) (xs : List Nat) : (loL k xs).length ≤ xs.length := by
  have h := congrArg List.length (List.takeWhile_append_dropWhile (p := fun x => decide (x < k)) (l := xs))
  rw [List.length_append] at h
  unfold loL
  omega
theorem delL_at {k : Nat} : ∀ {xs : List Nat}, xs.Pairwise (· < ·) → k ∈ xs → (loL k xs).length < xs.length ∧ xs.eraseIdx (loL k xs).length = delL k xs
  | [], _, h => absurd h (by simp)
  | x :: xs, hp, hm => by
    obtain ⟨h1, h2⟩ := List.pairwise_cons.mp hp
    by_cases h : x < k
    · have hm' : k ∈ xs := by
        rcases List.mem_cons.mp hm with e | hm
        · omega
        · exact hm
      obtain ⟨i1, i2⟩ := delL_at h2 hm'
      have e : (loL k (x :: xs)).length = (loL k xs).length + 1 := by
        unfold loL
        rw [List.takeWhile_cons_of_pos (by simpa using h), List.length_cons]
      rw [e]
      refine ⟨by rw [List.length_cons]; omega, ?_⟩
      rw [List.eraseIdx_cons_succ, i2]
      unfold delL
      rw [List.filter_cons_of_pos (by simp; omega)]
    · have hxk : x = k := by
        rcases List.mem_cons.mp hm with e | hm
        · exact e.symm
        · have := h1 k hm; omega
      have e : (loL k (x :: xs)).length = 0 := by
        unfold loL
        rw [List.takeWhile_cons_of_neg (by simpa using h)]; rfl
      rw [e]
      refine ⟨by simp, ?_⟩
      rw [List.eraseIdx_cons_zero]
      unfold delL
      rw [List.filter_cons_of_neg (by simp [hxk])]
      exact (List.filter_eq_self.mpr fun z hz => decide_eq_true (by have := h1 z hz; omega)).symm
theorem key_3 (H : HProp) (pv : Value) (x : Qu) (arg : Nat) (hq : QuR H pv (some x)) (hup : x.list.Pairwise (· < ·)) (hl : x.list.length ≤ 1000) : Tri Tryd.prog 20 #[pv, bs (nmB 3), .int .u64 (arg : Int)] [H] (doesQ H (doesM 3 (some x) arg)) := by
  have hq' := hq
  obtain ⟨b, lv, rfl, hrd, hsl⟩ := hq
  have hb := bsearch_r H lv x.list arg hsl hup hl
  obtain ⟨ad0, cap0, rfl⟩ := hsl.val
  by_cases hm : arg ∈ x.list
  · rw [decide_eq_true hm] at hb
    have hd : doesM 3 (some x) arg = (some x, 0, 1) := by show (some x, (0 : Int), if arg ∈ x.list then 1 else 0) = _; rw [if_pos hm]
    rw [hd]
    unfold nmB doesQ
    dsimp only
    refine Tri.of_body (vs := [_, _, _]) Tryd.func20 rfl rfl fun w0 F => ?_
    repeat' (first | refine Ga ?_ | (refine Gb ?_; intro b) | (refine Gd ?_; intro g cap rest hcap) | (refine Gc ?_; intro ad cap) | (refine St.draw (id := 7) [(0, 0), (1, 0), (2, 0), (3, 1), (4, 0), (5, 0), (6, 0), (7, 1), (9, 0), (10, 0), (11, 0), (15, 0), (8, 3), (12, 1), (13, 0), (14, 2), (16, 0), (17, 3)] [8, 17] mixed (by kernel_rfl) ?_) | (refine St.draw (id := 8) [(0, 0), (1, 0), (2, 0), (3, 1), (4, 0), (5, 0), (6, 0), (7, 0), (8, 0), (9, 1), (10, 0), (11, 0)] [] mixed (by kernel_rfl) ?_) | (refine St.drawT (id := 10) [(0, 0), (1, 0), (2, 0), (3, 1), (4, 0), (5, 0), (6, 0), (7, 1), (9, 0), (10, 0), (15, 0)] (.pick [(8, 3), (11, 2), (12, 1), (13, 0), (14, 2), (16, 0), (17, 3)] .done (.pick [(11, 2), (8, 3), (12, 1), (13, 0), (14, 2), (16, 0), (17, 3)] .done .nope)) [8, 17] mixed (by kernel_rfl) ?_) | apply StD.pick | exact StD.nope | refine Gl hb ?_ | (refine Ge ?_ ?_ <;> (intro h; try (exfalso; omega))) | fail)
    all_goals first | (exfalso; omega) | skip
    refine St.d1 Tryd.func20 ⟨_, ⟨_, H, rfl, hq', fun b l h => h, rfl⟩, Ent.go⟩
  · rw [decide_eq_false hm] at hb
    have hd : doesM 3 (some x) arg = (some x, 0, 0) := by show (some x, (0 : Int), if arg ∈ x.list then 1 else 0) = _; rw [if_neg hm]
    rw [hd]
    unfold nmB doesQ
    dsimp only
    refine Tri.of_body (vs := [_, _, _]) Tryd.func20 rfl rfl fun w0 F => ?_
    repeat' (first | refine Ga ?_ | (refine Gb ?_; intro b) | (refine Gd ?_; intro g cap rest hcap) | (refine Gc ?_; intro ad cap) | (refine St.draw (id := 7) [(0, 0), (1, 0), (2, 0), (3, 1), (4, 0), (5, 0), (6, 0), (7, 1), (9, 0), (10, 0), (11, 0), (15, 0), (8, 3), (12, 1), (13, 0), (14, 2), (16, 0), (17, 3)] [8, 17] mixed (by kernel_rfl) ?_) | (refine St.draw (id := 8) [(0, 0), (1, 0), (2, 0), (3, 1), (4, 0), (5, 0), (6, 0), (7, 0), (8, 0), (9, 1), (10, 0), (11, 0)] [] mixed (by kernel_rfl) ?_) | (refine St.drawT (id := 10) [(0, 0), (1, 0), (2, 0), (3, 1), (4, 0), (5, 0), (6, 0), (7, 1), (9, 0), (10, 0), (15, 0)] (.pick [(8, 3), (11, 2), (12, 1), (13, 0), (14, 2), (16, 0), (17, 3)] .done (.pick [(11, 2), (8, 3), (12, 1), (13, 0), (14, 2), (16, 0), (17, 3)] .done .nope)) [8, 17] mixed (by kernel_rfl) ?_) | apply StD.pick | exact StD.nope | refine Gl hb ?_ | (refine Ge ?_ ?_ <;> (intro h; try (exfalso; omega))) | fail)
    all_goals first | (exfalso; omega) | skip
    refine St.d1 Tryd.func20 ⟨_, ⟨_, H, rfl, hq', fun b l h => h, rfl⟩, Ent.go⟩
set_option maxHeartbeats 1000000 in
theorem key_2 (H : HProp) (pv : Value) (x : Qu) (arg : Nat) (hq : QuR H pv (some x)) (hup : x.list.Pairwise (· < ·)) (hl : x.list.length ≤ 1000) : Tri Tryd.prog 20 #[pv, bs (nmB 2), .int .u64 (arg : Int)] [H] (doesQ H (doesM 2 (some x) arg)) := by
  have hq' := hq
  obtain ⟨b, lv, rfl, hrd, hsl⟩ := hq
  have hb := bsearch_r H lv x.list arg hsl hup hl
  obtain ⟨ad0, cap0, rfl⟩ := hsl.val
  by_cases hm : arg ∈ x.list
  · rw [decide_eq_true hm] at hb
    obtain ⟨hi, he⟩ := delL_at hup hm
    have hd : doesM 2 (some x) arg = (some ⟨x.cap, delL arg x.list⟩, 0, 1) := if_pos hm
    rw [hd]
    have hcl := clone_s H ad0 x.list.length cap0 x.list hsl (by omega)
    have hdl : (delL arg x.list).length = x.list.length - 1 := by rw [← he]; exact List.length_eraseIdx_of_lt hi
    have hde := fun ad cap => delete_t ad cap x.list (loL arg x.list).length hi hl
    rw [he] at hde
    generalize (loL arg x.list).length = i at hb hde hi
    rw [← hdl] at hde
    unfold nmB doesQ
    dsimp only
    refine Tri.of_body (vs := [_, _, _]) Tryd.func20 rfl rfl fun w0 F => ?_
    repeat' (first | refine Ga ?_ | (refine Gb ?_; intro b) | (refine Gd ?_; intro g cap rest hcap) | (refine Gc ?_; intro ad cap) | (refine St.drawT (id := 7) [(0, 0), (1, 0), (2, 0), (4, 0), (5, 0), (6, 0), (9, 0), (10, 0), (11, 0), (15, 0)] (.pick [(3, 3), (7, 3), (8, 3), (12, 3), (13, 0), (14, 2), (16, 0), (17, 3)] .done (.pick [(7, 3)] (.pick [(3, 3), (8, 3), (12, 3), (13, 0), (14, 2), (16, 0), (17, 3)] .done (.pick [(8, 3)] (.pick [(3, 3), (12, 3), (13, 0), (14, 2), (16, 0), (17, 3)] .done (.pick [(12, 3), (3, 3), (13, 0), (14, 2), (16, 0), (17, 3)] .done .nope)) .nope)) .nope)) [3, 7, 8, 12, 17] mixed (by kernel_rfl) ?_) | (refine St.draw (id := 8) [(0, 0), (1, 0), (2, 0), (3, 1), (4, 0), (5, 0), (6, 0), (7, 0), (8, 0), (9, 1), (10, 0), (11, 0)] [] mixed (by kernel_rfl) ?_) | (refine St.drawT (id := 10) [(0, 0), (1, 0), (2, 0), (3, 1), (4, 0), (5, 0), (6, 0), (7, 1), (9, 0), (10, 0), (15, 0)] (.pick [(8, 3), (11, 2), (12, 1), (13, 0), (14, 2), (16, 0), (17, 3)] .done (.pick [(11, 2), (8, 3), (12, 1), (13, 0), (14, 2), (16, 0), (17, 3)] .done .nope)) [8, 17] mixed (by kernel_rfl) ?_) | apply StD.pick | exact StD.nope | refine Gl hb ?_ | (refine Gt hcl ?_; rintro _ _ ⟨cad, ccap, rfl, rfl⟩) | (refine Gt (hde _ _) ?_; rintro _ _ ⟨rfl, rfl⟩) | (refine Ge ?_ ?_ <;> (intro h; try (exfalso; omega))) | fail)
    iterate 4
      all_goals try (refine StD.ok3 rfl (OpOk.ofV' OpV.go) rfl ?_; rintro _ _ ⟨rfl, rfl⟩)
      all_goals repeat' (first | refine Ga ?_ | (refine Gb ?_; intro b) | (refine Gd ?_; intro g cap rest hcap) | (refine Gc ?_; intro ad cap) | (refine St.drawT (id := 7) [(0, 0), (1, 0), (2, 0), (4, 0), (5, 0), (6, 0), (9, 0), (10, 0), (11, 0), (15, 0)] (.pick [(3, 3), (7, 3), (8, 3), (12, 3), (13, 0), (14, 2), (16, 0), (17, 3)] .done (.pick [(7, 3)] (.pick [(3, 3), (8, 3), (12, 3), (13, 0), (14, 2), (16, 0), (17, 3)] .done (.pick [(8, 3)] (.pick [(3, 3), (12, 3), (13, 0), (14, 2), (16, 0), (17, 3)] .done (.pick [(12, 3), (3, 3), (13, 0), (14, 2), (16, 0), (17, 3)] .done .nope)) .nope)) .nope)) [3, 7, 8, 12, 17] mixed (by kernel_rfl) ?_) | (refine St.draw (id := 8) [(0, 0), (1, 0), (2, 0), (3, 1), (4, 0), (5, 0), (6, 0), (7, 0), (8, 0), (9, 1), (10, 0), (11, 0)] [] mixed (by kernel_rfl) ?_) | (refine St.drawT (id := 10) [(0, 0), (1, 0), (2, 0), (3, 1), (4, 0), (5, 0), (6, 0), (7, 1), (9, 0), (10, 0), (15, 0)] (.pick [(8, 3), (11, 2), (12, 1), (13, 0), (14, 2), (16, 0), (17, 3)] .done (.pick [(11, 2), (8, 3), (12, 1), (13, 0), (14, 2), (16, 0), (17, 3)] .done .nope)) [8, 17] mixed (by kernel_rfl) ?_) | apply StD.pick | exact StD.nope | refine Gl hb ?_ | (refine Gt hcl ?_; rintro _ _ ⟨cad, ccap, rfl, rfl⟩) | (refine Gt (hde _ _) ?_; rintro _ _ ⟨rfl, rfl⟩) | (refine Ge ?_ ?_ <;> (intro h; try (exfalso; omega))) | fail)
    all_goals first | (exfalso; omega) | skip
    all_goals (
      revert b; intro Bn
      refine St.conv ?_ (Sub.refl _) (Ent.of_take (p := Row (.slice cad (delL arg x.list).length ccap) 25 1 (delL arg x.list).length (u64s (delL arg x.list))) Take.go)
      refine St.rowS fun R hR => ?_
      refine St.d1 Tryd.func20 ⟨_, ⟨_, star [bl Bn 58 [.int .u64 (x.cap : Int), .slice cad (delL arg x.list).length ccap], R, H], rfl, ⟨Bn, _, rfl, RdC.star (p := bl Bn 58 [.int .u64 (x.cap : Int), .slice cad (delL arg x.list).length ccap]) (.head _) RdC.bl, hR.weak fun b l h => RdC.star (.tail _ (.head _)) h⟩, fun b l h => RdC.star (.tail _ (.tail _ (.head _))) h, rfl⟩, ?_⟩
      refine Ent.trans ?_ (Ent.star_in _)
      exact Ent.go)
  · rw [decide_eq_false hm] at hb
    have hd : doesM 2 (some x) arg = (some x, 0, 0) := if_neg hm
    rw [hd]
    unfold nmB doesQ
    dsimp only
    refine Tri.of_body (vs := [_, _, _]) Tryd.func20 rfl rfl fun w0 F => ?_
    repeat' (first | refine Ga ?_ | (refine Gb ?_; intro b) | (refine Gd ?_; intro g cap rest hcap) | (refine Gc ?_; intro ad cap) | (refine St.draw (id := 7) [(0, 0), (1, 0), (2, 0), (3, 1), (4, 0), (5, 0), (6, 0), (7, 1), (9, 0), (10, 0), (11, 0), (15, 0), (8, 3), (12, 1), (13, 0), (14, 2), (16, 0), (17, 3)] [8, 17] mixed (by kernel_rfl) ?_) | (refine St.draw (id := 8) [(0, 0), (1, 0), (2, 0), (3, 1), (4, 0), (5, 0), (6, 0), (7, 0), (8, 0), (9, 1), (10, 0), (11, 0)] [] mixed (by kernel_rfl) ?_) | (refine St.drawT (id := 10) [(0, 0), (1, 0), (2, 0), (3, 1), (4, 0), (5, 0), (6, 0), (7, 1), (9, 0), (10, 0), (15, 0)] (.pick [(8, 3), (11, 2), (12, 1), (13, 0), (14, 2), (16, 0), (17, 3)] .done (.pick [(11, 2), (8, 3), (12, 1), (13, 0), (14, 2), (16, 0), (17, 3)] .done .nope)) [8, 17] mixed (by kernel_rfl) ?_) | apply StD.pick | exact StD.nope | refine Gl hb ?_ | (refine Ge ?_ ?_ <;> (intro h; try (exfalso; omega))) | fail)
    all_goals first | (exfalso; omega) | skip
    refine St.d1 Tryd.func20 ⟨_, ⟨_, H, rfl, hq', fun b l h => h, rfl⟩, Ent.go⟩
set_option maxHeartbeats 1000000 in
theorem key_1 (H : HProp) (pv : Value) (x : Qu) (arg : Nat) (hq : QuR H pv (some x)) (hup : x.list.Pairwise (· < ·)) (hl : x.list.length ≤ 1000) : Tri Tryd.prog 20 #[pv, bs (nmB 1), .int .u64 (arg : Int)] [H] (doesQ H (doesM 1 (some x) arg)) := by
  have hg := gives_r 2
  have hq' := hq
  obtain ⟨b, lv, rfl, hrd, hsl⟩ := hq
  have hb := bsearch_r H lv x.list arg hsl hup hl
  obtain ⟨ad0, cap0, rfl⟩ := hsl.val
  by_cases hm : arg ∈ x.list
  · rw [decide_eq_true hm] at hb
    have hd : doesM 1 (some x) arg = (some x, 0, 0) := if_pos hm
    rw [hd]
    unfold nmB doesQ
    dsimp only
    refine Tri.of_body (vs := [_, _, _]) Tryd.func20 rfl rfl fun w0 F => ?_
    repeat' (first | refine Ga ?_ | (refine Gb ?_; intro b) | (refine Gd ?_; intro g cap rest hcap) | (refine Gc ?_; intro ad cap) | (refine St.draw (id := 7) [(0, 0), (1, 0), (2, 0), (3, 1), (4, 0), (5, 0), (6, 0), (7, 1), (9, 0), (10, 0), (11, 0), (15, 0), (8, 3), (12, 1), (13, 0), (14, 2), (16, 0), (17, 3)] [8, 17] mixed (by kernel_rfl) ?_) | (refine St.draw (id := 8) [(0, 0), (1, 0), (2, 0), (3, 1), (4, 0), (5, 0), (6, 0), (7, 0), (8, 0), (9, 1), (10, 0), (11, 0)] [] mixed (by kernel_rfl) ?_) | (refine St.drawT (id := 10) [(0, 0), (1, 0), (2, 0), (3, 1), (4, 0), (5, 0), (6, 0), (7, 1), (9, 0), (10, 0), (15, 0)] (.pick [(8, 3), (11, 2), (12, 1), (13, 0), (14, 2), (16, 0), (17, 3)] .done (.pick [(11, 2), (8, 3), (12, 1), (13, 0), (14, 2), (16, 0), (17, 3)] .done .nope)) [8, 17] mixed (by kernel_rfl) ?_) | apply StD.pick | exact StD.nope | refine Gl hb ?_ | (refine Ge ?_ ?_ <;> (intro h; try (exfalso; omega))) | fail)
    all_goals first | (exfalso; omega) | skip
    refine St.d1 Tryd.func20 ⟨_, ⟨_, H, rfl, hq', fun b l h => h, rfl⟩, Ent.go⟩
  rw [decide_eq_false hm] at hb
  by_cases hf : x.cap ≤ x.list.length
  · have hd : doesM 1 (some x) arg = (some x, 40, 2) := (if_neg hm).trans (if_pos hf)
    rw [hd]
    unfold nmB doesQ
    dsimp only
    refine Tri.of_body (vs := [_, _, _]) Tryd.func20 rfl rfl fun w0 F => ?_
    repeat' (first | refine Ga ?_ | (refine Gb ?_; intro b) | (refine Gd ?_; intro g cap rest hcap) | (refine Gc ?_; intro ad cap) | (refine St.draw (id := 7) [(0, 0), (1, 0), (2, 0), (3, 1), (4, 0), (5, 0), (6, 0), (7, 1), (9, 0), (10, 0), (11, 0), (15, 0), (8, 3), (12, 1), (13, 0), (14, 2), (16, 0), (17, 3)] [8, 17] mixed (by kernel_rfl) ?_) | (refine St.draw (id := 8) [(0, 0), (1, 0), (2, 0), (3, 1), (4, 0), (5, 0), (6, 0), (7, 0), (8, 0), (9, 1), (10, 0), (11, 0)] [] mixed (by kernel_rfl) ?_) | (refine St.drawT (id := 10) [(0, 0), (1, 0), (2, 0), (3, 1), (4, 0), (5, 0), (6, 0), (7, 1), (9, 0), (10, 0), (15, 0)] (.pick [(8, 3), (11, 2), (12, 1), (13, 0), (14, 2), (16, 0), (17, 3)] .done (.pick [(11, 2), (8, 3), (12, 1), (13, 0), (14, 2), (16, 0), (17, 3)] .done .nope)) [8, 17] mixed (by kernel_rfl) ?_) | apply StD.pick | exact StD.nope | refine Gl hb ?_ | refine Gl hg ?_ | (refine Ge ?_ ?_ <;> (intro h; try (exfalso; omega))) | fail)
    all_goals first | (exfalso; omega) | skip
    all_goals refine St.d1 Tryd.func20 ⟨_, ⟨_, H, rfl, hq', fun b l h => h, rfl⟩, Ent.go⟩
  · have hd : doesM 1 (some x) arg = (some ⟨x.cap, insL arg x.list⟩, 0, 1) := (if_neg hm).trans (if_neg hf)
    rw [hd]
    have hcl := clone_s H ad0 x.list.length cap0 x.list hsl (by omega)
    have hdl : (insL arg x.list).length = x.list.length + 1 := by
      rw [insL_at, List.length_append, List.length_cons, List.length_take, List.length_drop]
      have := loL_le arg x.list
      omega
    have hin := fun ad cap vb => insert_t ad cap x.list (loL arg x.list).length arg vb (loL_le arg x.list) hl
    rw [← insL_at] at hin
    generalize (loL arg x.list).length = i at hb hin
    rw [← hdl] at hin
    unfold nmB doesQ
    dsimp only
    refine Tri.of_body (vs := [_, _, _]) Tryd.func20 rfl rfl fun w0 F => ?_
    repeat' (first | refine Ga ?_ | (refine Gb ?_; intro b) | (refine Gd ?_; intro g cap rest hcap) | (refine Gc ?_; intro ad cap) | (refine St.draw (id := 7) [(0, 0), (1, 0), (2, 0), (3, 1), (4, 0), (5, 0), (6, 0), (7, 1), (9, 0), (10, 0), (11, 0), (15, 0), (8, 3), (12, 1), (13, 0), (14, 2), (16, 0), (17, 3)] [8, 17] mixed (by kernel_rfl) ?_) | (refine St.draw (id := 8) [(0, 0), (1, 0), (2, 0), (3, 1), (4, 0), (5, 0), (6, 0), (7, 0), (8, 0), (9, 1), (10, 0), (11, 0)] [] mixed (by kernel_rfl) ?_) | (refine St.drawT (id := 10) [(0, 0), (1, 0), (2, 0), (4, 0), (5, 0), (6, 0), (9, 0), (10, 0), (15, 0)] (.pick [(3, 3)] (.pick [(7, 3)] (.pick [(8, 3), (11, 2), (12, 3), (13, 0), (14, 2), (16, 0), (17, 3)] .done (.pick [(11, 2), (8, 3), (12, 3), (13, 0), (14, 2), (16, 0), (17, 3)] .done .nope)) (.pick [(11, 2), (7, 3), (8, 3), (12, 3), (13, 0), (14, 2), (16, 0), (17, 3)] .done .nope)) (.pick [(7, 3)] (.pick [(3, 3)] (.pick [(8, 3), (11, 2), (12, 3), (13, 0), (14, 2), (16, 0), (17, 3)] .done (.pick [(11, 2), (8, 3), (12, 3), (13, 0), (14, 2), (16, 0), (17, 3)] .done .nope)) (.pick [(8, 3)] (.pick [(3, 3), (11, 2), (12, 3), (13, 0), (14, 2), (16, 0), (17, 3)] .done (.pick [(11, 2)] (.pick [(3, 3), (12, 3), (13, 0), (14, 2), (16, 0), (17, 3)] .done (.pick [(12, 3), (3, 3), (13, 0), (14, 2), (16, 0), (17, 3)] .done .nope)) .nope)) (.pick [(11, 2)] (.pick [(3, 3), (8, 3), (12, 3), (13, 0), (14, 2), (16, 0), (17, 3)] .done (.pick [(8, 3)] (.pick [(3, 3), (12, 3), (13, 0), (14, 2), (16, 0), (17, 3)] .done (.pick [(12, 3), (3, 3), (13, 0), (14, 2), (16, 0), (17, 3)] .done .nope)) .nope)) .nope))) (.pick [(11, 2)] (.pick [(3, 3), (7, 3), (8, 3), (12, 3), (13, 0), (14, 2), (16, 0), (17, 3)] .done (.pick [(7, 3)] (.pick [(3, 3), (8, 3), (12, 3), (13, 0), (14, 2), (16, 0), (17, 3)] .done (.pick [(8, 3)] (.pick [(3, 3), (12, 3), (13, 0), (14, 2), (16, 0), (17, 3)] .done (.pick [(12, 3), (3, 3), (13, 0), (14, 2), (16, 0), (17, 3)] .done .nope)) .nope)) .nope)) .nope))) [3, 7, 8, 12, 17] mixed (by kernel_rfl) ?_) | apply StD.pick | exact StD.nope | refine Gl hb ?_ | (refine Gt hcl ?_; rintro _ _ ⟨cad1, ccap1, rfl, rfl⟩) | (refine Gt (hin _ _ _) ?_; rintro _ _ ⟨cad, ccap, rfl, rfl⟩) | (refine Ge ?_ ?_ <;> (intro h; try (exfalso; omega))) | fail)
    iterate 4
      all_goals try (refine StD.ok3 rfl (OpOk.ofV' OpV.go) rfl ?_; rintro _ _ ⟨rfl, rfl⟩)
      all_goals repeat' (first | refine Ga ?_ | (refine Gb ?_; intro b) | (refine Gd ?_; intro g cap rest hcap) | (refine Gc ?_; intro ad cap) | (refine St.draw (id := 7) [(0, 0), (1, 0), (2, 0), (3, 1), (4, 0), (5, 0), (6, 0), (7, 1), (9, 0), (10, 0), (11, 0), (15, 0), (8, 3), (12, 1), (13, 0), (14, 2), (16, 0), (17, 3)] [8, 17] mixed (by kernel_rfl) ?_) | (refine St.draw (id := 8) [(0, 0), (1, 0), (2, 0), (3, 1), (4, 0), (5, 0), (6, 0), (7, 0), (8, 0), (9, 1), (10, 0), (11, 0)] [] mixed (by kernel_rfl) ?_) | (refine St.drawT (id := 10) [(0, 0), (1, 0), (2, 0), (4, 0), (5, 0), (6, 0), (9, 0), (10, 0), (15, 0)] (.pick [(3, 3)] (.pick [(7, 3)] (.pick [(8, 3), (11, 2), (12, 3), (13, 0), (14, 2), (16, 0), (17, 3)] .done (.pick [(11, 2), (8, 3), (12, 3), (13, 0), (14, 2), (16, 0), (17, 3)] .done .nope)) (.pick [(11, 2), (7, 3), (8, 3), (12, 3), (13, 0), (14, 2), (16, 0), (17, 3)] .done .nope)) (.pick [(7, 3)] (.pick [(3, 3)] (.pick [(8, 3), (11, 2), (12, 3), (13, 0), (14, 2), (16, 0), (17, 3)] .done (.pick [(11, 2), (8, 3), (12, 3), (13, 0), (14, 2), (16, 0), (17, 3)] .done .nope)) (.pick [(8, 3)] (.pick [(3, 3), (11, 2), (12, 3), (13, 0), (14, 2), (16, 0), (17, 3)] .done (.pick [(11, 2)] (.pick [(3, 3), (12, 3), (13, 0), (14, 2), (16, 0), (17, 3)] .done (.pick [(12, 3), (3, 3), (13, 0), (14, 2), (16, 0), (17, 3)] .done .nope)) .nope)) (.pick [(11, 2)] (.pick [(3, 3), (8, 3), (12, 3), (13, 0), (14, 2), (16, 0), (17, 3)] .done (.pick [(8, 3)] (.pick [(3, 3), (12, 3), (13, 0), (14, 2), (16, 0), (17, 3)] .done (.pick [(12, 3), (3, 3), (13, 0), (14, 2), (16, 0), (17, 3)] .done .nope)) .nope)) .nope))) (.pick [(11, 2)] (.pick [(3, 3), (7, 3), (8, 3), (12, 3), (13, 0), (14, 2), (16, 0), (17, 3)] .done (.pick [(7, 3)] (.pick [(3, 3), (8, 3), (12, 3), (13, 0), (14, 2), (16, 0), (17, 3)] .done (.pick [(8, 3)] (.pick [(3, 3), (12, 3), (13, 0), (14, 2), (16, 0), (17, 3)] .done (.pick [(12, 3), (3, 3), (13, 0), (14, 2), (16, 0), (17, 3)] .done .nope)) .nope)) .nope)) .nope))) [3, 7, 8, 12, 17] mixed (by kernel_rfl) ?_) | apply StD.pick | exact StD.nope | refine Gl hb ?_ | (refine Gt hcl ?_; rintro _ _ ⟨cad1, ccap1, rfl, rfl⟩) | (refine Gt (hin _ _ _) ?_; rintro _ _ ⟨cad, ccap, rfl, rfl⟩) | (refine Ge ?_ ?_ <;> (intro h; try (exfalso; omega))) | fail)
    all_goals first | (exfalso; omega) | skip
    all_goals (
      revert b; intro Bn
      refine St.conv ?_ (Sub.refl _) (Ent.of_take (p := Row (.slice cad (insL arg x.list).length ccap) 25 1 (insL arg x.list).length (u64s (insL arg x.list))) Take.go)
      refine St.rowS fun R hR => ?_
      refine St.d1 Tryd.func20 ⟨_, ⟨_, star [bl Bn 58 [.int .u64 (x.cap : Int), .slice cad (insL arg x.list).length ccap], R, H], rfl, ⟨Bn, _, rfl, RdC.star (p := bl Bn 58 [.int .u64 (x.cap : Int), .slice cad (insL arg x.list).length ccap]) (.head _) RdC.bl, hR.weak fun b l h => RdC.star (.tail _ (.head _)) h⟩, fun b l h => RdC.star (.tail _ (.tail _ (.head _))) h, rfl⟩, ?_⟩
      refine Ent.trans ?_ (Ent.star_in _)
      exact Ent.go)
theorem does_1 (H : HProp) (pv : Value) (x : Qu) (arg : Nat) (hq : QuR H pv (some x)) (hup : x.list.Pairwise (· < ·)) (hl : x.list.length ≤ 1000) : Tri Tryd.prog 6 #[pv, bs (nmB 1), .int .u64 (arg : Int)] [H] (doesQ H (doesM 1 (some x) arg)) := by
  have hn := names_t
  have hc := contains_1
  have hk := key_1 H pv x arg hq hup hl
  obtain ⟨b, lv, rfl, hrd, hsl⟩ := hq
  obtain ⟨ad, cap, rfl⟩ := hsl.val
  generalize doesM 1 (some x) arg = m at hk ⊢
  unfold doesQ at *
  unfold namesL at hc
  unfold nmB at *
  refine Tri.of_body (vs := [_, _, _]) Tryd.func6 rfl rfl fun w0 F => ?_
  repeat' (first | refine Ga ?_ | (refine Gb ?_; intro b) | (refine Gd ?_; intro g cap rest hcap) | (refine Gc ?_; intro ad cap) | (refine St.draw (id := 16) [(0, 0), (1, 0), (2, 0), (3, 0), (4, 1), (5, 0), (6, 1), (7, 0), (8, 0), (9, 3)] [9] mixed (by kernel_rfl) ?_) | (refine Gt hn ?_; rintro _ _ ⟨nb, rfl, rfl⟩) | (refine Gt (hc nb) ?_; rintro _ _ ⟨rfl, rfl⟩) | (refine Gt hk ?_; rintro _ _ ⟨pv2, H2, rfl, hq2, hmo, rfl⟩) | (refine Ge ?_ ?_ <;> (intro h; try (exfalso; omega))) | fail)
  all_goals first | (exfalso; omega) | skip
  refine St.d1 Tryd.func6 ⟨_, ⟨_, H2, rfl, hq2, hmo, rfl⟩, Ent.go⟩
theorem does_2 (H : HProp) (pv : Value) (x : Qu) (arg : Nat) (hq : QuR H pv (some x)) (hup : x.list.Pairwise (· < ·)) (hl : x.list.length ≤ 1000) : Tri Tryd.prog 6 #[pv, bs (nmB 2), .int .u64 (arg : Int)] [H] (doesQ H (doesM 2 (some x) arg)) := by
  have hn := names_t
  have hc := contains_2
  have hk := key_2 H pv x arg hq hup hl
  obtain ⟨b, lv, rfl, hrd, hsl⟩ := hq
  obtain ⟨ad, cap, rfl⟩ := hsl.val
  generalize doesM 2 (some x) arg = m at hk ⊢
  unfold doesQ at *
  unfold namesL at hc
  unfold nmB at *
  refine Tri.of_body (vs := [_, _, _]) Tryd.func6 rfl rfl fun w0 F => ?_
  repeat' (first | refine Ga ?_ | (refine Gb ?_; intro b) | (refine Gd ?_; intro g cap rest hcap) | (refine Gc ?_; intro ad cap) | (refine St.draw (id := 16) [(0, 0), (1, 0), (2, 0), (3, 0), (4, 1), (5, 0), (6, 1), (7, 0), (8, 0), (9, 3)] [9] mixed (by kernel_rfl) ?_) | (refine Gt hn ?_; rintro _ _ ⟨nb, rfl, rfl⟩) | (refine Gt (hc nb) ?_; rintro _ _ ⟨rfl, rfl⟩) | (refine Gt hk ?_; rintro _ _ ⟨pv2, H2, rfl, hq2, hmo, rfl⟩) | (refine Ge ?_ ?_ <;> (intro h; try (exfalso; omega))) | fail)
  all_goals first | (exfalso; omega) | skip
  refine St.d1 Tryd.func6 ⟨_, ⟨_, H2, rfl, hq2, hmo, rfl⟩, Ent.go⟩
theorem does_3 (H : HProp) (pv : Value) (x : Qu) (arg : Nat) (hq : QuR H pv (some x)) (hup : x.list.Pairwise (· < ·)) (hl : x.list.length ≤ 1000) : Tri Tryd.prog 6 #[pv, bs (nmB 3), .int .u64 (arg : Int)] [H] (doesQ H (doesM 3 (some x) arg)) := by
  have hn := names_t
  have hc := contains_3
  have hk := key_3 H pv x arg hq hup hl
  obtain ⟨b, lv, rfl, hrd, hsl⟩ := hq
  obtain ⟨ad, cap, rfl⟩ := hsl.val
  generalize doesM 3 (some x) arg = m at hk ⊢
  unfold doesQ at *
  unfold namesL at hc
  unfold nmB at *
  refine Tri.of_body (vs := [_, _, _]) Tryd.func6 rfl rfl fun w0 F => ?_
  repeat' (first | refine Ga ?_ | (refine Gb ?_; intro b) | (refine Gd ?_; intro g cap rest hcap) | (refine Gc ?_; intro ad cap) | (refine St.draw (id := 16) [(0, 0), (1, 0), (2, 0), (3, 0), (4, 1), (5, 0), (6, 1), (7, 0), (8, 0), (9, 3)] [9] mixed (by kernel_rfl) ?_) | (refine Gt hn ?_; rintro _ _ ⟨nb, rfl, rfl⟩) | (refine Gt (hc nb) ?_; rintro _ _ ⟨rfl, rfl⟩) | (refine Gt hk ?_; rintro _ _ ⟨pv2, H2, rfl, hq2, hmo, rfl⟩) | (refine Ge ?_ ?_ <;> (intro h; try (exfalso; omega))) | fail)
  all_goals first | (exfalso; omega) | skip
  refine St.d1 Tryd.func6 ⟨_, ⟨_, H2, rfl, hq2, hmo, rfl⟩, Ent.go⟩
theorem does_t (k : Nat) (hk : k ≤ 7) (H : HProp) (pv : Value) (q : Option Qu) (arg : Nat) (hq : QuR H pv q) (hl : ∀ x, q = some x → x.list.length ≤ 1000 ∧ x.list.Pairwise (· < ·)) : Tri Tryd.prog 6 #[pv, bs (nmB k), .int .u64 (arg : Int)] [H] (doesQ H (doesM k q arg)) := by
  rcases (by omega : k = 0 ∨ k = 1 ∨ k = 2 ∨ k = 3 ∨ k = 4 ∨ k = 5 ∨ k = 6 ∨ k = 7) with rfl | rfl | rfl | rfl | rfl | rfl | rfl | rfl
  · exact does_0 H pv q arg hq
  · cases q with
    | none => obtain rfl : pv = .pointer none := hq; exact does_1n H arg
    | some x => exact does_1 H pv x arg hq (hl x rfl).2 (hl x rfl).1
  · cases q with
    | none => obtain rfl : pv = .pointer none := hq; exact does_2n H arg
    | some x => exact does_2 H pv x arg hq (hl x rfl).2 (hl x rfl).1
  · cases q with
    | none => obtain rfl : pv = .pointer none := hq; exact does_3n H arg
    | some x => exact does_3 H pv x arg hq (hl x rfl).2 (hl x rfl).1
  · cases q with
    | none => obtain rfl : pv = .pointer none := hq; exact does_4n H arg
    | some x => exact does_4 H pv x arg hq (hl x rfl).1
  · cases q with
    | none => obtain rfl : pv = .pointer none := hq; exact does_5n H arg
    | some x => exact does_5 H pv x arg hq (hl x rfl).1
  · cases q with
    | none => obtain rfl : pv = .pointer none := hq; exact does_6n H arg
    | some x => exact does_6 H pv x arg hq (hl x rfl).1
  · exact does_7 H pv q arg hq
end Go.Proofs.YtalgmlhcbilicaaDoor
