/-
  slices.SortFunc of pairs by their keys, of any number: the shelf's contract, turned into one of a frame.
-/
import Derived.Test.YtphheopbngdhhaaGreatDoorTz
import Derived.Shelf.SlSortCmp.WholeK
namespace Go.Proofs.YtphheopbngdhhaaGreatDoor
set_option maxRecDepth 100000
def sortP_ren : Go.Shelf.Ren := ⟨fun | 6 => 43 | 15 => 72 | 14 => 71 | 28 => 111 | 29 => 112 | 20 => 103 | 21 => 104 | 22 => 105 | 23 => 106 | 24 => 107 | 25 => 108 | 26 => 109 | 27 => 110 | 46 => 134 | 47 => 135 | 48 => 136 | 49 => 137 | 50 => 138 | 57 => 169 | n => n, fun | 22 => 84 | 24 => 88 | 25 => 116 | 3 => 3 | 39 => 155 | 0 => 0 | 53 => 202 | 55 => 22 | 4 => 4 | 46 => 196 | 45 => 195 | 50 => 164 | 5 => 5 | 9 => 9 | 66 => 233 | 70 => 237 | 76 => 259 | 77 => 206 | n => n, fun | n => n⟩
theorem sortP : Go.Proofs.SlLaysF0.n6 Tryz.prog sortP_ren where
  mixed := by kernel_rfl
  f6 := ⟨"slices.SortFunc[[]tumbler/table.Pair,tumbler/table.Pair]", by decide, Tryz.func43.trans (congrArg some (by kernel_rfl))⟩
  f14 := ⟨"slices.pdqsortCmpFunc[tumbler/table.Pair]", by decide, Tryz.func71.trans (congrArg some (by kernel_rfl))⟩
  f15 := Tryz.func72.trans (congrArg some (by kernel_rfl))
  f20 := ⟨"slices.insertionSortCmpFunc[tumbler/table.Pair]", by decide, Tryz.func103.trans (congrArg some (by kernel_rfl))⟩
  f21 := ⟨"slices.heapSortCmpFunc[tumbler/table.Pair]", by decide, Tryz.func104.trans (congrArg some (by kernel_rfl))⟩
  f22 := ⟨"slices.breakPatternsCmpFunc[tumbler/table.Pair]", by decide, Tryz.func105.trans (congrArg some (by kernel_rfl))⟩
  f23 := ⟨"slices.choosePivotCmpFunc[tumbler/table.Pair]", by decide, Tryz.func106.trans (congrArg some (by kernel_rfl))⟩
  f24 := ⟨"slices.reverseRangeCmpFunc[tumbler/table.Pair]", by decide, Tryz.func107.trans (congrArg some (by kernel_rfl))⟩
  f25 := ⟨"slices.partialInsertionSortCmpFunc[tumbler/table.Pair]", by decide, Tryz.func108.trans (congrArg some (by kernel_rfl))⟩
  f26 := ⟨"slices.partitionEqualCmpFunc[tumbler/table.Pair]", by decide, Tryz.func109.trans (congrArg some (by kernel_rfl))⟩
  f27 := ⟨"slices.partitionCmpFunc[tumbler/table.Pair]", by decide, Tryz.func110.trans (congrArg some (by kernel_rfl))⟩
  f28 := Tryz.func111.trans (congrArg some (by kernel_rfl))
  f29 := Tryz.func112.trans (congrArg some (by kernel_rfl))
  f46 := ⟨"slices.siftDownCmpFunc[tumbler/table.Pair]", by decide, Tryz.func134.trans (congrArg some (by kernel_rfl))⟩
  f47 := Tryz.func135.trans (congrArg some (by kernel_rfl))
  f48 := Tryz.func136.trans (congrArg some (by kernel_rfl))
  f49 := ⟨"slices.medianAdjacentCmpFunc[tumbler/table.Pair]", by decide, Tryz.func137.trans (congrArg some (by kernel_rfl))⟩
  f50 := ⟨"slices.medianCmpFunc[tumbler/table.Pair]", by decide, Tryz.func138.trans (congrArg some (by kernel_rfl))⟩
  f57 := ⟨"slices.order2CmpFunc[tumbler/table.Pair]", by decide, Tryz.func169.trans (congrArg some (by kernel_rfl))⟩
  t0 := Tryz.underlying0
  a0 := Tryz.isAgg0
  z0 := Tryz.sizeOf0
  v0 := Tryz.zeroValue0
  t3 := Tryz.underlying3
  a3 := Tryz.isAgg3
  z3 := Tryz.sizeOf3
  v3 := Tryz.zeroValue3
  t4 := Tryz.underlying4
  a4 := Tryz.isAgg4
  z4 := Tryz.sizeOf4
  v4 := Tryz.zeroValue4
  t5 := Tryz.underlying5
  a5 := Tryz.isAgg5
  z5 := Tryz.sizeOf5
  v5 := Tryz.zeroValue5
  t9 := Tryz.underlying9
  a9 := Tryz.isAgg9
  z9 := Tryz.sizeOf9
  v9 := Tryz.zeroValue9
  t22 := Tryz.underlying84
  a22 := Tryz.isAgg84
  z22 := Tryz.sizeOf84
  v22 := Tryz.zeroValue84
  t25 := Tryz.underlying116
  a25 := Tryz.isAgg116
  z25 := Tryz.sizeOf116
  v25 := Tryz.zeroValue116
  t39 := Tryz.underlying155
  a39 := Tryz.isAgg155
  z39 := Tryz.sizeOf155
  v39 := Tryz.zeroValue155
  t45 := Tryz.underlying195
  a45 := Tryz.isAgg195
  z45 := Tryz.sizeOf195
  v45 := Tryz.zeroValue195
  t46 := Tryz.underlying196
  a46 := Tryz.isAgg196
  z46 := Tryz.sizeOf196
  v46 := Tryz.zeroValue196
  t50 := Tryz.underlying164
  a50 := Tryz.isAgg164
  z50 := Tryz.sizeOf164
  v50 := Tryz.zeroValue164
  t53 := Tryz.underlying202
  a53 := Tryz.isAgg202
  z53 := Tryz.sizeOf202
  v53 := Tryz.zeroValue202
  t55 := Tryz.underlying22
  a55 := Tryz.isAgg22
  z55 := Tryz.sizeOf22
  v55 := Tryz.zeroValue22
  t66 := Tryz.underlying233
  a66 := Tryz.isAgg233
  z66 := Tryz.sizeOf233
  v66 := Tryz.zeroValue233
  t70 := Tryz.underlying237
  a70 := Tryz.isAgg237
  z70 := Tryz.sizeOf237
  v70 := Tryz.zeroValue237
  t76 := Tryz.underlying259
  a76 := Tryz.isAgg259
  z76 := Tryz.sizeOf259
  v76 := Tryz.zeroValue259
  t77 := Tryz.underlying206
  a77 := Tryz.isAgg206
  z77 := Tryz.sizeOf206
  v77 := Tryz.zeroValue206
theorem isnan_c (z : Int) (W : World) : Calls Tryz.prog 73 #[.int .u64 z] W fun e w' => e = .returned (.bool false) ∧ w' = W := by
  go_enter Tryz.func73, Tryz.ntmps73
  go_wp2
  go_ret
  exact ⟨by simp, rfl⟩
set_option maxHeartbeats 1000000 in
theorem compare_c (a b : Nat) (W : World) : Calls Tryz.prog 45 #[.int .u64 (a : Int), .int .u64 (b : Int)] W fun e w' => e = .returned (.int .i64 (cmpI a b)) ∧ w' = W := by
  have hn := isnan_c
  go_enter Tryz.func45, Tryz.ntmps45
  go_wp2_with (go_at_call 73; refine (hn _ _).mono ?_; rintro e w' ⟨rfl, hw⟩; rw [hw])
  all_goals (go_ret; refine ⟨?_, rfl⟩; unfold cmpI; (repeat' split) <;> first | rfl | (exfalso; omega))
theorem cmp3_c (x y : Nat × Nat) (W : World) : Calls Tryz.prog 44 #[.agg #[.int .u64 (x.1 : Int), .int .u64 (x.2 : Int)], .agg #[.int .u64 (y.1 : Int), .int .u64 (y.2 : Int)]] W fun e w' => e = .returned (.int .i64 (cmpI x.1 y.1)) ∧ ∃ q os', w' = Go.Sort.grow (W.drewN q) os' := by
  have hcon := fun W' => compare_c x.1 y.1 W'
  generalize cmpI x.1 y.1 = r at hcon ⊢
  go_enter Tryz.func44, Tryz.ntmps44
  go_wp2_with (go_at_call 45; refine (hcon _).mono ?_; rintro e w' ⟨rfl, rfl⟩)
  go_ret
  exact ⟨rfl, 0, _, by rw [Go.Sort.alloc_eq_grow, Go.Sort.alloc_eq_grow, Go.Sort.grow_grow]; rfl⟩
theorem Tri.rowC {P : Program} {f : FuncId} {args : Array Value} {Q : Value → List HProp → Prop} {L : List HProp} {v : Value} {e sz n : Nat} {xs : List Value} (h0 : v = .slice none 0 0 → n = 0 → xs = [] → Tri P f args L Q)
    (h : ∀ g cap rest, v = .slice (some ⟨g, 0, none⟩) n cap → RowF n cap sz xs rest → Tri P f args (bl g e (xs ++ rest) :: L) Q) : Tri P f args (Row v e sz n xs :: L) Q := by
  unfold Tri at *
  intro w F hs
  have hs : Sat (Row v e sz n xs :: (L ++ F)) (hpOf w) := hs
  have hs0 := hs
  rw [sat_cons] at hs
  obtain ⟨h1, h2, hd, hor, ⟨hl, hr⟩, hL⟩ := hs
  rcases hr with ⟨hv, hn⟩ | ⟨g, cap, cur, rfl, hc, hm, hcs, htk, hp⟩
  · exact h0 hv hn (List.eq_nil_of_length_eq_zero (by rw [hl, hn, Nat.zero_mul])) w F hs0.tail
  · refine h g cap (cur.toList.drop (n * sz)) rfl ⟨hc, hm, hl, ?_⟩ w F ?_
    · rw [← hcs, ← htk, ← List.length_append, List.take_append_drop]; simp
    · show Sat (bl g e _ :: (L ++ F)) _
      rw [sat_cons]
      refine ⟨h1, h2, hd, hor, ?_, hL⟩
      rw [← htk, List.take_append_drop]
      exact hp
theorem flat_get : ∀ (xs : Prs) (t : Nat), t < xs.length * 2 → (xs.flatMap prV)[t]! = (prV xs[t / 2]!)[t % 2]!
  | [], t, h => by simp at h
  | x :: xs, 0, _ => rfl
  | x :: xs, 1, _ => rfl
  | x :: xs, t + 2, h => by
    have ih := flat_get xs t (by rw [List.length_cons] at h; omega)
    have e1 : (t + 2) / 2 = t / 2 + 1 := by omega
    have e2 : (t + 2) % 2 = t % 2 := by omega
    rw [e1, e2, List.flatMap_cons]
    have e3 : (prV x ++ xs.flatMap prV)[t + 2]! = (xs.flatMap prV)[t]! := by
      show (.int .u64 (x.1 : Int) :: .int .u64 (x.2 : Int) :: xs.flatMap prV)[t + 2]! = _
      simp [List.getElem!_eq_getElem?_getD]
    rw [e3, ih]
    simp [List.getElem!_eq_getElem?_getD]
theorem flatK_list (d : Array (Nat × Nat)) : Go.Sort.flatK prV 2 d = ⟨d.toList.flatMap prV⟩ := by
  refine Go.Sort.ext_get! ?_ fun t ht => ?_
  · rw [Go.Sort.size_flatK]
    show _ = (d.toList.flatMap prV).length
    rw [prs_len, Array.length_toList]
  · have ht' : t < d.size * 2 := by simpa using ht
    rw [Go.Sort.get_flatK _ _ _ _ ht']
    have h := flat_get d.toList t (by rw [Array.length_toList]; exact ht')
    simp only [Array.getElem!_toList] at h
    rw [← h]
    simp
theorem putCells_list (A l : List Value) (h : A.length ≤ l.length) : Go.Sort.putCells id 0 ⟨A⟩ ⟨l⟩ = ⟨A ++ l.drop A.length⟩ := by
  apply Array.ext_getElem?
  intro i
  unfold Go.Sort.putCells
  rw [Array.getElem?_mapIdx]
  simp only [List.getElem?_toArray, Nat.zero_le, true_and, Nat.zero_add, Nat.sub_zero, List.size_toArray, id]
  by_cases hi : i < A.length
  · rw [List.getElem?_append_left hi, List.getElem?_eq_getElem (by omega : i < l.length), List.getElem?_eq_getElem hi]
    simp [hi]
  · rw [List.getElem?_append_right (by omega), List.getElem?_drop, show A.length + (i - A.length) = i by omega]
    cases l[i]? <;> simp [hi]
theorem hp_sortW {w : World} {blk m : Nat} {d' : Array (Nat × Nat)} {os : Array Obj} {xs : Prs} {rest : List Value} {t : TypeId} (hb : hpOf w blk = some (.cells ⟨xs.flatMap prV ++ rest⟩ t (0, 0))) (hsz : d'.size = xs.length) :
    hpOf (sortWorldK prV 2 w blk 0 m d' os) blk = some (.cells ⟨d'.toList.flatMap prV ++ rest⟩ t (0, 0)) ∧ ∀ x o, x ≠ blk → hpOf w x = some o → hpOf (sortWorldK prV 2 w blk 0 m d' os) x = some o := by
  have hpc := putCells_list (d'.toList.flatMap prV) (xs.flatMap prV ++ rest) (by rw [prs_len, List.length_append, prs_len, Array.length_toList]; omega)
  have hlen : (d'.toList.flatMap prV).length = (xs.flatMap prV).length := by rw [prs_len, prs_len, Array.length_toList, hsz]
  rw [hlen, List.drop_left' rfl] at hpc
  have hH : (sortWorldK prV 2 w blk 0 m d' os).heap = w.heap.modify blk (Go.Sort.onCells (Go.Sort.putCells id 0 ⟨d'.toList.flatMap prV⟩)) ++ os := by
    rw [← flatK_list]; rfl
  have hlt : ∀ x o, hpOf w x = some o → x < w.heap.size := fun x o h => by
    rcases Nat.lt_or_ge x w.heap.size with h1 | h1
    · exact h1
    · unfold hpOf at h
      rw [Array.getElem?_eq_none h1] at h
      cases h
  constructor
  · have h1 := hlt blk _ hb
    unfold hpOf at hb ⊢
    rw [hH, Array.getElem?_append_left (by rw [Array.size_modify]; exact h1), Array.getElem?_modify, if_pos rfl, hb]
    show some (Obj.cells (Go.Sort.putCells id 0 _ _) _ _) = _
    rw [hpc]
  · intro x o hx ho
    have h1 := hlt x _ ho
    unfold hpOf at ho ⊢
    rw [hH, Array.getElem?_append_left (by rw [Array.size_modify]; exact h1), Array.getElem?_modify, if_neg (fun e => hx e.symm), ho]
theorem ltOf_cmp (x y : Nat × Nat) : ltOf (fun x y : Nat × Nat => cmpI x.1 y.1) x y = decide (x.1 < y.1) := by
  unfold ltOf cmpI
  by_cases h1 : x.1 < y.1
  · simp [h1]
  · by_cases h2 : y.1 < x.1 <;> simp [h1, h2]
theorem cf_swo : Go.Sort.SWO (ltOf fun x y : Nat × Nat => cmpI x.1 y.1) :=
  ⟨fun x => by rw [ltOf_cmp]; simp, fun x y z h1 h2 => by rw [ltOf_cmp] at *; simp at *; omega, fun x y z h1 h2 => by rw [ltOf_cmp] at *; simp at *; omega⟩
theorem psortw_t (ad : Option Addr) (cap : Nat) (xs : Prs) (hl : xs.length ≤ 1000000) : Tri Tryz.prog 43 #[.slice ad xs.length cap, .func (.func 44) ⟨[]⟩ ⟨[]⟩] [rowP ad cap xs]
    fun r L => ∃ ys : Prs, ys.Perm xs ∧ UpP ys ∧ r = .tuple ⟨[]⟩ ∧ L = [rowP ad cap ys] := by
  have hn0 := plen_t 0 (by decide)
  unfold rowP
  refine Tri.rowC (fun hv h0 hx => ?_) (fun g lcp rest hv hrf => ?_)
  · injection hv with hv1 hv2 hv3
    subst hv1 hv3
    obtain rfl : xs = [] := by cases xs with | nil => rfl | cons _ _ => simp at h0
    have hpq : ∀ k : Int, Tri Tryz.prog 71 #[.slice none 0 0, .int .i64 0, .int .i64 0, .int .i64 k, .func (.func 44) ⟨[]⟩ ⟨[]⟩] [] fun r L => r = .tuple ⟨[]⟩ ∧ L = [] := fun k => by
      have hin : Tri Tryz.prog 103 #[.slice none 0 0, .int .i64 0, .int .i64 0, .func (.func 44) ⟨[]⟩ ⟨[]⟩] [] fun r L => r = .tuple ⟨[]⟩ ∧ L = [] := by
        refine Tri.of_body (vs := [_, _, _, _]) Tryz.func103 rfl rfl fun w0 F => ?_
        repeat' (first | refine Ga ?_ | (refine Gb ?_; intro b) | (refine Gd ?_; intro g cap rest hcap) | (refine Gc ?_; intro ad cap) | (refine St.draw (id := 4) [(0, 0), (1, 0), (2, 0), (3, 0), (4, 0), (5, 0), (6, 0), (7, 0), (8, 1), (9, 0), (10, 0), (11, 0), (12, 0), (13, 1), (14, 3), (15, 0), (16, 0)] [14] mixed (by kernel_rfl) ?_) | (refine St.draw (id := 6) [(0, 0), (1, 0), (2, 0), (3, 0), (4, 0), (5, 0), (6, 0), (7, 0), (8, 0), (9, 1), (10, 0), (11, 0), (12, 0), (13, 1), (14, 0), (15, 3), (16, 0), (17, 3)] [15, 17] mixed (by kernel_rfl) ?_) | (refine Ge ?_ ?_ <;> (intro h; try (exfalso; omega))) | fail)
        refine St.loop1 ?_
        repeat' (first | refine Ga ?_ | (refine Gb ?_; intro b) | (refine Gd ?_; intro g cap rest hcap) | (refine Gc ?_; intro ad cap) | (refine St.draw (id := 4) [(0, 0), (1, 0), (2, 0), (3, 0), (4, 0), (5, 0), (6, 0), (7, 0), (8, 1), (9, 0), (10, 0), (11, 0), (12, 0), (13, 1), (14, 3), (15, 0), (16, 0)] [14] mixed (by kernel_rfl) ?_) | (refine St.draw (id := 6) [(0, 0), (1, 0), (2, 0), (3, 0), (4, 0), (5, 0), (6, 0), (7, 0), (8, 0), (9, 1), (10, 0), (11, 0), (12, 0), (13, 1), (14, 0), (15, 3), (16, 0), (17, 3)] [15, 17] mixed (by kernel_rfl) ?_) | (refine Ge ?_ ?_ <;> (intro h; try (exfalso; omega))) | fail)
        refine St.f1 Tryz.func103 ⟨_, ⟨rfl, rfl⟩, Ent.go⟩
      refine Tri.of_body (vs := [_, _, _, _, _]) Tryz.func71 rfl rfl fun w0 F => ?_
      repeat' (first | refine Ga ?_ | (refine Gb ?_; intro b) | (refine Gd ?_; intro g cap rest hcap) | (refine Gc ?_; intro ad cap) | (refine St.draw (id := 17) [(0, 0), (1, 0), (2, 0), (3, 0), (4, 0), (5, 0), (6, 0), (7, 0), (8, 1), (9, 0), (10, 0), (11, 0), (12, 1), (13, 3), (14, 0), (15, 0), (16, 0)] [13] mixed (by kernel_rfl) ?_) | (refine Ge ?_ ?_ <;> (intro h; try (exfalso; omega))) | fail)
      refine St.loop1 ?_
      repeat' (first | refine Ga ?_ | (refine Gb ?_; intro b) | (refine Gd ?_; intro g cap rest hcap) | (refine Gc ?_; intro ad cap) | (refine St.draw (id := 17) [(0, 0), (1, 0), (2, 0), (3, 0), (4, 0), (5, 0), (6, 0), (7, 0), (8, 1), (9, 0), (10, 0), (11, 0), (12, 1), (13, 3), (14, 0), (15, 0), (16, 0)] [13] mixed (by kernel_rfl) ?_) | (refine Gt hin ?_; rintro _ _ ⟨rfl, rfl⟩) | (refine Ge ?_ ?_ <;> (intro h; try (exfalso; omega))) | fail)
      refine St.d1 Tryz.func71 ⟨_, ⟨rfl, rfl⟩, Ent.go⟩
    refine Tri.of_body (vs := [_, _]) Tryz.func43 rfl rfl fun w0 F => ?_
    repeat' (first | refine Ga ?_ | (refine Gb ?_; intro b) | (refine Gd ?_; intro g cap rest hcap) | (refine Gc ?_; intro ad cap)  | (refine Gt hn0 ?_; rintro _ _ ⟨k, rfl, rfl⟩) | (refine Gt (hpq _) ?_; rintro _ _ ⟨rfl, rfl⟩) | (refine Ge ?_ ?_ <;> (intro h; try (exfalso; omega))) | fail)
    refine St.f1 Tryz.func43 ⟨_, ⟨[], List.Perm.refl _, List.Pairwise.nil, rfl, rfl⟩, Ent.row_nil 88 2⟩
  injection hv with hv1 hv2 hv3
  subst hv1 hv3
  unfold Tri
  intro w F hs
  have hb : hpOf w g = some (.cells ⟨xs.flatMap prV ++ rest⟩ 88 (0, 0)) := (Reads.here Rd.pt : Reads (pt g _ :: ([] ++ F)) g _).sat hs
  have hblk : g < w.heap.size := by
    rcases Nat.lt_or_ge g w.heap.size with h1 | h1
    · exact h1
    · unfold hpOf at hb
      rw [Array.getElem?_eq_none h1] at hb
      cases hb
  have eg : ∀ args w, (callFunc 44 args).run Tryz.prog w = .ok (.enter 44 args) w := enters_of Tryz.func44 (by kernel_rfl) rfl
  have hcmp : CmpLays Tryz.prog 44 #[] prV 2 (fun x y : Nat × Nat => cmpI x.1 y.1) g 0 xs.toArray.size w := fun _ _ _ _ x y => cmp3_c x y _
  have hH : Go.Sort.HoldsK prV 2 w g 0 xs.toArray := by
    intro j hj
    rw [Go.Sort.size_flatK] at hj
    rw [flatK_list]
    refine ⟨?_, frozen_hp hb⟩
    rw [cell_hp hb]
    have hj' : j < (xs.flatMap prV).length := by rw [prs_len]; simpa using hj
    simp only [Nat.zero_add, id, List.getElem?_toArray]
    rw [List.getElem?_append_left hj', List.getElem?_eq_getElem hj', List.getElem!_toArray, getElem!_pos (xs.flatMap prV) j hj']
  have hcon := AnyQ.slices_SortFunc sortP 2 Tryz.isAgg88 Tryz.sizeOf88 prV (fun _ => rfl) (fun x v hv => by simp [prV] at hv; rcases hv with rfl | rfl <;> rfl) (fun x y : Nat × Nat => cmpI x.1 y.1) cf_swo 44 #[] g 0 cap xs.toArray w eg hcmp hH hblk (by simp; omega)
  rw [List.size_toArray] at hcon
  refine hcon.mono ?_
  rintro e w' ⟨rfl, d', n, os, ⟨hp1, hp2, hp3⟩, hsd, rfl⟩
  have hp1 : d'.size = xs.length := by simpa using hp1
  obtain ⟨q1, q2⟩ := hp_sortW (m := n) (os := os) hb hp1
  have hperm : d'.toList.Perm xs := by
    have e1 : d'.extract 0 xs.length = d' := by rw [← hp1]; exact Array.extract_size
    have e2 : xs.toArray.extract 0 xs.length = xs.toArray := by
      have h := (Array.extract_size : xs.toArray.extract 0 xs.toArray.size = xs.toArray)
      rwa [List.size_toArray] at h
    rw [e1, e2] at hp3
    exact hp3
  refine ⟨_, _, rfl, ⟨d'.toList, hperm, ?_, rfl, rfl⟩, ?_, ⟨rfl, rfl, rfl⟩⟩
  · refine List.pairwise_iff_getElem.mpr fun i j hi hj hij => ?_
    have h := hsd i j (Nat.zero_le _) hij (by rw [← hp1]; simpa using hj)
    have hi' : i < d'.size := by simpa using hi
    have hj' : j < d'.size := by simpa using hj
    rw [getElem!_pos d' j hj', getElem!_pos d' i hi'] at h
    rw [ltOf_cmp] at h
    have h2 := of_decide_eq_false h
    simp only [Array.getElem_toList]
    omega
  · have hlen := hperm.length_eq
    have hs1 : Sat (pt g (.cells ⟨xs.flatMap prV ++ rest⟩ 88 (0, 0)) :: F) (hpOf w) := hs
    have hs2 := (Turn.here (b := g) (o' := .cells ⟨d'.toList.flatMap prV ++ rest⟩ 88 (0, 0)) (L := F)).sat hs1
    have hs3 := hs2.mono (k := hpOf (sortWorldK prV 2 w g 0 n d' os)) fun b o ho => by
      by_cases e : b = g
      · subst e
        unfold upd at ho
        rw [if_pos rfl] at ho
        injection ho with ho
        rw [← ho]; exact q1
      · unfold upd at ho
        rw [if_neg e] at ho
        exact q2 b o e ho
    have htot := hrf.tot
    rw [prs_len] at htot
    have he := Ent.rowF (g := g) (e := 88) (L := F) (rest := rest) (xs := d'.toList.flatMap prV) (n := d'.toList.length) (cap := cap) (sz := 2) ⟨by rw [hlen]; exact hrf.le, hrf.max, prs_len _, by rw [prs_len, hlen]; omega⟩
    unfold Ent at he
    exact he _ hs3
end Go.Proofs.YtphheopbngdhhaaGreatDoor
