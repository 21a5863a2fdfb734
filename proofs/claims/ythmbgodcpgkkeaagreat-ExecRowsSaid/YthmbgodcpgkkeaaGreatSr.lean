/-
  Package model: how many handles there are (of fewer than fifty blocks).
-/
import Derived.Test.YthmbgodcpgkkeaaGreatSq
import Derived.Test.YthmbgodcpgkkeaaGreatMo
namespace Go.Proofs.YthmbgodcpgkkeaaGreat
set_option maxRecDepth 100000
def intV (k : Int) : List Value := [.int .u64 k]
set_option maxHeartbeats 1000000 in
theorem keys1_it (Bm mb : Nat) (m : List (Int × List Nat)) : Iter Tryz.prog 233 [.pointer (some ⟨Bm, 0, none⟩)] [bl Bm 248 [.map (some mb)], Mp mb u64K aggL m] intV m.length (fun xs => xs.Perm (m.map (·.1))) := by
  intro l J hy
  refine Tri.of_body (vs := [_, _]) Tryz.func233 rfl rfl fun w0 F => ?_
  repeat' (first | refine Ga ?_ | (refine Gb ?_; intro b) | (refine Gd ?_; intro g cap rest hcap) | (refine Gc ?_; intro ad cap)  | (refine Ge ?_ ?_ <;> (intro h; try (exfalso; omega))) | fail)
  refine St.loopY (Lr := ?Lr) (ι := { x : List Int × List (Int × List Nat) × Option (Int × List Nat) // (x.1 ++ x.2.1.map (·.1)).Perm (m.map (·.1)) }) (fun x => x.1.2.1.length) (fun _ => []) (fun x => [Mr b mb u64K aggL m x.1.2.1 x.1.2.2, J x.1.1]) ⟨([], m, none), List.Perm.refl _⟩ ?hE ?hL ?round
  case hE => exact Sub.go
  case hL => exact Takes.go
  case round =>
    rintro ⟨⟨pre, left, cur⟩, hp⟩ IH; dsimp only at hp ⊢
    by_cases hne : left = []
    · subst hne
      repeat' (first | refine Ga ?_ | (refine Gb ?_; intro b) | (refine Gd ?_; intro g cap rest hcap) | (refine Gc ?_; intro ad cap)  | (refine Ge ?_ ?_ <;> (intro h; try (exfalso; omega))) | fail)
      refine St.f1 Tryz.func233 ⟨_, ⟨pre, by simpa using hp, rfl⟩, ?_⟩
      exact Ent.trans Ent.mr_mp Ent.go
    · have hlt : pre.length < m.length := by
        have h1 := hp.length_eq
        rw [List.length_append, List.length_map, List.length_map] at h1
        have := List.length_pos_iff.2 hne
        omega
      apply St.seq
      apply St.region
      (apply StL.ok; (apply OpOk.nextM1 hne; rfl; (focus (repeat first | exact Take.here | apply Take.there))); rfl; rintro _ _ ⟨l1, ⟨k, u⟩, l2, hsp, rfl, rfl⟩)
      repeat' (first | refine St.halt 3 ?_ |refine Ga ?_ | (refine Gb ?_; intro b) | (refine Gd ?_; intro g cap rest hcap) | (refine Gc ?_; intro ad cap)  | (refine Ge ?_ ?_ <;> (intro h; try (exfalso; omega))) | fail)
      apply Halt.go
      apply St.seq
      apply St.regionI
      (apply StI.v; exact OpV.go; rfl; (intro c h; cases h))
      (apply StI.v; exact OpV.go; rfl; (intro c h; cases h))
      refine StI.yield (L1 := [J pre]) (F1 := ?F1) rfl Evs.go (hy pre k hlt) Ent.go rfl ?_
      rintro _ rfl
      (apply StI.v; exact OpV.go; rfl; (intro c h; cases h))
      apply StI.done
      repeat' (first | refine Ga ?_ | (refine Gb ?_; intro b) | (refine Gd ?_; intro g cap rest hcap) | (refine Gc ?_; intro ad cap)  | (refine Ge ?_ ?_ <;> (intro h; try (exfalso; omega))) | fail)
      refine IH ⟨(pre ++ [k], l1 ++ l2, some (k, u)), ?_⟩ ?_ ?_ ?_
      · refine List.Perm.trans ?_ hp
        rw [hsp]
        simp only [List.map_append, List.map_cons, List.append_assoc, List.singleton_append]
        refine List.Perm.append_left _ ?_
        exact (List.perm_middle (a := k) (l₁ := l1.map (·.1)) (l₂ := l2.map (·.1))).symm
      · show (l1 ++ l2).length < left.length
        rw [hsp]; simp
      · exact Sub.go
      · exact Ent.go
theorem keys_t (mb : Nat) : Tri Tryz.prog 164 #[.map (some mb)] [] fun r L => ∃ Bm, r = .func (.func 233) ⟨[]⟩ ⟨[.pointer (some ⟨Bm, 0, none⟩)]⟩ ∧ L = [bl Bm 248 [.map (some mb)]] := by
  refine Tri.of_body (vs := [_]) Tryz.func164 rfl rfl fun w0 F => ?_
  repeat' (first | refine Ga ?_ | (refine Gb ?_; intro b) | (refine Gd ?_; intro g cap rest hcap) | (refine Gc ?_; intro ad cap)  | (refine Ge ?_ ?_ <;> (intro h; try (exfalso; omega))) | fail)
  refine St.d1 Tryz.func164 ⟨_, ⟨b, rfl, rfl⟩, Ent.go⟩
def rowU (ad : Option Addr) (cap : Nat) (xs : List Int) : HProp := Row (.slice ad xs.length cap) 22 1 xs.length (xs.map u64K)
def appJ (Bs : Nat) (xs : List Int) : HProp := ex (ι := Option Addr × Nat) fun x => [bl Bs 35 [.slice x.1 xs.length x.2], rowU x.1 x.2 xs]
set_option maxHeartbeats 1000000 in
theorem appendSeq_t (f : FuncId) [Enters Tryz.prog f] (caps : List Value) (Li : List HProp) (N : Nat) (hN : N ≤ 1000000) (S : List Int → Prop) (hit : Iter Tryz.prog f caps Li intV N S) :
    Tri Tryz.prog 277 #[.slice none 0 0, .func (.func f) ⟨[]⟩ ⟨caps⟩] Li fun r L => ∃ xs ad cap, S xs ∧ r = .slice ad xs.length cap ∧ L = Li ++ [rowU ad cap xs] := by
  refine Tri.of_body (vs := [_, _]) Tryz.func277 rfl rfl fun w0 F => ?_
  repeat' (first | refine Ga ?_ | (refine Gb ?_; intro b) | (refine Gd ?_; intro g cap rest hcap) | (refine Gc ?_; intro ad cap)  | (refine Ge ?_ ?_ <;> (intro h; try (exfalso; omega))) | fail)
  refine St.rangeFn (fun xs => [appJ b xs]) (Lr := F) rfl rfl hit ?hL ?hy ?h
  case hL =>
    refine Ent.trans (M := appJ b [] :: (Li ++ F)) ?_ Ent.mid
    refine Ent.trans (Ent.row_nil 22 1) ?_
    exact Ent.trans Ent.go (Ent.ex_in (Ls := fun x : Option Addr × Nat => [bl b 35 [.slice x.1 ([] : List Int).length x.2], rowU x.1 x.2 []]) (none, 0))
  case hy =>
    intro a ha fn l D pre x hlt
    have ha7 := ha.put (d := some 7) rfl (.int .u64 x)
    have e7 : ((#[7] : Array Tmp).zip ⟨intV x⟩).foldl (fun tmps (t, a) => tmps.setIfInBounds t a) a.tmps = a.tmps.setIfInBounds 7 (.int .u64 x) := by simp [intV]
    have hE := (⟨ha7.size, rfl, ha7.at_⟩ : AOk _ _ { tmps := a.tmps.setIfInBounds 7 (.int .u64 x), defers := [] })
    rw [← e7] at hE
    refine YTri.mk1 rfl rfl rfl rfl hE rfl rfl ?hB
    case hB =>
      intro w0 F Q h
      apply StR.block
      refine StR.conv ?_ (Sub.refl _) (Ent.of_take (p := appJ b pre) Take.go)
      refine StR.ex_out fun y => ?_
      obtain ⟨vad, vcap⟩ := y
      dsimp only
      apply StR.region
      (apply StI.v; exact OpV.go; rfl; (intro c h; cases h))
      (apply StI.v; exact OpV.go; rfl; (intro c h; cases h))
      (apply StI.ok; exact OpOk.gf; rfl; (intro c h; cases h); rintro _ _ ⟨g, rfl, rfl⟩)
      unfold rowU
      (apply StI.ok; exact OpOk.ga; rfl; (intro c h; cases h); rintro _ _ ⟨nad, ncap, rfl, rfl⟩)
      (apply StI.ok; exact OpOk.gt; rfl; (intro c h; cases h); rintro _ _ ⟨rfl, rfl⟩)
      refine StI.fin ?_ (fun a w hs ho => h a w _ rfl hs ho)
      have hx := Ent.ex_in (Ls := fun y : Option Addr × Nat => [bl b 35 [.slice y.1 (pre ++ [x]).length y.2], rowU y.1 y.2 (pre ++ [x])]) (L := F) (nad, ncap)
      unfold rowU at hx
      rw [show (pre ++ [x]).length = pre.length + 1 by simp, show (pre ++ [x]).map u64K = pre.map u64K ++ [.int .u64 x] by simp] at hx
      apply Ent.take
      exact Take.go
      refine Ent.trans Ent.go (Ent.trans hx ?_)
      unfold appJ rowU
      rw [show (pre ++ [x]).length = pre.length + 1 by simp, show (pre ++ [x]).map u64K = pre.map u64K ++ [.int .u64 x] by simp]
      exact Ent.refl _
  case h =>
    intro D xs hS
    refine St.conv ?_ (Sub.refl _) (Ent.trans (Ent.cons Ent.mid') (Ent.of_take (p := appJ b xs) (.there .here)))
    refine St.ex_out fun y => ?_
    obtain ⟨vad, vcap⟩ := y
    dsimp only
    repeat' (first | refine Ga ?_ | (refine Gb ?_; intro b) | (refine Gd ?_; intro g cap rest hcap) | (refine Gc ?_; intro ad cap)  | (refine Ge ?_ ?_ <;> (intro h; try (exfalso; omega))) | fail)
    refine St.dM Tryz.func277 ⟨_, ⟨xs, vad, vcap, hS, rfl, rfl⟩, ?_⟩
    refine Ent.drop ?_
    rw [List.append_assoc]
    exact Ent.mid
theorem nsort_t (ad : Option Addr) (cap : Nat) (xs : List Int) (hl : xs.length < 50) : Tri Tryz.prog 232 #[.slice ad xs.length cap] [rowU ad cap xs]
    fun r L => r = .tuple ⟨[]⟩ ∧ L = [] := by
  have hn := nlen_t xs.length hl
  unfold rowU
  refine Tri.of_body (vs := [_]) Tryz.func232 rfl rfl fun w0 F => ?_
  refine St.rowC (fun hv h0 hx => ?_) (fun g lcp rst hv hrf => ?_)
  · injection hv with hv1 hv2 hv3
    subst hv1 hv3
    obtain rfl : xs = [] := by cases xs with | nil => rfl | cons _ _ => simp at h0
    have hpq : ∀ k : Int, Tri Tryz.prog 278 #[.slice none 0 0, .int .i64 0, .int .i64 0, .int .i64 k] [] fun r L => r = .tuple ⟨[]⟩ ∧ L = [] := fun k => by
      have hin : Tri Tryz.prog 295 #[.slice none 0 0, .int .i64 0, .int .i64 0] [] fun r L => r = .tuple ⟨[]⟩ ∧ L = [] := by
        refine Tri.of_body (vs := [_, _, _]) Tryz.func295 rfl rfl fun w0 F => ?_
        repeat' (first | refine Ga ?_ | (refine Gb ?_; intro b) | (refine Gd ?_; intro g cap rest hcap) | (refine Gc ?_; intro ad cap) | (refine St.draw (id := 4) [(0, 0), (1, 0), (2, 0), (3, 0), (4, 0), (5, 0), (6, 0), (7, 1), (8, 0), (9, 0), (10, 0), (11, 0), (12, 1), (13, 1), (14, 0)] [] mixed (by kernel_rfl) ?_) | (refine St.draw (id := 6) [(0, 0), (1, 0), (2, 0), (3, 0), (4, 0), (5, 0), (6, 0), (7, 0), (8, 0), (9, 1), (10, 0), (11, 0), (12, 0), (13, 1), (14, 0), (15, 3), (16, 0), (17, 3)] [15, 17] mixed (by kernel_rfl) ?_) | (refine Ge ?_ ?_ <;> (intro h; try (exfalso; omega))) | fail)
        refine St.loop1 ?_
        repeat' (first | refine Ga ?_ | (refine Gb ?_; intro b) | (refine Gd ?_; intro g cap rest hcap) | (refine Gc ?_; intro ad cap) | (refine St.draw (id := 4) [(0, 0), (1, 0), (2, 0), (3, 0), (4, 0), (5, 0), (6, 0), (7, 1), (8, 0), (9, 0), (10, 0), (11, 0), (12, 1), (13, 1), (14, 0)] [] mixed (by kernel_rfl) ?_) | (refine St.draw (id := 6) [(0, 0), (1, 0), (2, 0), (3, 0), (4, 0), (5, 0), (6, 0), (7, 0), (8, 0), (9, 1), (10, 0), (11, 0), (12, 0), (13, 1), (14, 0), (15, 3), (16, 0), (17, 3)] [15, 17] mixed (by kernel_rfl) ?_) | (refine Ge ?_ ?_ <;> (intro h; try (exfalso; omega))) | fail)
        refine St.f1 Tryz.func295 ⟨_, ⟨rfl, rfl⟩, Ent.go⟩
      refine Tri.of_body (vs := [_, _, _, _]) Tryz.func278 rfl rfl fun w0 F => ?_
      repeat' (first | refine Ga ?_ | (refine Gb ?_; intro b) | (refine Gd ?_; intro g cap rest hcap) | (refine Gc ?_; intro ad cap) | (refine St.draw (id := 17) [(0, 0), (1, 0), (2, 0), (3, 0), (4, 0), (5, 0), (6, 0), (7, 1), (8, 0), (9, 0), (10, 0), (11, 1), (12, 1), (13, 0), (14, 0)] [] mixed (by kernel_rfl) ?_) | (refine Ge ?_ ?_ <;> (intro h; try (exfalso; omega))) | fail)
      refine St.loop1 ?_
      repeat' (first | refine Ga ?_ | (refine Gb ?_; intro b) | (refine Gd ?_; intro g cap rest hcap) | (refine Gc ?_; intro ad cap) | (refine St.draw (id := 17) [(0, 0), (1, 0), (2, 0), (3, 0), (4, 0), (5, 0), (6, 0), (7, 1), (8, 0), (9, 0), (10, 0), (11, 1), (12, 1), (13, 0), (14, 0)] [] mixed (by kernel_rfl) ?_) | (refine Gt hin ?_; rintro _ _ ⟨rfl, rfl⟩) | (refine Ge ?_ ?_ <;> (intro h; try (exfalso; omega))) | fail)
      refine St.d1 Tryz.func278 ⟨_, ⟨rfl, rfl⟩, Ent.go⟩
    repeat' (first | refine Ga ?_ | (refine Gb ?_; intro b) | (refine Gd ?_; intro g cap rest hcap) | (refine Gc ?_; intro ad cap)  | (refine Gt hn ?_; rintro _ _ ⟨k, rfl, hk, hk2, rfl⟩) | (refine Gt (hpq _) ?_; rintro _ _ ⟨rfl, rfl⟩) | (refine Ge ?_ ?_ <;> (intro h; try (exfalso; omega))) | fail)
    refine St.f1 Tryz.func232 ⟨_, ⟨rfl, rfl⟩, Ent.go⟩
  · injection hv with hv1 hv2 hv3
    subst hv1 hv3
    have hnum : NumsU xs.length (xs.map u64K ++ rst) := NumsU.of fun i hi => ⟨xs[i], by rw [List.getElem?_append_left (by rw [List.length_map]; exact hi), List.getElem?_map, List.getElem?_eq_getElem hi]; rfl⟩
    generalize xs.map u64K ++ rst = l at hnum
    have hpq := fun (k : Nat) (hk : k ≤ 6) => npdq_t g cap xs.length hrf.le hl (xs.length + 1) 0 xs.length (k : Int) l (by omega) (Nat.zero_le _) (Nat.le_refl _) (by omega) hnum
    rw [show ((0 : Nat) : Int) = 0 from rfl] at hpq
    repeat' (first | refine Ga ?_ | (refine Gb ?_; intro b) | (refine Gd ?_; intro g cap rest hcap) | (refine Gc ?_; intro ad cap)  | (refine Gt hn ?_; rintro _ _ ⟨k, rfl, hk, hk2, rfl⟩) | (refine Gt (hpq _ hk2) ?_; rintro _ _ ⟨l', rfl, hl', rfl⟩) | (refine Ge ?_ ?_ <;> (intro h; try (exfalso; omega))) | fail)
    refine St.f1 Tryz.func232 ⟨_, ⟨rfl, rfl⟩, Ent.go⟩
/-- the keys of a map: how many -/
theorem nsorted_t (Bm mb : Nat) (m : List (Int × List Nat)) (hm : m.length < 50) : Tri Tryz.prog 163 #[.func (.func 233) ⟨[]⟩ ⟨[.pointer (some ⟨Bm, 0, none⟩)]⟩] [bl Bm 248 [.map (some mb)], Mp mb u64K aggL m]
    fun r L => ∃ ad cap, r = .slice ad m.length cap ∧ L = [Mp mb u64K aggL m] := by
  have ha := appendSeq_t 233 [.pointer (some ⟨Bm, 0, none⟩)] _ m.length (by omega) _ (keys1_it Bm mb m)
  have hc : Tri Tryz.prog 231 #[.func (.func 233) ⟨[]⟩ ⟨[.pointer (some ⟨Bm, 0, none⟩)]⟩] [bl Bm 248 [.map (some mb)], Mp mb u64K aggL m]
      fun r L => ∃ xs ad cap, xs.Perm (m.map (·.1)) ∧ r = .slice ad xs.length cap ∧ L = [bl Bm 248 [.map (some mb)], Mp mb u64K aggL m, rowU ad cap xs] := by
    refine Tri.of_body (vs := [_]) Tryz.func231 rfl rfl fun w0 F => ?_
    repeat' (first | refine Ga ?_ | (refine Gb ?_; intro b) | (refine Gd ?_; intro g cap rest hcap) | (refine Gc ?_; intro ad cap)  | (refine Gt ha ?_; rintro _ _ ⟨xs, ad, cap, hp, rfl, rfl⟩) | (refine Ge ?_ ?_ <;> (intro h; try (exfalso; omega))) | fail)
    refine St.d1 Tryz.func231 ⟨_, ⟨xs, ad, cap, hp, rfl, rfl⟩, Ent.go⟩
  refine Tri.of_body (vs := [_]) Tryz.func163 rfl rfl fun w0 F => ?_
  repeat' (first | refine Ga ?_ | (refine Gb ?_; intro b) | (refine Gd ?_; intro g cap rest hcap) | (refine Gc ?_; intro ad cap)  | (refine Gt hc ?_; rintro _ _ ⟨xs, ad, cap, hp, rfl, rfl⟩) | (refine Ge ?_ ?_ <;> (intro h; try (exfalso; omega))) | fail)
  have el : xs.length = m.length := by rw [hp.length_eq, List.length_map]
  have hs := nsort_t ad cap xs (by omega)
  repeat' (first | refine Ga ?_ | (refine Gb ?_; intro b) | (refine Gd ?_; intro g cap rest hcap) | (refine Gc ?_; intro ad cap)  | (refine Gt hs ?_; rintro _ _ ⟨rfl, rfl⟩) | (refine Ge ?_ ?_ <;> (intro h; try (exfalso; omega))) | fail)
  refine St.d1 Tryz.func163 ⟨_, ⟨ad, cap, ?_, rfl⟩, Ent.go⟩
  rw [← el]; rfl
theorem handles_t (S : Nat) (m : Ms) (hm : m.blocks.length < 50) : Tri Tryz.prog 74 #[.pointer (some ⟨S, 0, none⟩)] [MsE S m]
    fun r L => ∃ ad cap, r = .slice ad m.blocks.length cap ∧ L = [MsE S m] := by
  refine Tri.ex_out fun mb => ?_
  unfold msL
  have hk := keys_t mb
  have hs := fun Bm => nsorted_t Bm mb m.blocks hm
  refine Tri.of_body (vs := [_]) Tryz.func74 rfl rfl fun w0 F => ?_
  repeat' (first | refine Ga ?_ | (refine Gb ?_; intro b) | (refine Gd ?_; intro g cap rest hcap) | (refine Gc ?_; intro ad cap)  | (refine Gt hk ?_; rintro _ _ ⟨Bm, rfl, rfl⟩) | (refine Gt (hs Bm) ?_; rintro _ _ ⟨ad, cap, rfl, rfl⟩) | (refine Ge ?_ ?_ <;> (intro h; try (exfalso; omega))) | fail)
  refine St.d1 Tryz.func74 ⟨_, ⟨ad, cap, rfl, rfl⟩, ?_⟩
  refine Ent.trans ?_ (Ent.ms (S := S) (mb := mb) (m := m) (L := F))
  exact Ent.go
end Go.Proofs.YthmbgodcpgkkeaaGreat
