/-
  Rows of a schedule, as they are sorted: what Go's own stable sort comes to, in plain terms, and that its code does so.
-/
import Derived.Test.YtemaaenipjinaaaGreatJc
namespace Go.Proofs.YtemaaenipjinaaaGreat
set_option maxRecDepth 100000
section callv
variable {P : Program} {n' : Fi} {E : Env} {ty : TypeId}
theorem OpC.callv {g : FuncId} {x : Operand} {xs : List Operand} {ats : Array TypeId} {vs caps : List Value} [he : Enters P g] (hx0 : ev E x = some (.func (.func g) ⟨[]⟩ ⟨caps⟩)) (hx : Evs E xs vs) :
    OpC P n' (.call { callee := .value x, args := ⟨xs⟩, argTypes := ats }) ty E g ⟨vs ++ caps⟩ := by
  unfold OpC
  exact (fun _ _ _ _ a w ha => by
    have e := hx.eq ha
    have e3 : ∀ args : Array Value, (callFunc g args).run P w = .ok (.enter g args) w := fun args => he.h args w
    simp [execOp, resolve, invoke, ha.ev hx0, Deferred.ofValue, e3]
    exact e)
end callv
/-- a call that took effect -/
structure SRow where
  at_ : Int
  who : Int
  tag : Int
  rc : Int
  rv : Nat
  news : List Nat
/-- the same, with where its handles lie -/
abbrev SRowH := SRow × Option Addr × Nat
def srV (r : SRowH) : List Value := [.int .i64 r.1.at_, .int .i64 r.1.who, .int .i64 r.1.tag, .int .i64 r.1.rc, .int .u64 (r.1.rv : Int), .slice r.2.1 r.1.news.length r.2.2]
theorem srV_len (r : SRowH) : (srV r).length = 6 := rfl
def d0 : SRowH := (⟨0, 0, 0, 0, 0, []⟩, none, 0)
section plain
variable (l : List SRowH)
def ltA (i j : Nat) : Bool := decide ((l.getD i d0).1.at_ < (l.getD j d0).1.at_)
def swp (i j : Nat) : List SRowH := (l.set i (l.getD j d0)).set j (l.getD i d0)
theorem swp_len (i j : Nat) : (swp l i j).length = l.length := by unfold swp; rw [List.length_set, List.length_set]
end plain
/-- an element sinks -/
def insIn (a : Nat) : Nat → List SRowH → List SRowH
  | 0, l => l
  | j + 1, l => if a < j + 1 ∧ ltA l (j + 1) j = true then insIn a j (swp l (j + 1) j) else l
def insOut (a : Nat) : Nat → Nat → List SRowH → List SRowH
  | 0, _, l => l
  | n + 1, i, l => insOut a n (i + 1) (insIn a i l)
def insS (a b : Nat) (l : List SRowH) : List SRowH := insOut a (b - (a + 1)) (a + 1) l
theorem insIn_len (a : Nat) : ∀ (j : Nat) (l : List SRowH), (insIn a j l).length = l.length
  | 0, _ => rfl
  | j + 1, l => by
    unfold insIn
    split
    · rw [insIn_len a j, swp_len]
    · rfl
theorem insOut_len (a : Nat) : ∀ (n i : Nat) (l : List SRowH), (insOut a n i l).length = l.length
  | 0, _, _ => rfl
  | n + 1, i, l => by unfold insOut; rw [insOut_len a n, insIn_len]
theorem insS_len (a b : Nat) (l : List SRowH) : (insS a b l).length = l.length := insOut_len _ _ _ _
def swrGo (a b : Nat) : Nat → Nat → List SRowH → List SRowH
  | 0, _, l => l
  | n + 1, i, l => swrGo a b n (i + 1) (swp l (a + i) (b + i))
def swr (a b n : Nat) (l : List SRowH) : List SRowH := swrGo a b n 0 l
theorem swrGo_len (a b : Nat) : ∀ (n i : Nat) (l : List SRowH), (swrGo a b n i l).length = l.length
  | 0, _, _ => rfl
  | n + 1, i, l => by unfold swrGo; rw [swrGo_len a b n, swp_len]
theorem swr_len (a b n : Nat) (l : List SRowH) : (swr a b n l).length = l.length := swrGo_len _ _ _ _ _
def rotGo (m : Nat) : Nat → Nat → Nat → List SRowH → List SRowH
  | 0, _, _, l => l
  | f + 1, i, j, l => if i = j then swr (m - i) m i l else if j < i then rotGo m f (i - j) j (swr (m - i) m j l) else rotGo m f i (j - i) (swr (m - i) (m + j - i) i l)
def rotS (a m b : Nat) (l : List SRowH) : List SRowH := rotGo m (b - a) (m - a) (b - m) l
theorem rotGo_len (m : Nat) : ∀ (f i j : Nat) (l : List SRowH), (rotGo m f i j l).length = l.length
  | 0, _, _, _ => rfl
  | f + 1, i, j, l => by
    unfold rotGo
    split
    · rw [swr_len]
    split
    · rw [rotGo_len m f, swr_len]
    · rw [rotGo_len m f, swr_len]
theorem rotS_len (a m b : Nat) (l : List SRowH) : (rotS a m b l).length = l.length := rotGo_len _ _ _ _ _
/-- the place at which a test turns -/
def halfGo (T : Nat → Bool) : Nat → Nat → Nat → Nat
  | 0, i, _ => i
  | f + 1, i, j => if i < j then (if T ((i + j) / 2) = true then halfGo T f ((i + j) / 2 + 1) j else halfGo T f i ((i + j) / 2)) else i
def half (T : Nat → Bool) (i j : Nat) : Nat := halfGo T (j - i) i j
theorem halfGo_in (T : Nat → Bool) : ∀ (f i j : Nat), i ≤ j → j - i ≤ f → i ≤ halfGo T f i j ∧ halfGo T f i j ≤ j
  | 0, i, j, h, hf => by show i ≤ i ∧ i ≤ j; omega
  | f + 1, i, j, h, hf => by
    unfold halfGo
    split
    · split
      · have := halfGo_in T f ((i + j) / 2 + 1) j (by omega) (by omega); omega
      · have := halfGo_in T f i ((i + j) / 2) (by omega) (by omega); omega
    · omega
theorem half_in (T : Nat → Bool) {i j : Nat} (h : i ≤ j) : i ≤ half T i j ∧ half T i j ≤ j := halfGo_in T _ i j h (Nat.le_refl _)
theorem halfGo_fuel (T : Nat → Bool) : ∀ (f g i j : Nat), j - i ≤ f → j - i ≤ g → halfGo T f i j = halfGo T g i j
  | 0, 0, _, _, _, _ => rfl
  | 0, g + 1, i, j, h, _ => by unfold halfGo; rw [if_neg (by omega)]
  | f + 1, 0, i, j, _, h => by unfold halfGo; rw [if_neg (by omega)]
  | f + 1, g + 1, i, j, hf, hg => by
    unfold halfGo
    split
    · split
      · exact halfGo_fuel T f g _ _ (by omega) (by omega)
      · exact halfGo_fuel T f g _ _ (by omega) (by omega)
    · rfl
theorem half_lt (T : Nat → Bool) {i j : Nat} (h : i < j) : half T i j = if T ((i + j) / 2) = true then half T ((i + j) / 2 + 1) j else half T i ((i + j) / 2) := by
  have e : half T i j = halfGo T ((j - i - 1) + 1) i j := by unfold half; congr 1; omega
  rw [e]
  unfold halfGo
  rw [if_pos h]
  unfold half
  split
  · exact halfGo_fuel T _ _ _ _ (by omega) (by omega)
  · exact halfGo_fuel T _ _ _ _ (by omega) (by omega)
theorem half_ge (T : Nat → Bool) {i j : Nat} (h : j ≤ i) : half T i j = i := by
  unfold half
  rw [show j - i = 0 by omega]
  rfl
/-- neighbours change places, upwards from a to e -/
def upGo : Nat → Nat → List SRowH → List SRowH
  | 0, _, l => l
  | n + 1, k, l => upGo n (k + 1) (swp l k (k + 1))
/-- and downwards from m to i -/
def dnGo : Nat → Nat → List SRowH → List SRowH
  | 0, _, l => l
  | n + 1, k, l => dnGo n (k - 1) (swp l k (k - 1))
theorem upGo_len : ∀ (n k : Nat) (l : List SRowH), (upGo n k l).length = l.length
  | 0, _, _ => rfl
  | n + 1, k, l => by unfold upGo; rw [upGo_len n, swp_len]
theorem dnGo_len : ∀ (n k : Nat) (l : List SRowH), (dnGo n k l).length = l.length
  | 0, _, _ => rfl
  | n + 1, k, l => by unfold dnGo; rw [dnGo_len n, swp_len]
/-- where a merge parts its two rows -/
def symStart (a m b : Nat) (l : List SRowH) : Nat :=
  half (fun c => !ltA l ((a + b) / 2 + m - 1 - c) c) (if (a + b) / 2 < m then (a + b) / 2 + m - b else a) (if (a + b) / 2 < m then (a + b) / 2 else m)
def symGo : Nat → Nat → Nat → Nat → List SRowH → List SRowH
  | 0, _, _, _, l => l
  | f + 1, a, m, b, l =>
    if m - a = 1 then upGo (half (fun h => ltA l h a) m b - 1 - a) a l else
    if b - m = 1 then dnGo (m - half (fun h => !ltA l m h) a m) m l else
    let mid := (a + b) / 2
    let start := symStart a m b l
    let e := mid + m - start
    let l1 := if start < m ∧ m < e then rotS start m e l else l
    let l2 := if a < start ∧ start < mid then symGo f a start mid l1 else l1
    if mid < e ∧ e < b then symGo f mid e b l2 else l2
theorem symGo_len : ∀ (f a m b : Nat) (l : List SRowH), (symGo f a m b l).length = l.length
  | 0, _, _, _, _ => rfl
  | f + 1, a, m, b, l => by
    unfold symGo
    split
    · rw [upGo_len]
    split
    · rw [dnGo_len]
    dsimp only
    have h1 : (if symStart a m b l < m ∧ m < (a + b) / 2 + m - symStart a m b l then rotS (symStart a m b l) m ((a + b) / 2 + m - symStart a m b l) l else l).length = l.length := by split; exact rotS_len _ _ _ _; rfl
    generalize (if symStart a m b l < m ∧ m < (a + b) / 2 + m - symStart a m b l then rotS (symStart a m b l) m ((a + b) / 2 + m - symStart a m b l) l else l) = l1 at h1
    split
    · rw [symGo_len f]
      split
      · rw [symGo_len f, h1]
      · exact h1
    · split
      · rw [symGo_len f, h1]
      · exact h1
/-- pairs of blocks, merged -/
def mrgGo (sz n : Nat) : Nat → Nat → List SRowH → List SRowH
  | 0, _, l => l
  | f + 1, a, l => if a + 2 * sz ≤ n then mrgGo sz n f (a + 2 * sz) (symGo n a (a + sz) (a + 2 * sz) l) else if a + sz < n then symGo n a (a + sz) n l else l
def blkGo (n : Nat) : Nat → Nat → List SRowH → List SRowH
  | 0, a, l => insS a n l
  | f + 1, a, l => if a + 20 ≤ n then blkGo n f (a + 20) (insS a (a + 20) l) else insS a n l
def staGo (n : Nat) : Nat → Nat → List SRowH → List SRowH
  | 0, _, l => l
  | f + 1, sz, l => if sz < n then staGo n f (2 * sz) (mrgGo sz n n 0 l) else l
/-- Go's own stable sort -/
def sortS (l : List SRowH) : List SRowH := staGo l.length l.length 20 (blkGo l.length l.length 0 l)
theorem mrgGo_len (sz n : Nat) : ∀ (f a : Nat) (l : List SRowH), (mrgGo sz n f a l).length = l.length
  | 0, _, _ => rfl
  | f + 1, a, l => by
    unfold mrgGo
    split
    · rw [mrgGo_len sz n f, symGo_len]
    split
    · rw [symGo_len]
    · rfl
theorem blkGo_len (n : Nat) : ∀ (f a : Nat) (l : List SRowH), (blkGo n f a l).length = l.length
  | 0, _, _ => insS_len _ _ _
  | f + 1, a, l => by
    unfold blkGo
    split
    · rw [blkGo_len n f, insS_len]
    · rw [insS_len]
theorem staGo_len (n : Nat) : ∀ (f sz : Nat) (l : List SRowH), (staGo n f sz l).length = l.length
  | 0, _, _ => rfl
  | f + 1, sz, l => by
    unfold staGo
    split
    · rw [staGo_len n f, mrgGo_len]
    · rfl
theorem sortS_len (l : List SRowH) : (sortS l).length = l.length := by unfold sortS; rw [staGo_len, blkGo_len]
/-! ### the code -/
theorem sr_at {l : List SRowH} (rest : List Value) {z : Int} (h0 : 0 ≤ z) (h1 : z < l.length) : ∃ r1, DropN (z.toNat * 6) (l.flatMap srV ++ rest) r1 ∧ TakeN 6 r1 (srV (l.getD z.toNat d0)) := by
  have hk : z.toNat < l.length := by omega
  rw [List.getD_eq_getElem?_getD, List.getElem?_eq_getElem hk]
  exact ⟨_, (DropN.flat srV_len hk).more rest, by rw [List.append_assoc]; exact TakeN.app (srV l[z.toNat]) _⟩
theorem SplN.appR {α : Type} {vs : List α} {n : Nat} {l l' : List α} (h : SplN vs n l l') (r : List α) : SplN vs n (l ++ r) (l' ++ r) := by
  induction h with
  | zero h =>
    refine .zero ?_
    induction h with
    | nil => exact .nil
    | cons _ ih => exact .cons ih
  | succ _ ih => exact .succ ih
theorem sr_set {l : List SRowH} (rest : List Value) {z : Int} (h0 : 0 ≤ z) (h1 : z < l.length) (x : SRowH) : SplN (srV x) (z.toNat * 6) (l.flatMap srV ++ rest) ((l.set z.toNat x).flatMap srV ++ rest) :=
  (SplN.flat srV_len (by omega : z.toNat < l.length) x).appR rest
def cmpZ (a b : Int) : Int := if a < b then -1 else if b < a then 1 else 0
theorem srV_one (l : List SRowH) : (l.flatMap srV).all one = true := by
  induction l with
  | nil => rfl
  | cons x l ih => rw [List.flatMap_cons, List.all_append, ih]; rfl
theorem compareZ_r (a b : Int) : RTri Tryz.prog 103 #[.int .i64 a, .int .i64 b] [] (.int .i64 (cmpZ a b)) := by
  have hn : ∀ z : Int, RTri Tryz.prog 150 #[.int .i64 z] [] (.bool false) := fun z => by
    apply RTri.of_pure
    refine Tri.of_body (vs := [_]) Tryz.func150 rfl rfl fun w0 F => ?_
    repeat' (first | refine Ga ?_ | (refine Gb ?_; intro b) | (refine Gd ?_; intro g cap rest hcap) | (refine Gc ?_; intro ad cap)  | (refine Ge ?_ ?_ <;> (intro h; try (exfalso; omega))) | fail)
    refine St.d1 Tryz.func150 ⟨_, ⟨?_, rfl⟩, Ent.go⟩
    simp [resV]
  apply RTri.of_pure
  unfold cmpZ
  refine Tri.of_body (vs := [_, _]) Tryz.func103 rfl rfl fun w0 F => ?_
  repeat' (first | refine Ga ?_ | (refine Gb ?_; intro b) | (refine Gd ?_; intro g cap rest hcap) | (refine Gc ?_; intro ad cap) | refine Gl (hn _) ?_ | (refine Ge ?_ ?_ <;> (intro h; try (exfalso; omega))) | fail)
  all_goals (refine St.d1 Tryz.func103 ⟨_, ⟨?_, rfl⟩, Ent.go⟩)
  all_goals (simp only [resV])
  all_goals (repeat' split)
  all_goals first | rfl | (exfalso; omega)
theorem rowcmp_r (x y : SRowH) : RTri Tryz.prog 102 #[.agg ⟨srV x⟩, .agg ⟨srV y⟩] [] (.int .i64 (cmpZ x.1.at_ y.1.at_)) := by
  have hc := compareZ_r x.1.at_ y.1.at_
  apply RTri.of_pure
  unfold srV
  refine Tri.of_body (vs := [_, _]) Tryz.func102 rfl rfl fun w0 F => ?_
  repeat' (first | refine Ga ?_ | (refine Gb ?_; intro b) | (refine Gd ?_; intro g cap rest hcap) | (refine Gc ?_; intro ad cap) | refine Gl hc ?_ | (refine Ge ?_ ?_ <;> (intro h; try (exfalso; omega))) | fail)
  refine St.d1 Tryz.func102 ⟨_, ⟨rfl, rfl⟩, Ent.go⟩
theorem cmpZ_neg (a b : Int) : (cmpZ a b < 0) ↔ a < b := by unfold cmpZ; repeat' split
                                                            all_goals omega
abbrev cmpF : Value := .func (.func 102) ⟨[]⟩ ⟨[]⟩
/-- two elements that change places -/
theorem sr_swap {l : List SRowH} (rest : List Value) {z1 z2 : Int} {i j : Nat} (e1 : z1 = (i : Int)) (e2 : z2 = (j : Int)) (hi : i < l.length) (hj : j < l.length) :
    ∃ (x y : SRowH) (r1 r2 mid : List Value), (DropN (z1.toNat * 6) (l.flatMap srV ++ rest) r1 ∧ TakeN 6 r1 (srV x)) ∧ (DropN (z2.toNat * 6) (l.flatMap srV ++ rest) r2 ∧ TakeN 6 r2 (srV y)) ∧ SplN (srV y) (z1.toNat * 6) (l.flatMap srV ++ rest) mid ∧ SplN (srV x) (z2.toNat * 6) mid ((swp l i j).flatMap srV ++ rest) ∧ (x.1.at_ < y.1.at_ ↔ ltA l i j = true) := by
  subst e1 e2
  obtain ⟨r1, d1, t1⟩ := sr_at (l := l) rest (z := (i : Int)) (by omega) (by omega)
  obtain ⟨r2, d2, t2⟩ := sr_at (l := l) rest (z := (j : Int)) (by omega) (by omega)
  have s1 := sr_set (l := l) rest (z := (i : Int)) (by omega) (by omega) (l.getD j d0)
  have s2 := sr_set (l := l.set i (l.getD j d0)) rest (z := (j : Int)) (by omega) (by rw [List.length_set]; omega) (l.getD i d0)
  exact ⟨l.getD i d0, l.getD j d0, r1, r2, _, ⟨d1, t1⟩, ⟨d2, t2⟩, s1, s2, by unfold ltA; rw [decide_eq_true_iff]⟩
set_option maxHeartbeats 1000000 in
theorem swr_t (g n cap : Nat) (rest : List Value) (l : List SRowH) (hl : l.length = n) (hn : n ≤ 100000) (a b m : Nat) (ha : a + m ≤ n) (hb : b + m ≤ n) :
    Tri Tryz.prog 247 #[.slice (some ⟨g, 0, none⟩) n cap, .int .i64 (a : Int), .int .i64 (b : Int), .int .i64 (m : Int), cmpF] [bl g 120 (l.flatMap srV ++ rest)] fun r L => r = .tuple ⟨[]⟩ ∧ L = [bl g 120 ((swr a b m l).flatMap srV ++ rest)] := by
  unfold swr
  generalize hR : swrGo a b m 0 l = R
  refine Tri.of_body (vs := [_, _, _, _, _]) Tryz.func247 rfl rfl fun w0 F => ?_
  repeat' (first | refine Ga ?_ | (refine Gb ?_; intro b) | (refine Gd ?_; intro g cap rest hcap) | (refine Gc ?_; intro ad cap) | (refine St.draw (id := 3) [(0, 0), (1, 0), (2, 0), (3, 0), (4, 0), (5, 0), (6, 0), (7, 0), (8, 0), (9, 0), (10, 0), (11, 0), (12, 0), (13, 1), (14, 0), (15, 0), (16, 0), (17, 0), (18, 0), (19, 1), (20, 0), (21, 3), (22, 0), (23, 3)] [21, 23] mixed (by kernel_rfl) ?_) | (refine Ge ?_ ?_ <;> (intro h; try (exfalso; omega))) | fail)
  refine St.loopY (Lr := ?Lr1) (ι := { x : Nat × List SRowH // x.1 ≤ m ∧ x.2.length = n ∧ swrGo a b (m - x.1) x.1 x.2 = R }) (fun x => m - x.1.1) (fun x => [(10, .int .i64 (x.1.1 : Int))]) (fun x => [bl g 120 (x.1.2.flatMap srV ++ rest)]) ⟨(0, l), Nat.zero_le _, hl, hR⟩ ?hE1 ?hL1 ?round1
  case hE1 => exact Sub.go
  case hL1 => exact Takes.go
  case round1 =>
    rintro ⟨⟨k, lk⟩, hk, hlk, hgo⟩ IH; dsimp only at hk hlk hgo IH ⊢
    by_cases hlt : k < m
    · obtain ⟨x, y, r1, r2, mid, ⟨d1, t1⟩, ⟨d2, t2⟩, s1, s2, _⟩ := sr_swap (l := lk) rest (z1 := (a : Int) + k) (z2 := (b : Int) + k) (i := a + k) (j := b + k) (by omega) (by omega) (by omega) (by omega)
      unfold srV at t1 t2
      have hnx : swrGo a b (m - (k + 1)) (k + 1) (swp lk (a + k) (b + k)) = R := by
        rw [show m - k = (m - (k + 1)) + 1 by omega] at hgo
        exact hgo
      have hln : (swp lk (a + k) (b + k)).length = n := by rw [swp_len]; exact hlk
      repeat' (first | refine Ga ?_ | (refine Gb ?_; intro b) | (refine Gd ?_; intro g cap rest hcap) | (refine Gc ?_; intro ad cap) | (refine St.draw (id := 3) [(0, 0), (1, 0), (2, 0), (3, 0), (4, 0), (5, 0), (6, 0), (7, 0), (8, 0), (9, 0), (10, 0), (11, 0), (12, 0), (13, 1), (14, 0), (15, 0), (16, 0), (17, 0), (18, 0), (19, 1), (20, 0), (21, 3), (22, 0), (23, 3)] [21, 23] mixed (by kernel_rfl) ?_) | (refine Ge ?_ ?_ <;> (intro h; try (exfalso; omega))) | fail)
      all_goals first | (exfalso; omega) | skip
      refine IH ⟨(k + 1, swp lk (a + k) (b + k)), hlt, hln, hnx⟩ (by show m - (k + 1) < m - k; omega) ?_ ?_
      · exact Sub.go
      · exact Ent.go
    · have hkm : k = m := by omega
      subst hkm
      rw [Nat.sub_self] at hgo
      subst hgo
      clear IH
      repeat' (first | refine Ga ?_ | (refine Gb ?_; intro b) | (refine Gd ?_; intro g cap rest hcap) | (refine Gc ?_; intro ad cap) | (refine St.draw (id := 3) [(0, 0), (1, 0), (2, 0), (3, 0), (4, 0), (5, 0), (6, 0), (7, 0), (8, 0), (9, 0), (10, 0), (11, 0), (12, 0), (13, 1), (14, 0), (15, 0), (16, 0), (17, 0), (18, 0), (19, 1), (20, 0), (21, 3), (22, 0), (23, 3)] [21, 23] mixed (by kernel_rfl) ?_) | (refine Ge ?_ ?_ <;> (intro h; try (exfalso; omega))) | fail)
      all_goals first | (exfalso; omega) | skip
      refine St.f1 Tryz.func247 ⟨_, ⟨rfl, rfl⟩, Ent.go⟩
set_option maxHeartbeats 1000000 in
theorem insS_t (g n cap : Nat) (rest : List Value) (l : List SRowH) (hl : l.length = n) (hn : n ≤ 100000) (a b : Nat) (hb : b ≤ n) (ha : a ≤ 100000) :
    Tri Tryz.prog 195 #[.slice (some ⟨g, 0, none⟩) n cap, .int .i64 (a : Int), .int .i64 (b : Int), cmpF] [bl g 120 (l.flatMap srV ++ rest)] fun r L => r = .tuple ⟨[]⟩ ∧ L = [bl g 120 ((insS a b l).flatMap srV ++ rest)] := by
  unfold insS
  generalize hR : insOut a (b - (a + 1)) (a + 1) l = R
  refine Tri.of_body (vs := [_, _, _, _]) Tryz.func195 rfl rfl fun w0 F => ?_
  repeat' (first | refine Ga ?_ | (refine Gb ?_; intro b) | (refine Gd ?_; intro g cap rest hcap) | (refine Gc ?_; intro ad cap) | (refine St.draw (id := 4) [(0, 0), (1, 0), (2, 0), (3, 0), (4, 0), (5, 0), (6, 0), (7, 0), (8, 1), (9, 0), (10, 0), (11, 0), (12, 0), (13, 1), (14, 3), (15, 0), (16, 0)] [14] mixed (by kernel_rfl) ?_) | (refine St.draw (id := 6) [(0, 0), (1, 0), (2, 0), (3, 0), (4, 0), (5, 0), (6, 0), (7, 0), (8, 0), (9, 1), (10, 0), (11, 0), (12, 0), (13, 1), (14, 0), (15, 3), (16, 0), (17, 3)] [15, 17] mixed (by kernel_rfl) ?_) | (refine Ge ?_ ?_ <;> (intro h; try (exfalso; omega))) | fail)
  refine St.loopY (Lr := ?Lr1) (ι := { x : Nat × List SRowH // a < x.1 ∧ x.1 ≤ a + 1 + (b - (a + 1)) ∧ x.2.length = n ∧ insOut a (b - x.1) x.1 x.2 = R }) (fun x => b - x.1.1) (fun x => [(8, .int .i64 (x.1.1 : Int))]) (fun x => [bl g 120 (x.1.2.flatMap srV ++ rest)]) ⟨(a + 1, l), by dsimp only; omega, by dsimp only; omega, hl, hR⟩ ?hE1 ?hL1 ?round1
  case hE1 => exact Sub.go
  case hL1 => exact Takes.go
  case round1 =>
    rintro ⟨⟨k, lk⟩, hk0, hk, hlk, hgo⟩ IH; dsimp only at hk0 hk hlk hgo IH ⊢
    by_cases hlt : k < b
    · rw [show b - k = (b - (k + 1)) + 1 by omega] at hgo
      have hgo : insOut a (b - (k + 1)) (k + 1) (insIn a k lk) = R := hgo
      generalize hS : insIn a k lk = S at hgo
      repeat' (first | refine Ga ?_ | (refine Gb ?_; intro b) | (refine Gd ?_; intro g cap rest hcap) | (refine Gc ?_; intro ad cap) | (refine St.draw (id := 4) [(0, 0), (1, 0), (2, 0), (3, 0), (4, 0), (5, 0), (6, 0), (7, 0), (8, 1), (9, 0), (10, 0), (11, 0), (12, 0), (13, 1), (14, 3), (15, 0), (16, 0)] [14] mixed (by kernel_rfl) ?_) | (refine St.draw (id := 6) [(0, 0), (1, 0), (2, 0), (3, 0), (4, 0), (5, 0), (6, 0), (7, 0), (8, 0), (9, 1), (10, 0), (11, 0), (12, 0), (13, 1), (14, 0), (15, 3), (16, 0), (17, 3)] [15, 17] mixed (by kernel_rfl) ?_) | (refine Ge ?_ ?_ <;> (intro h; try (exfalso; omega))) | fail)
      all_goals first | (exfalso; omega) | skip
      refine St.loopY (Lr := ?Lr2) (ι := { x : Nat × List SRowH // a ≤ x.1 ∧ x.1 ≤ k ∧ x.2.length = n ∧ insIn a x.1 x.2 = S }) (fun x => x.1.1) (fun x => [(9, .int .i64 (x.1.1 : Int))]) (fun x => [bl g 120 (x.1.2.flatMap srV ++ rest)]) ⟨(k, lk), by dsimp only; omega, by dsimp only; omega, hlk, hS⟩ ?hE2 ?hL2 ?round2
      case hE2 => exact Sub.go
      case hL2 => exact Takes.go
      case round2 =>
        rintro ⟨⟨j, lj⟩, hj0, hj, hlj, hjo⟩ IH2; dsimp only at hj0 hj hlj hjo IH2 ⊢
        by_cases hja : a < j
        · obtain ⟨x, y, r1, r2, mid, ⟨d1, t1⟩, ⟨d2, t2⟩, s1, s2, hx⟩ := sr_swap (l := lj) rest (z1 := (j : Int)) (z2 := (j : Int) - 1) (i := j) (j := j - 1) rfl (by omega) (by omega) (by omega)
          have hcmp := rowcmp_r x y
          have hc0 := cmpZ_neg x.1.at_ y.1.at_
          have hin : insIn a j lj = if ltA lj j (j - 1) = true then insIn a (j - 1) (swp lj j (j - 1)) else lj := by
            obtain ⟨j', rfl⟩ : ∃ j', j = j' + 1 := ⟨j - 1, by omega⟩
            rw [insIn, Nat.add_sub_cancel]
            by_cases h2 : ltA lj (j' + 1) j' = true
            · rw [if_pos ⟨hja, h2⟩, if_pos h2]
            · rw [if_neg (fun h => h2 h.2), if_neg h2]
          rw [hin] at hjo
          by_cases hc : x.1.at_ < y.1.at_
          · rw [if_pos (hx.1 hc)] at hjo
            have hc1 := hc0.2 hc
            unfold srV at t1 t2 hcmp
            repeat' (first | refine Ga ?_ | (refine Gb ?_; intro b) | (refine Gd ?_; intro g cap rest hcap) | (refine Gc ?_; intro ad cap) | (refine St.draw (id := 4) [(0, 0), (1, 0), (2, 0), (3, 0), (4, 0), (5, 0), (6, 0), (7, 0), (8, 1), (9, 0), (10, 0), (11, 0), (12, 0), (13, 1), (14, 1), (15, 0), (16, 0)] [] mixed (by kernel_rfl) ?_) | (refine St.draw (id := 6) [(0, 0), (1, 0), (2, 0), (3, 0), (4, 0), (5, 0), (6, 0), (7, 0), (8, 0), (9, 1), (10, 0), (11, 0), (12, 0), (13, 1), (14, 0), (15, 3), (16, 0), (17, 3)] [15, 17] mixed (by kernel_rfl) ?_)| refine Ka (OpC.callv (by rfl) Evs.go) hcmp Oh ?_ | refine Kb rfl (OpC.callv (by rfl) Evs.go) hcmp Oi ?_ | refine Kc rfl Oj (OpC.callv (by rfl) Evs.go) hcmp Oi ?_ | (refine Ge ?_ ?_ <;> (intro h; try (exfalso; omega))) | fail)
            all_goals first | (exfalso; omega) | skip
            refine IH2 ⟨(j - 1, swp lj j (j - 1)), by dsimp only; omega, by dsimp only; omega, by dsimp only; rw [swp_len]; exact hlj, hjo⟩ (by show j - 1 < j; omega) ?_ ?_
            · dsimp only; rw [show ((j - 1 : Nat) : Int) = (j : Int) - 1 by omega]; exact Sub.go
            · exact Ent.go
          · rw [if_neg (fun h => hc (hx.2 h))] at hjo
            have hc1 : ¬ cmpZ x.1.at_ y.1.at_ < 0 := fun h => hc (hc0.1 h)
            subst hjo
            clear IH2
            unfold srV at t1 t2 hcmp
            repeat' (first | refine Ga ?_ | (refine Gb ?_; intro b) | (refine Gd ?_; intro g cap rest hcap) | (refine Gc ?_; intro ad cap) | (refine St.draw (id := 4) [(0, 0), (1, 0), (2, 0), (3, 0), (4, 0), (5, 0), (6, 0), (7, 0), (8, 1), (9, 0), (10, 0), (11, 0), (12, 0), (13, 1), (14, 1), (15, 0), (16, 0)] [] mixed (by kernel_rfl) ?_) | (refine St.draw (id := 6) [(0, 0), (1, 0), (2, 0), (3, 0), (4, 0), (5, 0), (6, 0), (7, 0), (8, 0), (9, 1), (10, 0), (11, 0), (12, 0), (13, 1), (14, 0), (15, 3), (16, 0), (17, 3)] [15, 17] mixed (by kernel_rfl) ?_)| refine Ka (OpC.callv (by rfl) Evs.go) hcmp Oh ?_ | refine Kb rfl (OpC.callv (by rfl) Evs.go) hcmp Oi ?_ | refine Kc rfl Oj (OpC.callv (by rfl) Evs.go) hcmp Oi ?_ | (refine Ge ?_ ?_ <;> (intro h; try (exfalso; omega))) | fail)
            all_goals first | (exfalso; omega) | skip
            refine IH ⟨(k + 1, lj), by dsimp only; omega, by dsimp only; omega, hlj, hgo⟩ (by show b - (k + 1) < b - k; omega) ?_ ?_
            · exact Sub.go
            · exact Ent.go
        · have hja : j = a := by omega
          have hjo : lj = S := by
            rw [← hjo, hja]
            cases a with
            | zero => rfl
            | succ a => rw [insIn, if_neg (by omega)]
          subst hjo
          clear IH2
          repeat' (first | refine Ga ?_ | (refine Gb ?_; intro b) | (refine Gd ?_; intro g cap rest hcap) | (refine Gc ?_; intro ad cap) | (refine St.draw (id := 4) [(0, 0), (1, 0), (2, 0), (3, 0), (4, 0), (5, 0), (6, 0), (7, 0), (8, 1), (9, 0), (10, 0), (11, 0), (12, 0), (13, 1), (14, 1), (15, 0), (16, 0)] [] mixed (by kernel_rfl) ?_) | (refine St.draw (id := 6) [(0, 0), (1, 0), (2, 0), (3, 0), (4, 0), (5, 0), (6, 0), (7, 0), (8, 0), (9, 1), (10, 0), (11, 0), (12, 0), (13, 1), (14, 0), (15, 3), (16, 0), (17, 3)] [15, 17] mixed (by kernel_rfl) ?_) | (refine Ge ?_ ?_ <;> (intro h; try (exfalso; omega))) | fail)
          all_goals first | (exfalso; omega) | skip
          refine IH ⟨(k + 1, lj), by dsimp only; omega, by dsimp only; omega, hlj, hgo⟩ (by show b - (k + 1) < b - k; omega) ?_ ?_
          · exact Sub.go
          · exact Ent.go
    · rw [show b - k = 0 by omega] at hgo
      have hgo : lk = R := hgo
      subst hgo
      clear IH
      repeat' (first | refine Ga ?_ | (refine Gb ?_; intro b) | (refine Gd ?_; intro g cap rest hcap) | (refine Gc ?_; intro ad cap) | (refine St.draw (id := 4) [(0, 0), (1, 0), (2, 0), (3, 0), (4, 0), (5, 0), (6, 0), (7, 0), (8, 1), (9, 0), (10, 0), (11, 0), (12, 0), (13, 1), (14, 3), (15, 0), (16, 0)] [14] mixed (by kernel_rfl) ?_) | (refine St.draw (id := 6) [(0, 0), (1, 0), (2, 0), (3, 0), (4, 0), (5, 0), (6, 0), (7, 0), (8, 0), (9, 1), (10, 0), (11, 0), (12, 0), (13, 1), (14, 0), (15, 3), (16, 0), (17, 3)] [15, 17] mixed (by kernel_rfl) ?_) | (refine Ge ?_ ?_ <;> (intro h; try (exfalso; omega))) | fail)
      all_goals first | (exfalso; omega) | skip
      refine St.f1 Tryz.func195 ⟨_, ⟨rfl, rfl⟩, Ent.go⟩
end Go.Proofs.YtemaaenipjinaaaGreat
