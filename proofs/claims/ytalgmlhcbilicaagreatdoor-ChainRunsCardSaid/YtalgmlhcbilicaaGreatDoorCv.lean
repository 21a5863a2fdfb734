/-
  A set, as it lies in roots and blocks: what each program makes of it.
-/
import Derived.Test.YtalgmlhcbilicaaGreatDoorCu
namespace Go.Proofs.YtalgmlhcbilicaaGreatDoor
set_option maxRecDepth 100000
theorem mputN (B : Bks) (k k' : Nat) (x : List Nat) : mget (mput B (k : Int) x) (k' : Int) = if k = k' then some x else mget B (k' : Int) := by
  rw [mget_mput]
  by_cases h : k = k'
  · rw [if_pos h, if_pos (by omega)]
  · rw [if_neg h, if_neg (by omega)]
theorem mdelN (B : Bks) {k k' : Nat} (h : k ≠ k') : mget (mdel B (k : Int)) (k' : Int) = mget B (k' : Int) := mget_mdel_ne (by omega)
/-- nodes: their handles and numbers -/
abbrev Nds := List (Nat × Nat)
def headH : Nds → Nat
  | [] => 0
  | x :: _ => x.1
def lastH : Nds → Nat
  | [] => 0
  | [x] => x.1
  | _ :: y :: l => lastH (y :: l)
def Chn (B : Bks) : Nds → Prop
  | [] => True
  | x :: xs => mget B (x.1 : Int) = some [x.2, headH xs, 0, 0, 0, 0, 0, 0] ∧ Chn B xs
theorem Chn.frame {B B' : Bks} : ∀ {ns : Nds}, Chn B ns → (∀ x ∈ ns, mget B' (x.1 : Int) = mget B (x.1 : Int)) → Chn B' ns
  | [], _, _ => trivial
  | x :: xs, h, hf => ⟨by rw [hf x (by simp)]; exact h.1, h.2.frame fun y hy => hf y (by simp [hy])⟩
theorem lastH_mem : ∀ {ns : Nds}, ns ≠ [] → lastH ns ∈ ns.map (·.1)
  | [x], _ => by simp [lastH]
  | x :: y :: l, _ => by
    have := lastH_mem (ns := y :: l) (by simp)
    rw [List.map_cons]
    exact List.mem_cons_of_mem _ this
theorem Chn.mem {B : Bks} : ∀ {ns : Nds}, Chn B ns → ∀ z ∈ ns, ∃ x, mget B (z.1 : Int) = some [z.2, x, 0, 0, 0, 0, 0, 0]
  | [], _, _, hz => by cases hz
  | x :: xs, h, z, hz => by
    rcases List.mem_cons.mp hz with rfl | hz
    · exact ⟨_, h.1⟩
    · exact Chn.mem h.2 z hz
theorem Chn.right {B : Bks} {hi : Nds} : ∀ {lo : Nds}, Chn B (lo ++ hi) → Chn B hi
  | [], h => h
  | _ :: l, h => Chn.right (lo := l) h.2
/-- the last of the first part leads elsewhere -/
theorem Chn.link {B B' : Bks} {hi hi2 : Nds} {v px : Nat} : ∀ {lo : Nds}, Chn B (lo ++ hi) → lo ≠ [] → (lo.map (·.1)).Nodup → (∀ x ∈ lo, x.1 ≠ lastH lo → mget B' (x.1 : Int) = mget B (x.1 : Int)) → mget B (lastH lo : Int) = some [v, px, 0, 0, 0, 0, 0, 0] →
    mget B' (lastH lo : Int) = some [v, headH hi2, 0, 0, 0, 0, 0, 0] → Chn B' hi2 → Chn B' (lo ++ hi2)
  | [x], h, _, _, _, h1, h2, h3 => by
    have e : x.2 = v := by
      have := h.1.symm.trans h1
      injection this with this
      injection this with this
    exact ⟨by rw [e]; exact h2, h3⟩
  | x :: y :: l, h, _, hnd, hf, h1, h2, h3 => by
    rw [List.map_cons, List.nodup_cons] at hnd
    have hx : x.1 ≠ lastH (x :: y :: l) := fun e => hnd.1 (by rw [e]; exact lastH_mem (ns := y :: l) (by simp))
    refine ⟨?_, Chn.link (lo := y :: l) h.2 (by simp) hnd.2 (fun z hz hne => hf z (List.mem_cons_of_mem _ hz) hne) h1 h2 h3⟩
    rw [hf x (by simp) hx]
    exact h.1
def lastP : Nat → Nds → Nat
  | p, [] => p
  | _, x :: xs => lastP x.1 xs
theorem lastP_eq : ∀ {ns : Nds} {p : Nat}, ns ≠ [] → lastP p ns = lastH ns
  | [x], _, _ => rfl
  | x :: y :: l, _, _ => lastP_eq (ns := y :: l) (p := x.1) (by simp)
/-- ahead of the first that is not below a; from there on -/
def loN (a : Nat) (ns : Nds) : Nds := ns.takeWhile (fun x => decide (x.2 < a))
def hiN (a : Nat) (ns : Nds) : Nds := ns.dropWhile (fun x => decide (x.2 < a))
theorem loN_pos {a : Nat} {x : Nat × Nat} {xs : Nds} (h : x.2 < a) : loN a (x :: xs) = x :: loN a xs := by
  unfold loN
  rw [List.takeWhile_cons_of_pos (by simpa using h)]
theorem loN_neg {a : Nat} {x : Nat × Nat} {xs : Nds} (h : ¬x.2 < a) : loN a (x :: xs) = [] := by
  unfold loN
  rw [List.takeWhile_cons_of_neg (by simpa using h)]
theorem hiN_pos {a : Nat} {x : Nat × Nat} {xs : Nds} (h : x.2 < a) : hiN a (x :: xs) = hiN a xs := by
  unfold hiN
  rw [List.dropWhile_cons_of_pos (by simpa using h)]
theorem hiN_neg {a : Nat} {x : Nat × Nat} {xs : Nds} (h : ¬x.2 < a) : hiN a (x :: xs) = x :: xs := by
  unfold hiN
  rw [List.dropWhile_cons_of_neg (by simpa using h)]
theorem lo_hi (a : Nat) : ∀ ns : Nds, loN a ns ++ hiN a ns = ns ∧ (∀ x ∈ loN a ns, x.2 < a) ∧ (∀ z zs, hiN a ns = z :: zs → a ≤ z.2) ∧ loL a (ns.map (·.2)) = (loN a ns).map (·.2) ∧ hiL a (ns.map (·.2)) = (hiN a ns).map (·.2)
  | [] => ⟨rfl, fun _ h => (by cases h), fun _ _ h => (by cases h), rfl, rfl⟩
  | x :: xs => by
    obtain ⟨h1, h2, h3, h4, h5⟩ := lo_hi a xs
    unfold loL at h4
    unfold hiL at h5
    by_cases h : x.2 < a
    · rw [loN_pos h, hiN_pos h]
      refine ⟨by rw [List.cons_append, h1], fun y hy => ?_, h3, ?_, ?_⟩
      · rcases List.mem_cons.mp hy with rfl | hy
        · exact h
        · exact h2 y hy
      · unfold loL
        rw [List.map_cons, List.takeWhile_cons_of_pos (by simpa using h), h4, List.map_cons]
      · unfold hiL
        rw [List.map_cons, List.dropWhile_cons_of_pos (by simpa using h), h5]
    · rw [loN_neg h, hiN_neg h]
      refine ⟨rfl, fun _ hy => (by cases hy), fun z zs e => ?_, ?_, ?_⟩
      · injection e with e1 _
        subst e1
        omega
      · unfold loL
        rw [List.map_cons, List.takeWhile_cons_of_neg (by simpa using h)]
        rfl
      · unfold hiL
        rw [List.map_cons, List.dropWhile_cons_of_neg (by simpa using h)]
theorem loN_len (a : Nat) (ns : Nds) : (loN a ns).length ≤ ns.length := by
  have h := congrArg List.length (lo_hi a ns).1
  rw [List.length_append] at h
  omega
abbrev Rising (ns : Nds) : Prop := ns.Pairwise (fun x y => x.2 < y.2)
theorem rising_parts {a : Nat} {ns : Nds} (h : Rising ns) {z : Nat × Nat} {zs : Nds} (hh : hiN a ns = z :: zs) : (∀ x ∈ loN a ns, x.2 < z.2) ∧ (∀ x ∈ zs, z.2 < x.2) := by
  have h1 := (lo_hi a ns).1
  rw [hh] at h1
  rw [← h1] at h
  obtain ⟨_, h3, h4⟩ := List.pairwise_append.mp h
  exact ⟨fun x hx => h4 x hx z (by simp), fun x hx => (List.pairwise_cons.mp h3).1 x hx⟩
theorem mem_found {a : Nat} {ns : Nds} {z : Nat × Nat} {zs : Nds} (hh : hiN a ns = z :: zs) (e : z.2 = a) : a ∈ ns.map (·.2) := by
  have h1 := (lo_hi a ns).1
  rw [← h1, hh]
  exact List.mem_map.mpr ⟨z, by simp, e⟩
theorem mem_none {a : Nat} {ns : Nds} (hh : hiN a ns = []) : a ∉ ns.map (·.2) := by
  obtain ⟨h1, h2, _⟩ := lo_hi a ns
  rw [hh, List.append_nil] at h1
  intro hm
  obtain ⟨x, hx, e⟩ := List.mem_map.mp hm
  have := h2 x (by rw [h1]; exact hx)
  omega
theorem mem_gt {a : Nat} {ns : Nds} (h : Rising ns) {z : Nat × Nat} {zs : Nds} (hh : hiN a ns = z :: zs) (hz : a < z.2) : a ∉ ns.map (·.2) := by
  obtain ⟨h1, h2, _⟩ := lo_hi a ns
  obtain ⟨_, h4⟩ := rising_parts h hh
  intro hm
  obtain ⟨x, hx, e⟩ := List.mem_map.mp hm
  rw [← h1, hh] at hx
  rcases List.mem_append.mp hx with hx | hx
  · have := h2 x hx; omega
  · rcases List.mem_cons.mp hx with rfl | hx
    · omega
    · have := h4 x hx; omega
theorem del_eq {a : Nat} {ns : Nds} (h : Rising ns) {z : Nat × Nat} {zs : Nds} (hh : hiN a ns = z :: zs) (e : z.2 = a) : delL a (ns.map (·.2)) = (loN a ns ++ zs).map (·.2) := by
  obtain ⟨h1, h2, _⟩ := lo_hi a ns
  obtain ⟨_, h4⟩ := rising_parts h hh
  have e1 : delL a (ns.map (·.2)) = delL a ((loN a ns ++ z :: zs).map (·.2)) := by rw [← hh, h1]
  rw [e1]
  unfold delL
  rw [List.map_append, List.map_cons, List.filter_append, List.filter_cons_of_neg (by simp [e]), List.map_append]
  congr 1
  · refine List.filter_eq_self.mpr fun y hy => ?_
    obtain ⟨x, hx, rfl⟩ := List.mem_map.mp hy
    have := h2 x hx
    exact decide_eq_true (by omega)
  · refine List.filter_eq_self.mpr fun y hy => ?_
    obtain ⟨x, hx, rfl⟩ := List.mem_map.mp hy
    have := h4 x hx
    exact decide_eq_true (by omega)
theorem ins_eq (a sp : Nat) (ns : Nds) : insL a (ns.map (·.2)) = (loN a ns ++ (sp, a) :: hiN a ns).map (·.2) := by
  obtain ⟨_, _, _, h4, h5⟩ := lo_hi a ns
  unfold insL
  rw [h4, h5, List.map_append, List.map_cons]
theorem ins_rising {a sp : Nat} {ns : Nds} (h : Rising ns) (hm : a ∉ ns.map (·.2)) : Rising (loN a ns ++ (sp, a) :: hiN a ns) := by
  obtain ⟨h1, h2, h3, _⟩ := lo_hi a ns
  have h' := h
  rw [← h1] at h'
  obtain ⟨p1, p2, p3⟩ := List.pairwise_append.mp h'
  have hgt : ∀ x ∈ hiN a ns, a < x.2 := by
    cases hh : hiN a ns with
    | nil => intro _ hx; cases hx
    | cons z zs =>
      have hz := h3 z zs hh
      have hne : z.2 ≠ a := fun e => hm (mem_found hh e)
      have h4 := (rising_parts h hh).2
      intro x hx
      rcases List.mem_cons.mp hx with rfl | hx
      · omega
      · have := h4 x hx; omega
  refine List.pairwise_append.mpr ⟨p1, List.pairwise_cons.mpr ⟨fun x hx => hgt x hx, p2⟩, fun x hx y hy => ?_⟩
  rcases List.mem_cons.mp hy with rfl | hy
  · exact h2 x hx
  · exact p3 x hx y hy
structure RepQ (R : List Nat) (B : Bks) (root h : Nat) (ns : Nds) (cap : Nat) : Prop where
  r : R.getD root 0 = h
  hb : mget B (h : Int) = some [2, headH ns, ns.length, cap, 0, 0, 0, 0]
  ch : Chn B ns
  nd : (h :: ns.map (·.1)).Nodup
  nz : 0 ∉ h :: ns.map (·.1)
  lc : ns.length ≤ cap
  c64 : cap < 18446744073709551616
  up : Rising ns
def Rep (R : List Nat) (B : Bks) (root : Nat) (own : List Nat) : Option Qu → Prop
  | none => R.getD root 0 = 0 ∧ own = []
  | some q => ∃ h ns, own = h :: ns.map (·.1) ∧ q.list = ns.map (·.2) ∧ RepQ R B root h ns q.cap
/-- what a run comes to -/
structure Ran (R : List Nat) (B : Bks) (root : Nat) (own : List Nat) (k arg : Nat) (q : Option Qu) (r : Rm × Bool) (m : Ms) : Prop where
  res : r.1.code = (doesM k q arg).2.1 ∧ r.1.val = (doesM k q arg).2.2
  steps : 1 ≤ r.1.steps ∧ r.1.steps < 50 + 10 * own.length
  dw : r.1.dw ≤ 20
  rl : m.roots.length = R.length
  ro : ∀ j, j ≠ root → m.roots.getD j 0 = R.getD j 0
  wf : WfB m.blocks
  rep : ∃ own', Rep m.roots m.blocks root own' (doesM k q arg).1 ∧ m.blocks.length + own.length = B.length + own'.length ∧
    (∀ h : Nat, h ∉ own → h ∉ own' → mget m.blocks (h : Int) = mget B (h : Int)) ∧ (∀ h : Nat, h ∈ own' → h ∉ own → mget B (h : Int) = none)
theorem Ran.same {R : List Nat} {B : Bks} {root : Nat} {own : List Nat} {k arg : Nat} {q : Option Qu} {r : Rm × Bool} (hw : WfB B) (hq : Rep R B root own q) (hd : (doesM k q arg).1 = q) (h1 : r.1.code = (doesM k q arg).2.1 ∧ r.1.val = (doesM k q arg).2.2)
    (h2 : 1 ≤ r.1.steps ∧ r.1.steps < 50 + 10 * own.length) (h3 : r.1.dw ≤ 20) : Ran R B root own k arg q r ⟨R, B⟩ :=
  ⟨h1, h2, h3, rfl, fun _ _ => rfl, hw, own, by rw [hd]; exact hq, rfl, fun _ _ _ => rfl, fun _ h h' => absurd h h'⟩
theorem runQ_eq (m : Ms) (k root arg : Nat) : runQ m k root arg = runGo (qcd k) 500 501 (rS [root, arg, 0, 0] [0, 0, 0, 0, 0, 0, 0, 0, 0, 0, 0, 0, 0, 0, 0, 0] 0 0 0 m.roots m.blocks (spareM m.blocks) []) := rfl
/-- there is no set -/
theorem rep_none (R : List Nat) (B : Bks) (hw : WfB B) (root arg : Nat) (hr : root < 16) (hR : R.getD root 0 = 0) (k : Nat) (h1 : 1 ≤ k) (h5 : k ≤ 6) : ∃ r, runQ ⟨R, B⟩ k root arg = some r ∧ Ran R B root [] k arg none r (runMs ⟨R, B⟩ r) := by
  have hq : Rep R B root [] none := ⟨hR, rfl⟩
  rw [runQ_eq]
  rcases (by omega : k = 1 ∨ k = 2 ∨ k = 3 ∨ k = 4 ∨ k = 5 ∨ k = 6) with rfl | rfl | rfl | rfl | rfl | rfl
  · exact ⟨_, cr_add_none R B _ root arg hr hR, Ran.same hw hq rfl ⟨rfl, rfl⟩ ⟨by dsimp only; decide, by dsimp only; decide⟩ (by dsimp only; decide)⟩
  · exact ⟨_, cr_del_none R B _ root arg hr hR, Ran.same hw hq rfl ⟨rfl, rfl⟩ ⟨by dsimp only; decide, by dsimp only; decide⟩ (by dsimp only; decide)⟩
  · exact ⟨_, cr_has_none R B _ root arg hr hR, Ran.same hw hq rfl ⟨rfl, rfl⟩ ⟨by dsimp only; decide, by dsimp only; decide⟩ (by dsimp only; decide)⟩
  · exact ⟨_, cr_least_none R B _ root arg hr hR, Ran.same hw hq rfl ⟨rfl, rfl⟩ ⟨by dsimp only; decide, by dsimp only; decide⟩ (by dsimp only; decide)⟩
  · exact ⟨_, cr_size_none R B _ root arg hr hR, Ran.same hw hq rfl ⟨rfl, rfl⟩ ⟨by dsimp only; decide, by dsimp only; decide⟩ (by dsimp only; decide)⟩
  · exact ⟨_, cr_drop_none R B _ root arg hr hR, Ran.same hw hq rfl ⟨rfl, rfl⟩ ⟨by dsimp only; decide, by dsimp only; decide⟩ (by dsimp only; decide)⟩
theorem getD_set_same {R : List Nat} {root x : Nat} (h : root < R.length) : (R.set root x).getD root 0 = x := by
  rw [List.getD_eq_getElem?_getD, List.getElem?_set_self h]; rfl
theorem getD_set_ne {R : List Nat} {root x j : Nat} (h : j ≠ root) : (R.set root x).getD j 0 = R.getD j 0 := by
  rw [List.getD_eq_getElem?_getD, List.getD_eq_getElem?_getD, List.getElem?_set_ne (fun e => h e.symm)]
theorem rep_new_some (R : List Nat) (B : Bks) (hw : WfB B) (root arg : Nat) (hr : root < 16) (q : Qu) (own : List Nat) (hq : Rep R B root own (some q)) : ∃ r, runQ ⟨R, B⟩ 0 root arg = some r ∧ Ran R B root own 0 arg (some q) r (runMs ⟨R, B⟩ r) := by
  rw [runQ_eq]
  obtain ⟨h, ns, e1, e2, hp⟩ := id hq
  have h0 : h ≠ 0 := fun e => hp.nz (by rw [e]; simp)
  exact ⟨_, cr_new_some R B _ root arg h hr hp.r h0, Ran.same hw hq rfl ⟨rfl, rfl⟩ ⟨by dsimp only; omega, by dsimp only; omega⟩ (by dsimp only; decide)⟩
theorem rep_new_none (R : List Nat) (B : Bks) (hw : WfB B) (hRl : R.length = 16) (hBl : B.length < 64) (root arg : Nat) (hr : root < 16) (ha : arg < 18446744073709551616) (hR : R.getD root 0 = 0) : ∃ r, runQ ⟨R, B⟩ 0 root arg = some r ∧ Ran R B root [] 0 arg none r (runMs ⟨R, B⟩ r) := by
  rw [runQ_eq]
  obtain ⟨sp, rest, e, hs, hs0, hs1⟩ := spare_some B hBl
  rw [show spareM (Ms.mk R B).blocks = sp :: rest from e]
  refine ⟨_, cr_new_none R B rest root arg sp hr hR hs hs0 hs1, ⟨rfl, rfl⟩, ⟨by dsimp only; decide, by dsimp only; decide⟩, by dsimp only; decide, by show (R.set _ _).length = _; rw [List.length_set], fun j hj => getD_set_ne hj, ?_, [sp], ⟨sp, [], rfl, rfl, getD_set_same (by omega), by show mget (mput _ _ _) _ = _; rw [mputN, if_pos rfl]; rfl, trivial, by simp, by simp; omega, Nat.zero_le _, ha, .nil⟩, ?_, fun h _ h2 => ?_, fun h h1 _ => ?_⟩
  · obtain ⟨w1, _⟩ := hw.put_new (k := (sp : Int)) (x := [0, 0, 0, 0, 0, 0, 0, 0]) hs rfl
    obtain ⟨w2, _⟩ := w1.put_old (k := (sp : Int)) (x := [2, 0, 0, 0, 0, 0, 0, 0]) (by rw [mputN, if_pos rfl]) rfl
    exact (w2.put_old (k := (sp : Int)) (x := [2, 0, 0, arg, 0, 0, 0, 0]) (by rw [mputN, if_pos rfl]) rfl).1
  · obtain ⟨w1, l1⟩ := hw.put_new (k := (sp : Int)) (x := [0, 0, 0, 0, 0, 0, 0, 0]) hs rfl
    obtain ⟨w2, l2⟩ := w1.put_old (k := (sp : Int)) (x := [2, 0, 0, 0, 0, 0, 0, 0]) (by rw [mputN, if_pos rfl]) rfl
    have l3 := (w2.put_old (k := (sp : Int)) (x := [2, 0, 0, arg, 0, 0, 0, 0]) (by rw [mputN, if_pos rfl]) rfl).2
    show (mput _ _ _).length + 0 = B.length + 1
    rw [l3, l2, l1]
  · have hne : sp ≠ h := fun e => h2 (by simp [e])
    show mget (mput _ _ _) _ = _
    rw [mputN, if_neg hne, mputN, if_neg hne, mputN, if_neg hne]
  · obtain rfl : h = sp := by simpa using h1
    exact hs
theorem rep_size (R : List Nat) (B : Bks) (hw : WfB B) (root arg : Nat) (hr : root < 16) (q : Qu) (own : List Nat) (hq : Rep R B root own (some q)) : ∃ r, runQ ⟨R, B⟩ 5 root arg = some r ∧ Ran R B root own 5 arg (some q) r (runMs ⟨R, B⟩ r) := by
  rw [runQ_eq]
  obtain ⟨h, ns, e1, e2, hp⟩ := id hq
  have h0 : h ≠ 0 := fun e => hp.nz (by rw [e]; simp)
  have hl : q.list.length = ns.length := by rw [e2, List.length_map]
  refine ⟨_, cr_size R B _ root arg h _ _ _ hr hp.r h0 hp.hb, Ran.same hw hq rfl ⟨rfl, ?_⟩ ⟨by dsimp only; omega, by dsimp only; omega⟩ (by dsimp only; decide)⟩
  exact hl.symm
theorem rep_least (R : List Nat) (B : Bks) (hw : WfB B) (root arg : Nat) (hr : root < 16) (q : Qu) (own : List Nat) (hq : Rep R B root own (some q)) : ∃ r, runQ ⟨R, B⟩ 4 root arg = some r ∧ Ran R B root own 4 arg (some q) r (runMs ⟨R, B⟩ r) := by
  rw [runQ_eq]
  obtain ⟨h, ns, e1, e2, hp⟩ := id hq
  have h0 : h ≠ 0 := fun e => hp.nz (by rw [e]; simp)
  obtain ⟨qc, ql⟩ := q
  dsimp only at e2
  subst e2
  cases ns with
  | nil => exact ⟨_, cr_least_empty R B _ root arg h _ _ _ hr hp.r h0 hp.hb rfl, Ran.same hw hq rfl ⟨rfl, rfl⟩ ⟨by dsimp only; omega, by dsimp only; omega⟩ (by dsimp only; decide)⟩
  | cons x xs =>
    have hx0 : x.1 ≠ 0 := fun e => hp.nz (by rw [← e]; simp)
    have hxh : x.1 ≠ h := fun e => by have := hp.nd; rw [List.map_cons, List.nodup_cons] at this; exact this.1 (by rw [← e]; simp)
    exact ⟨_, cr_least_ok R B _ root arg h _ _ _ _ _ hr hp.r h0 hp.hb hx0 hxh hp.ch.1, Ran.same hw hq rfl ⟨rfl, rfl⟩ ⟨by dsimp only; omega, by dsimp only; omega⟩ (by dsimp only; decide)⟩
theorem rep_drop (R : List Nat) (B : Bks) (hw : WfB B) (hRl : R.length = 16) (root arg : Nat) (hr : root < 16) (q : Qu) (own : List Nat) (hq : Rep R B root own (some q)) : ∃ r, runQ ⟨R, B⟩ 6 root arg = some r ∧ Ran R B root own 6 arg (some q) r (runMs ⟨R, B⟩ r) := by
  rw [runQ_eq]
  obtain ⟨h, ns, e1, e2, hp⟩ := id hq
  have h0 : h ≠ 0 := fun e => hp.nz (by rw [e]; simp)
  obtain ⟨qc, ql⟩ := q
  dsimp only at e2
  subst e2
  cases ns with
  | nil =>
    obtain ⟨w1, l1⟩ := hw.del hp.hb
    subst e1
    refine ⟨_, cr_drop_ok R B _ root arg h _ _ _ hr hp.r h0 hp.hb rfl, ⟨rfl, rfl⟩, ⟨by dsimp only; omega, by dsimp only; omega⟩, by dsimp only; decide, by show (R.set _ _).length = _; rw [List.length_set], fun j hj => getD_set_ne hj, w1, [], ⟨getD_set_same (by omega), rfl⟩, ?_, fun j h1 _ => ?_, fun j h1 _ => by cases h1⟩
    · show (mdel _ _).length + 1 = B.length + 0
      omega
    · show mget (mdel _ _) _ = _
      exact mdelN B (fun e => h1 (by simp [e]))
  | cons x xs => exact ⟨_, cr_drop_filled R B _ root arg h _ _ _ hr hp.r h0 hp.hb (by simp), Ran.same hw hq rfl ⟨rfl, rfl⟩ ⟨by dsimp only; omega, by dsimp only; omega⟩ (by dsimp only; decide)⟩
/-- the walk along the nodes that are below the key -/
theorem cw_add (R : List Nat) (B : Bks) (P : List Nat) (root arg h : Nat) : ∀ (ns : Nds) (p a7 a8 st k : Nat), Chn B ns → 0 ∉ ns.map (·.1) → st + 8 * (loN arg ns).length ≤ 500 →
    ∃ b7 b8, runGo c_cd_add 500 (k + 8 * (loN arg ns).length) (rS [root, arg, 0, 0] [root, h, 1, 2, arg, p, headH ns, a7, a8, 0, 0, 0, 0, 0, 0, 0] (st : Int) 0 10 R B P []) = runGo c_cd_add 500 k (rS [root, arg, 0, 0] [root, h, 1, 2, arg, lastP p (loN arg ns), headH (hiN arg ns), b7, b8, 0, 0, 0, 0, 0, 0, 0] ((st + 8 * (loN arg ns).length : Nat) : Int) 0 10 R B P [])
  | [], _, a7, a8, _, _, _, _, _ => ⟨a7, a8, rfl⟩
  | x :: xs, p, a7, a8, st, k, hc, hz, hs => by
    by_cases hx : x.2 < arg
    · rw [loN_pos hx, List.length_cons] at hs
      rw [loN_pos hx, hiN_pos hx, List.length_cons]
      obtain ⟨b7, b8, ih⟩ := cw_add R B P root arg h xs x.1 x.2 1 (st + 8) k hc.2 (fun hm => hz (by rw [List.map_cons]; exact List.mem_cons_of_mem _ hm)) (by omega)
      refine ⟨b7, b8, ?_⟩
      have hx0 : x.1 ≠ 0 := fun e => hz (by rw [← e]; simp)
      rw [show k + 8 * ((loN arg xs).length + 1) = (k + 8 * (loN arg xs).length) + 8 by omega, show st + 8 * ((loN arg xs).length + 1) = st + 8 + 8 * (loN arg xs).length by omega]
      exact Eq.trans (cr_add_round R B P root arg h p x.1 a7 a8 st _ x.2 (headH xs) (by omega) hx0 hc.1 hx) ih
    · rw [loN_neg hx, hiN_neg hx]
      exact ⟨a7, a8, rfl⟩
theorem cx_add (R : List Nat) (B : Bks) (P : List Nat) (root arg h cap : Nat) (ns : Nds) (hr : root < 16) (h0 : h ≠ 0) (hp : RepQ R B root h ns cap) (hl : ns.length ≤ 50) :
    ∃ b7 b8 k, runGo c_cd_add 500 501 (rS [root, arg, 0, 0] [0, 0, 0, 0, 0, 0, 0, 0, 0, 0, 0, 0, 0, 0, 0, 0] 0 0 0 R B P []) = runGo c_cd_add 500 (k + 60) (rS [root, arg, 0, 0] [root, h, 1, 2, arg, lastP 0 (loN arg ns), headH (hiN arg ns), b7, b8, 0, 0, 0, 0, 0, 0, 0] ((10 + 8 * (loN arg ns).length : Nat) : Int) 0 10 R B P []) := by
  have hlo := loN_len arg ns
  obtain ⟨b7, b8, hwk⟩ := cw_add R B P root arg h ns 0 0 0 10 (431 - 8 * (loN arg ns).length + 60) hp.ch (fun hm => hp.nz (List.mem_cons_of_mem _ hm)) (by omega)
  have hin := cr_add_in R B P root arg h (headH ns) ns.length cap hr hp.r h0 hp.hb
  rw [show 431 - 8 * (loN arg ns).length + 60 + 8 * (loN arg ns).length = 491 by omega] at hwk
  exact ⟨b7, b8, _, hin.trans hwk⟩
theorem cw_del (R : List Nat) (B : Bks) (P : List Nat) (root arg h : Nat) : ∀ (ns : Nds) (p a7 a8 st k : Nat), Chn B ns → 0 ∉ ns.map (·.1) → st + 8 * (loN arg ns).length ≤ 500 →
    ∃ b7 b8, runGo c_cd_del 500 (k + 8 * (loN arg ns).length) (rS [root, arg, 0, 0] [root, h, 1, 2, arg, p, headH ns, a7, a8, 0, 0, 0, 0, 0, 0, 0] (st : Int) 0 10 R B P []) = runGo c_cd_del 500 k (rS [root, arg, 0, 0] [root, h, 1, 2, arg, lastP p (loN arg ns), headH (hiN arg ns), b7, b8, 0, 0, 0, 0, 0, 0, 0] ((st + 8 * (loN arg ns).length : Nat) : Int) 0 10 R B P [])
  | [], _, a7, a8, _, _, _, _, _ => ⟨a7, a8, rfl⟩
  | x :: xs, p, a7, a8, st, k, hc, hz, hs => by
    by_cases hx : x.2 < arg
    · rw [loN_pos hx, List.length_cons] at hs
      rw [loN_pos hx, hiN_pos hx, List.length_cons]
      obtain ⟨b7, b8, ih⟩ := cw_del R B P root arg h xs x.1 x.2 1 (st + 8) k hc.2 (fun hm => hz (by rw [List.map_cons]; exact List.mem_cons_of_mem _ hm)) (by omega)
      refine ⟨b7, b8, ?_⟩
      have hx0 : x.1 ≠ 0 := fun e => hz (by rw [← e]; simp)
      rw [show k + 8 * ((loN arg xs).length + 1) = (k + 8 * (loN arg xs).length) + 8 by omega, show st + 8 * ((loN arg xs).length + 1) = st + 8 + 8 * (loN arg xs).length by omega]
      exact Eq.trans (cr_del_round R B P root arg h p x.1 a7 a8 st _ x.2 (headH xs) (by omega) hx0 hc.1 hx) ih
    · rw [loN_neg hx, hiN_neg hx]
      exact ⟨a7, a8, rfl⟩
theorem cx_del (R : List Nat) (B : Bks) (P : List Nat) (root arg h cap : Nat) (ns : Nds) (hr : root < 16) (h0 : h ≠ 0) (hp : RepQ R B root h ns cap) (hl : ns.length ≤ 50) :
    ∃ b7 b8 k, runGo c_cd_del 500 501 (rS [root, arg, 0, 0] [0, 0, 0, 0, 0, 0, 0, 0, 0, 0, 0, 0, 0, 0, 0, 0] 0 0 0 R B P []) = runGo c_cd_del 500 (k + 60) (rS [root, arg, 0, 0] [root, h, 1, 2, arg, lastP 0 (loN arg ns), headH (hiN arg ns), b7, b8, 0, 0, 0, 0, 0, 0, 0] ((10 + 8 * (loN arg ns).length : Nat) : Int) 0 10 R B P []) := by
  have hlo := loN_len arg ns
  obtain ⟨b7, b8, hwk⟩ := cw_del R B P root arg h ns 0 0 0 10 (431 - 8 * (loN arg ns).length + 60) hp.ch (fun hm => hp.nz (List.mem_cons_of_mem _ hm)) (by omega)
  have hin := cr_del_in R B P root arg h (headH ns) ns.length cap hr hp.r h0 hp.hb
  rw [show 431 - 8 * (loN arg ns).length + 60 + 8 * (loN arg ns).length = 491 by omega] at hwk
  exact ⟨b7, b8, _, hin.trans hwk⟩
theorem cw_has (R : List Nat) (B : Bks) (P : List Nat) (root arg h : Nat) : ∀ (ns : Nds) (p a7 a8 st k : Nat), Chn B ns → 0 ∉ ns.map (·.1) → st + 8 * (loN arg ns).length ≤ 500 →
    ∃ b7 b8, runGo c_cd_has 500 (k + 8 * (loN arg ns).length) (rS [root, arg, 0, 0] [root, h, 1, 2, arg, p, headH ns, a7, a8, 0, 0, 0, 0, 0, 0, 0] (st : Int) 0 10 R B P []) = runGo c_cd_has 500 k (rS [root, arg, 0, 0] [root, h, 1, 2, arg, lastP p (loN arg ns), headH (hiN arg ns), b7, b8, 0, 0, 0, 0, 0, 0, 0] ((st + 8 * (loN arg ns).length : Nat) : Int) 0 10 R B P [])
  | [], _, a7, a8, _, _, _, _, _ => ⟨a7, a8, rfl⟩
  | x :: xs, p, a7, a8, st, k, hc, hz, hs => by
    by_cases hx : x.2 < arg
    · rw [loN_pos hx, List.length_cons] at hs
      rw [loN_pos hx, hiN_pos hx, List.length_cons]
      obtain ⟨b7, b8, ih⟩ := cw_has R B P root arg h xs x.1 x.2 1 (st + 8) k hc.2 (fun hm => hz (by rw [List.map_cons]; exact List.mem_cons_of_mem _ hm)) (by omega)
      refine ⟨b7, b8, ?_⟩
      have hx0 : x.1 ≠ 0 := fun e => hz (by rw [← e]; simp)
      rw [show k + 8 * ((loN arg xs).length + 1) = (k + 8 * (loN arg xs).length) + 8 by omega, show st + 8 * ((loN arg xs).length + 1) = st + 8 + 8 * (loN arg xs).length by omega]
      exact Eq.trans (cr_has_round R B P root arg h p x.1 a7 a8 st _ x.2 (headH xs) (by omega) hx0 hc.1 hx) ih
    · rw [loN_neg hx, hiN_neg hx]
      exact ⟨a7, a8, rfl⟩
theorem cx_has (R : List Nat) (B : Bks) (P : List Nat) (root arg h cap : Nat) (ns : Nds) (hr : root < 16) (h0 : h ≠ 0) (hp : RepQ R B root h ns cap) (hl : ns.length ≤ 50) :
    ∃ b7 b8 k, runGo c_cd_has 500 501 (rS [root, arg, 0, 0] [0, 0, 0, 0, 0, 0, 0, 0, 0, 0, 0, 0, 0, 0, 0, 0] 0 0 0 R B P []) = runGo c_cd_has 500 (k + 60) (rS [root, arg, 0, 0] [root, h, 1, 2, arg, lastP 0 (loN arg ns), headH (hiN arg ns), b7, b8, 0, 0, 0, 0, 0, 0, 0] ((10 + 8 * (loN arg ns).length : Nat) : Int) 0 10 R B P []) := by
  have hlo := loN_len arg ns
  obtain ⟨b7, b8, hwk⟩ := cw_has R B P root arg h ns 0 0 0 10 (431 - 8 * (loN arg ns).length + 60) hp.ch (fun hm => hp.nz (List.mem_cons_of_mem _ hm)) (by omega)
  have hin := cr_has_in R B P root arg h (headH ns) ns.length cap hr hp.r h0 hp.hb
  rw [show 431 - 8 * (loN arg ns).length + 60 + 8 * (loN arg ns).length = 491 by omega] at hwk
  exact ⟨b7, b8, _, hin.trans hwk⟩
theorem head_hi {B : Bks} {a : Nat} {ns : Nds} (hc : Chn B ns) {z : Nat × Nat} {zs : Nds} (hh : hiN a ns = z :: zs) : mget B (z.1 : Int) = some [z.2, headH zs, 0, 0, 0, 0, 0, 0] ∧ z ∈ ns ∧ Chn B zs := by
  have h1 := (lo_hi a ns).1
  rw [hh] at h1
  have hc' := hc
  rw [← h1] at hc'
  have := hc'.right
  exact ⟨this.1, by rw [← h1]; simp, this.2⟩
theorem rep_has (R : List Nat) (B : Bks) (hw : WfB B) (root arg : Nat) (hr : root < 16) (q : Qu) (own : List Nat) (hq : Rep R B root own (some q)) (hlq : q.list.length ≤ 50) : ∃ r, runQ ⟨R, B⟩ 3 root arg = some r ∧ Ran R B root own 3 arg (some q) r (runMs ⟨R, B⟩ r) := by
  rw [runQ_eq]
  obtain ⟨h, ns, e1, e2, hp⟩ := id hq
  have h0 : h ≠ 0 := fun e => hp.nz (by rw [e]; simp)
  obtain ⟨qc, ql⟩ := q
  dsimp only at e2 hp hlq
  subst e2
  rw [List.length_map] at hlq
  have hlo := loN_len arg ns
  have hol : own.length = ns.length + 1 := by rw [e1, List.length_cons, List.length_map]
  obtain ⟨b7, b8, k, hx⟩ := cx_has R B (spareM (Ms.mk R B).blocks) root arg h qc ns hr h0 hp hlq
  have hd : doesM 3 (some ⟨qc, ns.map (·.2)⟩) arg = (some ⟨qc, ns.map (·.2)⟩, 0, if arg ∈ ns.map (·.2) then 1 else 0) := rfl
  cases hh : hiN arg ns with
  | nil =>
    rw [hh] at hx
    rw [if_neg (mem_none hh)] at hd
    exact ⟨_, hx.trans (cr_has_absent R B _ root arg h _ _ b7 b8 _ k (by omega) rfl), Ran.same hw hq (by rw [hd]) (by rw [hd]; exact ⟨rfl, rfl⟩) ⟨by dsimp only; omega, by dsimp only; omega⟩ (by dsimp only; decide)⟩
  | cons z zs =>
    rw [hh] at hx
    obtain ⟨gz, hzm, _⟩ := head_hi hp.ch hh
    have hz0 : z.1 ≠ 0 := fun e => hp.nz (by rw [← e]; exact List.mem_cons_of_mem _ (List.mem_map_of_mem hzm))
    by_cases he : z.2 = arg
    · rw [if_pos (mem_found hh he)] at hd
      rw [he] at gz
      exact ⟨_, hx.trans (cr_has_found R B _ root arg h _ _ b7 b8 _ k _ (by omega) hz0 gz), Ran.same hw hq (by rw [hd]) (by rw [hd]; exact ⟨rfl, rfl⟩) ⟨by dsimp only; omega, by dsimp only; omega⟩ (by dsimp only; decide)⟩
    · have hgt : arg < z.2 := by have := (lo_hi arg ns).2.2.1 z zs hh; omega
      rw [if_neg (mem_gt hp.up hh hgt)] at hd
      exact ⟨_, hx.trans (cr_has_absent_gt R B _ root arg h _ _ b7 b8 _ k _ _ (by omega) hz0 gz hgt), Ran.same hw hq (by rw [hd]) (by rw [hd]; exact ⟨rfl, rfl⟩) ⟨by dsimp only; omega, by dsimp only; omega⟩ (by dsimp only; decide)⟩
end Go.Proofs.YtalgmlhcbilicaaGreatDoor
