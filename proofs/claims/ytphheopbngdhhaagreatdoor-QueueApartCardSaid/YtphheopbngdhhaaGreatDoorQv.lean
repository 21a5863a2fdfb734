/-
  A queue, as it lies in roots and blocks: what each program makes of it.
-/
import Derived.Test.YtphheopbngdhhaaGreatDoorQu
namespace Go.Proofs.YtphheopbngdhhaaGreatDoor
set_option maxRecDepth 100000
theorem mputN (B : Bks) (k k' : Nat) (x : List Nat) : mget (mput B (k : Int) x) (k' : Int) = if k = k' then some x else mget B (k' : Int) := by
  rw [mget_mput]
  by_cases h : k = k'
  · rw [if_pos h, if_pos (by omega)]
  · rw [if_neg h, if_neg (by omega)]
theorem mdelN (B : Bks) {k k' : Nat} (h : k ≠ k') : mget (mdel B (k : Int)) (k' : Int) = mget B (k' : Int) := mget_mdel_ne (by omega)
/-- nodes: their handles and numbers -/
abbrev Nds := List (Nat × Nat)
def headH : Nds → Nat
  | [] => 0
  | x :: _ => x.1
def lastH : Nds → Nat
  | [] => 0
  | [x] => x.1
  | _ :: y :: l => lastH (y :: l)
def Chn (B : Bks) : Nds → Prop
  | [] => True
  | x :: xs => mget B (x.1 : Int) = some [x.2, headH xs, 0, 0, 0, 0, 0, 0] ∧ Chn B xs
theorem Chn.frame {B B' : Bks} : ∀ {ns : Nds}, Chn B ns → (∀ x ∈ ns, mget B' (x.1 : Int) = mget B (x.1 : Int)) → Chn B' ns
  | [], _, _ => trivial
  | x :: xs, h, hf => ⟨by rw [hf x (by simp)]; exact h.1, h.2.frame fun y hy => hf y (by simp [hy])⟩
theorem lastH_mem : ∀ {ns : Nds}, ns ≠ [] → lastH ns ∈ ns.map (·.1)
  | [x], _ => by simp [lastH]
  | x :: y :: l, _ => by
    have := lastH_mem (ns := y :: l) (by simp)
    rw [List.map_cons]
    exact List.mem_cons_of_mem _ this
theorem Chn.last {B : Bks} : ∀ {ns : Nds}, Chn B ns → ns ≠ [] → ∃ v, mget B (lastH ns : Int) = some [v, 0, 0, 0, 0, 0, 0, 0]
  | [x], h, _ => ⟨x.2, h.1⟩
  | x :: y :: l, h, _ => Chn.last (ns := y :: l) h.2 (by simp)
theorem lastH_snoc (x : Nat × Nat) : ∀ ns : Nds, lastH (ns ++ [x]) = x.1
  | [] => rfl
  | [_y] => rfl
  | _y :: z :: l => lastH_snoc x (z :: l)
theorem headH_snoc (x : Nat × Nat) {ns : Nds} (h : ns ≠ []) : headH (ns ++ [x]) = headH ns := by
  cases ns with
  | nil => exact absurd rfl h
  | cons y l => rfl
theorem Chn.snoc {B B' : Bks} {sp a v : Nat} : ∀ {ns : Nds}, Chn B ns → ns ≠ [] → (ns.map (·.1)).Nodup → (∀ x ∈ ns, x.1 ≠ lastH ns → mget B' (x.1 : Int) = mget B (x.1 : Int)) → mget B (lastH ns : Int) = some [v, 0, 0, 0, 0, 0, 0, 0] →
    mget B' (lastH ns : Int) = some [v, sp, 0, 0, 0, 0, 0, 0] → mget B' (sp : Int) = some [a, 0, 0, 0, 0, 0, 0, 0] → Chn B' (ns ++ [(sp, a)])
  | [x], h, _, _, _, h1, h2, h3 => by
    have e : x.2 = v := by
      have := h.1.symm.trans h1
      injection this with this
      injection this with this
    exact ⟨by rw [e]; exact h2, h3, trivial⟩
  | x :: y :: l, h, _, hnd, hf, h1, h2, h3 => by
    rw [List.map_cons, List.nodup_cons] at hnd
    have hx : x.1 ≠ lastH (x :: y :: l) := fun e => hnd.1 (by rw [e]; exact lastH_mem (ns := y :: l) (by simp))
    refine ⟨?_, Chn.snoc (ns := y :: l) h.2 (by simp) hnd.2 (fun z hz hne => hf z (List.mem_cons_of_mem _ hz) hne) h1 h2 h3⟩
    rw [hf x (by simp) hx]
    exact h.1
structure RepQ (R : List Nat) (B : Bks) (root h : Nat) (ns : Nds) (cap : Nat) : Prop where
  r : R.getD root 0 = h
  hb : mget B (h : Int) = some [1, headH ns, lastH ns, ns.length, cap, 0, 0, 0]
  ch : Chn B ns
  nd : (h :: ns.map (·.1)).Nodup
  nz : 0 ∉ h :: ns.map (·.1)
  lc : ns.length ≤ cap
  c64 : cap < 18446744073709551616
def Rep (R : List Nat) (B : Bks) (root : Nat) (own : List Nat) : Option Qu → Prop
  | none => R.getD root 0 = 0 ∧ own = []
  | some q => ∃ h ns, own = h :: ns.map (·.1) ∧ q.list = ns.map (·.2) ∧ RepQ R B root h ns q.cap
/-- what a run comes to -/
structure Ran (R : List Nat) (B : Bks) (root : Nat) (own : List Nat) (k arg : Nat) (q : Option Qu) (r : Rm × Bool) (m : Ms) : Prop where
  res : r.1.code = (doesM k q arg).2.1 ∧ r.1.val = (doesM k q arg).2.2
  steps : 1 ≤ r.1.steps ∧ r.1.steps < 100
  dw : r.1.dw ≤ 20
  rl : m.roots.length = R.length
  ro : ∀ j, j ≠ root → m.roots.getD j 0 = R.getD j 0
  wf : WfB m.blocks
  rep : ∃ own', Rep m.roots m.blocks root own' (doesM k q arg).1 ∧ m.blocks.length + own.length = B.length + own'.length ∧
    (∀ h : Nat, h ∉ own → h ∉ own' → mget m.blocks (h : Int) = mget B (h : Int)) ∧ (∀ h : Nat, h ∈ own' → h ∉ own → mget B (h : Int) = none)
theorem Ran.same {R : List Nat} {B : Bks} {root : Nat} {own : List Nat} {k arg : Nat} {q : Option Qu} {r : Rm × Bool} (hw : WfB B) (hq : Rep R B root own q) (hd : (doesM k q arg).1 = q) (h1 : r.1.code = (doesM k q arg).2.1 ∧ r.1.val = (doesM k q arg).2.2)
    (h2 : 1 ≤ r.1.steps ∧ r.1.steps < 100) (h3 : r.1.dw ≤ 20) : Ran R B root own k arg q r ⟨R, B⟩ :=
  ⟨h1, h2, h3, rfl, fun _ _ => rfl, hw, own, by rw [hd]; exact hq, rfl, fun _ _ _ => rfl, fun _ h h' => absurd h h'⟩
theorem runQ_eq (m : Ms) (k root arg : Nat) : runQ m k root arg = runGo (qcd k) 400 401 (rS [root, arg, 0, 0] [0, 0, 0, 0, 0, 0, 0, 0, 0, 0, 0, 0, 0, 0, 0, 0] 0 0 0 m.roots m.blocks (spareM m.blocks) []) := rfl
/-- there is no queue -/
theorem rep_none (R : List Nat) (B : Bks) (hw : WfB B) (root arg : Nat) (hr : root < 16) (hR : R.getD root 0 = 0) (k : Nat) (h1 : 1 ≤ k) (h5 : k ≤ 5) : ∃ r, runQ ⟨R, B⟩ k root arg = some r ∧ Ran R B root [] k arg none r (runMs ⟨R, B⟩ r) := by
  have hq : Rep R B root [] none := ⟨hR, rfl⟩
  rw [runQ_eq]
  rcases (by omega : k = 1 ∨ k = 2 ∨ k = 3 ∨ k = 4 ∨ k = 5) with rfl | rfl | rfl | rfl | rfl
  · exact ⟨_, qr_put_none R B _ root arg hr hR, Ran.same hw hq rfl ⟨rfl, rfl⟩ ⟨by dsimp only; decide, by dsimp only; decide⟩ (by dsimp only; decide)⟩
  · exact ⟨_, qr_take_none R B _ root arg hr hR, Ran.same hw hq rfl ⟨rfl, rfl⟩ ⟨by dsimp only; decide, by dsimp only; decide⟩ (by dsimp only; decide)⟩
  · exact ⟨_, qr_peek_none R B _ root arg hr hR, Ran.same hw hq rfl ⟨rfl, rfl⟩ ⟨by dsimp only; decide, by dsimp only; decide⟩ (by dsimp only; decide)⟩
  · exact ⟨_, qr_size_none R B _ root arg hr hR, Ran.same hw hq rfl ⟨rfl, rfl⟩ ⟨by dsimp only; decide, by dsimp only; decide⟩ (by dsimp only; decide)⟩
  · exact ⟨_, qr_drop_none R B _ root arg hr hR, Ran.same hw hq rfl ⟨rfl, rfl⟩ ⟨by dsimp only; decide, by dsimp only; decide⟩ (by dsimp only; decide)⟩
theorem getD_set_same {R : List Nat} {root x : Nat} (h : root < R.length) : (R.set root x).getD root 0 = x := by
  rw [List.getD_eq_getElem?_getD, List.getElem?_set_self h]; rfl
theorem getD_set_ne {R : List Nat} {root x j : Nat} (h : j ≠ root) : (R.set root x).getD j 0 = R.getD j 0 := by
  rw [List.getD_eq_getElem?_getD, List.getD_eq_getElem?_getD, List.getElem?_set_ne (fun e => h e.symm)]
theorem rep_new_some (R : List Nat) (B : Bks) (hw : WfB B) (root arg : Nat) (hr : root < 16) (q : Qu) (own : List Nat) (hq : Rep R B root own (some q)) : ∃ r, runQ ⟨R, B⟩ 0 root arg = some r ∧ Ran R B root own 0 arg (some q) r (runMs ⟨R, B⟩ r) := by
  rw [runQ_eq]
  obtain ⟨h, ns, e1, e2, hp⟩ := id hq
  have h0 : h ≠ 0 := fun e => hp.nz (by rw [e]; simp)
  exact ⟨_, qr_new_some R B _ root arg h hr hp.r h0, Ran.same hw hq rfl ⟨rfl, rfl⟩ ⟨by dsimp only; decide, by dsimp only; decide⟩ (by dsimp only; decide)⟩
theorem rep_new_none (R : List Nat) (B : Bks) (hw : WfB B) (hRl : R.length = 16) (hBl : B.length < 64) (root arg : Nat) (hr : root < 16) (ha : arg < 18446744073709551616) (hR : R.getD root 0 = 0) : ∃ r, runQ ⟨R, B⟩ 0 root arg = some r ∧ Ran R B root [] 0 arg none r (runMs ⟨R, B⟩ r) := by
  rw [runQ_eq]
  obtain ⟨sp, rest, e, hs, hs0, hs1⟩ := spare_some B hBl
  rw [show spareM (Ms.mk R B).blocks = sp :: rest from e]
  refine ⟨_, qr_new_none R B rest root arg sp hr hR hs hs0 hs1, ⟨rfl, rfl⟩, ⟨by dsimp only; decide, by dsimp only; decide⟩, by dsimp only; decide, by show (R.set _ _).length = _; rw [List.length_set], fun j hj => getD_set_ne hj, ?_, [sp], ⟨sp, [], rfl, rfl, getD_set_same (by omega), by show mget (mput _ _ _) _ = _; rw [mputN, if_pos rfl]; rfl, trivial, by simp, by simp; omega, Nat.zero_le _, ha⟩, ?_, fun h _ h2 => ?_, fun h h1 _ => ?_⟩
  · obtain ⟨w1, _⟩ := hw.put_new (k := (sp : Int)) (x := [0, 0, 0, 0, 0, 0, 0, 0]) hs rfl
    obtain ⟨w2, _⟩ := w1.put_old (k := (sp : Int)) (x := [1, 0, 0, 0, 0, 0, 0, 0]) (by rw [mputN, if_pos rfl]) rfl
    exact (w2.put_old (k := (sp : Int)) (x := [1, 0, 0, 0, arg, 0, 0, 0]) (by rw [mputN, if_pos rfl]) rfl).1
  · obtain ⟨w1, l1⟩ := hw.put_new (k := (sp : Int)) (x := [0, 0, 0, 0, 0, 0, 0, 0]) hs rfl
    obtain ⟨w2, l2⟩ := w1.put_old (k := (sp : Int)) (x := [1, 0, 0, 0, 0, 0, 0, 0]) (by rw [mputN, if_pos rfl]) rfl
    have l3 := (w2.put_old (k := (sp : Int)) (x := [1, 0, 0, 0, arg, 0, 0, 0]) (by rw [mputN, if_pos rfl]) rfl).2
    show (mput _ _ _).length + 0 = B.length + 1
    rw [l3, l2, l1]
  · have hne : sp ≠ h := fun e => h2 (by simp [e])
    show mget (mput _ _ _) _ = _
    rw [mputN, if_neg hne, mputN, if_neg hne, mputN, if_neg hne]
  · obtain rfl : h = sp := by simpa using h1
    exact hs
theorem Rep.len {_R : List Nat} {B : Bks} {root h : Nat} {ns : Nds} {q : Qu} (e2 : q.list = ns.map (·.2)) : q.list.length = ns.length := by rw [e2, List.length_map]
theorem head_mem {ns : Nds} (h : headH ns ≠ 0) : ∃ x xs, ns = x :: xs := by
  cases ns with
  | nil => exact absurd rfl h
  | cons x xs => exact ⟨x, xs, rfl⟩
theorem rep_size (R : List Nat) (B : Bks) (hw : WfB B) (root arg : Nat) (hr : root < 16) (q : Qu) (own : List Nat) (hq : Rep R B root own (some q)) : ∃ r, runQ ⟨R, B⟩ 4 root arg = some r ∧ Ran R B root own 4 arg (some q) r (runMs ⟨R, B⟩ r) := by
  rw [runQ_eq]
  obtain ⟨h, ns, e1, e2, hp⟩ := id hq
  have h0 : h ≠ 0 := fun e => hp.nz (by rw [e]; simp)
  have hl : q.list.length = ns.length := by rw [e2, List.length_map]
  refine ⟨_, qr_size R B _ root arg h _ _ _ _ hr hp.r h0 hp.hb, Ran.same hw hq rfl ⟨rfl, ?_⟩ ⟨by dsimp only; decide, by dsimp only; decide⟩ (by dsimp only; decide)⟩
  exact hl.symm
theorem rep_peek (R : List Nat) (B : Bks) (hw : WfB B) (root arg : Nat) (hr : root < 16) (q : Qu) (own : List Nat) (hq : Rep R B root own (some q)) : ∃ r, runQ ⟨R, B⟩ 3 root arg = some r ∧ Ran R B root own 3 arg (some q) r (runMs ⟨R, B⟩ r) := by
  rw [runQ_eq]
  obtain ⟨h, ns, e1, e2, hp⟩ := id hq
  have h0 : h ≠ 0 := fun e => hp.nz (by rw [e]; simp)
  obtain ⟨qc, ql⟩ := q
  dsimp only at e2
  subst e2
  cases ns with
  | nil => exact ⟨_, qr_peek_empty R B _ root arg h _ _ _ _ hr hp.r h0 hp.hb rfl, Ran.same hw hq rfl ⟨rfl, rfl⟩ ⟨by dsimp only; decide, by dsimp only; decide⟩ (by dsimp only; decide)⟩
  | cons x xs =>
    have hx0 : x.1 ≠ 0 := fun e => hp.nz (by rw [← e]; simp)
    have hxh : x.1 ≠ h := fun e => by have := hp.nd; rw [List.map_cons, List.nodup_cons] at this; exact this.1 (by rw [← e]; simp)
    exact ⟨_, qr_peek_ok R B _ root arg h _ _ _ _ _ _ hr hp.r h0 hp.hb hx0 hxh hp.ch.1, Ran.same hw hq rfl ⟨rfl, rfl⟩ ⟨by dsimp only; decide, by dsimp only; decide⟩ (by dsimp only; decide)⟩
theorem rep_drop (R : List Nat) (B : Bks) (hw : WfB B) (hRl : R.length = 16) (root arg : Nat) (hr : root < 16) (q : Qu) (own : List Nat) (hq : Rep R B root own (some q)) : ∃ r, runQ ⟨R, B⟩ 5 root arg = some r ∧ Ran R B root own 5 arg (some q) r (runMs ⟨R, B⟩ r) := by
  rw [runQ_eq]
  obtain ⟨h, ns, e1, e2, hp⟩ := id hq
  have h0 : h ≠ 0 := fun e => hp.nz (by rw [e]; simp)
  obtain ⟨qc, ql⟩ := q
  dsimp only at e2
  subst e2
  cases ns with
  | nil =>
    obtain ⟨w1, l1⟩ := hw.del hp.hb
    subst e1
    refine ⟨_, qr_drop_ok R B _ root arg h _ _ _ _ hr hp.r h0 hp.hb rfl, ⟨rfl, rfl⟩, ⟨by dsimp only; decide, by dsimp only; decide⟩, by dsimp only; decide, by show (R.set _ _).length = _; rw [List.length_set], fun j hj => getD_set_ne hj, w1, [], ⟨getD_set_same (by omega), rfl⟩, ?_, fun j h1 _ => ?_, fun j h1 _ => by cases h1⟩
    · show (mdel _ _).length + 1 = B.length + 0
      omega
    · show mget (mdel _ _) _ = _
      exact mdelN B (fun e => h1 (by simp [e]))
  | cons x xs => exact ⟨_, qr_drop_filled R B _ root arg h _ _ _ _ hr hp.r h0 hp.hb (by simp), Ran.same hw hq rfl ⟨rfl, rfl⟩ ⟨by dsimp only; decide, by dsimp only; decide⟩ (by dsimp only; decide)⟩
end Go.Proofs.YtphheopbngdhhaaGreatDoor
