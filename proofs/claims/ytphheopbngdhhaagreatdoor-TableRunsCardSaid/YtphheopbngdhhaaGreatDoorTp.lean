/-
  A map's programs: what new, get, size, drop come to; what all is told in.
-/
import Derived.Test.YtphheopbngdhhaaGreatDoorTw
import Derived.Test.YtphheopbngdhhaaGreatDoorTo
namespace Go.Proofs.YtphheopbngdhhaaGreatDoor
set_option maxRecDepth 100000
/-- a map as it lies, in so many blocks, at a stage -/
def Rep (R : List Nat) (B : Bks) (root own : Nat) (s : Nat × Nat × Nat) : Option Tb → Prop
  | none => R.getD root 0 = 0 ∧ own = 0 ∧ s = (2, 0, 0)
  | some t => ∃ S, RepT R B root S ∧ own = (hands S).length ∧ t.cap = S.cap ∧ t.pairs.Perm ((nodes S.rw).map (·.2)) ∧ SortP t.pairs ∧ s = (S.n, S.od, S.at_)
def growM (s : Nat × Nat × Nat) (fresh : Bool) (count : Nat) : Nat × Nat × Nat :=
  if fresh = true ∧ (mvStage s.2.1 s.2.2).1 = 0 ∧ s.1 < 8 ∧ 2 * s.1 < count then (2 * s.1, s.1, 0) else (s.1, (mvStage s.2.1 s.2.2).1, (mvStage s.2.1 s.2.2).2)
def pairsO : Option Tb → Prs
  | none => []
  | some t => t.pairs
def stgM (s : Nat × Nat × Nat) (k : Nat) (x : Option Tb) (key val : Nat) : Nat × Nat × Nat :=
  match (doesM k x key val).1 with
  | none => (2, 0, 0)
  | some y => if k = 1 ∧ (doesM k x key val).2.1 = 0 then growM s (decide ((pairsO x).length < y.pairs.length)) y.pairs.length else s
/-- what a run comes to -/
structure Ran (R : List Nat) (B : Bks) (root own : Nat) (s : Nat × Nat × Nat) (k key val : Nat) (x : Option Tb) (r : Rm × Bool) (m : Ms) : Prop where
  res : r.1.code = (doesM k x key val).2.1 ∧ r.1.val = (doesM k x key val).2.2
  steps : 1 ≤ r.1.steps ∧ r.1.steps < 100 + 25 * own
  dw : r.1.dw ≤ 40 + 2 * own
  rl : m.roots.length = R.length
  ro : ∀ j, j ≠ root → m.roots.getD j 0 = R.getD j 0
  wf : WfB m.blocks
  rep : ∃ own', Rep m.roots m.blocks root own' (stgM s k x key val) (doesM k x key val).1 ∧ m.blocks.length + own = B.length + own'
theorem Ran.same {R : List Nat} {B : Bks} {root own : Nat} {s : Nat × Nat × Nat} {k key val : Nat} {x : Option Tb} {c : Int} {v : Nat} {r : Rm × Bool} (hw : WfB B) (hq : Rep R B root own s x) (hd : doesM k x key val = (x, c, v)) (hk : k ≠ 1 ∨ c ≠ 0) (h1 : r.1.code = c ∧ r.1.val = v)
    (h2 : 1 ≤ r.1.steps ∧ r.1.steps < 100 + 25 * own) (h3 : r.1.dw ≤ 40 + 2 * own) : Ran R B root own s k key val x r ⟨R, B⟩ :=
  ⟨by rw [hd]; exact h1, h2, h3, rfl, fun _ _ => rfl, hw, own, by
    have hst : stgM s k x key val = s := by
      unfold stgM
      rw [hd]
      cases x with
      | none => exact hq.2.2.symm
      | some y => dsimp only; rw [if_neg (fun h => hk.elim (fun h' => h' h.1) (fun h' => h' h.2))]
    rw [hst, hd]; exact hq, rfl⟩
theorem Ran.to {R : List Nat} {B : Bks} {root own : Nat} {s s' : Nat × Nat × Nat} {k key val : Nat} {x : Option Tb} {y : Tb} {c : Int} {v : Nat} {r : Rm × Bool} {m : Ms} (hd : doesM k x key val = (some y, c, v))
    (hs : (if k = 1 ∧ c = 0 then growM s (decide ((pairsO x).length < y.pairs.length)) y.pairs.length else s) = s') (h1 : r.1.code = c ∧ r.1.val = v)
    (h2 : 1 ≤ r.1.steps ∧ r.1.steps < 100 + 25 * own) (h3 : r.1.dw ≤ 40 + 2 * own) (hl : m.roots = R) (hw : WfB m.blocks) (own' : Nat) (hr : Rep m.roots m.blocks root own' s' (some y)) (hn : m.blocks.length + own = B.length + own') : Ran R B root own s k key val x r m :=
  ⟨by rw [hd]; exact h1, h2, h3, by rw [hl], fun _ _ => by rw [hl], hw, own', by
    have hst : stgM s k x key val = s' := by
      unfold stgM
      rw [hd]
      exact hs
    rw [hst, hd]; exact hr, hn⟩
abbrev R0 : List Nat := [0, 0, 0, 0, 0, 0, 0, 0, 0, 0, 0, 0, 0, 0, 0, 0]
theorem runQ_eq (m : Ms) (k root key val : Nat) : runQ m k root key val = runGo (qcd k) 1500 1501 (rT [root, key, val, 0] [0, 0, 0, 0, 0, 0, 0, 0, 0, 0, 0, 0, 0, 0, 0, 0] 0 0 0 m.roots m.blocks (spareM m.blocks) []) := rfl
theorem REnd.q {m : Ms} {k root key val : Nat} {r : Rm × Bool} {n : Nat} (h : REnd (qcd k) (rT [root, key, val, 0] [0, 0, 0, 0, 0, 0, 0, 0, 0, 0, 0, 0, 0, 0, 0, 0] 0 0 0 m.roots m.blocks (spareM m.blocks) []) r n) (hn : n ≤ 1501) : runQ m k root key val = some r := by
  rw [runQ_eq]
  exact h.run hn
theorem RepT.own {R : List Nat} {B : Bks} {root : Nat} {S : TabS} (_ : RepT R B root S) : (nodes S.rw).length + 2 ≤ (hands S).length ∧ (hands S).length ≤ (nodes S.rw).length + 3 := by
  unfold hands baseH
  rw [List.length_append, List.length_map]
  split
  · show _ ∧ 2 + _ ≤ _; refine ⟨?_, by omega⟩; show _ ≤ 2 + _; omega
  · show _ ∧ 3 + _ ≤ _; refine ⟨?_, by omega⟩; show _ ≤ 3 + _; omega
/-- there is no map -/
theorem rep_none (R : List Nat) (B : Bks) (hw : WfB B) (root key val : Nat) (s : Nat × Nat × Nat) (hr : root < 16) (hq : Rep R B root 0 s none) (k : Nat) (h1 : 1 ≤ k) (h5 : k ≤ 5) : ∃ r, runQ ⟨R, B⟩ k root key val = some r ∧ Ran R B root 0 s k key val none r (runMs ⟨R, B⟩ r) := by
  have hR := hq.1
  rcases (by omega : k = 1 ∨ k = 2 ∨ k = 3 ∨ k = 4 ∨ k = 5) with rfl | rfl | rfl | rfl | rfl
  · exact ⟨_, REnd.q (t_put_none R B _ [] root key val 0 0 hr hR (by decide)) (by decide), Ran.same hw hq rfl (.inr (by decide)) ⟨rfl, rfl⟩ ⟨by dsimp only; decide, by dsimp only; decide⟩ (by dsimp only; decide)⟩
  · exact ⟨_, REnd.q (t_get_none R B _ [] root key val 0 0 hr hR (by decide)) (by decide), Ran.same hw hq rfl (.inr (by decide)) ⟨rfl, rfl⟩ ⟨by dsimp only; decide, by dsimp only; decide⟩ (by dsimp only; decide)⟩
  · exact ⟨_, REnd.q (t_del_none R B _ [] root key val 0 0 hr hR (by decide)) (by decide), Ran.same hw hq rfl (.inr (by decide)) ⟨rfl, rfl⟩ ⟨by dsimp only; decide, by dsimp only; decide⟩ (by dsimp only; decide)⟩
  · exact ⟨_, REnd.q (t_size_none R B _ [] root key val 0 0 hr hR (by decide)) (by decide), Ran.same hw hq rfl (.inr (by decide)) ⟨rfl, rfl⟩ ⟨by dsimp only; decide, by dsimp only; decide⟩ (by dsimp only; decide)⟩
  · exact ⟨_, REnd.q (t_drop_none R B _ [] root key val 0 0 hr hR (by decide)) (by decide), Ran.same hw hq rfl (.inr (by decide)) ⟨rfl, rfl⟩ ⟨by dsimp only; decide, by dsimp only; decide⟩ (by dsimp only; decide)⟩
theorem rep_new_some (R : List Nat) (B : Bks) (hw : WfB B) (root key val own : Nat) (s : Nat × Nat × Nat) (hr : root < 16) (t : Tb) (hq : Rep R B root own s (some t)) : ∃ r, runQ ⟨R, B⟩ 0 root key val = some r ∧ Ran R B root own s 0 key val (some t) r (runMs ⟨R, B⟩ r) := by
  obtain ⟨S, hp, _⟩ := id hq
  exact ⟨_, REnd.q (t_new_some R B _ [] root key val 0 0 _ hr hp.r hp.h0 (by decide)) (by decide), Ran.same hw hq rfl (.inl (by decide)) ⟨rfl, rfl⟩ ⟨by dsimp only; omega, by dsimp only; omega⟩ (by dsimp only; omega)⟩
def empties : List Nds := [[], [], [], [], [], [], [], []]
theorem rep_new_none (R : List Nat) (B : Bks) (hw : WfB B) (hRl : R.length = 16) (hBl : B.length < 63) (root key val : Nat) (s : Nat × Nat × Nat) (hr : root < 16) (hk : key < 18446744073709551616) (hq : Rep R B root 0 s none) : ∃ r, runQ ⟨R, B⟩ 0 root key val = some r ∧ Ran R B root 0 s 0 key val none r (runMs ⟨R, B⟩ r) := by
  have hR := hq.1
  obtain ⟨sp, sq, rest, e, hs, hs0, hs1, ht, ht0, ht1, hne⟩ := spare_two B hw hBl
  have hrun := t_new_none R B rest [] root key val 0 0 sp sq hr hR hs hs0 hs1 ht ht0 ht1 hne (by decide) (by decide)
  rw [← e] at hrun
  obtain ⟨w1, l1⟩ := hw.put_new (k := (sp : Int)) (x := [0, 0, 0, 0, 0, 0, 0, 0]) hs rfl
  obtain ⟨w2, l2⟩ := w1.put_new (k := (sq : Int)) (x := [0, 0, 0, 0, 0, 0, 0, 0]) (by rw [mputN, if_neg hne]; exact ht) rfl
  obtain ⟨w3, l3⟩ := w2.put_old (k := (sp : Int)) (x := [3, 0, 0, 0, 0, 0, 0, 0]) (by rw [mputN, if_neg (fun e => hne e.symm), mputN, if_pos rfl]) rfl
  obtain ⟨w4, l4⟩ := w3.put_old (k := (sp : Int)) (x := [3, sq, 0, 0, 0, 0, 0, 0]) (by rw [mputN, if_pos rfl]) rfl
  obtain ⟨w5, l5⟩ := w4.put_old (k := (sp : Int)) (x := [3, sq, 2, 0, 0, 0, 0, 0]) (by rw [mputN, if_pos rfl]) rfl
  obtain ⟨w6, l6⟩ := w5.put_old (k := (sp : Int)) (x := [3, sq, 2, 0, 0, 0, 0, key]) (by rw [mputN, if_pos rfl]) rfl
  refine ⟨_, REnd.q hrun (by decide), ⟨rfl, rfl⟩, ⟨by dsimp only; decide, by dsimp only; decide⟩, by dsimp only; decide, by show (R.set _ _).length = _; rw [List.length_set], fun j hj => getD_set_ne hj, w6, 2, ?_, ?_⟩
  · rw [hq.2.2]
    refine ⟨⟨sp, 2, 0, 0, key, fun b => if b then 0 else sq, fun _ => empties⟩, ⟨getD_set_same (by omega), ?_, fun b hb => ?_, fun b => rfl, fun b c hc => ?_, fun b i c hi x hx => ?_, .inl ⟨rfl, rfl, rfl, .inl rfl⟩, ?_, ?_, hk, Nat.zero_le _⟩, rfl, rfl, List.Perm.refl _, List.Pairwise.nil, rfl⟩
    · show mget (mput _ _ _) _ = _
      rw [mputN, if_pos rfl]; rfl
    · cases b
      · show mget (mput _ _ _) (sq : Int) = _
        rw [mputN, if_neg hne, mputN, if_neg hne, mputN, if_neg hne, mputN, if_neg hne, mputN, if_pos rfl]; rfl
      · exact absurd rfl hb
    · have : c = [] := by
        have hc' : c ∈ empties := hc
        simpa [empties] using hc'
      subst this; trivial
    · have hc' : c ∈ empties := List.mem_iff_getElem?.mpr ⟨i, hi⟩
      have : c = [] := by simpa [empties] using hc'
      subst this; cases hx
    · show [sp, sq].Nodup
      simp [hne]
    · show 0 ∉ [sp, sq]
      simp; omega
  · show (mput _ _ _).length + 0 = B.length + 2
    rw [l6, l5, l4, l3, l2, l1]
theorem rep_size (R : List Nat) (B : Bks) (hw : WfB B) (root key val own : Nat) (s : Nat × Nat × Nat) (hr : root < 16) (t : Tb) (hq : Rep R B root own s (some t)) : ∃ r, runQ ⟨R, B⟩ 4 root key val = some r ∧ Ran R B root own s 4 key val (some t) r (runMs ⟨R, B⟩ r) := by
  obtain ⟨S, hp, e1, e2, e3, e4, e5⟩ := id hq
  have hl : t.pairs.length = (nodes S.rw).length := by rw [e3.length_eq, List.length_map]
  exact ⟨_, REnd.q (t_size R B _ [] root key val 0 0 S.h _ S.n _ S.od S.at_ _ _ hr hp.r hp.h0 hp.hb (by decide)) (by decide), Ran.same hw hq (c := 0) (v := t.pairs.length) rfl (.inl (by decide)) ⟨rfl, hl.symm⟩ ⟨by dsimp only; omega, by dsimp only; omega⟩ (by dsimp only; omega)⟩
theorem rep_drop (R : List Nat) (B : Bks) (hw : WfB B) (hRl : R.length = 16) (root key val own : Nat) (s : Nat × Nat × Nat) (hr : root < 16) (t : Tb) (hq : Rep R B root own s (some t)) : ∃ r, runQ ⟨R, B⟩ 5 root key val = some r ∧ Ran R B root own s 5 key val (some t) r (runMs ⟨R, B⟩ r) := by
  obtain ⟨S, hp, e1, e2, e3, e4, e5⟩ := id hq
  have hl : t.pairs.length = (nodes S.rw).length := by rw [e3.length_eq, List.length_map]
  obtain ⟨b1, b2, b3⟩ := hp.base
  by_cases hc : (nodes S.rw).length = 0
  · have hd : doesM 5 (some t) key val = (none, 0, 0) := by unfold doesM; simp [hl, hc]
    have hst : stgM s 5 (some t) key val = (2, 0, 0) := by unfold stgM; rw [hd]
    have hn := List.eq_nil_of_length_eq_zero hc
    obtain ⟨w1, l1⟩ := hw.del (hp.gk false hp.hn0)
    by_cases h0 : S.hk true = 0
    · obtain ⟨w2, l2⟩ := w1.del (k := (S.h : Int)) (by rw [mdelN _ b1]; exact hp.hb)
      have ho : own = 2 := by rw [e1]; unfold hands baseH; rw [if_pos h0, hn]; rfl
      refine ⟨_, REnd.q (t_drop_0 R B _ [] root key val 0 0 S.h _ S.n _ S.od S.at_ _ _ _ hr hp.r hp.h0 hp.hb (hp.gk false hp.hn0) b1 hc h0 (by decide) (by decide)) (by decide), by rw [hd]; exact ⟨rfl, rfl⟩, ⟨by dsimp only; omega, by dsimp only; omega⟩, by dsimp only; omega, by show (R.set _ _).length = _; rw [List.length_set], fun j hj => getD_set_ne hj, w2, 0, ?_, ?_⟩
      · rw [hd, hst]; exact ⟨getD_set_same (by omega), rfl, rfl⟩
      · show (mdel _ _).length + own = B.length + 0
        omega
    · obtain ⟨b21, b22⟩ := b2 h0
      obtain ⟨w2, l2⟩ := w1.del (k := (S.hk true : Int)) (by rw [mdelN _ (fun e => b22 e.symm)]; exact hp.gk true h0)
      obtain ⟨w3, l3⟩ := w2.del (k := (S.h : Int)) (by rw [mdelN _ b21, mdelN _ b1]; exact hp.hb)
      have ho : own = 3 := by rw [e1]; unfold hands baseH; rw [if_neg h0, hn]; rfl
      refine ⟨_, REnd.q (t_drop_E R B _ [] root key val 0 0 S.h _ S.n _ S.od S.at_ _ _ _ _ hr hp.r hp.h0 hp.hb (hp.gk false hp.hn0) b1 (hp.gk true h0) b21 b22 hc h0 (by decide) (by decide)) (by decide), by rw [hd]; exact ⟨rfl, rfl⟩, ⟨by dsimp only; omega, by dsimp only; omega⟩, by dsimp only; omega, by show (R.set _ _).length = _; rw [List.length_set], fun j hj => getD_set_ne hj, w3, 0, ?_, ?_⟩
      · rw [hd, hst]; exact ⟨getD_set_same (by omega), rfl, rfl⟩
      · show (mdel _ _).length + own = B.length + 0
        omega
  · have hd : doesM 5 (some t) key val = (some t, 40, 5) := by unfold doesM; simp [hl, hc]
    exact ⟨_, REnd.q (t_drop_filled R B _ [] root key val 0 0 S.h _ S.n _ S.od S.at_ _ _ hr hp.r hp.h0 hp.hb hc (by decide)) (by decide), Ran.same hw hq hd (.inl (by decide)) ⟨rfl, rfl⟩ ⟨by dsimp only; omega, by dsimp only; omega⟩ (by dsimp only; omega)⟩
/-- a key in a map, and in its row -/
theorem look_none {R : List Nat} {B : Bks} {root : Nat} {S : TabS} (hp : RepT R B root S) {l : Prs} (hl : l.Perm ((nodes S.rw).map (·.2))) {key : Nat} {b : Bool} {i : Nat} (hs : sel S key = (b, i)) (hh : hiK key (row S.rw b i) = []) : mget l key = none ∧ key ∉ l.map (·.1) := by
  have h1 : key ∉ l.map (·.1) := fun hm => by
    obtain ⟨p, hpm, e⟩ := List.mem_map.mp hm
    obtain ⟨x, hx, ex⟩ := List.mem_map.mp (hl.mem_iff.mp hpm)
    have hk : x.2.1 = key := by rw [ex]; exact e
    have := in_row hp hx
    rw [hk, hs] at this
    have h2 := loK_hiK key (row S.rw b i)
    rw [hh, List.append_nil] at h2
    exact loK_ne key (row S.rw b i) x (by rw [h2]; exact this) hk
  exact ⟨mget_none_of h1, h1⟩
theorem look_some {R : List Nat} {B : Bks} {root : Nat} {S : TabS} (hp : RepT R B root S) {l : Prs} (hl : l.Perm ((nodes S.rw).map (·.2))) (hso : SortP l) {key : Nat} {b : Bool} {i : Nat} (hi : i < 8) {z : Nd} {zs : Nds} (hh : hiK key (row S.rw b i) = z :: zs) : mget l key = some z.2.2 ∧ z.2.1 = key ∧ z ∈ nodes S.rw ∧ mget B (z.1 : Int) = some [key, headH zs, z.2.2, 0, 0, 0, 0, 0] ∧ z.1 ≠ 0 ∧ row S.rw b i = loK key (row S.rw b i) ++ z :: zs := by
  have h1 := loK_hiK key (row S.rw b i)
  rw [hh] at h1
  have hz := hiK_head hh
  have hm : z ∈ row S.rw b i := by rw [← h1]; simp
  have hmn : z ∈ nodes S.rw := row_nodes (by rw [hp.l8]; exact hi) hm
  have hc := hp.ch b _ (row_mem hp hi)
  rw [← h1] at hc
  have hc2 := hc.right
  refine ⟨?_, hz, hmn, by rw [← hz]; exact hc2.1, (hp.base.2.2 z hmn).1, h1.symm⟩
  rw [mget_mem_iff hso.nodup, ← hz]
  exact hl.mem_iff.mpr (List.mem_map.mpr ⟨z, hmn, rfl⟩)
theorem rep_get (R : List Nat) (B : Bks) (hw : WfB B) (root key val own : Nat) (s : Nat × Nat × Nat) (hr : root < 16) (t : Tb) (hq : Rep R B root own s (some t)) (h60 : own ≤ 62) : ∃ r, runQ ⟨R, B⟩ 2 root key val = some r ∧ Ran R B root own s 2 key val (some t) r (runMs ⟨R, B⟩ r) := by
  obtain ⟨S, hp, e1, e2, e3, e4, e5⟩ := id hq
  obtain ⟨ow1, ow2⟩ := hp.own
  rcases hs : sel S key with ⟨b, i⟩
  obtain ⟨i8, hb, hrk⟩ := sel_ok hp key
  rw [hs] at i8 hb hrk
  dsimp only at i8 hb hrk
  obtain ⟨a4, a7, a8, a9, n, pc, hn, hpc, hgo⟩ := find_get hp hr (spareM (Ms.mk R B).blocks) [] key val hs
  rw [if_pos rfl] at hpc
  subst hpc
  have hlo := loK_len key (row S.rw b i)
  have hrl : (row S.rw b i).length ≤ (nodes S.rw).length := by
    have := (hp.parts b i8).1.length_eq
    rw [List.length_append] at this
    omega
  obtain ⟨c7, c8, c9, hsk⟩ := seek_get R B (spareM (Ms.mk R B).blocks) [] root key val S.h (S.hk b) i a4 0 (row S.rw b i) a7 a8 a9 (0 + n) (hp.ch b _ (row_mem hp i8)) (fun hm => by
    obtain ⟨z, hz, e⟩ := List.mem_map.mp hm
    exact (hp.base.2.2 z (row_nodes (by rw [hp.l8]; exact i8) hz)).1 e) (by omega)
  cases hh : hiK key (row S.rw b i) with
  | nil =>
    have hm := (look_none hp e3 hs hh).1
    have hd : doesM 2 (some t) key val = (some t, 40, 1) := by unfold doesM; simp [hm]
    have hend := t_get_absent R B (spareM (Ms.mk R B).blocks) [] root key val (0 + n + 7 * (loK key (row S.rw b i)).length) 0 S.h (S.hk b) i a4 (headH (hiK key (row S.rw b i))) c7 c8 c9 (by rw [hh]; rfl) (by omega)
    exact ⟨_, REnd.q ((hgo.trans hsk).fin hend) (by omega), Ran.same hw hq hd (.inl (by decide)) ⟨rfl, rfl⟩ ⟨by dsimp only; omega, by dsimp only; omega⟩ (by dsimp only; omega)⟩
  | cons z zs =>
    obtain ⟨hm, hz, hzn, gz, hz0, _⟩ := look_some hp e3 e4 i8 hh
    have hd : doesM 2 (some t) key val = (some t, 0, z.2.2) := by unfold doesM; simp [hm]
    rw [hh] at hsk
    have hend := t_get_found R B (spareM (Ms.mk R B).blocks) [] root key val (0 + n + 7 * (loK key (row S.rw b i)).length) 0 S.h (S.hk b) i a4 z.1 c7 c8 c9 _ _ hz0 gz (by omega)
    exact ⟨_, REnd.q ((hgo.trans hsk).fin hend) (by omega), Ran.same hw hq hd (.inl (by decide)) ⟨rfl, rfl⟩ ⟨by dsimp only; omega, by dsimp only; omega⟩ (by dsimp only; omega)⟩
end Go.Proofs.YtphheopbngdhhaaGreatDoor
