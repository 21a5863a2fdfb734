/-
  A queue: take and put; then all six at once.
-/
import Derived.Test.YtphheopbngdhhaaGreatDoorQv
namespace Go.Proofs.YtphheopbngdhhaaGreatDoor
set_option maxRecDepth 100000
theorem rep_take (R : List Nat) (B : Bks) (hw : WfB B) (root arg : Nat) (hr : root < 16) (q : Qu) (own : List Nat) (hq : Rep R B root own (some q)) : ∃ r, runQ ⟨R, B⟩ 2 root arg = some r ∧ Ran R B root own 2 arg (some q) r (runMs ⟨R, B⟩ r) := by
  rw [runQ_eq]
  obtain ⟨h, ns, e1, e2, hp⟩ := id hq
  have h0 : h ≠ 0 := fun e => hp.nz (by rw [e]; simp)
  obtain ⟨qc, ql⟩ := q
  dsimp only at e2
  subst e2
  cases ns with
  | nil => exact ⟨_, qr_take_empty R B _ root arg h _ _ _ _ hr hp.r h0 hp.hb rfl, Ran.same hw hq rfl ⟨rfl, rfl⟩ ⟨by dsimp only; decide, by dsimp only; decide⟩ (by dsimp only; decide)⟩
  | cons x xs =>
    obtain ⟨xh, xv⟩ := x
    have hnd := hp.nd
    rw [List.map_cons, List.nodup_cons, List.nodup_cons] at hnd
    obtain ⟨n1, n2, n3⟩ := hnd
    have hx0 : xh ≠ 0 := fun e => hp.nz (by rw [← e]; simp)
    have hxh : xh ≠ h := fun e => n1 (by rw [← e]; simp)
    have hch := hp.ch.1
    have hlc := hp.lc
    have hc64 := hp.c64
    dsimp only at hlc hc64 n2
    rw [List.length_cons] at hlc
    obtain ⟨w1, l1⟩ := hw.del hch
    have gh : mget (mdel B (xh : Int)) (h : Int) = some [1, xh, lastH ((xh, xv) :: xs), xs.length + 1, qc, 0, 0, 0] := by
      rw [mdelN B hxh]; exact hp.hb
    cases xs with
    | nil =>
      obtain ⟨w2, l2⟩ := w1.put_old (x := [1, 0, lastH [(xh, xv)], 0 + 1, qc, 0, 0, 0]) gh rfl
      obtain ⟨w3, l3⟩ := w2.put_old (k := (h : Int)) (x := [1, 0, 0, 0 + 1, qc, 0, 0, 0]) (by rw [mputN, if_pos rfl]) rfl
      obtain ⟨w4, l4⟩ := w3.put_old (k := (h : Int)) (x := [1, 0, 0, 0 + 1 - 1, qc, 0, 0, 0]) (by rw [mputN, if_pos rfl]) rfl
      subst e1
      refine ⟨_, qr_take_last R B _ root arg h _ _ _ _ _ _ hr hp.r h0 hp.hb hx0 hxh hch rfl (Nat.le_refl 1) (by simp only [List.length_cons, List.length_nil]; decide), ⟨rfl, rfl⟩, ⟨by dsimp only; decide, by dsimp only; decide⟩, by dsimp only; decide, rfl, fun j _ => rfl, w4, [h], ⟨h, [], rfl, rfl, hp.r, by show mget (mput _ _ _) _ = _; rw [mputN, if_pos rfl]; rfl, trivial, by simp, by simp; omega, Nat.zero_le _, hc64⟩, ?_, fun j h1 _ => ?_, fun j h1 h2 => absurd (by simp at h1; simp [h1]) h2⟩
      · show (mput _ _ _).length + 2 = B.length + 1
        refine (congrArg (· + 2) (l4.trans (l3.trans l2))).trans ?_; dsimp only at l1 ⊢; omega
      · have a1 : h ≠ j := fun e => h1 (by simp [e])
        have a2 : xh ≠ j := fun e => h1 (by simp [e])
        show mget (mput _ _ _) _ = _
        rw [mputN, if_neg a1, mputN, if_neg a1, mputN, if_neg a1]; exact mdelN B a2
    | cons y ys =>
      have hy0 : y.1 ≠ 0 := fun e => hp.nz (by rw [← e]; simp)
      obtain ⟨w2, l2⟩ := w1.put_old (x := [1, y.1, lastH ((xh, xv) :: y :: ys), (y :: ys).length + 1, qc, 0, 0, 0]) gh rfl
      obtain ⟨w4, l4⟩ := w2.put_old (k := (h : Int)) (x := [1, y.1, lastH ((xh, xv) :: y :: ys), (y :: ys).length + 1 - 1, qc, 0, 0, 0]) (by rw [mputN, if_pos rfl]) rfl
      subst e1
      refine ⟨_, qr_take_more R B _ root arg h _ _ _ _ _ _ hr hp.r h0 hp.hb hx0 hxh hch hy0 (by rw [List.length_cons]; omega) (by rw [List.length_cons]; omega), ⟨rfl, rfl⟩, ⟨by dsimp only; decide, by dsimp only; decide⟩, by dsimp only; decide, rfl, fun j _ => rfl, w4, h :: (y :: ys).map (·.1), ⟨h, y :: ys, rfl, rfl, hp.r, by show mget (mput _ _ _) _ = _; rw [mputN, if_pos rfl]; rfl, hp.ch.2.frame fun z hz => ?_, ?_, ?_, by show (y :: ys).length ≤ qc; omega, hc64⟩, ?_, fun j h1 _ => ?_, fun j h1 h2 => absurd ?_ h2⟩
      · have z1 : z.1 ∈ (y :: ys).map (·.1) := List.mem_map_of_mem hz
        have a1 : h ≠ z.1 := fun e => n1 (by rw [e]; exact List.mem_cons_of_mem _ z1)
        have a2 : xh ≠ z.1 := fun e => n2 (by rw [e]; exact z1)
        show mget (mput _ _ _) _ = _
        rw [mputN, if_neg a1, mputN, if_neg a1]; exact mdelN B a2
      · rw [List.nodup_cons]
        exact ⟨fun hm => n1 (List.mem_cons_of_mem _ hm), n3⟩
      · intro hm
        apply hp.nz
        rcases List.mem_cons.mp hm with e | hm
        · rw [e]; simp
        · rw [List.map_cons]
          exact List.mem_cons_of_mem _ (List.mem_cons_of_mem _ hm)
      · show (mput _ _ _).length + _ = B.length + _
        refine (congrArg (· + _) (l4.trans l2)).trans ?_; simp only [List.length_cons, List.length_map]; dsimp only at l1; omega
      · have a1 : h ≠ j := fun e => h1 (by simp [e])
        have a2 : xh ≠ j := fun e => h1 (by simp [e])
        show mget (mput _ _ _) _ = _
        rw [mputN, if_neg a1, mputN, if_neg a1]; exact mdelN B a2
      · rcases List.mem_cons.mp h1 with e | hm
        · rw [e]; simp
        · rw [List.map_cons]
          exact List.mem_cons_of_mem _ (List.mem_cons_of_mem _ hm)

theorem Ran.to {R : List Nat} {B : Bks} {root : Nat} {own : List Nat} {k arg : Nat} {q q' : Option Qu} {c : Int} {v : Nat} {r : Rm × Bool} {m : Ms} (hd : doesM k q arg = (q', c, v)) (h1 : r.1.code = c ∧ r.1.val = v)
    (h2 : 1 ≤ r.1.steps ∧ r.1.steps < 100) (h3 : r.1.dw ≤ 20) (hl : m.roots = R) (hw : WfB m.blocks) (own' : List Nat) (hr : Rep m.roots m.blocks root own' q') (hn : m.blocks.length + own.length = B.length + own'.length)
    (hf : ∀ h : Nat, h ∉ own → h ∉ own' → mget m.blocks (h : Int) = mget B (h : Int)) (hg : ∀ h : Nat, h ∈ own' → h ∉ own → mget B (h : Int) = none) : Ran R B root own k arg q r m :=
  ⟨by rw [hd]; exact h1, h2, h3, by rw [hl], fun _ _ => by rw [hl], hw, own', by rw [hd]; exact hr, hn, hf, hg⟩
theorem rep_put (R : List Nat) (B : Bks) (hw : WfB B) (hBl : B.length < 64) (root arg : Nat) (hr : root < 16) (q : Qu) (own : List Nat) (hq : Rep R B root own (some q)) : ∃ r, runQ ⟨R, B⟩ 1 root arg = some r ∧ Ran R B root own 1 arg (some q) r (runMs ⟨R, B⟩ r) := by
  rw [runQ_eq]
  obtain ⟨h, ns, e1, e2, hp⟩ := id hq
  have h0 : h ≠ 0 := fun e => hp.nz (by rw [e]; simp)
  obtain ⟨qc, ql⟩ := q
  dsimp only at e2
  subst e2
  have hl : (ns.map (·.2)).length = ns.length := List.length_map _
  have hlc : ns.length ≤ qc := hp.lc
  have hc64 : qc < 18446744073709551616 := hp.c64
  by_cases hf : qc ≤ ns.length
  · have hd : doesM 1 (some ⟨qc, ns.map (·.2)⟩) arg = (some ⟨qc, ns.map (·.2)⟩, 40, 2) := if_pos (by dsimp only; rw [hl]; exact hf)
    exact ⟨_, qr_put_full R B _ root arg h _ _ _ _ hr hp.r h0 hp.hb hf, Ran.same hw hq (by rw [hd]) (by rw [hd]; exact ⟨rfl, rfl⟩) ⟨by dsimp only; decide, by dsimp only; decide⟩ (by dsimp only; decide)⟩
  have hd : doesM 1 (some ⟨qc, ns.map (·.2)⟩) arg = (some ⟨qc, ns.map (·.2) ++ [arg]⟩, 0, (ns.map (·.2)).length + 1) := if_neg (by dsimp only; rw [hl]; exact hf)
  rw [hl] at hd
  obtain ⟨sp, rest, e, hs, hs0, hs1⟩ := spare_some B hBl
  rw [show spareM (Ms.mk R B).blocks = sp :: rest from e]
  have hsh : sp ≠ h := fun e => by rw [e, hp.hb] at hs; cases hs
  obtain ⟨w1, l1⟩ := hw.put_new (k := (sp : Int)) (x := [0, 0, 0, 0, 0, 0, 0, 0]) hs rfl
  obtain ⟨w2, l2⟩ := w1.put_old (k := (sp : Int)) (x := [arg, 0, 0, 0, 0, 0, 0, 0]) (by rw [mputN, if_pos rfl]) rfl
  have g2 : ∀ j : Nat, sp ≠ j → mget (mput (mput B (sp : Int) [0, 0, 0, 0, 0, 0, 0, 0]) (sp : Int) [arg, 0, 0, 0, 0, 0, 0, 0]) (j : Int) = mget B (j : Int) := fun j hj => by rw [mputN, if_neg hj, mputN, if_neg hj]
  subst e1
  by_cases hns : ns = []
  · subst hns
    obtain ⟨w3, l3⟩ := w2.put_old (k := (h : Int)) (x := [1, sp, 0, 0, qc, 0, 0, 0]) ((g2 h hsh).trans hp.hb) rfl
    obtain ⟨w4, l4⟩ := w3.put_old (k := (h : Int)) (x := [1, sp, sp, 0, qc, 0, 0, 0]) (by rw [mputN, if_pos rfl]) rfl
    obtain ⟨w5, l5⟩ := w4.put_old (k := (h : Int)) (x := [1, sp, sp, 0 + 1, qc, 0, 0, 0]) (by rw [mputN, if_pos rfl]) rfl
    refine ⟨_, qr_put_first R B rest root arg h _ _ _ _ sp hr hp.r h0 hp.hb (show 0 < qc by simp at hf; omega) hc64 rfl hs hs0 hs1 hsh, Ran.to hd ⟨rfl, rfl⟩ ⟨by dsimp only; decide, by dsimp only; decide⟩ (by dsimp only; decide) rfl w5 [h, sp] ⟨h, [(sp, arg)], rfl, rfl, hp.r, by show mget (mput _ _ _) _ = _; rw [mputN, if_pos rfl]; rfl, ⟨by show mget (mput _ _ _) _ = _; rw [mputN, if_neg (fun e => hsh e.symm), mputN, if_neg (fun e => hsh e.symm), mputN, if_neg (fun e => hsh e.symm), mputN, if_pos rfl]; rfl, trivial⟩, by simp; exact fun e => hsh e.symm, by simp; omega, by show 1 ≤ qc; simp at hf; omega, hc64⟩ ?_ (fun j _ h2 => ?_) (fun j h1 h2 => ?_)⟩
    · refine (congrArg (· + 1) (l5.trans (l4.trans (l3.trans (l2.trans l1))))).trans ?_
      simp only [List.length_cons, List.length_nil]
    · have a1 : h ≠ j := fun e => h2 (by simp [e])
      have a2 : sp ≠ j := fun e => h2 (by simp [e])
      show mget (mput _ _ _) _ = _
      rw [mputN, if_neg a1, mputN, if_neg a1, mputN, if_neg a1]; exact g2 j a2
    · have : j = sp := by simp at h1 h2; omega
      rw [this]; exact hs
  · obtain ⟨v, hv⟩ := hp.ch.last hns
    have lm := lastH_mem hns
    have hnd := hp.nd
    rw [List.nodup_cons] at hnd
    have hl0 : lastH ns ≠ 0 := fun e => hp.nz (by rw [← e]; exact List.mem_cons_of_mem _ lm)
    have hlh : lastH ns ≠ h := fun e => hnd.1 (by rw [← e]; exact lm)
    have hsl : sp ≠ lastH ns := fun e => by rw [e, hv] at hs; cases hs
    have hsn : ∀ z ∈ ns, ∃ y, mget B (z.1 : Int) = some y := by
      have key : ∀ {l : Nds}, Chn B l → ∀ z ∈ l, ∃ y, mget B (z.1 : Int) = some y := by
        intro l
        induction l with
        | nil => intro _ z hz; cases hz
        | cons a l ih =>
          intro hc z hz
          rcases List.mem_cons.mp hz with rfl | hz
          · exact ⟨_, hc.1⟩
          · exact ih hc.2 z hz
      exact key hp.ch
    have hsm : sp ∉ ns.map (·.1) := fun hm => by
      obtain ⟨z, hz, e⟩ := List.mem_map.mp hm
      obtain ⟨y, hy⟩ := hsn z hz
      rw [e, hs] at hy; cases hy
    obtain ⟨w3, l3⟩ := w2.put_old (k := (lastH ns : Int)) (x := [v, sp, 0, 0, 0, 0, 0, 0]) ((g2 _ hsl).trans hv) rfl
    obtain ⟨w4, l4⟩ := w3.put_old (k := (h : Int)) (x := [1, headH ns, sp, ns.length, qc, 0, 0, 0]) (by rw [mputN, if_neg hlh]; exact (g2 h hsh).trans hp.hb) rfl
    obtain ⟨w5, l5⟩ := w4.put_old (k := (h : Int)) (x := [1, headH ns, sp, ns.length + 1, qc, 0, 0, 0]) (by rw [mputN, if_pos rfl]) rfl
    refine ⟨_, qr_put_more R B rest root arg h _ _ _ _ sp v _ hr hp.r h0 hp.hb (show ns.length < qc by omega) hc64 hl0 hlh hsl hv hs hs0 hs1 hsh, Ran.to hd ⟨rfl, rfl⟩ ⟨by dsimp only; decide, by dsimp only; decide⟩ (by dsimp only; decide) rfl w5 (h :: (ns ++ [(sp, arg)]).map (·.1)) ⟨h, ns ++ [(sp, arg)], rfl, by simp, hp.r, ?_, ?_, ?_, ?_, ?_, hc64⟩ ?_ (fun j _ h2 => ?_) (fun j h1 h2 => ?_)⟩
    · show mget (mput _ _ _) _ = _
      rw [mputN, if_pos rfl, headH_snoc _ hns, lastH_snoc, List.length_append]; rfl
    · refine Chn.snoc (B := B) hp.ch hns hnd.2 (fun z hz hne => ?_) hv ?_ ?_
      · have z1 : z.1 ∈ ns.map (·.1) := List.mem_map_of_mem hz
        have a1 : h ≠ z.1 := fun e => hnd.1 (by rw [e]; exact z1)
        have a2 : sp ≠ z.1 := fun e => hsm (by rw [e]; exact z1)
        show mget (mput _ _ _) _ = _
        rw [mputN, if_neg a1, mputN, if_neg a1, mputN, if_neg (fun e => hne e.symm)]; exact g2 _ a2
      · show mget (mput _ _ _) _ = _
        rw [mputN, if_neg (fun e => hlh e.symm), mputN, if_neg (fun e => hlh e.symm), mputN, if_pos rfl]
      · show mget (mput _ _ _) _ = _
        rw [mputN, if_neg (fun e => hsh e.symm), mputN, if_neg (fun e => hsh e.symm), mputN, if_neg (fun e => hsl e.symm), mputN, if_pos rfl]
    · rw [List.map_append, ← List.cons_append, List.nodup_append]
      refine ⟨hp.nd, by simp, fun x hx y hy exy => ?_⟩
      have ey : x = sp := exy.trans (by simpa using hy)
      rw [ey] at hx
      rcases List.mem_cons.mp hx with e | hx
      · exact hsh e
      · exact hsm hx
    · rw [List.map_append, ← List.cons_append]
      intro hm
      rcases List.mem_append.mp hm with hm | hm
      · exact hp.nz hm
      · simp at hm; omega
    · rw [List.length_append]; show ns.length + 1 ≤ qc; omega
    · refine (congrArg (· + _) (l5.trans (l4.trans (l3.trans (l2.trans l1))))).trans ?_
      simp only [List.length_cons, List.length_append, List.length_map, List.length_nil]; omega
    · rw [List.map_append, List.mem_cons, List.mem_append] at h2
      have a1 : h ≠ j := fun e => h2 (Or.inl e.symm)
      have a2 : sp ≠ j := fun e => h2 (Or.inr (Or.inr (by simp [e])))
      have a3 : lastH ns ≠ j := fun e => h2 (Or.inr (Or.inl (by rw [← e]; exact lm)))
      show mget (mput _ _ _) _ = _
      rw [mputN, if_neg a1, mputN, if_neg a1, mputN, if_neg a3]; exact g2 j a2
    · have : j = sp := by
        rw [List.map_append, ← List.cons_append] at h1
        rcases List.mem_append.mp h1 with hm | hm
        · exact absurd hm h2
        · simpa using hm
      rw [this]; exact hs
/-- each program, on each state of a queue -/
theorem rep_run (R : List Nat) (B : Bks) (hw : WfB B) (hRl : R.length = 16) (hBl : B.length < 64) (k root arg : Nat) (hk : k < 6) (hr : root < 16) (ha : arg < 18446744073709551616) (q : Option Qu) (own : List Nat) (hq : Rep R B root own q) :
    ∃ r, runQ ⟨R, B⟩ k root arg = some r ∧ Ran R B root own k arg q r (runMs ⟨R, B⟩ r) := by
  cases q with
  | none =>
    obtain ⟨h1, rfl⟩ := hq
    by_cases h0 : k = 0
    · subst h0; exact rep_new_none R B hw hRl hBl root arg hr ha h1
    · exact rep_none R B hw root arg hr h1 k (by omega) (by omega)
  | some q =>
    rcases (by omega : k = 0 ∨ k = 1 ∨ k = 2 ∨ k = 3 ∨ k = 4 ∨ k = 5) with rfl | rfl | rfl | rfl | rfl | rfl
    · exact rep_new_some R B hw root arg hr q own hq
    · exact rep_put R B hw hBl root arg hr q own hq
    · exact rep_take R B hw root arg hr q own hq
    · exact rep_peek R B hw root arg hr q own hq
    · exact rep_size R B hw root arg hr q own hq
    · exact rep_drop R B hw hRl root arg hr q own hq
end Go.Proofs.YtphheopbngdhhaaGreatDoor
