/-
  A set: add and del; then all seven at once.
-/
import Derived.Test.YtalgmlhcbilicaaGreatDoorCv
namespace Go.Proofs.YtalgmlhcbilicaaGreatDoor
set_option maxRecDepth 100000
theorem Ran.to {R : List Nat} {B : Bks} {root : Nat} {own : List Nat} {k arg : Nat} {q q' : Option Qu} {c : Int} {v : Nat} {r : Rm × Bool} {m : Ms} (hd : doesM k q arg = (q', c, v)) (h1 : r.1.code = c ∧ r.1.val = v)
    (h2 : 1 ≤ r.1.steps ∧ r.1.steps < 50 + 10 * own.length) (h3 : r.1.dw ≤ 20) (hl : m.roots = R) (hw : WfB m.blocks) (own' : List Nat) (hr : Rep m.roots m.blocks root own' q') (hn : m.blocks.length + own.length = B.length + own'.length)
    (hf : ∀ h : Nat, h ∉ own → h ∉ own' → mget m.blocks (h : Int) = mget B (h : Int)) (hg : ∀ h : Nat, h ∈ own' → h ∉ own → mget B (h : Int) = none) : Ran R B root own k arg q r m :=
  ⟨by rw [hd]; exact h1, h2, h3, by rw [hl], fun _ _ => by rw [hl], hw, own', by rw [hd]; exact hr, hn, hf, hg⟩
theorem lo_mem {a : Nat} {ns : Nds} {x : Nat × Nat} (h : x ∈ loN a ns) : x ∈ ns := by
  have h1 := (lo_hi a ns).1
  rw [← h1]
  exact List.mem_append_left _ h
theorem hi_mem {a : Nat} {ns : Nds} {x : Nat × Nat} (h : x ∈ hiN a ns) : x ∈ ns := by
  have h1 := (lo_hi a ns).1
  rw [← h1]
  exact List.mem_append_right _ h
theorem map_lo_hi (a : Nat) (ns : Nds) : ns.map (·.1) = (loN a ns).map (·.1) ++ (hiN a ns).map (·.1) := by
  rw [← List.map_append, (lo_hi a ns).1]
/-- what is known of the last node ahead -/
theorem last_lo {B : Bks} {a h : Nat} {ns : Nds} (hc : Chn B ns) (hnd : (h :: ns.map (·.1)).Nodup) (hnz : 0 ∉ h :: ns.map (·.1)) (hlo : loN a ns ≠ []) :
    lastP 0 (loN a ns) = lastH (loN a ns) ∧ lastH (loN a ns) ≠ 0 ∧ lastH (loN a ns) ≠ h ∧ lastH (loN a ns) ∈ ns.map (·.1) ∧ lastH (loN a ns) ∉ (hiN a ns).map (·.1) ∧ ∃ v px, mget B (lastH (loN a ns) : Int) = some [v, px, 0, 0, 0, 0, 0, 0] := by
  have hm := lastH_mem hlo
  have hmn : lastH (loN a ns) ∈ ns.map (·.1) := by rw [map_lo_hi a]; exact List.mem_append_left _ hm
  rw [List.nodup_cons] at hnd
  refine ⟨lastP_eq hlo, fun e => hnz (by rw [← e]; exact List.mem_cons_of_mem _ hmn), fun e => hnd.1 (by rw [← e]; exact hmn), hmn, fun hh => ?_, ?_⟩
  · have h2 := hnd.2
    rw [map_lo_hi a] at h2
    exact (List.nodup_append.mp h2).2.2 _ hm _ hh rfl
  · obtain ⟨z, hz, e⟩ := List.mem_map.mp hmn
    obtain ⟨x, hx⟩ := hc.mem z hz
    rw [e] at hx
    exact ⟨_, _, hx⟩
theorem ins_rep {R : List Nat} {B B' : Bks} {root h sp a qc : Nat} {ns : Nds} (hp : RepQ R B root h ns qc) (hs : mget B (sp : Int) = none) (hs0 : sp ≠ 0) (hm : a ∉ ns.map (·.2)) (hc : ns.length < qc)
    (gh : mget B' (h : Int) = some [2, headH (loN a ns ++ (sp, a) :: hiN a ns), ns.length + 1, qc, 0, 0, 0, 0]) (gs : mget B' (sp : Int) = some [a, headH (hiN a ns), 0, 0, 0, 0, 0, 0])
    (gl : loN a ns ≠ [] → ∃ v px, mget B (lastH (loN a ns) : Int) = some [v, px, 0, 0, 0, 0, 0, 0] ∧ mget B' (lastH (loN a ns) : Int) = some [v, sp, 0, 0, 0, 0, 0, 0])
    (gf : ∀ j : Nat, j ≠ h → j ≠ sp → (loN a ns ≠ [] → j ≠ lastH (loN a ns)) → mget B' (j : Int) = mget B (j : Int)) :
    Rep R B' root (h :: (loN a ns ++ (sp, a) :: hiN a ns).map (·.1)) (some ⟨qc, insL a (ns.map (·.2))⟩) ∧ (h :: (loN a ns ++ (sp, a) :: hiN a ns).map (·.1)).length = (h :: ns.map (·.1)).length + 1 ∧
    (∀ j : Nat, j ∉ h :: ns.map (·.1) → j ∉ h :: (loN a ns ++ (sp, a) :: hiN a ns).map (·.1) → mget B' (j : Int) = mget B (j : Int)) ∧
    (∀ j : Nat, j ∈ h :: (loN a ns ++ (sp, a) :: hiN a ns).map (·.1) → j ∉ h :: ns.map (·.1) → mget B (j : Int) = none) := by
  have hlh := (lo_hi a ns).1
  have hmap := map_lo_hi a ns
  have hnd := hp.nd
  have hnz := hp.nz
  have hspn : sp ∉ ns.map (·.1) := fun hin => by
    obtain ⟨z, hz, e⟩ := List.mem_map.mp hin
    obtain ⟨x, hx⟩ := hp.ch.mem z hz
    rw [e, hs] at hx; cases hx
  have hsph : sp ≠ h := fun e => by rw [e, hp.hb] at hs; cases hs
  have hmem : ∀ j, j ∈ h :: (loN a ns ++ (sp, a) :: hiN a ns).map (·.1) ↔ j = sp ∨ j ∈ h :: ns.map (·.1) := by
    intro j
    rw [List.mem_cons, List.map_append, List.map_cons, List.mem_append, List.mem_cons, List.mem_cons, hmap, List.mem_append]
    constructor
    · rintro (h | h | h | h)
      · exact .inr (.inl h)
      · exact .inr (.inr (.inl h))
      · exact .inl h
      · exact .inr (.inr (.inr h))
    · rintro (h | h | h | h)
      · exact .inr (.inr (.inl h))
      · exact .inl h
      · exact .inr (.inl h)
      · exact .inr (.inr (.inr h))
  have hlen : (loN a ns ++ (sp, a) :: hiN a ns).length = ns.length + 1 := by
    have := congrArg List.length hlh
    rw [List.length_append] at this ⊢
    rw [List.length_cons]
    omega
  have hnl : ∀ j, j ∈ (hiN a ns).map (·.1) → loN a ns ≠ [] → j ≠ lastH (loN a ns) := fun j hj hl e => (last_lo hp.ch hnd hnz hl).2.2.2.2.1 (by rw [← e]; exact hj)
  rw [List.nodup_cons] at hnd
  have hchi : Chn B (hiN a ns) := by
    have h2 := hp.ch
    rw [← hlh] at h2
    exact h2.right
  have hsame : ∀ x ∈ ns, (loN a ns ≠ [] → x.1 ≠ lastH (loN a ns)) → mget B' (x.1 : Int) = mget B (x.1 : Int) := fun x hx hne =>
    gf x.1 (fun e => hnd.1 (by rw [← e]; exact List.mem_map_of_mem hx)) (fun e => hspn (by rw [← e]; exact List.mem_map_of_mem hx)) hne
  have hchi' : Chn B' ((sp, a) :: hiN a ns) := ⟨gs, hchi.frame fun x hx => hsame x (hi_mem hx) (hnl x.1 (List.mem_map_of_mem hx))⟩
  have hch' : Chn B' (loN a ns ++ (sp, a) :: hiN a ns) := by
    by_cases hl : loN a ns = []
    · rw [hl]; exact hchi'
    · obtain ⟨v, px, h1, h2⟩ := gl hl
      have h3 := hp.ch
      rw [← hlh] at h3
      refine Chn.link h3 hl ?_ (fun x hx hne => hsame x (lo_mem hx) fun _ => hne) h1 h2 hchi'
      have := hnd.2
      rw [hmap] at this
      exact (List.nodup_append.mp this).1
  refine ⟨⟨h, _, rfl, ins_eq a sp ns, hp.r, by rw [hlen]; exact gh, hch', ?_, ?_, by rw [hlen]; exact hc, hp.c64, ins_rising hp.up hm⟩, ?_, ?_, ?_⟩
  · rw [List.nodup_cons]
    refine ⟨fun hin => ?_, ?_⟩
    · rcases (hmem h).mp (List.mem_cons_of_mem _ hin) with e | e
      · exact hsph e.symm
      · rw [List.map_append, List.map_cons, List.mem_append, List.mem_cons] at hin
        rcases hin with e2 | e2 | e2
        · exact hnd.1 (by rw [hmap]; exact List.mem_append_left _ e2)
        · exact hsph e2.symm
        · exact hnd.1 (by rw [hmap]; exact List.mem_append_right _ e2)
    · rw [List.map_append, List.map_cons]
      have h2 := hnd.2
      rw [hmap] at h2 hspn
      obtain ⟨n1, n2, n3⟩ := List.nodup_append.mp h2
      refine List.nodup_append.mpr ⟨n1, List.nodup_cons.mpr ⟨fun e => hspn (List.mem_append_right _ e), n2⟩, fun x hx y hy e => ?_⟩
      rcases List.mem_cons.mp hy with e2 | hy
      · have e3 : y = sp := e2
        exact hspn (List.mem_append_left _ (by rw [← e3, ← e]; exact hx))
      · exact n3 x hx y hy e
  · intro hin
    rcases (hmem 0).mp hin with e | e
    · exact hs0 e.symm
    · exact hnz e
  · rw [List.length_cons, List.length_cons, List.length_map, List.length_map, hlen]
  · intro j h1 h2
    refine gf j (fun e => h1 (by rw [e]; simp)) (fun e => h2 ((hmem j).mpr (.inl e))) (fun hl e => h1 (List.mem_cons_of_mem _ ?_))
    rw [e]; exact (last_lo hp.ch hp.nd hnz hl).2.2.2.1
  · intro j h1 h2
    rcases (hmem j).mp h1 with e | e
    · rw [e]; exact hs
    · exact absurd e h2
theorem rep_add (R : List Nat) (B : Bks) (hw : WfB B) (hBl : B.length < 64) (root arg : Nat) (hr : root < 16) (q : Qu) (own : List Nat) (hq : Rep R B root own (some q)) (hlq : q.list.length ≤ 50) : ∃ r, runQ ⟨R, B⟩ 1 root arg = some r ∧ Ran R B root own 1 arg (some q) r (runMs ⟨R, B⟩ r) := by
  rw [runQ_eq]
  obtain ⟨h, ns, e1, e2, hp⟩ := id hq
  have h0 : h ≠ 0 := fun e => hp.nz (by rw [e]; simp)
  obtain ⟨qc, ql⟩ := q
  dsimp only at e2 hp hlq
  subst e2
  rw [List.length_map] at hlq
  have hlo := loN_len arg ns
  have hol : own.length = ns.length + 1 := by rw [e1, List.length_cons, List.length_map]
  obtain ⟨b7, b8, k, hx⟩ := cx_add R B (spareM (Ms.mk R B).blocks) root arg h qc ns hr h0 hp hlq
  by_cases hm : arg ∈ ns.map (·.2)
  · have hd : doesM 1 (some ⟨qc, ns.map (·.2)⟩) arg = (some ⟨qc, ns.map (·.2)⟩, 0, 0) := if_pos hm
    cases hh : hiN arg ns with
    | nil => exact absurd hm (mem_none hh)
    | cons z zs =>
      have he : z.2 = arg := Classical.byContradiction fun hne => mem_gt hp.up hh (by have := (lo_hi arg ns).2.2.1 z zs hh; omega) hm
      rw [hh] at hx
      obtain ⟨gz, hzm, _⟩ := head_hi hp.ch hh
      have hz0 : z.1 ≠ 0 := fun e => hp.nz (by rw [← e]; exact List.mem_cons_of_mem _ (List.mem_map_of_mem hzm))
      rw [he] at gz
      exact ⟨_, hx.trans (cr_add_found R B _ root arg h _ _ b7 b8 _ k _ (by omega) hz0 gz), Ran.same hw hq (by rw [hd]) (by rw [hd]; exact ⟨rfl, rfl⟩) ⟨by dsimp only; omega, by dsimp only; omega⟩ (by dsimp only; decide)⟩
  have hy : (hiN arg ns = []) ∨ ∃ z zs, hiN arg ns = z :: zs ∧ z.1 ≠ 0 ∧ arg < z.2 ∧ mget B (z.1 : Int) = some [z.2, headH zs, 0, 0, 0, 0, 0, 0] := by
    cases hh : hiN arg ns with
    | nil => exact .inl rfl
    | cons z zs =>
      obtain ⟨gz, hzm, _⟩ := head_hi hp.ch hh
      refine .inr ⟨z, zs, rfl, fun e => hp.nz (by rw [← e]; exact List.mem_cons_of_mem _ (List.mem_map_of_mem hzm)), ?_, gz⟩
      have h3 := (lo_hi arg ns).2.2.1 z zs hh
      have hne : z.2 ≠ arg := fun e => hm (mem_found hh e)
      omega
  by_cases hf : qc ≤ ns.length
  · have hd : doesM 1 (some ⟨qc, ns.map (·.2)⟩) arg = (some ⟨qc, ns.map (·.2)⟩, 40, 2) := (if_neg hm).trans (if_pos (by dsimp only; rw [List.length_map]; exact hf))
    rcases hy with hh | ⟨z, zs, hh, hz0, hgt, gz⟩
    · rw [hh] at hx
      exact ⟨_, hx.trans (cr_add_full R B _ root arg h _ _ b7 b8 _ k _ _ _ (by omega) rfl hp.hb hf), Ran.same hw hq (by rw [hd]) (by rw [hd]; exact ⟨rfl, rfl⟩) ⟨by dsimp only; omega, by dsimp only; omega⟩ (by dsimp only; decide)⟩
    · rw [hh] at hx
      exact ⟨_, hx.trans (cr_add_full_gt R B _ root arg h _ _ b7 b8 _ k _ _ _ _ _ (by omega) hz0 gz hgt hp.hb hf), Ran.same hw hq (by rw [hd]) (by rw [hd]; exact ⟨rfl, rfl⟩) ⟨by dsimp only; omega, by dsimp only; omega⟩ (by dsimp only; decide)⟩
  have hd : doesM 1 (some ⟨qc, ns.map (·.2)⟩) arg = (some ⟨qc, insL arg (ns.map (·.2))⟩, 0, 1) := (if_neg hm).trans (if_neg (by dsimp only; rw [List.length_map]; exact hf))
  have hcl : ns.length < qc := by omega
  obtain ⟨sp, rest, e, hs, hs0, hs1⟩ := spare_some B hBl
  rw [show spareM (Ms.mk R B).blocks = sp :: rest from e] at hx ⊢
  have hsh : sp ≠ h := fun e => by rw [e, hp.hb] at hs; cases hs
  have c64 := hp.c64
  obtain ⟨w1, l1⟩ := hw.put_new (k := (sp : Int)) (x := [0, 0, 0, 0, 0, 0, 0, 0]) hs rfl
  obtain ⟨w2, l2⟩ := w1.put_old (k := (sp : Int)) (x := [arg, 0, 0, 0, 0, 0, 0, 0]) (by rw [mputN, if_pos rfl]) rfl
  obtain ⟨w3, l3⟩ := w2.put_old (k := (sp : Int)) (x := [arg, headH (hiN arg ns), 0, 0, 0, 0, 0, 0]) (by rw [mputN, if_pos rfl]) rfl
  by_cases hl0 : loN arg ns = []
  · have hp0 : lastP 0 (loN arg ns) = 0 := by rw [hl0]; rfl
    obtain ⟨w4, l4⟩ := w3.put_old (k := (h : Int)) (x := [2, sp, ns.length, qc, 0, 0, 0, 0]) (by rw [mputN, if_neg hsh, mputN, if_neg hsh, mputN, if_neg hsh]; exact hp.hb) rfl
    obtain ⟨w5, l5⟩ := w4.put_old (k := (h : Int)) (x := [2, sp, ns.length + 1, qc, 0, 0, 0, 0]) (by rw [mputN, if_pos rfl]) rfl
    have hlen := l5.trans (l4.trans (l3.trans (l2.trans l1)))
    obtain ⟨k1, k2, k3, k4⟩ := ins_rep hp hs hs0 hm hcl (B' := mput (mput (mput (mput (mput B (sp : Int) [0, 0, 0, 0, 0, 0, 0, 0]) (sp : Int) [arg, 0, 0, 0, 0, 0, 0, 0]) (sp : Int) [arg, headH (hiN arg ns), 0, 0, 0, 0, 0, 0]) (h : Int) [2, sp, ns.length, qc, 0, 0, 0, 0]) (h : Int) [2, sp, ns.length + 1, qc, 0, 0, 0, 0])
      (by rw [mputN, if_pos rfl, hl0]; rfl) (by rw [mputN, if_neg (fun e => hsh e.symm), mputN, if_neg (fun e => hsh e.symm), mputN, if_pos rfl]) (fun hne => absurd hl0 hne)
      (fun j a1 a2 _ => by rw [mputN, if_neg (fun e => a1 e.symm), mputN, if_neg (fun e => a1 e.symm), mputN, if_neg (fun e => a2 e.symm), mputN, if_neg (fun e => a2 e.symm), mputN, if_neg (fun e => a2 e.symm)])
    rw [← e1] at k2 k3 k4
    rcases hy with hh | ⟨z, zs, hh, hz0, hgt, gz⟩
    · have hrun := cr_add_first R B rest root arg h (lastP 0 (loN arg ns)) (headH (hiN arg ns)) b7 b8 _ k _ _ _ sp (by omega : 10 + 8 * (loN arg ns).length + 60 ≤ 500) (by rw [hh]; rfl) hp.hb hcl c64 hs hs0 hs1 hsh hp0
      exact ⟨_, hx.trans hrun, Ran.to hd ⟨rfl, rfl⟩ ⟨by dsimp only; omega, by dsimp only; omega⟩ (by dsimp only; decide) rfl w5 _ k1 (by show _ + own.length = _; rw [k2]; refine (congrArg (· + own.length) hlen).trans ?_; omega) k3 k4⟩
    · have hrun := cr_add_first_gt R B rest root arg h (lastP 0 (loN arg ns)) (headH (hiN arg ns)) b7 b8 _ k _ _ _ _ _ sp (by omega : 10 + 8 * (loN arg ns).length + 60 ≤ 500) (by rw [hh]; exact hz0) (by rw [hh]; exact gz) hgt hp.hb hcl c64 hs hs0 hs1 hsh hp0
      exact ⟨_, hx.trans hrun, Ran.to hd ⟨rfl, rfl⟩ ⟨by dsimp only; omega, by dsimp only; omega⟩ (by dsimp only; decide) rfl w5 _ k1 (by show _ + own.length = _; rw [k2]; refine (congrArg (· + own.length) hlen).trans ?_; omega) k3 k4⟩
  · obtain ⟨la, lb, lc, ld, le, v, px, lf⟩ := last_lo hp.ch hp.nd hp.nz hl0
    rw [la] at hx
    have hspl : sp ≠ lastH (loN arg ns) := fun e => by rw [e, lf] at hs; cases hs
    obtain ⟨w4, l4⟩ := w3.put_old (k := (lastH (loN arg ns) : Int)) (x := [v, sp, 0, 0, 0, 0, 0, 0]) (by rw [mputN, if_neg hspl, mputN, if_neg hspl, mputN, if_neg hspl]; exact lf) rfl
    obtain ⟨w5, l5⟩ := w4.put_old (k := (h : Int)) (x := [2, headH ns, ns.length + 1, qc, 0, 0, 0, 0]) (by rw [mputN, if_neg lc, mputN, if_neg hsh, mputN, if_neg hsh, mputN, if_neg hsh]; exact hp.hb) rfl
    have hlen := l5.trans (l4.trans (l3.trans (l2.trans l1)))
    have hhd : headH (loN arg ns ++ (sp, arg) :: hiN arg ns) = headH ns := by
      have hlh := (lo_hi arg ns).1
      cases hl : loN arg ns with
      | nil => exact absurd hl hl0
      | cons x xs => rw [hl] at hlh; rw [← hlh]; rfl
    obtain ⟨k1, k2, k3, k4⟩ := ins_rep hp hs hs0 hm hcl (B' := mput (mput (mput (mput (mput B (sp : Int) [0, 0, 0, 0, 0, 0, 0, 0]) (sp : Int) [arg, 0, 0, 0, 0, 0, 0, 0]) (sp : Int) [arg, headH (hiN arg ns), 0, 0, 0, 0, 0, 0]) (lastH (loN arg ns) : Int) [v, sp, 0, 0, 0, 0, 0, 0]) (h : Int) [2, headH ns, ns.length + 1, qc, 0, 0, 0, 0])
      (by rw [mputN, if_pos rfl, hhd]) (by rw [mputN, if_neg (fun e => hsh e.symm), mputN, if_neg (fun e => hspl e.symm), mputN, if_pos rfl]) (fun _ => ⟨v, px, lf, by rw [mputN, if_neg (fun e => lc e.symm), mputN, if_pos rfl]⟩)
      (fun j a1 a2 a3 => by rw [mputN, if_neg (fun e => a1 e.symm), mputN, if_neg (fun e => a3 hl0 e.symm), mputN, if_neg (fun e => a2 e.symm), mputN, if_neg (fun e => a2 e.symm), mputN, if_neg (fun e => a2 e.symm)])
    rw [← e1] at k2 k3 k4
    rcases hy with hh | ⟨z, zs, hh, hz0, hgt, gz⟩
    · have hrun := cr_add_more R B rest root arg h (lastH (loN arg ns)) (headH (hiN arg ns)) b7 b8 _ k _ _ _ sp v px (by omega : 10 + 8 * (loN arg ns).length + 60 ≤ 500) (by rw [hh]; rfl) hp.hb hcl c64 hs hs0 hs1 hsh lb lc hspl lf
      exact ⟨_, hx.trans hrun, Ran.to hd ⟨rfl, rfl⟩ ⟨by dsimp only; omega, by dsimp only; omega⟩ (by dsimp only; decide) rfl w5 _ k1 (by show _ + own.length = _; rw [k2]; refine (congrArg (· + own.length) hlen).trans ?_; omega) k3 k4⟩
    · have hrun := cr_add_more_gt R B rest root arg h (lastH (loN arg ns)) (headH (hiN arg ns)) b7 b8 _ k _ _ _ _ _ sp v px (by omega : 10 + 8 * (loN arg ns).length + 60 ≤ 500) (by rw [hh]; exact hz0) (by rw [hh]; exact gz) hgt hp.hb hcl c64 hs hs0 hs1 hsh lb lc hspl lf
      exact ⟨_, hx.trans hrun, Ran.to hd ⟨rfl, rfl⟩ ⟨by dsimp only; omega, by dsimp only; omega⟩ (by dsimp only; decide) rfl w5 _ k1 (by show _ + own.length = _; rw [k2]; refine (congrArg (· + own.length) hlen).trans ?_; omega) k3 k4⟩
theorem del_rep {R : List Nat} {B B' : Bks} {root h a qc : Nat} {ns : Nds} {z : Nat × Nat} {zs : Nds} (hp : RepQ R B root h ns qc) (hh : hiN a ns = z :: zs) (he : z.2 = a)
    (gh : mget B' (h : Int) = some [2, headH (loN a ns ++ zs), ns.length - 1, qc, 0, 0, 0, 0])
    (gl : loN a ns ≠ [] → ∃ v px, mget B (lastH (loN a ns) : Int) = some [v, px, 0, 0, 0, 0, 0, 0] ∧ mget B' (lastH (loN a ns) : Int) = some [v, headH zs, 0, 0, 0, 0, 0, 0])
    (gf : ∀ j : Nat, j ≠ h → j ≠ z.1 → (loN a ns ≠ [] → j ≠ lastH (loN a ns)) → mget B' (j : Int) = mget B (j : Int)) :
    Rep R B' root (h :: (loN a ns ++ zs).map (·.1)) (some ⟨qc, delL a (ns.map (·.2))⟩) ∧ (h :: (loN a ns ++ zs).map (·.1)).length + 1 = (h :: ns.map (·.1)).length ∧
    (∀ j : Nat, j ∉ h :: ns.map (·.1) → j ∉ h :: (loN a ns ++ zs).map (·.1) → mget B' (j : Int) = mget B (j : Int)) ∧
    (∀ j : Nat, j ∈ h :: (loN a ns ++ zs).map (·.1) → j ∉ h :: ns.map (·.1) → mget B (j : Int) = none) := by
  have hlh := (lo_hi a ns).1
  rw [hh] at hlh
  have hmap : ns.map (·.1) = (loN a ns).map (·.1) ++ z.1 :: zs.map (·.1) := by rw [← List.map_cons, ← List.map_append, hlh]
  have hmap2 : (loN a ns ++ zs).map (·.1) = (loN a ns).map (·.1) ++ zs.map (·.1) := List.map_append
  have hnd := hp.nd
  have hnz := hp.nz
  have hsub : ∀ j, j ∈ h :: (loN a ns ++ zs).map (·.1) → j ∈ h :: ns.map (·.1) := by
    intro j
    rw [List.mem_cons, hmap2, List.mem_append, List.mem_cons, hmap, List.mem_append, List.mem_cons]
    rintro (h | h | h)
    · exact .inl h
    · exact .inr (.inl h)
    · exact .inr (.inr (.inr h))
  have hlen : (loN a ns ++ zs).length + 1 = ns.length := by
    have := congrArg List.length hlh
    rw [List.length_append, List.length_cons] at this
    rw [List.length_append]
    omega
  have hlast := fun hl => last_lo (a := a) hp.ch hnd hnz hl
  rw [List.nodup_cons] at hnd
  obtain ⟨hnh, hn2⟩ := hnd
  rw [hmap] at hn2 hnh
  obtain ⟨n1, n2, n3⟩ := List.nodup_append.mp hn2
  rw [List.nodup_cons] at n2
  have hch0 := hp.ch
  rw [← hlh] at hch0
  have hsame : ∀ x ∈ loN a ns ++ zs, (loN a ns ≠ [] → x.1 ≠ lastH (loN a ns)) → mget B' (x.1 : Int) = mget B (x.1 : Int) := fun x hx hne => by
    have hm1 : x.1 ∈ (loN a ns).map (·.1) ++ zs.map (·.1) := by rw [← hmap2]; exact List.mem_map_of_mem hx
    refine gf x.1 (fun e => hnh ?_) (fun e => ?_) hne
    · rw [← e]
      rcases List.mem_append.mp hm1 with h | h
      · exact List.mem_append_left _ h
      · exact List.mem_append_right _ (List.mem_cons_of_mem _ h)
    · rw [e] at hm1
      rcases List.mem_append.mp hm1 with h | h
      · exact n3 _ h _ (by simp) rfl
      · exact n2.1 h
  have hchz : Chn B' zs := by
    refine (hch0.right (hi := z :: zs)).2.frame fun x hx => hsame x (List.mem_append_right _ hx) fun hl e => ?_
    refine (hlast hl).2.2.2.2.1 ?_
    rw [← e, hh]
    exact List.mem_map_of_mem (List.mem_cons_of_mem _ hx)
  have hch' : Chn B' (loN a ns ++ zs) := by
    by_cases hl : loN a ns = []
    · rw [hl]; exact hchz
    · obtain ⟨v, px, h1, h2⟩ := gl hl
      exact Chn.link hch0 hl n1 (fun x hx hne => hsame x (List.mem_append_left _ hx) fun _ => hne) h1 h2 hchz
  have hup : Rising (loN a ns ++ zs) := by
    have h1 := hp.up
    rw [← hlh] at h1
    exact h1.sublist (List.Sublist.append_left (List.sublist_cons_self ..) _)
  refine ⟨⟨h, _, rfl, del_eq hp.up hh he, hp.r, by rw [show (loN a ns ++ zs).length = ns.length - 1 by omega]; exact gh, hch', ?_, fun hin => hnz (hsub 0 hin), by have := hp.lc; show (loN a ns ++ zs).length ≤ qc; omega, hp.c64, hup⟩, ?_, ?_, fun j h1 h2 => absurd (hsub j h1) h2⟩
  · rw [List.nodup_cons, hmap2]
    refine ⟨fun hin => hnh ?_, List.nodup_append.mpr ⟨n1, n2.2, fun x hx y hy => n3 x hx y (List.mem_cons_of_mem _ hy)⟩⟩
    rcases List.mem_append.mp hin with h | h
    · exact List.mem_append_left _ h
    · exact List.mem_append_right _ (List.mem_cons_of_mem _ h)
  · rw [List.length_cons, List.length_cons, List.length_map, List.length_map]
    omega
  · intro j h1 _
    refine gf j (fun e => h1 (by rw [e]; simp)) (fun e => h1 (List.mem_cons_of_mem _ ?_)) (fun hl e => h1 (List.mem_cons_of_mem _ ?_))
    · rw [e, hmap]; simp
    · rw [e]; exact (hlast hl).2.2.2.1
theorem rep_del (R : List Nat) (B : Bks) (hw : WfB B) (root arg : Nat) (hr : root < 16) (q : Qu) (own : List Nat) (hq : Rep R B root own (some q)) (hlq : q.list.length ≤ 50) : ∃ r, runQ ⟨R, B⟩ 2 root arg = some r ∧ Ran R B root own 2 arg (some q) r (runMs ⟨R, B⟩ r) := by
  rw [runQ_eq]
  obtain ⟨h, ns, e1, e2, hp⟩ := id hq
  have h0 : h ≠ 0 := fun e => hp.nz (by rw [e]; simp)
  obtain ⟨qc, ql⟩ := q
  dsimp only at e2 hp hlq
  subst e2
  rw [List.length_map] at hlq
  have hlo := loN_len arg ns
  have hol : own.length = ns.length + 1 := by rw [e1, List.length_cons, List.length_map]
  obtain ⟨b7, b8, k, hx⟩ := cx_del R B (spareM (Ms.mk R B).blocks) root arg h qc ns hr h0 hp hlq
  cases hh : hiN arg ns with
  | nil =>
    have hd : doesM 2 (some ⟨qc, ns.map (·.2)⟩) arg = (some ⟨qc, ns.map (·.2)⟩, 0, 0) := if_neg (mem_none hh)
    rw [hh] at hx
    exact ⟨_, hx.trans (cr_del_absent R B _ root arg h _ _ b7 b8 _ k (by omega) rfl), Ran.same hw hq (by rw [hd]) (by rw [hd]; exact ⟨rfl, rfl⟩) ⟨by dsimp only; omega, by dsimp only; omega⟩ (by dsimp only; decide)⟩
  | cons z zs =>
    obtain ⟨gz, hzm, _⟩ := head_hi hp.ch hh
    have hz0 : z.1 ≠ 0 := fun e => hp.nz (by rw [← e]; exact List.mem_cons_of_mem _ (List.mem_map_of_mem hzm))
    have hnd := hp.nd
    rw [List.nodup_cons] at hnd
    have hzh : z.1 ≠ h := fun e => hnd.1 (by rw [← e]; exact List.mem_map_of_mem hzm)
    by_cases he : z.2 = arg
    · have hd : doesM 2 (some ⟨qc, ns.map (·.2)⟩) arg = (some ⟨qc, delL arg (ns.map (·.2))⟩, 0, 1) := if_pos (mem_found hh he)
      rw [hh] at hx
      rw [he] at gz
      have hn1 : 1 ≤ ns.length := by
        cases ns with
        | nil => cases hzm
        | cons _ _ => simp
      by_cases hl0 : loN arg ns = []
      · have hp0 : lastP 0 (loN arg ns) = 0 := by rw [hl0]; rfl
        obtain ⟨w1, l1⟩ := hw.put_old (k := (h : Int)) (x := [2, headH zs, ns.length, qc, 0, 0, 0, 0]) hp.hb rfl
        obtain ⟨w2, l2⟩ := w1.del (k := (z.1 : Int)) (by rw [mputN, if_neg (fun e => hzh e.symm)]; exact gz)
        obtain ⟨w3, l3⟩ := w2.put_old (k := (h : Int)) (x := [2, headH zs, ns.length - 1, qc, 0, 0, 0, 0]) (by rw [mdelN _ hzh, mputN, if_pos rfl]) rfl
        obtain ⟨k1, k2, k3, k4⟩ := del_rep hp hh he (B' := mput (mdel (mput B (h : Int) [2, headH zs, ns.length, qc, 0, 0, 0, 0]) (z.1 : Int)) (h : Int) [2, headH zs, ns.length - 1, qc, 0, 0, 0, 0])
          (by rw [mputN, if_pos rfl, hl0]; rfl) (fun hne => absurd hl0 hne) (fun j a1 a2 _ => by rw [mputN, if_neg (fun e => a1 e.symm), mdelN _ (fun e => a2 e.symm), mputN, if_neg (fun e => a1 e.symm)])
        rw [← e1] at k2 k3 k4
        have hrun := cr_del_first R B (spareM (Ms.mk R B).blocks) root arg h (lastP 0 (loN arg ns)) z.1 b7 b8 _ k _ _ _ _ (by omega : 10 + 8 * (loN arg ns).length + 60 ≤ 500) hz0 gz hp.hb hn1 (by omega) hzh hp0
        refine ⟨_, hx.trans hrun, Ran.to hd ⟨rfl, rfl⟩ ⟨by dsimp only; omega, by dsimp only; omega⟩ (by dsimp only; decide) rfl w3 _ k1 ?_ k3 k4⟩
        show (mput _ _ _).length + own.length = _
        refine (congrArg (· + own.length) l3).trans ?_
        omega
      · obtain ⟨la, lb, lc, ld, le, v, px, lf⟩ := last_lo hp.ch hp.nd hp.nz hl0
        rw [la] at hx
        have hzl : z.1 ≠ lastH (loN arg ns) := fun e => le (by rw [← e, hh]; simp)
        obtain ⟨w1, l1⟩ := hw.put_old (k := (lastH (loN arg ns) : Int)) (x := [v, headH zs, 0, 0, 0, 0, 0, 0]) lf rfl
        obtain ⟨w2, l2⟩ := w1.del (k := (z.1 : Int)) (by rw [mputN, if_neg (fun e => hzl e.symm)]; exact gz)
        obtain ⟨w3, l3⟩ := w2.put_old (k := (h : Int)) (x := [2, headH ns, ns.length - 1, qc, 0, 0, 0, 0]) (by rw [mdelN _ hzh, mputN, if_neg lc]; exact hp.hb) rfl
        have hhd : headH (loN arg ns ++ zs) = headH ns := by
          have hlh := (lo_hi arg ns).1
          cases hl : loN arg ns with
          | nil => exact absurd hl hl0
          | cons x xs => rw [hl] at hlh; rw [← hlh]; rfl
        obtain ⟨k1, k2, k3, k4⟩ := del_rep hp hh he (B' := mput (mdel (mput B (lastH (loN arg ns) : Int) [v, headH zs, 0, 0, 0, 0, 0, 0]) (z.1 : Int)) (h : Int) [2, headH ns, ns.length - 1, qc, 0, 0, 0, 0])
          (by rw [mputN, if_pos rfl, hhd]) (fun _ => ⟨v, px, lf, by rw [mputN, if_neg (fun e => lc e.symm), mdelN _ hzl, mputN, if_pos rfl]⟩) (fun j a1 a2 a3 => by rw [mputN, if_neg (fun e => a1 e.symm), mdelN _ (fun e => a2 e.symm), mputN, if_neg (fun e => a3 hl0 e.symm)])
        rw [← e1] at k2 k3 k4
        have hrun := cr_del_more R B (spareM (Ms.mk R B).blocks) root arg h (lastH (loN arg ns)) z.1 b7 b8 _ k _ _ _ _ v px (by omega : 10 + 8 * (loN arg ns).length + 60 ≤ 500) hz0 gz hp.hb hn1 (by omega) hzh lb lc hzl lf
        refine ⟨_, hx.trans hrun, Ran.to hd ⟨rfl, rfl⟩ ⟨by dsimp only; omega, by dsimp only; omega⟩ (by dsimp only; decide) rfl w3 _ k1 ?_ k3 k4⟩
        show (mput _ _ _).length + own.length = _
        refine (congrArg (· + own.length) l3).trans ?_
        omega
    · have hgt : arg < z.2 := by have := (lo_hi arg ns).2.2.1 z zs hh; omega
      have hd : doesM 2 (some ⟨qc, ns.map (·.2)⟩) arg = (some ⟨qc, ns.map (·.2)⟩, 0, 0) := if_neg (mem_gt hp.up hh hgt)
      rw [hh] at hx
      exact ⟨_, hx.trans (cr_del_absent_gt R B _ root arg h _ _ b7 b8 _ k _ _ (by omega) hz0 gz hgt), Ran.same hw hq (by rw [hd]) (by rw [hd]; exact ⟨rfl, rfl⟩) ⟨by dsimp only; omega, by dsimp only; omega⟩ (by dsimp only; decide)⟩
theorem rep_run (R : List Nat) (B : Bks) (hw : WfB B) (hRl : R.length = 16) (hBl : B.length < 64) (k root arg : Nat) (hk : k < 7) (hr : root < 16) (ha : arg < 18446744073709551616) (q : Option Qu) (own : List Nat) (hq : Rep R B root own q) (hlq : ∀ x, q = some x → x.list.length ≤ 50) :
    ∃ r, runQ ⟨R, B⟩ k root arg = some r ∧ Ran R B root own k arg q r (runMs ⟨R, B⟩ r) := by
  cases q with
  | none =>
    obtain ⟨h1, rfl⟩ := hq
    by_cases h0 : k = 0
    · subst h0; exact rep_new_none R B hw hRl hBl root arg hr ha h1
    · exact rep_none R B hw root arg hr h1 k (by omega) (by omega)
  | some x =>
    have hl := hlq x rfl
    rcases (by omega : k = 0 ∨ k = 1 ∨ k = 2 ∨ k = 3 ∨ k = 4 ∨ k = 5 ∨ k = 6) with rfl | rfl | rfl | rfl | rfl | rfl | rfl
    · exact rep_new_some R B hw root arg hr x own hq
    · exact rep_add R B hw hBl root arg hr x own hq hl
    · exact rep_del R B hw root arg hr x own hq hl
    · exact rep_has R B hw root arg hr x own hq hl
    · exact rep_least R B hw root arg hr x own hq
    · exact rep_size R B hw root arg hr x own hq
    · exact rep_drop R B hw hRl root arg hr x own hq
end Go.Proofs.YtalgmlhcbilicaaGreatDoor
