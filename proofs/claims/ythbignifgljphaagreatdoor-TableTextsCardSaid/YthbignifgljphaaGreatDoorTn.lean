/-
  A map's programs: what del comes to; all six at once.
-/
import Derived.Test.YthbignifgljphaaGreatDoorTq
namespace Go.Proofs.YthbignifgljphaaGreatDoor
set_option maxRecDepth 100000
set_option maxHeartbeats 2000000 in
theorem rep_del (R : List Nat) (B : Bks) (hw : WfB B) (root key val own : Nat) (s : Nat × Nat × Nat) (hr : root < 16) (t : Tb) (hq : Rep R B root own s (some t)) (h60 : own ≤ 62) : ∃ r, runQ ⟨R, B⟩ 3 root key val = some r ∧ Ran R B root own s 3 key val (some t) r (runMs ⟨R, B⟩ r) := by
  obtain ⟨S, hp, e1, e2, e3, e4, e5⟩ := id hq
  obtain ⟨ow1, ow2⟩ := hp.own
  rcases hs : sel S key with ⟨b, i⟩
  obtain ⟨i8, hb, hrk⟩ := sel_ok hp key
  rw [hs] at i8 hb hrk
  dsimp only at i8 hb hrk
  obtain ⟨a4, a7, a8, a9, n, pc, hn, hpc, hgo⟩ := find_del hp hr (spareM (Ms.mk R B).blocks) [] key val hs
  rw [if_neg (by decide)] at hpc
  subst hpc
  obtain ⟨f1, f2, f3, f4, f5, f6, f7⟩ := row_facts hp b i8
  obtain ⟨b1, b2, b3⟩ := hp.base
  have hlo := loK_len key (row S.rw b i)
  have hil : i < (S.rw b).length := by rw [hp.l8]; exact i8
  have hrl : (row S.rw b i).length ≤ (nodes S.rw).length := by
    have := f1.length_eq
    rw [List.length_append] at this
    omega
  have hchr := hp.ch b _ (row_mem hp i8)
  have hzr : 0 ∉ (row S.rw b i).map (·.1) := fun hm => by
    obtain ⟨z, hz, e⟩ := List.mem_map.mp hm
    exact (f3 z hz).1 e
  obtain ⟨c7, c8, c9, hsk⟩ := seek_del R B (spareM (Ms.mk R B).blocks) [] root key val S.h (S.hk b) i a4 0 (row S.rw b i) a7 a8 a9 0 (0 + n) hchr hzr (by omega)
  have hhb : S.hk b ≠ S.h := by
    cases b
    · exact b1
    · exact (b2 hb).1
  have hbm : S.hk b ∈ baseH S := by
    unfold baseH
    cases b
    · simp
    · rw [if_neg hb]; simp
  have hhm : S.h ∈ baseH S := by unfold baseH; simp
  have c64 := hp.c64
  have lc := hp.lc
  cases hh : hiK key (row S.rw b i) with
  | nil =>
    have hm := (look_none hp e3 hs hh).1
    have hd : doesM 3 (some t) key val = (some t, 0, 0) := by unfold doesM; simp [hm]
    have hend := t_del_absent R B (spareM (Ms.mk R B).blocks) [] root key val (0 + n + 8 * (loK key (row S.rw b i)).length) 0 S.h (S.hk b) i a4 (headH (hiK key (row S.rw b i))) c7 c8 c9 (lastP 0 (loK key (row S.rw b i))) (by rw [hh]; rfl) (by omega)
    exact ⟨_, REnd.q ((hgo.trans hsk).fin hend) (by omega), Ran.same hw hq hd (.inl (by decide)) ⟨rfl, rfl⟩ ⟨by dsimp only; omega, by dsimp only; omega⟩ (by dsimp only; omega)⟩
  | cons z zs =>
    obtain ⟨hm, hz, hzn, gz, hz0, hrow⟩ := look_some hp e3 e4 i8 hh
    rw [hh] at hsk
    have hd : doesM 3 (some t) key val = (some ⟨t.cap, withoutP key t.pairs⟩, 0, 1) := by unfold doesM; simp [hm]
    have hzm : z ∈ row S.rw b i := by rw [hrow]; simp
    have hzx := f3 z hzm
    have hzb : ∀ j, j ∈ baseH S → j ≠ z.1 := fun j hj e => hzx.2.1 (by rw [← e]; exact hj)
    generalize hlo' : loK key (row S.rw b i) = lo at *
    have hperm1 : (nodes S.rw).Perm (z :: (lo ++ zs ++ nodes (updR S.rw b i []))) := by
      refine f1.trans ?_
      rw [hrow]
      exact (List.perm_middle.append_right _).trans (List.Perm.refl _)
    have hperm2 : (nodes (updR S.rw b i (lo ++ zs))).Perm (lo ++ zs ++ nodes (updR S.rw b i [])) := f5 _
    have hlen : (nodes (updR S.rw b i (lo ++ zs))).length + 1 = (nodes S.rw).length := by rw [hperm1.length_eq, hperm2.length_eq]; rfl
    have hlen' : (nodes S.rw).length - 1 = (nodes (updR S.rw b i (lo ++ zs))).length := by omega
    have hnd2 := f2
    rw [hrow, List.map_append, List.map_cons] at hnd2
    obtain ⟨m1, m2, m3⟩ := List.nodup_append.mp hnd2
    rw [List.nodup_cons] at m2
    have hsub : ∀ x ∈ lo ++ zs, x ∈ row S.rw b i := fun x hx => by
      rw [hrow]
      rcases List.mem_append.mp hx with hx | hx
      · exact List.mem_append_left _ hx
      · exact List.mem_append_right _ (List.mem_cons_of_mem _ hx)
    have hxz : ∀ x ∈ lo ++ zs, x.1 ≠ z.1 := fun x hx e => by
      rcases List.mem_append.mp hx with hx | hx
      · exact m3 _ (List.mem_map_of_mem hx) _ (by simp) e
      · exact m2.1 (by rw [← e]; exact List.mem_map_of_mem hx)
    have hcnd : ((lo ++ zs).map (·.1)).Nodup := by
      refine hnd2.sublist ?_
      rw [List.map_append]
      exact (List.sublist_cons_self _ _).append_left _
    have hpl : t.pairs.Perm ((key, z.2.2) :: (lo ++ zs ++ nodes (updR S.rw b i [])).map (·.2)) := by
      refine e3.trans ((hperm1.map _).trans ?_)
      rw [List.map_cons, ← hz]
    obtain ⟨hpw, _⟩ := pairs_found e4 hpl
    have hpw' : (withoutP key t.pairs).Perm ((nodes (updR S.rw b i (lo ++ zs))).map (·.2)) := hpw.trans ((hperm2.map (·.2)).symm)
    have hownl : (hands ({ S with rw := updR S.rw b i (lo ++ zs) } : TabS)).length + 1 = (hands S).length := by
      unfold hands
      rw [List.length_append, List.length_append, List.length_map, List.length_map]
      show _ + (nodes (updR S.rw b i (lo ++ zs))).length + 1 = _
      rw [← hlen]; rfl
    -- what any heap like this is
    have key1 : ∀ B' : Bks, mget B' (S.h : Int) = some [3, S.hk false, S.n, S.hk true, S.od, S.at_, (nodes S.rw).length - 1, S.cap] → mget B' (S.hk b : Int) = some (((S.rw b).set i (lo ++ zs)).map headH) → Chn B' (lo ++ zs) →
        (∀ j : Nat, j ∈ hands S → j ≠ S.h → j ≠ S.hk b → j ∉ (row S.rw b i).map (·.1) → mget B' (j : Int) = mget B (j : Int)) → RepT R B' root { S with rw := updR S.rw b i (lo ++ zs) } := by
      intro B' g1 g2 g3 g4
      refine hp.set b i8 hb (lo ++ zs) (by rw [g1, hlen']) g2 g3 g4 hcnd (fun x hx => f3 x (hsub x hx)) (fun x hx => f4 x (hsub x hx)) (by omega)
    by_cases hl0 : lo = []
    · subst hl0
      have hhr : headH (row S.rw b i) = z.1 := by rw [hrow]; rfl
      have hend := t_del_first R B (spareM (Ms.mk R B).blocks) [] root key val (0 + n + 8 * ([] : Nds).length) 0 S.h (S.hk b) i a4 z.1 c7 c8 c9 (lastP 0 []) (S.hk false) S.n (S.hk true) S.od S.at_ _ S.cap (headH zs) z.2.2 _ hz0 gz hp.hb (by omega) (by omega) (fun e => hzb _ hhm e.symm) i8 rfl (hp.gk b hb) hhb (hzb _ hbm) (by show 0 + n + 8 * 0 + 13 ≤ 1500; omega) (by decide)
      obtain ⟨w1, l1⟩ := hw.put_old (k := (S.hk b : Int)) (x := ((S.rw b).map headH).set i (headH zs)) (hp.gk b hb) (by rw [List.length_set, List.length_map]; exact hp.l8 b)
      obtain ⟨w2, l2⟩ := w1.del (k := (z.1 : Int)) (by rw [mputN, if_neg (hzb _ hbm)]; exact gz)
      obtain ⟨w3, l3⟩ := w2.put_old (k := (S.h : Int)) (x := [3, S.hk false, S.n, S.hk true, S.od, S.at_, (nodes S.rw).length - 1, S.cap]) (by rw [mdelN _ (fun e => hzb _ hhm e.symm), mputN, if_neg hhb]; exact hp.hb) rfl
      have hfr : ∀ j : Nat, j ≠ S.h → j ≠ S.hk b → j ≠ z.1 → mget (mput (mdel (mput B (S.hk b : Int) (((S.rw b).map headH).set i (headH zs))) (z.1 : Int)) (S.h : Int) [3, S.hk false, S.n, S.hk true, S.od, S.at_, (nodes S.rw).length - 1, S.cap]) (j : Int) = mget B (j : Int) := fun j q1 q2 q3 => by
        rw [mputN, if_neg (fun e => q1 e.symm), mdelN _ (fun e => q3 e.symm), mputN, if_neg (fun e => q2 e.symm)]
      have hS := key1 _ (by rw [mputN, if_pos rfl]) (by rw [mputN, if_neg (fun e => hhb e.symm), mdelN _ (fun e => hzb _ hbm e.symm), mputN, if_pos rfl, map_set_head]; rfl)
        (by
          have hc2 : Chn B (z :: zs) := by rw [hrow] at hchr; exact hchr
          exact hc2.2.frame fun x hx => hfr x.1 (fun e => (f3 x (hsub x hx)).2.1 (by rw [e]; exact hhm)) (fun e => (f3 x (hsub x hx)).2.1 (by rw [e]; exact hbm)) (hxz x hx))
        (fun j _ h2 h3 h4 => hfr j h2 h3 (fun e => h4 (by rw [e]; exact List.mem_map_of_mem hzm)))
      exact ⟨_, REnd.q ((hgo.trans hsk).fin hend) (by show 14 + (8 * 0 + n) ≤ 1501; omega), Ran.to hd (if_neg (fun h => absurd h.1 (by decide))) ⟨rfl, rfl⟩ ⟨by show (1 : Int) ≤ ((0 + n + 8 * 0 + 13 : Nat) : Int); omega, by show ((0 + n + 8 * 0 + 13 : Nat) : Int) < _; omega⟩ (by dsimp only; omega) rfl w3 _ ⟨_, hS, rfl, e2, hpw', withoutP_sort e4, e5⟩ (by show (mput _ _ _).length + own = B.length + _; omega)⟩
    · have hlm := lastP_mem (ns := lo) (p := 0) hl0
      obtain ⟨p, hpm, ep⟩ := List.mem_map.mp hlm
      have hpr : p ∈ row S.rw b i := by rw [hrow]; exact List.mem_append_left _ hpm
      obtain ⟨px, gp⟩ := hchr.mem p hpr
      rw [ep] at gp
      have hp0 : lastP 0 lo ≠ 0 := by rw [← ep]; exact (f3 p hpr).1
      have hpb : ∀ j, j ∈ baseH S → lastP 0 lo ≠ j := fun j hj e => (f3 p hpr).2.1 (by rw [ep, e]; exact hj)
      have hpz : lastP 0 lo ≠ z.1 := by rw [← ep]; exact hxz p (List.mem_append_left _ hpm)
      have hend := t_del_more R B (spareM (Ms.mk R B).blocks) [] root key val (0 + n + 8 * lo.length) 0 S.h (S.hk b) i a4 z.1 c7 c8 c9 (lastP 0 lo) (S.hk false) S.n (S.hk true) S.od S.at_ _ S.cap (headH zs) z.2.2 p.2.1 px p.2.2 hz0 gz hp.hb (by omega) (by omega) (fun e => hzb _ hhm e.symm) i8 hp0 gp (hpb _ hhm) hpz (by omega) (by decide)
      obtain ⟨w1, l1⟩ := hw.put_old (k := (lastP 0 lo : Int)) (x := [p.2.1, headH zs, p.2.2, 0, 0, 0, 0, 0]) gp rfl
      obtain ⟨w2, l2⟩ := w1.del (k := (z.1 : Int)) (by rw [mputN, if_neg hpz]; exact gz)
      obtain ⟨w3, l3⟩ := w2.put_old (k := (S.h : Int)) (x := [3, S.hk false, S.n, S.hk true, S.od, S.at_, (nodes S.rw).length - 1, S.cap]) (by rw [mdelN _ (fun e => hzb _ hhm e.symm), mputN, if_neg (hpb _ hhm)]; exact hp.hb) rfl
      have hfr : ∀ j : Nat, j ≠ S.h → j ≠ lastP 0 lo → j ≠ z.1 → mget (mput (mdel (mput B (lastP 0 lo : Int) [p.2.1, headH zs, p.2.2, 0, 0, 0, 0, 0]) (z.1 : Int)) (S.h : Int) [3, S.hk false, S.n, S.hk true, S.od, S.at_, (nodes S.rw).length - 1, S.cap]) (j : Int) = mget B (j : Int) := fun j q1 q2 q3 => by
        rw [mputN, if_neg (fun e => q1 e.symm), mdelN _ (fun e => q3 e.symm), mputN, if_neg (fun e => q2 e.symm)]
      have hS := key1 _ (by rw [mputN, if_pos rfl])
        (by
          rw [map_same hil (by rw [hrow]; exact head_app hl0 _ _), hfr _ hhb (fun e => hpb _ hbm e.symm) (hzb _ hbm)]
          exact hp.gk b hb)
        (by
          have hc3 := hchr
          rw [hrow] at hc3
          have hxh : ∀ x ∈ lo ++ zs, x.1 ≠ S.h := fun x hx e => (f3 x (hsub x hx)).2.1 (by rw [e]; exact hhm)
          refine Chn.link (p0 := 0) hc3 hl0 m1 (fun x hx hne => hfr x.1 (hxh x (List.mem_append_left _ hx)) hne (hxz x (List.mem_append_left _ hx))) (fun k x v hg => ?_) (hc3.right.2.frame fun x hx => hfr x.1 (hxh x (List.mem_append_right _ hx)) (fun e => ?_) (hxz x (List.mem_append_right _ hx)))
          · rw [gp] at hg
            injection hg with hg
            injection hg with g1 hg
            injection hg with _ hg
            injection hg with g3 _
            rw [mputN, if_neg (fun e => hpb _ hhm e.symm), mdelN _ (fun e => hpz e.symm), mputN, if_pos rfl, g1, g3]
          · exact m3 _ hlm _ (List.mem_cons_of_mem _ (by rw [← e]; exact List.mem_map_of_mem hx)) rfl)
        (fun j _ h2 _ h4 => hfr j h2 (fun e => h4 (by rw [e, ← ep]; exact List.mem_map_of_mem hpr)) (fun e => h4 (by rw [e]; exact List.mem_map_of_mem hzm)))
      exact ⟨_, REnd.q ((hgo.trans hsk).fin hend) (by omega), Ran.to hd (if_neg (fun h => absurd h.1 (by decide))) ⟨rfl, rfl⟩ ⟨by dsimp only; omega, by dsimp only; omega⟩ (by dsimp only; omega) rfl w3 _ ⟨_, hS, rfl, e2, hpw', withoutP_sort e4, e5⟩ (by show (mput _ _ _).length + own = B.length + _; omega)⟩
theorem rep_run (R : List Nat) (B : Bks) (hw : WfB B) (hRl : R.length = 16) (hBl : B.length < 63) (root key val own : Nat) (s : Nat × Nat × Nat) (hr : root < 16) (hk : key < 18446744073709551616) (x : Option Tb) (hq : Rep R B root own s x) (h60 : own ≤ 62) (k : Nat) (h6 : k < 6) : ∃ r, runQ ⟨R, B⟩ k root key val = some r ∧ Ran R B root own s k key val x r (runMs ⟨R, B⟩ r) := by
  cases x with
  | none =>
    obtain rfl : own = 0 := hq.2.1
    rcases (by omega : k = 0 ∨ 1 ≤ k) with rfl | h1
    · exact rep_new_none R B hw hRl hBl root key val s hr hk hq
    · exact rep_none R B hw root key val s hr hq k h1 (by omega)
  | some t =>
    rcases (by omega : k = 0 ∨ k = 1 ∨ k = 2 ∨ k = 3 ∨ k = 4 ∨ k = 5) with rfl | rfl | rfl | rfl | rfl | rfl
    · exact rep_new_some R B hw root key val own s hr t hq
    · exact rep_put R B hw hBl root key val own s hr t hq h60
    · exact rep_get R B hw root key val own s hr t hq h60
    · exact rep_del R B hw root key val own s hr t hq h60
    · exact rep_size R B hw root key val own s hr t hq
    · exact rep_drop R B hw hRl root key val own s hr t hq
end Go.Proofs.YthbignifgljphaaGreatDoor
