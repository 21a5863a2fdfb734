/-
  A map's programs: what put and del come to; all six at once.
-/
import Derived.Test.YtphheopbngdhhaaGreatDoorTp
namespace Go.Proofs.YtphheopbngdhhaaGreatDoor
set_option maxRecDepth 100000
theorem RepT.live {R : List Nat} {B : Bks} {root : Nat} {S : TabS} (hp : RepT R B root S) {j : Nat} (h : j ∈ hands S) : ∃ y, mget B (j : Int) = some y := by
  unfold hands baseH at h
  rcases List.mem_append.mp h with h | h
  · rcases List.mem_cons.mp h with rfl | h
    · exact ⟨_, hp.hb⟩
    · rcases List.mem_cons.mp h with rfl | h
      · exact ⟨_, hp.gk false hp.hn0⟩
      · by_cases h0 : S.hk true = 0
        · rw [if_pos h0] at h; cases h
        · rw [if_neg h0] at h
          obtain rfl : j = S.hk true := by simpa using h
          exact ⟨_, hp.gk true h0⟩
  · obtain ⟨x, hx, rfl⟩ := List.mem_map.mp h
    obtain ⟨b, i, c, hc, hxc⟩ := mem_nodes.mp hx
    obtain ⟨y, hy⟩ := (hp.ch b c (List.mem_iff_getElem?.mpr ⟨i, hc⟩)).mem x hxc
    exact ⟨_, hy⟩
theorem pairs_found {l Q : Prs} {key v : Nat} (hs : SortP l) (hp : l.Perm ((key, v) :: Q)) : (withoutP key l).Perm Q ∧ ∀ val, (withP key val l).Perm ((key, val) :: Q) := by
  have hn := (hp.map (·.1)).nodup_iff.mp hs.nodup
  rw [List.map_cons, List.nodup_cons] at hn
  have h1 : (withoutP key l).Perm Q := by
    have h2 : (withoutP key l).Perm (withoutP key ((key, v) :: Q)) := hp.filter _
    have h3 : withoutP key ((key, v) :: Q) = Q := by
      show List.filter _ _ = _
      rw [List.filter_cons_of_neg (by simp)]
      exact withoutP_self hn.1
    rw [h3] at h2
    exact h2
  exact ⟨h1, fun val => (withP_perm key val l).trans (h1.cons _)⟩
theorem pairs_new {l Q : Prs} {key : Nat} (hm : key ∉ l.map (·.1)) (hp : l.Perm Q) (val : Nat) : (withP key val l).Perm ((key, val) :: Q) := by
  have := withP_perm key val l
  rw [withoutP_self hm] at this
  exact this.trans (hp.cons _)
theorem REnd.q2 {m : Ms} {k root key val : Nat} {r : Rm × Bool} {n : Nat} {P : List Nat} (e : spareM m.blocks = P) (h : REnd (qcd k) (rT [root, key, val, 0] [0, 0, 0, 0, 0, 0, 0, 0, 0, 0, 0, 0, 0, 0, 0, 0] 0 0 0 m.roots m.blocks P []) r n) (hn : n ≤ 1501) : runQ m k root key val = some r := by
  rw [runQ_eq, e]
  exact h.run hn
/-- of a row -/
theorem row_facts {R : List Nat} {B : Bks} {root : Nat} {S : TabS} (hp : RepT R B root S) (b : Bool) {i : Nat} (i8 : i < 8) :
    (nodes S.rw).Perm (row S.rw b i ++ nodes (updR S.rw b i [])) ∧ ((row S.rw b i).map (·.1)).Nodup ∧ (∀ x ∈ row S.rw b i, x.1 ≠ 0 ∧ x.1 ∉ baseH S ∧ x.1 ∉ (nodes (updR S.rw b i [])).map (·.1)) ∧ (∀ x ∈ row S.rw b i, rowOk S b i x.2.1) ∧ (∀ c, (nodes (updR S.rw b i c)).Perm (c ++ nodes (updR S.rw b i []))) ∧
    (∀ j, j ∈ (nodes (updR S.rw b i [])).map (·.1) → j ∈ hands S) ∧ (∀ j, j ∈ baseH S → j ∈ hands S) := by
  obtain ⟨p1, p2, p3⟩ := hp.parts b i8
  obtain ⟨n1, n2, n3⟩ := List.nodup_append.mp p2
  obtain ⟨n4, n5, n6⟩ := List.nodup_append.mp n2
  refine ⟨p1, n4, fun x hx => ?_, fun x hx => hp.ok b i _ (row_get (by rw [hp.l8]; exact i8)) x hx, fun c => nodes_updR S.rw b (by rw [hp.l8]; exact i8) c, fun j hj => ?_, fun j hj => List.mem_append_left _ hj⟩
  · have hm := List.mem_map_of_mem (f := (·.1)) hx
    exact ⟨fun e => p3 (List.mem_append_right _ (List.mem_append_left _ (by rw [← e]; exact hm))), fun h => n3 _ h _ (List.mem_append_left _ hm) rfl, fun h => n6 _ hm _ h rfl⟩
  · refine List.mem_append_right _ ((p1.map (·.1)).mem_iff.mpr ?_)
    rw [List.map_append]
    exact List.mem_append_right _ hj
theorem Chn.upd1 {B B' : Bks} {z : Nd} {zs : Nds} {k v : Nat} : ∀ {lo : Nds}, Chn B (lo ++ z :: zs) → (∀ x ∈ lo ++ zs, mget B' (x.1 : Int) = mget B (x.1 : Int)) → mget B' (z.1 : Int) = some [k, headH zs, v, 0, 0, 0, 0, 0] → Chn B' (lo ++ (z.1, k, v) :: zs)
  | [], h, hf, hz => ⟨hz, h.2.frame fun x hx => hf x hx⟩
  | [y], h, hf, hz => ⟨by rw [hf y (by simp)]; exact h.1, Chn.upd1 (lo := []) h.2 (fun x hx => hf x (by simp at hx; simp [hx])) hz⟩
  | y :: y2 :: l, h, hf, hz => ⟨by rw [hf y (by simp)]; exact h.1, Chn.upd1 (lo := y2 :: l) h.2 (fun x hx => hf x (List.mem_cons_of_mem _ hx)) hz⟩
theorem map_same {f : Bool → List Nds} {b : Bool} {i : Nat} (hi : i < (f b).length) {c : Nds} (hc : headH c = headH (row f b i)) : ((f b).set i c).map headH = (f b).map headH := by
  rw [map_set_head, hc, ← map_set_head]
  congr 1
  exact set_getD hi
theorem head_app {lo : Nds} (h : lo ≠ []) (a c : Nds) : headH (lo ++ a) = headH (lo ++ c) := by
  cases lo with
  | nil => exact absurd rfl h
  | cons x xs => rfl
set_option maxHeartbeats 2000000 in
theorem rep_put (R : List Nat) (B : Bks) (hw : WfB B) (hBl : B.length < 63) (root key val own : Nat) (s : Nat × Nat × Nat) (hr : root < 16) (t : Tb) (hq : Rep R B root own s (some t)) (h60 : own ≤ 62) : ∃ r, runQ ⟨R, B⟩ 1 root key val = some r ∧ Ran R B root own s 1 key val (some t) r (runMs ⟨R, B⟩ r) := by
  obtain ⟨S0, hp0, e1, e2, e3, e4, e5⟩ := id hq
  obtain ⟨ow1, ow2⟩ := hp0.own
  obtain ⟨sp, sq, rest, espare, hs, hs0, hs1, ht, ht0, ht1, hne⟩ := spare_two B hw hBl
  obtain ⟨B1, S, a2, a3, a4, a5, a6, a7, a8, a9, st, dw, n0, hgo, hn0, hst, hdw, w1, hp, en, eo, ec, pm, lB, lh, hnone⟩ := put_mid hw hp0 hr (spareM (Ms.mk R B).blocks) [] key val (by omega)
  obtain ⟨b1, b2, b3⟩ := hp.base
  rcases hsl : sel S key with ⟨b, i⟩
  obtain ⟨i8, hb, hrk⟩ := sel_ok hp key
  rw [hsl] at i8 hb hrk
  dsimp only at i8 hb hrk
  obtain ⟨d4, d7, d8, d9, n1, hn1, hgo1⟩ := find_put hp (spareM (Ms.mk R B).blocks) [] key val a2 a3 a4 a5 a6 a7 a8 a9 st dw hsl (by omega)
  obtain ⟨f1, f2, f3, f4, f5, f6, f7⟩ := row_facts hp b i8
  have hlo := loK_len key (row S.rw b i)
  have hnl : (nodes S.rw).length = (nodes S0.rw).length := pm.length_eq
  have hrl : (row S.rw b i).length ≤ (nodes S.rw).length := by
    have := f1.length_eq
    rw [List.length_append] at this
    omega
  have hil : i < (S.rw b).length := by rw [hp.l8]; exact i8
  have hchr := hp.ch b _ (row_mem hp i8)
  have hzr : 0 ∉ (row S.rw b i).map (·.1) := fun hm => by
    obtain ⟨z, hz, e⟩ := List.mem_map.mp hm
    exact (f3 z hz).1 e
  obtain ⟨c7, c8, c9, hsk⟩ := seek_put R B1 (spareM (Ms.mk R B).blocks) [] root key val S.h (S.hk b) i d4 dw (row S.rw b i) d7 d8 d9 (st + n1) hchr hzr (by omega)
  have e3' : t.pairs.Perm ((nodes S.rw).map (·.2)) := e3.trans (pm.symm.map _)
  have hlp : t.pairs.length = (nodes S.rw).length := by rw [e3'.length_eq, List.length_map]
  have hhb : S.hk b ≠ S.h := by
    cases b
    · exact b1
    · exact (b2 hb).1
  have hbm : S.hk b ∈ baseH S := by
    unfold baseH
    cases b
    · simp
    · rw [if_neg hb]; simp
  have hhm : S.h ∈ baseH S := by unfold baseH; simp
  cases hh : hiK key (row S.rw b i) with
  | cons z zs =>
    obtain ⟨hm, hz, hzn, gz, hz0, hrow⟩ := look_some hp e3' e4 i8 hh
    rw [hh] at hsk
    have hd : doesM 1 (some t) key val = (some ⟨t.cap, withP key val t.pairs⟩, 0, 1) := by unfold doesM; simp [hm]
    have hend := t_put_found R B1 (spareM (Ms.mk R B).blocks) [] root key val (st + n1 + 7 * (loK key (row S.rw b i)).length) dw S.h (S.hk b) i d4 z.1 c7 c8 c9 _ _ hz0 gz (by omega) (by omega)
    obtain ⟨w2, l2⟩ := w1.put_old (k := (z.1 : Int)) (x := [key, headH zs, val, 0, 0, 0, 0, 0]) gz rfl
    have hzm : z ∈ row S.rw b i := by rw [hrow]; simp
    have hzx := f3 z hzm
    have hzb : ∀ j, j ∈ baseH S → z.1 ≠ j := fun j hj e => hzx.2.1 (by rw [e]; exact hj)
    generalize hlo' : loK key (row S.rw b i) = lo at *
    have hperm1 : (nodes S.rw).Perm (z :: (lo ++ zs ++ nodes (updR S.rw b i []))) := by
      refine f1.trans ?_
      rw [hrow]
      exact (List.perm_middle.append_right _).trans (List.Perm.refl _)
    have hperm2 : (nodes (updR S.rw b i (lo ++ (z.1, key, val) :: zs))).Perm ((z.1, key, val) :: (lo ++ zs ++ nodes (updR S.rw b i []))) :=
      (f5 _).trans ((List.perm_middle.append_right _).trans (List.Perm.refl _))
    have hlen : (nodes (updR S.rw b i (lo ++ (z.1, key, val) :: zs))).length = (nodes S.rw).length := by rw [hperm1.length_eq, hperm2.length_eq]; rfl
    have hnd2 := f2
    rw [hrow, List.map_append, List.map_cons] at hnd2
    have hmapc : (lo ++ (z.1, key, val) :: zs).map (·.1) = (row S.rw b i).map (·.1) := by rw [hrow, List.map_append, List.map_append, List.map_cons, List.map_cons]
    have hS : RepT R (mput B1 (z.1 : Int) [key, headH zs, val, 0, 0, 0, 0, 0]) root { S with rw := updR S.rw b i (lo ++ (z.1, key, val) :: zs) } := by
      refine hp.set b i8 hb (lo ++ (z.1, key, val) :: zs) ?_ ?_ ?_ ?_ ?_ ?_ ?_ ?_
      · rw [mputN, if_neg (hzb _ hhm), hlen]; exact hp.hb
      · rw [mputN, if_neg (hzb _ hbm), map_same hil (by rw [hrow]; cases lo <;> rfl)]; exact hp.gk b hb
      · refine Chn.upd1 (by rw [← hrow]; exact hchr) (fun x hx => ?_) (by rw [mputN, if_pos rfl])
        rw [mputN, if_neg ?_]
        intro e
        obtain ⟨_, q2, q3⟩ := List.nodup_append.mp hnd2
        rcases List.mem_append.mp hx with hx | hx
        · exact q3 _ (List.mem_map_of_mem hx) _ (by simp) e.symm
        · rw [List.nodup_cons] at q2
          exact q2.1 (by rw [e]; exact List.mem_map_of_mem hx)
      · intro j _ _ _ hj
        rw [mputN, if_neg (fun e => hj (by rw [← e]; exact List.mem_map_of_mem hzm))]
      · rw [hmapc]; exact f2
      · intro x hx
        have hx' : x.1 ∈ (row S.rw b i).map (·.1) := by rw [← hmapc]; exact List.mem_map_of_mem hx
        obtain ⟨y, hy, ey⟩ := List.mem_map.mp hx'
        rw [← ey]; exact f3 y hy
      · intro x hx
        rcases List.mem_append.mp hx with hx | hx
        · exact f4 x (by rw [hrow]; exact List.mem_append_left _ hx)
        · rcases List.mem_cons.mp hx with rfl | hx
          · exact hrk
          · exact f4 x (by rw [hrow]; simp [hx])
      · rw [hlen]; exact hp.lc
    have hpl : t.pairs.Perm ((key, z.2.2) :: (lo ++ zs ++ nodes (updR S.rw b i [])).map (·.2)) := by
      refine e3'.trans ((hperm1.map _).trans ?_)
      rw [List.map_cons, ← hz]
    obtain ⟨_, hpw⟩ := pairs_found e4 hpl
    have hownl : (hands ({ S with rw := updR S.rw b i (lo ++ (z.1, key, val) :: zs) } : TabS)).length = (hands S).length := by
      unfold hands
      rw [List.length_append, List.length_append, List.length_map, List.length_map]
      show _ + (nodes (updR S.rw b i (lo ++ (z.1, key, val) :: zs))).length = _
      rw [hlen]; rfl
    refine ⟨_, REnd.q (((hgo.trans hgo1).trans hsk).fin hend) (by omega), Ran.to (s' := (S.n, S.od, S.at_)) hd ?_ ⟨rfl, rfl⟩ ⟨by dsimp only; omega, by dsimp only; omega⟩ (by dsimp only; omega) rfl w2 _ ⟨_, hS, rfl, by rw [ec]; exact e2, ?_, withP_sort e4, rfl⟩ ?_⟩
    · rw [if_pos ⟨rfl, rfl⟩]
      have hwl : (withP key val t.pairs).length = t.pairs.length := by rw [(hpw val).length_eq, hpl.length_eq]; rfl
      unfold growM pairsO
      dsimp only
      rw [hwl, if_neg (fun h => by have := of_decide_eq_true h.1; omega), e5]
      dsimp only
      rw [← eo, en]
    · refine (hpw val).trans ?_
      exact ((hperm2.map (·.2)).trans (List.Perm.refl _)).symm
    · show (mput _ _ _).length + own = B.length + _
      rw [hownl, l2, e1]
      exact lB
  | nil =>
    obtain ⟨hm, hkm⟩ := look_none hp e3' hsl hh
    rw [hh] at hsk
    by_cases hfull : (nodes S.rw).length < S.cap
    · have hd : doesM 1 (some t) key val = (some ⟨t.cap, withP key val t.pairs⟩, 0, 0) := by
        unfold doesM; simp [hm]; omega
      have hsB := hnone sp hs
      have htB := hnone sq ht
      have hsH : sp ∉ hands S := fun h => by obtain ⟨y, hy⟩ := hp.live h; rw [hsB] at hy; cases hy
      have hsb : ∀ j, j ∈ baseH S → sp ≠ j := fun j hj e => hsH (by rw [e]; exact f7 j hj)
      have hadd := t_put_add R B1 (sq :: rest) [] root key val (st + n1 + 7 * (loK key (row S.rw b i)).length) dw S.h (S.hk b) i d4 0 c7 c8 c9 (S.hk false) S.n (S.hk true) S.od S.at_ (nodes S.rw).length S.cap sp ((S.rw b).map headH) rfl hp.hb hfull hp.c64 i8 (hp.gk b hb) hhb hsB hs0 hs1 (hsb _ hhm) (hsb _ hbm) (by omega) (by omega)
      rw [head_row hil] at hadd
      rw [show spareM (Ms.mk R B).blocks = sp :: sq :: rest from espare] at hgo hgo1 hsk
      have hgo2 := ((hgo.trans hgo1).trans hsk).trans hadd
      clear hgo hgo1 hsk hadd
      obtain ⟨w2, l2⟩ := w1.put_new (k := (sp : Int)) (x := [0, 0, 0, 0, 0, 0, 0, 0]) hsB rfl
      obtain ⟨w3, l3⟩ := w2.put_old (k := (sp : Int)) (x := [key, 0, 0, 0, 0, 0, 0, 0]) (by rw [mputN, if_pos rfl]) rfl
      obtain ⟨w4, l4⟩ := w3.put_old (k := (sp : Int)) (x := [key, headH (row S.rw b i), 0, 0, 0, 0, 0, 0]) (by rw [mputN, if_pos rfl]) rfl
      obtain ⟨w5, l5⟩ := w4.put_old (k := (sp : Int)) (x := [key, headH (row S.rw b i), val, 0, 0, 0, 0, 0]) (by rw [mputN, if_pos rfl]) rfl
      obtain ⟨w6, l6⟩ := w5.put_old (k := (S.hk b : Int)) (x := ((S.rw b).map headH).set i sp) (by rw [mputN, if_neg (hsb _ hbm), mputN, if_neg (hsb _ hbm), mputN, if_neg (hsb _ hbm), mputN, if_neg (hsb _ hbm)]; exact hp.gk b hb) (by rw [List.length_set, List.length_map]; exact hp.l8 b)
      obtain ⟨w7, l7⟩ := w6.put_old (k := (S.h : Int)) (x := [3, S.hk false, S.n, S.hk true, S.od, S.at_, (nodes S.rw).length + 1, S.cap]) (by rw [mputN, if_neg hhb, mputN, if_neg (hsb _ hhm), mputN, if_neg (hsb _ hhm), mputN, if_neg (hsb _ hhm), mputN, if_neg (hsb _ hhm)]; exact hp.hb) rfl
      have hfr : ∀ j : Nat, j ≠ sp → j ≠ S.h → j ≠ S.hk b → mget (mput (mput (mput (mput (mput (mput B1 (sp : Int) [0, 0, 0, 0, 0, 0, 0, 0]) (sp : Int) [key, 0, 0, 0, 0, 0, 0, 0]) (sp : Int) [key, headH (row S.rw b i), 0, 0, 0, 0, 0, 0]) (sp : Int) [key, headH (row S.rw b i), val, 0, 0, 0, 0, 0]) (S.hk b : Int) (((S.rw b).map headH).set i sp)) (S.h : Int) [3, S.hk false, S.n, S.hk true, S.od, S.at_, (nodes S.rw).length + 1, S.cap]) (j : Int) = mget B1 (j : Int) := fun j q1 q2 q3 => by
        rw [mputN, if_neg (fun e => q2 e.symm), mputN, if_neg (fun e => q3 e.symm), mputN, if_neg (fun e => q1 e.symm), mputN, if_neg (fun e => q1 e.symm), mputN, if_neg (fun e => q1 e.symm), mputN, if_neg (fun e => q1 e.symm)]
      have gsp : mget (mput (mput (mput (mput (mput (mput B1 (sp : Int) [0, 0, 0, 0, 0, 0, 0, 0]) (sp : Int) [key, 0, 0, 0, 0, 0, 0, 0]) (sp : Int) [key, headH (row S.rw b i), 0, 0, 0, 0, 0, 0]) (sp : Int) [key, headH (row S.rw b i), val, 0, 0, 0, 0, 0]) (S.hk b : Int) (((S.rw b).map headH).set i sp)) (S.h : Int) [3, S.hk false, S.n, S.hk true, S.od, S.at_, (nodes S.rw).length + 1, S.cap]) (sp : Int) = some [key, headH (row S.rw b i), val, 0, 0, 0, 0, 0] := by
        rw [mputN, if_neg (fun e => hsb _ hhm e.symm), mputN, if_neg (fun e => hsb _ hbm e.symm), mputN, if_pos rfl]
      have gbk : mget (mput (mput (mput (mput (mput (mput B1 (sp : Int) [0, 0, 0, 0, 0, 0, 0, 0]) (sp : Int) [key, 0, 0, 0, 0, 0, 0, 0]) (sp : Int) [key, headH (row S.rw b i), 0, 0, 0, 0, 0, 0]) (sp : Int) [key, headH (row S.rw b i), val, 0, 0, 0, 0, 0]) (S.hk b : Int) (((S.rw b).map headH).set i sp)) (S.h : Int) [3, S.hk false, S.n, S.hk true, S.od, S.at_, (nodes S.rw).length + 1, S.cap]) (S.hk b : Int) = some (((S.rw b).map headH).set i sp) := by
        rw [mputN, if_neg (fun e => hhb e.symm), mputN, if_pos rfl]
      have gh : mget (mput (mput (mput (mput (mput (mput B1 (sp : Int) [0, 0, 0, 0, 0, 0, 0, 0]) (sp : Int) [key, 0, 0, 0, 0, 0, 0, 0]) (sp : Int) [key, headH (row S.rw b i), 0, 0, 0, 0, 0, 0]) (sp : Int) [key, headH (row S.rw b i), val, 0, 0, 0, 0, 0]) (S.hk b : Int) (((S.rw b).map headH).set i sp)) (S.h : Int) [3, S.hk false, S.n, S.hk true, S.od, S.at_, (nodes S.rw).length + 1, S.cap]) (S.h : Int) = some [3, S.hk false, S.n, S.hk true, S.od, S.at_, (nodes S.rw).length + 1, S.cap] := by
        rw [mputN, if_pos rfl]
      have hB2l := l7.trans (l6.trans (l5.trans (l4.trans (l3.trans l2))))
      generalize mput (mput (mput (mput (mput (mput B1 (sp : Int) [0, 0, 0, 0, 0, 0, 0, 0]) (sp : Int) [key, 0, 0, 0, 0, 0, 0, 0]) (sp : Int) [key, headH (row S.rw b i), 0, 0, 0, 0, 0, 0]) (sp : Int) [key, headH (row S.rw b i), val, 0, 0, 0, 0, 0]) (S.hk b : Int) (((S.rw b).map headH).set i sp)) (S.h : Int) [3, S.hk false, S.n, S.hk true, S.od, S.at_, (nodes S.rw).length + 1, S.cap] = B2 at *
      have hperm2 : (nodes (updR S.rw b i ((sp, key, val) :: row S.rw b i))).Perm ((sp, key, val) :: nodes S.rw) := by
        refine (f5 _).trans ?_
        rw [List.cons_append]
        exact (f1.symm).cons _
      have hlen : (nodes (updR S.rw b i ((sp, key, val) :: row S.rw b i))).length = (nodes S.rw).length + 1 := by rw [hperm2.length_eq]; rfl
      have hS : RepT R B2 root { S with rw := updR S.rw b i ((sp, key, val) :: row S.rw b i) } := by
        refine hp.set b i8 hb ((sp, key, val) :: row S.rw b i) ?_ ?_ ⟨gsp, ?_⟩ ?_ ?_ ?_ ?_ ?_
        · rw [gh, hlen]
        · rw [gbk, map_set_head]; rfl
        · refine hchr.frame fun x hx => ?_
          have hx3 := f3 x hx
          refine hfr x.1 (fun e => hsH ?_) (fun e => hx3.2.1 (by rw [e]; exact hhm)) (fun e => hx3.2.1 (by rw [e]; exact hbm))
          rw [← e]
          exact List.mem_append_right _ (List.mem_map_of_mem (row_nodes hil hx))
        · intro j h1 h2 h3 _
          exact hfr j (fun e => hsH (by rw [← e]; exact h1)) h2 h3
        · rw [List.map_cons, List.nodup_cons]
          refine ⟨fun hm => ?_, f2⟩
          obtain ⟨x, hx, ex⟩ := List.mem_map.mp hm
          exact hsH (by show sp ∈ _; rw [← (show x.1 = sp from ex)]; exact List.mem_append_right _ (List.mem_map_of_mem (row_nodes hil hx)))
        · intro x hx
          rcases List.mem_cons.mp hx with rfl | hx
          · exact ⟨hs0, fun h => hsH (f7 _ h), fun h => hsH (f6 _ h)⟩
          · exact f3 x hx
        · intro x hx
          rcases List.mem_cons.mp hx with rfl | hx
          · exact hrk
          · exact f4 x hx
        · rw [hlen]; exact hfull
      have hpw : (withP key val t.pairs).Perm ((nodes (updR S.rw b i ((sp, key, val) :: row S.rw b i))).map (·.2)) := by
        refine (pairs_new hkm e3' val).trans ?_
        exact (hperm2.map (·.2)).symm
      have hwl : (withP key val t.pairs).length = (nodes S.rw).length + 1 := by rw [hpw.length_eq, List.length_map, hlen]
      have hownl : (hands ({ S with rw := updR S.rw b i ((sp, key, val) :: row S.rw b i) } : TabS)).length = (hands S).length + 1 := by
        unfold hands
        rw [List.length_append, List.length_append, List.length_map, List.length_map]
        show _ + (nodes (updR S.rw b i ((sp, key, val) :: row S.rw b i))).length = _
        rw [hlen]; rfl
      have hstg : ∀ s', growM (S.n, S0.od, S0.at_) true ((nodes S.rw).length + 1) = s' → (if (1 : Nat) = 1 ∧ (0 : Int) = 0 then growM s (decide ((pairsO (some t)).length < (Tb.mk t.cap (withP key val t.pairs)).pairs.length)) (Tb.mk t.cap (withP key val t.pairs)).pairs.length else s) = s' := by
        intro s' h
        rw [if_pos ⟨rfl, rfl⟩, e5, ← en]
        show growM _ (decide (t.pairs.length < (withP key val t.pairs).length)) (withP key val t.pairs).length = s'
        rw [hwl, hlp, decide_eq_true (by omega)]
        exact h
      have hown' := lB
      by_cases h0 : S.hk true = 0
      · have hod : S.od = 0 ∧ S.at_ = 0 ∧ (S.n = 2 ∨ S.n = 4 ∨ S.n = 8) := by
          rcases hp.st with ⟨_, q2, q3, q4⟩ | ⟨q1, _⟩
          · exact ⟨q2, q3, q4⟩
          · exact absurd h0 q1
        obtain ⟨o1, o2, o3⟩ := hod
        have hms : mvStage S0.od S0.at_ = (0, 0) := by rw [← eo, o1, o2]
        by_cases hn8 : S.n < 8
        · by_cases hfew : S.n + S.n < (nodes S.rw).length + 1
          · have hqB : mget B2 (sq : Int) = none := by
              rw [hfr sq (fun e => hne e.symm) (fun e => by rw [e, hp.hb] at htB; cases htB) (fun e => by rw [e, hp.gk b hb] at htB; cases htB)]
              exact htB
            have hqH : sq ∉ hands ({ S with rw := updR S.rw b i ((sp, key, val) :: row S.rw b i) } : TabS) := fun h => by obtain ⟨y, hy⟩ := hS.live h; rw [hqB] at hy; cases hy
            have hqh : sq ≠ S.h := fun e => hqH (by rw [e]; show S.h ∈ hands _; unfold hands baseH; simp)
            have hqn : sq ≠ S.hk false := fun e => hqH (by rw [e]; show S.hk false ∈ hands _; unfold hands baseH; simp)
            have hend := t_grow_yes R B2 rest ([] ++ [sp]) root key val (st + n1 + 7 * (loK key (row S.rw b i)).length + 15) (dw + 14) S.h key (S.hk b) d4 i sp 1 c9 (S.hk false) S.n (S.hk true) S.od S.at_ ((nodes S.rw).length + 1) S.cap sq gh h0 hn8 hfew hqB ht0 ht1 hqh (by omega) (by omega)
            obtain ⟨w8, l8⟩ := w7.put_new (k := (sq : Int)) (x := [0, 0, 0, 0, 0, 0, 0, 0]) hqB rfl
            obtain ⟨w9, l9⟩ := w8.put_old (k := (S.h : Int)) (x := [3, S.hk false, S.n, S.hk false, S.od, S.at_, (nodes S.rw).length + 1, S.cap]) (by rw [mputN, if_neg hqh]; exact gh) rfl
            obtain ⟨w10, l10⟩ := w9.put_old (k := (S.h : Int)) (x := [3, S.hk false, S.n, S.hk false, S.n, S.at_, (nodes S.rw).length + 1, S.cap]) (by rw [mputN, if_pos rfl]) rfl
            obtain ⟨w11, l11⟩ := w10.put_old (k := (S.h : Int)) (x := [3, S.hk false, S.n, S.hk false, S.n, 0, (nodes S.rw).length + 1, S.cap]) (by rw [mputN, if_pos rfl]) rfl
            obtain ⟨w12, l12⟩ := w11.put_old (k := (S.h : Int)) (x := [3, sq, S.n, S.hk false, S.n, 0, (nodes S.rw).length + 1, S.cap]) (by rw [mputN, if_pos rfl]) rfl
            obtain ⟨w13, l13⟩ := w12.put_old (k := (S.h : Int)) (x := [3, sq, S.n + S.n, S.hk false, S.n, 0, (nodes S.rw).length + 1, S.cap]) (by rw [mputN, if_pos rfl]) rfl
            have hE : ((updR S.rw b i ((sp, key, val) :: row S.rw b i)) true).flatten = [] := by
              refine List.eq_nil_iff_forall_not_mem.mpr fun x hx => ?_
              obtain ⟨c, hc, hxc⟩ := List.mem_flatten.mp hx
              obtain ⟨j, hj⟩ := List.mem_iff_getElem?.mp hc
              exact (hS.ok true j c hj x hxc).1 h0
            have hnn : nodes (fun b' => if b' then (updR S.rw b i ((sp, key, val) :: row S.rw b i)) false else empties) = nodes (updR S.rw b i ((sp, key, val) :: row S.rw b i)) := by
              show empties.flatten ++ ((updR S.rw b i ((sp, key, val) :: row S.rw b i)) false).flatten = ((updR S.rw b i ((sp, key, val) :: row S.rw b i)) false).flatten ++ ((updR S.rw b i ((sp, key, val) :: row S.rw b i)) true).flatten
              rw [hE, List.append_nil]; rfl
            generalize hrw : updR S.rw b i ((sp, key, val) :: row S.rw b i) = rw' at *
            have hfin : ∀ j : Nat, j ≠ S.h → j ≠ sq → mget (mput (mput (mput (mput (mput (mput B2 (sq : Int) [0, 0, 0, 0, 0, 0, 0, 0]) (S.h : Int) [3, S.hk false, S.n, S.hk false, S.od, S.at_, (nodes S.rw).length + 1, S.cap]) (S.h : Int) [3, S.hk false, S.n, S.hk false, S.n, S.at_, (nodes S.rw).length + 1, S.cap]) (S.h : Int) [3, S.hk false, S.n, S.hk false, S.n, 0, (nodes S.rw).length + 1, S.cap]) (S.h : Int) [3, sq, S.n, S.hk false, S.n, 0, (nodes S.rw).length + 1, S.cap]) (S.h : Int) [3, sq, S.n + S.n, S.hk false, S.n, 0, (nodes S.rw).length + 1, S.cap]) (j : Int) = mget B2 (j : Int) := fun j q1 q2 => by
              rw [mputN, if_neg (fun e => q1 e.symm), mputN, if_neg (fun e => q1 e.symm), mputN, if_neg (fun e => q1 e.symm), mputN, if_neg (fun e => q1 e.symm), mputN, if_neg (fun e => q1 e.symm), mputN, if_neg (fun e => q2 e.symm)]
            have hbaseS : baseH ({ S with rw := rw' } : TabS) = [S.h, S.hk false] := by show baseH S = _; unfold baseH; rw [if_pos h0]
            have hhd : hands ({ S with n := S.n + S.n, od := S.n, at_ := 0, hk := fun b' => if b' then S.hk false else sq, rw := fun b' => if b' then rw' false else empties } : TabS) = S.h :: sq :: S.hk false :: (nodes rw').map (·.1) := by
              unfold hands baseH
              show S.h :: sq :: (if S.hk false = 0 then [] else [S.hk false]) ++ (nodes (fun b' => if b' then rw' false else empties)).map (·.1) = _
              rw [hnn, if_neg hp.hn0]; rfl
            have hnd := hS.nd
            have hnz := hS.nz
            unfold hands at hnd hnz hqH
            rw [hbaseS] at hnd hnz hqH
            change (S.h :: S.hk false :: (nodes rw').map (·.1)).Nodup at hnd
            change sq ∉ S.h :: S.hk false :: (nodes rw').map (·.1) at hqH
            have hS4 : RepT R (mput (mput (mput (mput (mput (mput B2 (sq : Int) [0, 0, 0, 0, 0, 0, 0, 0]) (S.h : Int) [3, S.hk false, S.n, S.hk false, S.od, S.at_, (nodes S.rw).length + 1, S.cap]) (S.h : Int) [3, S.hk false, S.n, S.hk false, S.n, S.at_, (nodes S.rw).length + 1, S.cap]) (S.h : Int) [3, S.hk false, S.n, S.hk false, S.n, 0, (nodes S.rw).length + 1, S.cap]) (S.h : Int) [3, sq, S.n, S.hk false, S.n, 0, (nodes S.rw).length + 1, S.cap]) (S.h : Int) [3, sq, S.n + S.n, S.hk false, S.n, 0, (nodes S.rw).length + 1, S.cap]) root
                { S with n := S.n + S.n, od := S.n, at_ := 0, hk := fun b' => if b' then S.hk false else sq, rw := fun b' => if b' then rw' false else empties } := by
              refine ⟨hp.r, ?_, fun b' hb' => ?_, fun b' => ?_, fun b' c hc => ?_, fun b' j c hj x hx => ?_, .inr ⟨hp.hn0, by show S.n = 2 ∨ S.n = 4; omega, rfl, by show 0 < S.n; omega⟩, ?_, ?_, hp.c64, by show (nodes (fun b' => if b' then rw' false else empties)).length ≤ S.cap; rw [hnn, hlen]; exact hfull⟩
              · show _ = some [3, sq, S.n + S.n, S.hk false, S.n, 0, (nodes (fun b' => if b' then rw' false else empties)).length, S.cap]
                rw [mputN, if_pos rfl, hnn, hlen]
              · cases b'
                · show mget _ (sq : Int) = some (empties.map headH)
                  rw [mputN, if_neg (fun e => hqh e.symm), mputN, if_neg (fun e => hqh e.symm), mputN, if_neg (fun e => hqh e.symm), mputN, if_neg (fun e => hqh e.symm), mputN, if_neg (fun e => hqh e.symm), mputN, if_pos rfl]; rfl
                · show mget _ (S.hk false : Int) = some ((rw' false).map headH)
                  rw [hfin _ b1 (fun e => hqn e.symm)]
                  exact hS.gk false hp.hn0
              · cases b'
                · rfl
                · exact hS.l8 false
              · cases b'
                · have hc' : c ∈ empties := hc
                  have : c = [] := by simpa [empties] using hc'
                  subst this; trivial
                · have hc' : c ∈ rw' false := hc
                  refine (hS.ch false c hc').frame fun z hz => ?_
                  obtain ⟨j, hj⟩ := List.mem_iff_getElem?.mp hc'
                  have hzm : z ∈ nodes rw' := mem_nodes.mpr ⟨false, j, c, hj, hz⟩
                  exact hfin z.1 (hS.base.2.2 z hzm).2.1 (fun e => hqH (by rw [← e]; exact List.mem_cons_of_mem _ (List.mem_cons_of_mem _ (List.mem_map_of_mem hzm))))
              · cases b'
                · have hc' : c ∈ empties := List.mem_iff_getElem?.mpr ⟨j, hj⟩
                  have : c = [] := by simpa [empties] using hc'
                  subst this; cases hx
                · obtain ⟨q1, _⟩ := hS.ok false j c hj x hx
                  exact ⟨hp.hn0, q1, Nat.zero_le _⟩
              · rw [hhd]
                rw [List.nodup_cons] at hnd
                refine List.nodup_cons.mpr ⟨fun h => ?_, List.nodup_cons.mpr ⟨fun h => hqH (List.mem_cons_of_mem _ h), hnd.2⟩⟩
                rcases List.mem_cons.mp h with e | h
                · exact hqh e.symm
                · exact hnd.1 h
              · rw [hhd]
                intro h
                rcases List.mem_cons.mp h with e | h
                · exact hp.h0 e.symm
                · rcases List.mem_cons.mp h with e | h
                  · exact ht0 e.symm
                  · exact hnz (by show 0 ∈ S.h :: S.hk false :: (nodes rw').map (·.1); exact List.mem_cons_of_mem _ h)
            have hh4 : (S.h :: sq :: S.hk false :: (nodes rw').map (·.1)).length = (hands S).length + 2 := by
              have h6 : (hands S).length = (nodes S.rw).length + 2 := by
                unfold hands baseH
                rw [if_pos h0, List.length_append, List.length_map]
                show 2 + _ = _
                omega
              rw [h6, List.length_cons, List.length_cons, List.length_cons, List.length_map, hlen]
            refine ⟨_, REnd.q2 (m := ⟨R, B⟩) (k := 1) espare (hgo2.fin hend) (by omega), Ran.to hd (hstg (2 * S.n, S.n, 0) ?_) ⟨rfl, rfl⟩ ⟨by dsimp only; omega, by dsimp only; omega⟩ (by dsimp only; omega) rfl w13 _ ⟨_, hS4, rfl, by rw [ec]; exact e2, ?_, withP_sort e4, by rw [show 2 * S.n = S.n + S.n by omega]⟩ ?_⟩
            · unfold growM; rw [hms, if_pos ⟨rfl, rfl, hn8, by omega⟩]
            · show (withP key val t.pairs).Perm ((nodes (fun b' => if b' then rw' false else empties)).map (·.2))
              rw [hnn]; exact hpw
            · show (mput _ _ _).length + own = B.length + _
              rw [hhd, hh4, l13, l12, l11, l10, l9, l8, hB2l]
              omega
          · have hend := t_grow_few R B2 (sq :: rest) ([] ++ [sp]) root key val (st + n1 + 7 * (loK key (row S.rw b i)).length + 15) (dw + 14) S.h key (S.hk b) d4 i sp 1 c9 (S.hk false) S.n (S.hk true) S.od S.at_ ((nodes S.rw).length + 1) S.cap gh h0 hn8 hfew (by omega)
            refine ⟨_, REnd.q2 (m := ⟨R, B⟩) (k := 1) espare (hgo2.fin hend) (by omega), Ran.to hd (hstg (S.n, S.od, S.at_) ?_) ⟨rfl, rfl⟩ ⟨by dsimp only; omega, by dsimp only; omega⟩ (by dsimp only; omega) rfl w7 _ ⟨_, hS, rfl, by rw [ec]; exact e2, hpw, withP_sort e4, rfl⟩ (by show B2.length + own = B.length + _; rw [hownl, hB2l]; omega)⟩
            unfold growM; rw [hms, if_neg (fun h => by omega), o1, o2]
        · have hend := t_grow_eight R B2 (sq :: rest) ([] ++ [sp]) root key val (st + n1 + 7 * (loK key (row S.rw b i)).length + 15) (dw + 14) S.h key (S.hk b) d4 i sp 1 c9 (S.hk false) S.n (S.hk true) S.od S.at_ ((nodes S.rw).length + 1) S.cap gh h0 hn8 (by omega)
          refine ⟨_, REnd.q2 (m := ⟨R, B⟩) (k := 1) espare (hgo2.fin hend) (by omega), Ran.to hd (hstg (S.n, S.od, S.at_) ?_) ⟨rfl, rfl⟩ ⟨by dsimp only; omega, by dsimp only; omega⟩ (by dsimp only; omega) rfl w7 _ ⟨_, hS, rfl, by rw [ec]; exact e2, hpw, withP_sort e4, rfl⟩ (by show B2.length + own = B.length + _; rw [hownl, hB2l]; omega)⟩
          unfold growM; rw [hms, if_neg (fun h => hn8 h.2.2.1), o1, o2]
      · have hend := t_grow_old R B2 (sq :: rest) ([] ++ [sp]) root key val (st + n1 + 7 * (loK key (row S.rw b i)).length + 15) (dw + 14) S.h key (S.hk b) d4 i sp 1 c9 (S.hk false) S.n (S.hk true) S.od S.at_ ((nodes S.rw).length + 1) S.cap gh h0 (by omega)
        refine ⟨_, REnd.q2 (m := ⟨R, B⟩) (k := 1) espare (hgo2.fin hend) (by omega), Ran.to hd (hstg (S.n, S.od, S.at_) ?_) ⟨rfl, rfl⟩ ⟨by dsimp only; omega, by dsimp only; omega⟩ (by dsimp only; omega) rfl w7 _ ⟨_, hS, rfl, by rw [ec]; exact e2, hpw, withP_sort e4, rfl⟩ (by show B2.length + own = B.length + _; rw [hownl, hB2l]; omega)⟩
        have hodn : S.od ≠ 0 := by
          rcases hp.st with ⟨q1, _⟩ | ⟨_, q2, _⟩
          · exact absurd q1 h0
          · omega
        unfold growM
        rw [show (S.n, S0.od, S0.at_).2.1 = S0.od from rfl, show (S.n, S0.od, S0.at_).2.2 = S0.at_ from rfl, ← eo, if_neg (fun h => hodn h.2.1)]
    · have hd : doesM 1 (some t) key val = (some t, 40, 2) := by
        unfold doesM; simp [hm]; omega
      have hend := t_put_full R B1 (spareM (Ms.mk R B).blocks) [] root key val (st + n1 + 7 * (loK key (row S.rw b i)).length) dw S.h (S.hk b) i d4 0 c7 c8 c9 (S.hk false) S.n (S.hk true) S.od S.at_ _ S.cap rfl hp.hb hfull (by omega)
      exact ⟨_, REnd.q (((hgo.trans hgo1).trans hsk).fin hend) (by omega), Ran.same hw hq hd (.inr (by decide)) ⟨rfl, rfl⟩ ⟨by dsimp only; omega, by dsimp only; omega⟩ (by dsimp only; omega)⟩
set_option maxHeartbeats 2000000 in
theorem rep_del (R : List Nat) (B : Bks) (hw : WfB B) (root key val own : Nat) (s : Nat × Nat × Nat) (hr : root < 16) (t : Tb) (hq : Rep R B root own s (some t)) (h60 : own ≤ 62) : ∃ r, runQ ⟨R, B⟩ 3 root key val = some r ∧ Ran R B root own s 3 key val (some t) r (runMs ⟨R, B⟩ r) := by
  obtain ⟨S, hp, e1, e2, e3, e4, e5⟩ := id hq
  obtain ⟨ow1, ow2⟩ := hp.own
  rcases hs : sel S key with ⟨b, i⟩
  obtain ⟨i8, hb, hrk⟩ := sel_ok hp key
  rw [hs] at i8 hb hrk
  dsimp only at i8 hb hrk
  obtain ⟨a4, a7, a8, a9, n, pc, hn, hpc, hgo⟩ := find_del hp hr (spareM (Ms.mk R B).blocks) [] key val hs
  rw [if_neg (by decide)] at hpc
  subst hpc
  obtain ⟨f1, f2, f3, f4, f5, f6, f7⟩ := row_facts hp b i8
  obtain ⟨b1, b2, b3⟩ := hp.base
  have hlo := loK_len key (row S.rw b i)
  have hil : i < (S.rw b).length := by rw [hp.l8]; exact i8
  have hrl : (row S.rw b i).length ≤ (nodes S.rw).length := by
    have := f1.length_eq
    rw [List.length_append] at this
    omega
  have hchr := hp.ch b _ (row_mem hp i8)
  have hzr : 0 ∉ (row S.rw b i).map (·.1) := fun hm => by
    obtain ⟨z, hz, e⟩ := List.mem_map.mp hm
    exact (f3 z hz).1 e
  obtain ⟨c7, c8, c9, hsk⟩ := seek_del R B (spareM (Ms.mk R B).blocks) [] root key val S.h (S.hk b) i a4 0 (row S.rw b i) a7 a8 a9 0 (0 + n) hchr hzr (by omega)
  have hhb : S.hk b ≠ S.h := by
    cases b
    · exact b1
    · exact (b2 hb).1
  have hbm : S.hk b ∈ baseH S := by
    unfold baseH
    cases b
    · simp
    · rw [if_neg hb]; simp
  have hhm : S.h ∈ baseH S := by unfold baseH; simp
  have c64 := hp.c64
  have lc := hp.lc
  cases hh : hiK key (row S.rw b i) with
  | nil =>
    have hm := (look_none hp e3 hs hh).1
    have hd : doesM 3 (some t) key val = (some t, 0, 0) := by unfold doesM; simp [hm]
    have hend := t_del_absent R B (spareM (Ms.mk R B).blocks) [] root key val (0 + n + 8 * (loK key (row S.rw b i)).length) 0 S.h (S.hk b) i a4 (headH (hiK key (row S.rw b i))) c7 c8 c9 (lastP 0 (loK key (row S.rw b i))) (by rw [hh]; rfl) (by omega)
    exact ⟨_, REnd.q ((hgo.trans hsk).fin hend) (by omega), Ran.same hw hq hd (.inl (by decide)) ⟨rfl, rfl⟩ ⟨by dsimp only; omega, by dsimp only; omega⟩ (by dsimp only; omega)⟩
  | cons z zs =>
    obtain ⟨hm, hz, hzn, gz, hz0, hrow⟩ := look_some hp e3 e4 i8 hh
    rw [hh] at hsk
    have hd : doesM 3 (some t) key val = (some ⟨t.cap, withoutP key t.pairs⟩, 0, 1) := by unfold doesM; simp [hm]
    have hzm : z ∈ row S.rw b i := by rw [hrow]; simp
    have hzx := f3 z hzm
    have hzb : ∀ j, j ∈ baseH S → j ≠ z.1 := fun j hj e => hzx.2.1 (by rw [← e]; exact hj)
    generalize hlo' : loK key (row S.rw b i) = lo at *
    have hperm1 : (nodes S.rw).Perm (z :: (lo ++ zs ++ nodes (updR S.rw b i []))) := by
      refine f1.trans ?_
      rw [hrow]
      exact (List.perm_middle.append_right _).trans (List.Perm.refl _)
    have hperm2 : (nodes (updR S.rw b i (lo ++ zs))).Perm (lo ++ zs ++ nodes (updR S.rw b i [])) := f5 _
    have hlen : (nodes (updR S.rw b i (lo ++ zs))).length + 1 = (nodes S.rw).length := by rw [hperm1.length_eq, hperm2.length_eq]; rfl
    have hlen' : (nodes S.rw).length - 1 = (nodes (updR S.rw b i (lo ++ zs))).length := by omega
    have hnd2 := f2
    rw [hrow, List.map_append, List.map_cons] at hnd2
    obtain ⟨m1, m2, m3⟩ := List.nodup_append.mp hnd2
    rw [List.nodup_cons] at m2
    have hsub : ∀ x ∈ lo ++ zs, x ∈ row S.rw b i := fun x hx => by
      rw [hrow]
      rcases List.mem_append.mp hx with hx | hx
      · exact List.mem_append_left _ hx
      · exact List.mem_append_right _ (List.mem_cons_of_mem _ hx)
    have hxz : ∀ x ∈ lo ++ zs, x.1 ≠ z.1 := fun x hx e => by
      rcases List.mem_append.mp hx with hx | hx
      · exact m3 _ (List.mem_map_of_mem hx) _ (by simp) e
      · exact m2.1 (by rw [← e]; exact List.mem_map_of_mem hx)
    have hcnd : ((lo ++ zs).map (·.1)).Nodup := by
      refine hnd2.sublist ?_
      rw [List.map_append]
      exact (List.sublist_cons_self _ _).append_left _
    have hpl : t.pairs.Perm ((key, z.2.2) :: (lo ++ zs ++ nodes (updR S.rw b i [])).map (·.2)) := by
      refine e3.trans ((hperm1.map _).trans ?_)
      rw [List.map_cons, ← hz]
    obtain ⟨hpw, _⟩ := pairs_found e4 hpl
    have hpw' : (withoutP key t.pairs).Perm ((nodes (updR S.rw b i (lo ++ zs))).map (·.2)) := hpw.trans ((hperm2.map (·.2)).symm)
    have hownl : (hands ({ S with rw := updR S.rw b i (lo ++ zs) } : TabS)).length + 1 = (hands S).length := by
      unfold hands
      rw [List.length_append, List.length_append, List.length_map, List.length_map]
      show _ + (nodes (updR S.rw b i (lo ++ zs))).length + 1 = _
      rw [← hlen]; rfl
    -- what any heap like this is
    have key1 : ∀ B' : Bks, mget B' (S.h : Int) = some [3, S.hk false, S.n, S.hk true, S.od, S.at_, (nodes S.rw).length - 1, S.cap] → mget B' (S.hk b : Int) = some (((S.rw b).set i (lo ++ zs)).map headH) → Chn B' (lo ++ zs) →
        (∀ j : Nat, j ∈ hands S → j ≠ S.h → j ≠ S.hk b → j ∉ (row S.rw b i).map (·.1) → mget B' (j : Int) = mget B (j : Int)) → RepT R B' root { S with rw := updR S.rw b i (lo ++ zs) } := by
      intro B' g1 g2 g3 g4
      refine hp.set b i8 hb (lo ++ zs) (by rw [g1, hlen']) g2 g3 g4 hcnd (fun x hx => f3 x (hsub x hx)) (fun x hx => f4 x (hsub x hx)) (by omega)
    by_cases hl0 : lo = []
    · subst hl0
      have hhr : headH (row S.rw b i) = z.1 := by rw [hrow]; rfl
      have hend := t_del_first R B (spareM (Ms.mk R B).blocks) [] root key val (0 + n + 8 * ([] : Nds).length) 0 S.h (S.hk b) i a4 z.1 c7 c8 c9 (lastP 0 []) (S.hk false) S.n (S.hk true) S.od S.at_ _ S.cap (headH zs) z.2.2 _ hz0 gz hp.hb (by omega) (by omega) (fun e => hzb _ hhm e.symm) i8 rfl (hp.gk b hb) hhb (hzb _ hbm) (by show 0 + n + 8 * 0 + 13 ≤ 1500; omega) (by decide)
      obtain ⟨w1, l1⟩ := hw.put_old (k := (S.hk b : Int)) (x := ((S.rw b).map headH).set i (headH zs)) (hp.gk b hb) (by rw [List.length_set, List.length_map]; exact hp.l8 b)
      obtain ⟨w2, l2⟩ := w1.del (k := (z.1 : Int)) (by rw [mputN, if_neg (hzb _ hbm)]; exact gz)
      obtain ⟨w3, l3⟩ := w2.put_old (k := (S.h : Int)) (x := [3, S.hk false, S.n, S.hk true, S.od, S.at_, (nodes S.rw).length - 1, S.cap]) (by rw [mdelN _ (fun e => hzb _ hhm e.symm), mputN, if_neg hhb]; exact hp.hb) rfl
      have hfr : ∀ j : Nat, j ≠ S.h → j ≠ S.hk b → j ≠ z.1 → mget (mput (mdel (mput B (S.hk b : Int) (((S.rw b).map headH).set i (headH zs))) (z.1 : Int)) (S.h : Int) [3, S.hk false, S.n, S.hk true, S.od, S.at_, (nodes S.rw).length - 1, S.cap]) (j : Int) = mget B (j : Int) := fun j q1 q2 q3 => by
        rw [mputN, if_neg (fun e => q1 e.symm), mdelN _ (fun e => q3 e.symm), mputN, if_neg (fun e => q2 e.symm)]
      have hS := key1 _ (by rw [mputN, if_pos rfl]) (by rw [mputN, if_neg (fun e => hhb e.symm), mdelN _ (fun e => hzb _ hbm e.symm), mputN, if_pos rfl, map_set_head]; rfl)
        (by
          have hc2 : Chn B (z :: zs) := by rw [hrow] at hchr; exact hchr
          exact hc2.2.frame fun x hx => hfr x.1 (fun e => (f3 x (hsub x hx)).2.1 (by rw [e]; exact hhm)) (fun e => (f3 x (hsub x hx)).2.1 (by rw [e]; exact hbm)) (hxz x hx))
        (fun j _ h2 h3 h4 => hfr j h2 h3 (fun e => h4 (by rw [e]; exact List.mem_map_of_mem hzm)))
      exact ⟨_, REnd.q ((hgo.trans hsk).fin hend) (by show 14 + (8 * 0 + n) ≤ 1501; omega), Ran.to hd (if_neg (fun h => absurd h.1 (by decide))) ⟨rfl, rfl⟩ ⟨by show (1 : Int) ≤ ((0 + n + 8 * 0 + 13 : Nat) : Int); omega, by show ((0 + n + 8 * 0 + 13 : Nat) : Int) < _; omega⟩ (by dsimp only; omega) rfl w3 _ ⟨_, hS, rfl, e2, hpw', withoutP_sort e4, e5⟩ (by show (mput _ _ _).length + own = B.length + _; omega)⟩
    · have hlm := lastP_mem (ns := lo) (p := 0) hl0
      obtain ⟨p, hpm, ep⟩ := List.mem_map.mp hlm
      have hpr : p ∈ row S.rw b i := by rw [hrow]; exact List.mem_append_left _ hpm
      obtain ⟨px, gp⟩ := hchr.mem p hpr
      rw [ep] at gp
      have hp0 : lastP 0 lo ≠ 0 := by rw [← ep]; exact (f3 p hpr).1
      have hpb : ∀ j, j ∈ baseH S → lastP 0 lo ≠ j := fun j hj e => (f3 p hpr).2.1 (by rw [ep, e]; exact hj)
      have hpz : lastP 0 lo ≠ z.1 := by rw [← ep]; exact hxz p (List.mem_append_left _ hpm)
      have hend := t_del_more R B (spareM (Ms.mk R B).blocks) [] root key val (0 + n + 8 * lo.length) 0 S.h (S.hk b) i a4 z.1 c7 c8 c9 (lastP 0 lo) (S.hk false) S.n (S.hk true) S.od S.at_ _ S.cap (headH zs) z.2.2 p.2.1 px p.2.2 hz0 gz hp.hb (by omega) (by omega) (fun e => hzb _ hhm e.symm) i8 hp0 gp (hpb _ hhm) hpz (by omega) (by decide)
      obtain ⟨w1, l1⟩ := hw.put_old (k := (lastP 0 lo : Int)) (x := [p.2.1, headH zs, p.2.2, 0, 0, 0, 0, 0]) gp rfl
      obtain ⟨w2, l2⟩ := w1.del (k := (z.1 : Int)) (by rw [mputN, if_neg hpz]; exact gz)
      obtain ⟨w3, l3⟩ := w2.put_old (k := (S.h : Int)) (x := [3, S.hk false, S.n, S.hk true, S.od, S.at_, (nodes S.rw).length - 1, S.cap]) (by rw [mdelN _ (fun e => hzb _ hhm e.symm), mputN, if_neg (hpb _ hhm)]; exact hp.hb) rfl
      have hfr : ∀ j : Nat, j ≠ S.h → j ≠ lastP 0 lo → j ≠ z.1 → mget (mput (mdel (mput B (lastP 0 lo : Int) [p.2.1, headH zs, p.2.2, 0, 0, 0, 0, 0]) (z.1 : Int)) (S.h : Int) [3, S.hk false, S.n, S.hk true, S.od, S.at_, (nodes S.rw).length - 1, S.cap]) (j : Int) = mget B (j : Int) := fun j q1 q2 q3 => by
        rw [mputN, if_neg (fun e => q1 e.symm), mdelN _ (fun e => q3 e.symm), mputN, if_neg (fun e => q2 e.symm)]
      have hS := key1 _ (by rw [mputN, if_pos rfl])
        (by
          rw [map_same hil (by rw [hrow]; exact head_app hl0 _ _), hfr _ hhb (fun e => hpb _ hbm e.symm) (hzb _ hbm)]
          exact hp.gk b hb)
        (by
          have hc3 := hchr
          rw [hrow] at hc3
          have hxh : ∀ x ∈ lo ++ zs, x.1 ≠ S.h := fun x hx e => (f3 x (hsub x hx)).2.1 (by rw [e]; exact hhm)
          refine Chn.link (p0 := 0) hc3 hl0 m1 (fun x hx hne => hfr x.1 (hxh x (List.mem_append_left _ hx)) hne (hxz x (List.mem_append_left _ hx))) (fun k x v hg => ?_) (hc3.right.2.frame fun x hx => hfr x.1 (hxh x (List.mem_append_right _ hx)) (fun e => ?_) (hxz x (List.mem_append_right _ hx)))
          · rw [gp] at hg
            injection hg with hg
            injection hg with g1 hg
            injection hg with _ hg
            injection hg with g3 _
            rw [mputN, if_neg (fun e => hpb _ hhm e.symm), mdelN _ (fun e => hpz e.symm), mputN, if_pos rfl, g1, g3]
          · exact m3 _ hlm _ (List.mem_cons_of_mem _ (by rw [← e]; exact List.mem_map_of_mem hx)) rfl)
        (fun j _ h2 _ h4 => hfr j h2 (fun e => h4 (by rw [e, ← ep]; exact List.mem_map_of_mem hpr)) (fun e => h4 (by rw [e]; exact List.mem_map_of_mem hzm)))
      exact ⟨_, REnd.q ((hgo.trans hsk).fin hend) (by omega), Ran.to hd (if_neg (fun h => absurd h.1 (by decide))) ⟨rfl, rfl⟩ ⟨by dsimp only; omega, by dsimp only; omega⟩ (by dsimp only; omega) rfl w3 _ ⟨_, hS, rfl, e2, hpw', withoutP_sort e4, e5⟩ (by show (mput _ _ _).length + own = B.length + _; omega)⟩
theorem rep_run (R : List Nat) (B : Bks) (hw : WfB B) (hRl : R.length = 16) (hBl : B.length < 63) (root key val own : Nat) (s : Nat × Nat × Nat) (hr : root < 16) (hk : key < 18446744073709551616) (x : Option Tb) (hq : Rep R B root own s x) (h60 : own ≤ 62) (k : Nat) (h6 : k < 6) : ∃ r, runQ ⟨R, B⟩ k root key val = some r ∧ Ran R B root own s k key val x r (runMs ⟨R, B⟩ r) := by
  cases x with
  | none =>
    obtain rfl : own = 0 := hq.2.1
    rcases (by omega : k = 0 ∨ 1 ≤ k) with rfl | h1
    · exact rep_new_none R B hw hRl hBl root key val s hr hk hq
    · exact rep_none R B hw root key val s hr hq k h1 (by omega)
  | some t =>
    rcases (by omega : k = 0 ∨ k = 1 ∨ k = 2 ∨ k = 3 ∨ k = 4 ∨ k = 5) with rfl | rfl | rfl | rfl | rfl | rfl
    · exact rep_new_some R B hw root key val own s hr t hq
    · exact rep_put R B hw hBl root key val own s hr t hq h60
    · exact rep_get R B hw root key val own s hr t hq h60
    · exact rep_del R B hw root key val own s hr t hq h60
    · exact rep_size R B hw root key val own s hr t hq
    · exact rep_drop R B hw hRl root key val own s hr t hq
end Go.Proofs.YtphheopbngdhhaaGreatDoor
