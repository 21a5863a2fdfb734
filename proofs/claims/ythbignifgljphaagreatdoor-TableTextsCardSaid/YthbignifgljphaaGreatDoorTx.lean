/-
  A map's programs: put, as far as the moving of a row.
-/
import Derived.Test.YthbignifgljphaaGreatDoorTw
namespace Go.Proofs.YthbignifgljphaaGreatDoor
set_option maxRecDepth 100000
def mvStage (od at_ : Nat) : Nat × Nat := if 0 < od then (if at_ + 1 = od then (0, 0) else (od, at_ + 1)) else (od, at_)
def mvRw (S : TabS) : Bool → List Nds
  | true => (S.rw true).set S.at_ []
  | false => mvA S.n (S.rw false) (row S.rw true S.at_)
theorem mvRw_perm {R : List Nat} {B : Bks} {root : Nat} {S : TabS} (hp : RepT R B root S) (ha : S.at_ < 8) :
    (nodes S.rw).Perm ((row S.rw true S.at_ ++ (S.rw false).flatten) ++ ((S.rw true).set S.at_ []).flatten) ∧ (nodes (mvRw S)).Perm (nodes S.rw) := by
  obtain ⟨s1, s2, _, _⟩ := stage_n hp.st
  have h1 : (nodes S.rw).Perm ((row S.rw true S.at_ ++ (S.rw false).flatten) ++ ((S.rw true).set S.at_ []).flatten) := by
    have h2 := flat_setR (L := S.rw true) (i := S.at_) (by rw [hp.l8]; exact ha) (row S.rw true S.at_)
    have h3 : (S.rw true).set S.at_ (row S.rw true S.at_) = S.rw true := set_getD (by rw [hp.l8]; exact ha)
    rw [h3] at h2
    unfold nodes
    refine (h2.append_left _).trans ?_
    rw [← List.append_assoc]
    exact List.perm_append_comm.append_right _
  refine ⟨h1, ?_⟩
  have h4 := mvA_perm s1 s2 (row S.rw true S.at_) (S.rw false) (hp.l8 false)
  exact (h4.append_right _).trans h1.symm
theorem mem_set_nil {L : List Nds} {i j : Nat} {c : Nds} (h : (L.set i [])[j]? = some c) {x : Nd} (hx : x ∈ c) : j ≠ i ∧ L[j]? = some c := by
  by_cases e : i = j
  · subst e
    by_cases hl : i < L.length
    · rw [List.getElem?_set_self hl] at h
      injection h with h
      subst h
      cases hx
    · rw [List.getElem?_eq_none (by rw [List.length_set]; omega)] at h
      cases h
  · rw [List.getElem?_set_ne e] at h
    exact ⟨fun e' => e e'.symm, h⟩
set_option maxHeartbeats 2000000 in
theorem put_mid {R : List Nat} {B : Bks} {root : Nat} {S : TabS} (hw : WfB B) (hp : RepT R B root S) (hroot : root < 16) (P N : List Nat) (key val : Nat) (hc : (nodes S.rw).length ≤ 60) :
    ∃ B' S' a2 a3 a4 a5 a6 a7 a8 a9 st dw n, RGo t_cd_put (rT [root, key, val, 0] [0, 0, 0, 0, 0, 0, 0, 0, 0, 0, 0, 0, 0, 0, 0, 0] 0 0 0 R B P N) (rT [root, key, val, 0] [root, S'.h, a2, a3, a4, a5, a6, a7, a8, a9, 0, 0, 0, 0, 0, 0] st dw 37 R B' P N) n ∧ n = st ∧ st ≤ 27 + 10 * (nodes S.rw).length ∧ dw ≤ 7 + 2 * (nodes S.rw).length ∧
      WfB B' ∧ RepT R B' root S' ∧ S'.n = S.n ∧ (S'.od, S'.at_) = mvStage S.od S.at_ ∧ S'.cap = S.cap ∧ (nodes S'.rw).Perm (nodes S.rw) ∧ B'.length + (hands S).length = B.length + (hands S').length ∧ (hands S').length ≤ (hands S).length ∧ (∀ j : Nat, mget B (j : Int) = none → mget B' (j : Int) = none) := by
  by_cases h0 : S.hk true = 0
  · have hgo := t_put_in0 R B P N root key val 0 0 S.h _ S.n _ S.od S.at_ _ _ hroot hp.r hp.h0 hp.hb h0 (by decide)
    refine ⟨B, S, _, _, _, _, _, _, _, _, _, _, _, hgo, rfl, by omega, by omega, hw, hp, rfl, ?_, rfl, List.Perm.refl _, rfl, Nat.le_refl _, fun _ h => h⟩
    rcases hp.st with ⟨_, h2, h3, _⟩ | ⟨h1, _⟩
    · rw [h2, h3]; rfl
    · exact absurd h0 h1
  obtain ⟨s1, s2, s3, s4⟩ := stage_n hp.st
  obtain ⟨t1, t2, t3, t4⟩ := s4 h0
  obtain ⟨b1, b2, b3⟩ := hp.base
  obtain ⟨b21, b22⟩ := b2 h0
  obtain ⟨p1, p2⟩ := mvRw_perm hp t2
  have hrow8 : S.at_ < (S.rw true).length := by rw [hp.l8]; exact t2
  have hin : ∀ x, x ∈ nodes S.rw ↔ x ∈ (row S.rw true S.at_ ++ (S.rw false).flatten) ++ ((S.rw true).set S.at_ []).flatten := fun x => p1.mem_iff
  have hcn : ∀ x ∈ row S.rw true S.at_, x ∈ nodes S.rw := fun x hx => (hin x).mpr (List.mem_append_left _ (List.mem_append_left _ hx))
  have hnd : ((row S.rw true S.at_ ++ (S.rw false).flatten ++ ((S.rw true).set S.at_ []).flatten).map (·.1)).Nodup := (p1.map (·.1)).nodup_iff.mp (List.nodup_append.mp hp.nd).2.1
  rw [List.map_append, List.map_append] at hnd
  obtain ⟨n1, n2, n3⟩ := List.nodup_append.mp hnd
  have hlen : (row S.rw true S.at_).length ≤ (nodes S.rw).length := by
    have := p1.length_eq
    rw [List.length_append, List.length_append] at this
    omega
  have hgk := hp.gk true h0
  have hgo1 := t_put_inE R B P N root key val 0 0 S.h _ S.n _ S.od S.at_ _ _ _ hroot hp.r hp.h0 hp.hb hgk h0 t2 (by decide)
  rw [head_row hrow8] at hgo1
  obtain ⟨B1, c7, c8, c9, hgo2, w1, l1, g1, g2, g3⟩ := mv_loop R P N root key val S.h (S.hk false) (S.hk true) S.at_ S.n s1 s2 (row S.rw true S.at_) (S.rw false) B 0 0 0 (0 + 13) 0 hw (hp.l8 false) (hp.gk false hp.hn0) (hp.ch true _ (row_mem hp t2)) (hp.ch false) n1
    (fun hm => by
      obtain ⟨z, hz, e⟩ := List.mem_map.mp hm
      exact (b3 z (hcn z hz)).1 e)
    (fun hm => by
      rw [← List.map_append] at hm
      obtain ⟨z, hz, e⟩ := List.mem_map.mp hm
      exact (b3 z ((hin z).mpr (List.mem_append_left _ hz))).2.2.1 e) (by omega) (by omega)
  have hgo := hgo1.trans hgo2
  have hcm : ∀ j : Nat, j = S.h ∨ j = S.hk true → j ∉ (row S.rw true S.at_).map (·.1) := fun j hj hm => by
    obtain ⟨z, hz, e⟩ := List.mem_map.mp hm
    have := b3 z (hcn z hz)
    rcases hj with rfl | rfl
    · exact this.2.1 e
    · exact this.2.2.2 e
  have gh1 : mget B1 (S.h : Int) = some [3, S.hk false, S.n, S.hk true, S.od, S.at_, (nodes S.rw).length, S.cap] := by rw [g3 _ (fun e => b1 e.symm) (hcm _ (.inl rfl))]; exact hp.hb
  have go1 : mget B1 (S.hk true : Int) = some ((S.rw true).map headH) := by rw [g3 _ b22 (hcm _ (.inr rfl))]; exact hgk
  have hE : ∀ c ∈ (S.rw true).set S.at_ [], Chn B1 c := fun c hc' => by
    have hch : Chn B c := by
      rcases List.mem_or_eq_of_mem_set hc' with h | rfl
      · exact hp.ch true c h
      · trivial
    refine hch.frame fun z hz => ?_
    have hm : z ∈ ((S.rw true).set S.at_ []).flatten := List.mem_flatten.mpr ⟨c, hc', hz⟩
    refine g3 z.1 (b3 z ((hin z).mpr (List.mem_append_right _ hm))).2.2.1 fun hm2 => ?_
    exact n3 z.1 (List.mem_append_left _ hm2) z.1 (List.mem_map_of_mem hm) rfl
  have okF : ∀ i a, (mvRw S false)[i]? = some a → ∀ x ∈ a, i = x.2.1 % S.n ∧ x.2.1 % S.od < S.at_ + 1 := by
    refine mvA_ok (fun i x => i = x.2.1 % S.n ∧ x.2.1 % S.od < S.at_ + 1) _ _ (fun i a ha x hx => ?_) (fun x hx => ?_)
    · obtain ⟨q1, q2⟩ := hp.ok false i a ha x hx
      exact ⟨q1, Nat.lt_succ_of_lt (q2 h0)⟩
    · obtain ⟨_, q2, _⟩ := hp.ok true S.at_ _ (row_get hrow8) x hx
      exact ⟨rfl, by omega⟩
  have okT : ∀ j c, (mvRw S true)[j]? = some c → ∀ x ∈ c, j = x.2.1 % S.od ∧ S.at_ < j := fun j c hj x hx => by
    obtain ⟨e1, e2⟩ := mem_set_nil hj hx
    obtain ⟨_, q2, q3⟩ := hp.ok true j c e2 x hx
    exact ⟨q2, by omega⟩
  have l8' : ∀ b, (mvRw S b).length = 8 := fun b => by
    cases b
    · show (mvA _ _ _).length = 8
      rw [mvA_len]; exact hp.l8 false
    · show ((S.rw true).set _ _).length = 8
      rw [List.length_set]; exact hp.l8 true
  have hch' : ∀ b, ∀ c ∈ mvRw S b, Chn B1 c := fun b c hc' => by
    cases b
    · exact g2 c hc'
    · exact hE c hc'
  have hin' : ∀ b, ∀ c ∈ mvRw S b, ∀ z ∈ c, z ∈ nodes S.rw := fun b c hc' z hz => by
    refine p2.mem_iff.mp (mem_nodes.mpr ?_)
    obtain ⟨i, hi⟩ := List.mem_iff_getElem?.mp hc'
    exact ⟨b, i, c, hi, hz⟩
  have hnone : ∀ j : Nat, mget B (j : Int) = none → mget B1 (j : Int) = none ∧ j ≠ S.h ∧ j ≠ S.hk true := fun j hj => by
    have h1 : j ≠ S.h := fun e => by rw [e, hp.hb] at hj; cases hj
    have h2 : j ≠ S.hk true := fun e => by rw [e, hgk] at hj; cases hj
    have h3 : j ≠ S.hk false := fun e => by rw [e, hp.gk false hp.hn0] at hj; cases hj
    have h4 : j ∉ (row S.rw true S.at_).map (·.1) := fun hm => by
      obtain ⟨z, hz, e⟩ := List.mem_map.mp hm
      obtain ⟨x, hx⟩ := (hp.ch true _ (row_mem hp t2)).mem z hz
      rw [e, hj] at hx
      cases hx
    exact ⟨by rw [g3 j h3 h4]; exact hj, h1, h2⟩
  have hnl := p2.length_eq
  by_cases hlt : S.at_ + 1 < S.od
  · have hgo3 := t_put_mvmore R B1 P N root key val (0 + 13 + 10 * (row S.rw true S.at_).length) (0 + 2 * (row S.rw true S.at_).length) S.h (S.hk false) S.n (S.hk true) S.od S.at_ _ _ 0 c7 c8 c9 _ rfl gh1 go1 b21 t2 hlt (by omega) (by omega)
    obtain ⟨w2, l2⟩ := w1.put_old (k := (S.hk true : Int)) (x := ((S.rw true).map headH).set S.at_ 0) go1 (by rw [List.length_set, List.length_map]; exact hp.l8 true)
    obtain ⟨w3, l3⟩ := w2.put_old (k := (S.h : Int)) (x := [3, S.hk false, S.n, S.hk true, S.od, S.at_ + 1, (nodes S.rw).length, S.cap]) (by rw [mputN, if_neg b21]; exact gh1) rfl
    have hh1 : hands ({ S with at_ := S.at_ + 1, rw := mvRw S } : TabS) = baseH S ++ (nodes (mvRw S)).map (·.1) := rfl
    have hh2 : (baseH S ++ (nodes (mvRw S)).map (·.1)).Perm (hands S) := (p2.map (·.1)).append_left _
    refine ⟨_, { S with at_ := S.at_ + 1, rw := mvRw S }, _, _, _, _, _, _, _, _, _, _, _, hgo.trans hgo3, by omega, by omega, by omega, w3, ⟨hp.r, ?_, fun b hb => ?_, l8', fun b c hc' => ?_, fun b i c hi x hx => ?_, ?_, ?_, ?_, hp.c64, by show (nodes (mvRw S)).length ≤ S.cap; rw [hnl]; exact hp.lc⟩, rfl, ?_, rfl, p2, ?_, ?_, fun j hj => ?_⟩
    · rw [mputN, if_pos rfl]
      show _ = some [3, S.hk false, S.n, S.hk true, S.od, S.at_ + 1, (nodes (mvRw S)).length, S.cap]
      rw [hnl]
    · cases b
      · rw [mputN, if_neg (fun e => b1 e.symm), mputN, if_neg b22]
        exact g1
      · rw [mputN, if_neg (fun e => b21 e.symm), mputN, if_pos rfl]
        show _ = some (((S.rw true).set S.at_ []).map headH)
        rw [map_set_head]; rfl
    · refine (hch' b c hc').frame fun z hz => ?_
      have := b3 z (hin' b c hc' z hz)
      rw [mputN, if_neg (fun e => this.2.1 e.symm), mputN, if_neg (fun e => this.2.2.2 e.symm)]
    · cases b
      · obtain ⟨q1, q2⟩ := okF i c hi x hx
        exact ⟨q1, fun _ => q2⟩
      · obtain ⟨q1, q2⟩ := okT i c hi x hx
        exact ⟨h0, q1, q2⟩
    · rcases hp.st with ⟨e, _⟩ | ⟨e1, e2, e3, e4⟩
      · exact absurd e h0
      · exact .inr ⟨e1, e2, e3, hlt⟩
    · rw [hh1]; exact hh2.nodup_iff.mpr hp.nd
    · rw [hh1]; exact fun hm => hp.nz (hh2.mem_iff.mp hm)
    · show (S.od, S.at_ + 1) = mvStage S.od S.at_
      unfold mvStage
      rw [if_pos (by omega), if_neg (by omega)]
    · rw [hh1, hh2.length_eq, l3, l2, l1]
    · rw [hh1, hh2.length_eq]; exact Nat.le_refl _
    · obtain ⟨q1, q2, q3⟩ := hnone j hj
      rw [mputN, if_neg (fun e => q2 e.symm), mputN, if_neg (fun e => q3 e.symm)]
      exact q1
  · have hgo3 := t_put_mvdone R B1 P N root key val (0 + 13 + 10 * (row S.rw true S.at_).length) (0 + 2 * (row S.rw true S.at_).length) S.h (S.hk false) S.n (S.hk true) S.od S.at_ _ _ 0 c7 c8 c9 _ rfl gh1 go1 b21 t2 hlt (by omega) (by omega)
    obtain ⟨w2, l2⟩ := w1.put_old (k := (S.hk true : Int)) (x := ((S.rw true).map headH).set S.at_ 0) go1 (by rw [List.length_set, List.length_map]; exact hp.l8 true)
    obtain ⟨w3, l3⟩ := w2.put_old (k := (S.h : Int)) (x := [3, S.hk false, S.n, S.hk true, S.od, S.at_ + 1, (nodes S.rw).length, S.cap]) (by rw [mputN, if_neg b21]; exact gh1) rfl
    obtain ⟨w4, l4⟩ := w3.put_old (k := (S.h : Int)) (x := [3, S.hk false, S.n, 0, S.od, S.at_ + 1, (nodes S.rw).length, S.cap]) (by rw [mputN, if_pos rfl]) rfl
    obtain ⟨w5, l5⟩ := w4.put_old (k := (S.h : Int)) (x := [3, S.hk false, S.n, 0, 0, S.at_ + 1, (nodes S.rw).length, S.cap]) (by rw [mputN, if_pos rfl]) rfl
    obtain ⟨w6, l6⟩ := w5.put_old (k := (S.h : Int)) (x := [3, S.hk false, S.n, 0, 0, 0, (nodes S.rw).length, S.cap]) (by rw [mputN, if_pos rfl]) rfl
    obtain ⟨w7, l7⟩ := w6.del (k := (S.hk true : Int)) (y := ((S.rw true).map headH).set S.at_ 0) (by rw [mputN, if_neg (fun e => b21 e.symm), mputN, if_neg (fun e => b21 e.symm), mputN, if_neg (fun e => b21 e.symm), mputN, if_neg (fun e => b21 e.symm), mputN, if_pos rfl])
    have hfr : ∀ j : Nat, j ≠ S.h → j ≠ S.hk true → mget (mdel (mput (mput (mput (mput (mput B1 (S.hk true : Int) (((S.rw true).map headH).set S.at_ 0)) (S.h : Int) [3, S.hk false, S.n, S.hk true, S.od, S.at_ + 1, (nodes S.rw).length, S.cap]) (S.h : Int) [3, S.hk false, S.n, 0, S.od, S.at_ + 1, (nodes S.rw).length, S.cap]) (S.h : Int) [3, S.hk false, S.n, 0, 0, S.at_ + 1, (nodes S.rw).length, S.cap]) (S.h : Int) [3, S.hk false, S.n, 0, 0, 0, (nodes S.rw).length, S.cap]) (S.hk true : Int)) (j : Int) = mget B1 (j : Int) := fun j q1 q2 => by
      rw [mdelN _ (fun e => q2 e.symm), mputN, if_neg (fun e => q1 e.symm), mputN, if_neg (fun e => q1 e.symm), mputN, if_neg (fun e => q1 e.symm), mputN, if_neg (fun e => q1 e.symm), mputN, if_neg (fun e => q2 e.symm)]
    have hhands : (hands S).length = (nodes S.rw).length + 3 := by
      unfold hands baseH
      rw [if_neg h0, List.length_append, List.length_map]
      show 3 + _ = _
      omega
    have hbs : baseH S = [S.h, S.hk false, S.hk true] := by unfold baseH; rw [if_neg h0]
    have hh : hands ({ S with od := 0, at_ := 0, hk := fun b => if b then 0 else S.hk false, rw := mvRw S } : TabS) = S.h :: S.hk false :: (nodes (mvRw S)).map (·.1) := rfl
    refine ⟨_, { S with od := 0, at_ := 0, hk := fun b => if b then 0 else S.hk false, rw := mvRw S }, _, _, _, _, _, _, _, _, _, _, _, hgo.trans hgo3, by omega, by omega, by omega, w7, ⟨hp.r, ?_, fun b hb => ?_, l8', fun b c hc' => ?_, fun b i c hi x hx => ?_, ?_, ?_, ?_, hp.c64, by show (nodes (mvRw S)).length ≤ S.cap; rw [hnl]; exact hp.lc⟩, rfl, ?_, rfl, p2, ?_, ?_, fun j hj => ?_⟩
    · show _ = some [3, S.hk false, S.n, 0, 0, 0, (nodes (mvRw S)).length, S.cap]
      rw [hnl, mdelN _ b21, mputN, if_pos rfl]
    · cases b
      · show mget _ (S.hk false : Int) = _
        rw [hfr _ b1 (fun e => b22 e.symm)]
        exact g1
      · exact absurd rfl hb
    · refine (hch' b c hc').frame fun z hz => ?_
      have := b3 z (hin' b c hc' z hz)
      exact hfr z.1 this.2.1 this.2.2.2
    · cases b
      · obtain ⟨q1, q2⟩ := okF i c hi x hx
        exact ⟨q1, fun h => absurd rfl h⟩
      · obtain ⟨q1, q2⟩ := okT i c hi x hx
        have := Nat.mod_lt x.2.1 (Nat.pos_of_ne_zero t1)
        omega
    · refine .inl ⟨rfl, rfl, rfl, ?_⟩
      show S.n = 2 ∨ S.n = 4 ∨ S.n = 8
      rcases hp.st with ⟨e, _⟩ | ⟨e1, e2, e3, e4⟩
      · exact absurd e h0
      · omega
    · rw [hh]
      have h1 := hp.nd
      unfold hands at h1
      rw [hbs] at h1
      have h2 : ([S.h, S.hk false, S.hk true] ++ (nodes (mvRw S)).map (·.1)).Nodup := ((p2.map (·.1)).append_left _).nodup_iff.mpr h1
      refine h2.sublist ?_
      show (S.h :: S.hk false :: _).Sublist (S.h :: S.hk false :: S.hk true :: _)
      exact ((List.sublist_cons_self _ _).cons_cons _).cons_cons _
    · rw [hh]
      intro hm
      refine hp.nz ?_
      unfold hands
      rw [hbs]
      rcases List.mem_cons.mp hm with e | hm
      · simp [← e]
      · rcases List.mem_cons.mp hm with e | hm
        · simp [← e]
        · exact List.mem_append_right _ ((p2.map (·.1)).mem_iff.mp hm)
    · show (0, 0) = mvStage S.od S.at_
      unfold mvStage
      rw [if_pos (by omega), if_pos (by omega)]
    · rw [hh, hhands, List.length_cons, List.length_cons, List.length_map, hnl]
      omega
    · rw [hh, hhands, List.length_cons, List.length_cons, List.length_map, hnl]
      omega
    · obtain ⟨q1, q2, q3⟩ := hnone j hj
      rw [hfr j q2 q3]
      exact q1
end Go.Proofs.YthbignifgljphaaGreatDoor
