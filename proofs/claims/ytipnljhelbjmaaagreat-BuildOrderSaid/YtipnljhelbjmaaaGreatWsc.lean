/-
  Package wset: Back, All.
-/
import Derived.Test.YtipnljhelbjmaaaGreatWsb
namespace Go.Proofs.YtipnljhelbjmaaaGreat
theorem allP_len (qs : List (Int × Nat)) : (allP qs).length ≤ qs.length := by
  have key : ∀ (ps m : List (Int × Nat)), (ps.foldl (fun m p => mput m p.1 p.2) m).length ≤ m.length + ps.length := by
    intro ps
    induction ps with
    | nil => intro m; simp
    | cons p ps ih =>
      intro m
      have h1 := ih (mput m p.1 p.2)
      have h2 : (mput m p.1 p.2).length ≤ m.length + 1 := by
        rcases kidx_spec m p.1 with ⟨_, hg⟩ | ⟨i, u, hi, _, _, _, hput⟩
        · rw [mput_new _ _ _ hg, List.length_append]; exact Nat.le_refl _
        · rw [hput, List.length_set]; omega
      simp only [List.foldl_cons, List.length_cons]; omega
  have := key qs []
  simpa [allP] using this
/-- the table without its last entry -/
theorem tab_back {room : Nat} {qs : List (Int × Nat)} {a : Int} {v : Nat} (x : WsX room (qs ++ [(a, v)])) (hg : mget (allP qs) a = none) :
    slotOf (tabP x.p (qs ++ [(a, v)])) (keysP (qs ++ [(a, v)])) a < 2 ^ x.p ∧ (tabP x.p (qs ++ [(a, v)])).set (slotOf (tabP x.p (qs ++ [(a, v)])) (keysP (qs ++ [(a, v)])) a) 0 = tabP x.p qs := by
  have e3 : allP (qs ++ [(a, v)]) = allP qs ++ [(a, v)] := by rw [allP_snoc, mput_new _ _ _ hg]
  have hi : (allP qs).length < (allP (qs ++ [(a, v)])).length := by rw [e3, List.length_append]; exact Nat.lt_succ_self _
  have hm : (allP (qs ++ [(a, v)]))[(allP qs).length] = (a, v) := by
    simp only [e3]; simp
  obtain ⟨h0, hlt⟩ := x.old hm
  refine ⟨hlt, ?_⟩
  have hml := x.hm
  have hkl : (keysP qs).length = (allP qs).length := by rw [keysP, List.length_map]
  have hx2 := x.h2
  have hxr := x.hroom
  have htab : TabOk (2 ^ x.p) (keysP qs) (tabP x.p qs) (keysP qs).length := tab_ok (allP_nodup qs) _ (Nat.le_refl _) (by omega)
  have hnew := slot_new htab (by omega) rfl (mget_none hg)
  have hs0 := (slot_is htab (by omega) (keysP qs) a).lt
  have hT := tabP_snoc (p := x.p) (v := v) hg
  have hsame : slotOf (tabP x.p (qs ++ [(a, v)])) (keysP (qs ++ [(a, v)])) a = slotOf (tabP x.p qs) (keysP qs) a := by
    refine x.tab.one _ _ hlt hs0 (by rw [h0]; omega) ?_
    rw [h0, hT, getD_set _ _ _ _ (by rw [htab.len]; exact hs0), if_pos rfl]
  rw [hsame, hT, List.set_set]
  change (tabP x.p qs).getD (slotOf (tabP x.p qs) (keysP qs) a) 0 = 0 at hnew
  have hl : slotOf (tabP x.p qs) (keysP qs) a < (tabP x.p qs).length := by rw [htab.len]; exact hs0
  rw [List.getD_eq_getElem?_getD, List.getElem?_eq_getElem hl, Option.getD_some] at hnew
  have := List.set_getElem_self hl
  rw [hnew] at this
  exact this
theorem chgs_flat (qs : List (Int × Nat)) : ((chgs qs).flatMap Chg.v).length = qs.length * 3 := by rw [flat_len Chg.v_len, chgs, chgsN_len]
theorem chg_drop (qs : List (Int × Nat)) (c : Chg) (drest : List Value) : DropN ((((qs.length + 1 : Nat) : Int) - 1).toNat * 3) ((chgs qs).flatMap Chg.v ++ [c].flatMap Chg.v ++ drest) (c.v ++ drest) := by
  have := DropN.app ((chgs qs).flatMap Chg.v) ([c].flatMap Chg.v ++ drest)
  rw [chgs_flat] at this
  rw [show (((qs.length + 1 : Nat) : Int) - 1).toNat = qs.length by omega, List.append_assoc]
  simpa using this
set_option maxRecDepth 100000 in
theorem wbackE_t (W room mark : Nat) (puts : List (Int × Nat)) (hm : mark ≤ puts.length) (hlen : puts.length ≤ 1000000000) : Tri Tryz.prog 107 #[.pointer (some ⟨W, 0, none⟩), .int .i64 (mark : Int)] [WsE W room puts]
    fun r L => r = .bool true ∧ L = [WsE W room (puts.take mark)] := by
  refine Tri.of_body (vs := [_, _]) Tryz.func107 rfl rfl fun w0 F => ?_
  refine St.ex_out fun x => ?_
  repeat' (first | (apply Ya; exact Oa) | (apply Yb; exact Ob) | (apply Yc; exact Oc; intro b) | (apply Ye; exact Oe; intro g cap rest hcap) | (apply Yd; exact Od; intro ad cap) | (apply Yf; exact Oj) | (apply Yg; exact Oj; exact ⟨rfl, rfl⟩) | (apply Yh; exact Oj; rfl) | (apply Yi; exact Oj; exact On; all_goals (intro h; try (exfalso; omega))) | apply StL.nil | apply St.region | apply St.seq | apply St.block | apply St.inBlock | apply St.skip | (apply St.exit; rfl) | (apply St.cond_t; rfl) | (apply St.cond_f; rfl) | (apply Ud; rfl; exact On; all_goals (intro h; try (exfalso; omega))) | (apply Za; rfl; exact Oa) | (apply Zb; rfl; exact Oa; exact Ent.go) | (apply Zc; rfl; exact Ob) | (apply Zd; rfl; exact Oc; intro b; refine ⟨Ent.go, ?_⟩) | (apply Ze; rfl; exact Oc; intro b) | (apply Zf; rfl; exact Oe; intro g cap rest hcap) | (apply Zg; rfl; exact Od; intro ad cap) | apply StD.nil | exact StD.nope | apply StD.pick | (apply StD.claim; rfl; intro b) | (apply Zi; rfl; exact Oj; exact Oa) | (apply Zj; rfl; exact Oj; exact Oa; exact Ent.go) | (apply Zk; rfl; exact Oj; exact ⟨rfl, rfl⟩) | (apply Zl; rfl; exact Oj; exact ⟨rfl, rfl⟩; exact Ent.go) | (apply Zm; rfl; exact Oj; rfl) | (apply Zn; rfl; exact Oj; exact Ent.go; rfl) | (refine St.draw (id := 4) [(0, 0), (1, 0), (2, 0), (3, 1), (4, 0), (5, 0), (6, 0), (7, 1), (8, 0), (9, 0), (10, 0), (11, 1), (12, 2), (13, 3)] [13] mixed (by kernel_rfl) ?_) | (refine St.draw (id := 5) [(0, 0), (1, 0), (2, 0), (3, 0), (4, 1), (5, 0), (6, 0), (7, 0), (8, 1), (9, 0), (10, 0), (11, 0), (12, 0), (13, 0), (14, 3)] [14] mixed (by kernel_rfl) ?_) | (refine St.draw (id := 7) [(0, 0), (1, 0), (2, 0), (3, 1), (4, 0), (5, 1), (6, 0), (7, 1), (8, 0), (9, 0), (10, 3)] [10] mixed (by kernel_rfl) ?_) | (refine St.draw (id := 8) [(0, 0), (1, 0), (2, 0), (3, 1), (4, 0), (5, 0), (6, 0), (7, 0), (8, 1), (9, 0), (10, 1), (11, 0), (12, 0), (13, 1), (14, 1), (15, 0), (16, 3)] [16] mixed (by kernel_rfl) ?_) | (refine St.draw (id := 9) [(0, 0), (1, 0), (2, 0), (3, 0), (4, 1), (5, 0), (6, 1), (7, 0), (8, 0), (9, 0), (10, 3)] [10] mixed (by kernel_rfl) ?_)  | (apply Zo; rfl; exact Oj; exact On; all_goals (intro h; try (exfalso; omega))))
  refine St.loopX (Lr := ?Lr) (ι := { n : Nat // mark ≤ n ∧ n ≤ puts.length }) (fun n => n.1)
    (fun n => []) (fun n => [WsE W room (puts.take n.1)]) ⟨puts.length, hm, Nat.le_refl _⟩ ?hE ?hL ?round
  case hE => exact Sub.go
  case hL =>
    dsimp only
    rw [List.take_length]
    refine Ent.trans ?_ (Ent.ex_in (Ls := wsL W room puts) x)
    exact Ent.go
  case round =>
    rintro ⟨n, hn1, hn2⟩ IH; dsimp only at hn1 hn2 ⊢
    by_cases hlt : mark < n
    · obtain ⟨k, rfl⟩ : ∃ k, n = k + 1 := ⟨n - 1, by omega⟩
      have IH' := fun E' L' => IH ⟨k, by omega, by omega⟩ (E' := E') (L' := L') (by show k < k + 1; omega)
      clear IH
      dsimp only at IH'
      have hk : k < puts.length := by omega
      rw [List.take_succ_eq_append_getElem hk]
      have hql : (puts.take k).length = k := by rw [List.length_take]; omega
      generalize hav : puts[k] = av
      obtain ⟨a, v⟩ := av
      generalize puts.take k = qs at *
      subst hql
      refine St.ex_out fun y => ?_
      have hml := y.hm
      have hmr := y.hr
      have hpw := y.pow
      have hal := allP_len qs
      unfold wsL
      rcases kidx_spec (allP qs) a with ⟨hki, hg⟩ | ⟨i, u, hi, hki, hg, hmi, hput⟩
      · have e3 : allP (qs ++ [(a, v)]) = allP qs ++ [(a, v)] := by rw [allP_snoc, mput_new _ _ _ hg]
        have e4 : chgs (qs ++ [(a, v)]) = chgs qs ++ [⟨(allP qs).length, 0, true⟩] := by rw [chgs_snoc]; unfold chgOf; rw [hki]
        obtain ⟨hslt, hset⟩ := tab_back y hg
        have hsl0 := fun dv => slot_r y W dv a
        have htl : (tabP y.p (qs ++ [(a, v)])).length = 2 ^ y.p := y.tab.len
        have e5 : (allP (qs ++ [(a, v)])).length = (allP qs).length + 1 := by rw [e3, List.length_append]; rfl
        have e6 : (qs ++ [(a, v)]).length = qs.length + 1 := by simp
        have hsT : SetN (.int .i64 0) ((slotOf (tabP y.p (qs ++ [(a, v)])) (keysP (qs ++ [(a, v)])) a : Int).toNat * 1) (ints (tabP y.p (qs ++ [(a, v)]))) (ints (tabP y.p qs)) := by
          rw [Nat.mul_one, ← hset]
          exact SetN.ints (x := 0) (by rw [htl]; exact hslt)
        generalize slotOf (tabP y.p (qs ++ [(a, v)])) (keysP (qs ++ [(a, v)])) a = sl at *
        generalize htt : tabP y.p (qs ++ [(a, v)]) = tt at *
        rw [e5, e3] at hsl0
        rw [e5, e6, e3, e4, List.flatMap_append (xs := chgs qs)]
        rw [e5] at hml
        refine St.conv ?_ (Sub.refl _) (Ent.of_take (.there .here))
        refine St.rowF (by omega) fun g lcp rest hv hrf => ?_
        injection hv with hv1 hv2 hv3
        refine St.conv ?_ (Sub.refl _) (Ent.of_take (.there (.there (.there .here))))
        refine St.rowF (by omega) fun gd dcp drest dv drf => ?_
        injection dv with dv1 dv2 dv3
        have hdc := drf.le
        have hlc := hrf.le
        have hsl := (hsl0 (.slice (some ⟨gd, 0, none⟩) (((qs.length + 1 : Nat) : Int) - 1).toNat dcp)).ent (M := [bl g 111 ((allP qs ++ [(a, v)]).flatMap entV ++ rest), bl W 151 (setV room (.slice y.lad ((allP qs).length + 1) y.lcap) y.T (2 ^ y.p) (.slice (some ⟨gd, 0, none⟩) (((qs.length + 1 : Nat) : Int) - 1).toNat dcp)), bl y.T 3 (ints tt)]) (by
          rw [hv1, hv3]
          exact Ent.trans (Ent.rowF hrf) Ent.go)
        rw [hv1, hv3] at hsl
        rw [hv1, hv3, dv1, dv3]
        have hdr : DropN ((((qs.length + 1 : Nat) : Int) - 1).toNat * 3) ((chgs qs).flatMap Chg.v ++ [Chg.mk (allP qs).length 0 true].flatMap Chg.v ++ drest) ([.int .i64 ((allP qs).length : Int), .int .u64 0, .bool true] ++ drest) := chg_drop qs ⟨(allP qs).length, 0, true⟩ drest
        have htk : TakeN 3 ([.int .i64 ((allP qs).length : Int), .int .u64 0, .bool true] ++ drest) [.int .i64 ((allP qs).length : Int), .int .u64 0, .bool true] := TakeN.app [_, _, _] drest
        have hn1 : NthN (((allP qs).length : Int).toNat * 2 + 0) ((allP qs ++ [(a, v)]).flatMap entV ++ rest) (.int .i64 a) :=
          (NthN.flat entV_len (l := allP qs ++ [(a, v)]) (i := (allP qs).length) (by simp) (by simp only [List.getElem_concat_length]; exact .zero)).app_left rest
        repeat' (first | (apply Ya; exact Oa) | (apply Yb; exact Ob) | (apply Yc; exact Oc; intro b) | (apply Ye; exact Oe; intro g cap rest hcap) | (apply Yd; exact Od; intro ad cap) | (apply Yf; exact Oj) | (apply Yg; exact Oj; exact ⟨rfl, rfl⟩) | (apply Yh; exact Oj; rfl) | (apply Yi; exact Oj; exact On; all_goals (intro h; try (exfalso; omega))) | apply StL.nil | apply St.region | apply St.seq | apply St.block | apply St.inBlock | apply St.skip | (apply St.exit; rfl) | (apply St.cond_t; rfl) | (apply St.cond_f; rfl) | (apply Ud; rfl; exact On; all_goals (intro h; try (exfalso; omega))) | (apply Za; rfl; exact Oa) | (apply Zb; rfl; exact Oa; exact Ent.go) | (apply Zc; rfl; exact Ob) | (apply Zd; rfl; exact Oc; intro b; refine ⟨Ent.go, ?_⟩) | (apply Ze; rfl; exact Oc; intro b) | (apply Zf; rfl; exact Oe; intro g cap rest hcap) | (apply Zg; rfl; exact Od; intro ad cap) | apply StD.nil | exact StD.nope | apply StD.pick | (apply StD.claim; rfl; intro b) | (apply Zi; rfl; exact Oj; exact Oa) | (apply Zj; rfl; exact Oj; exact Oa; exact Ent.go) | (apply Zk; rfl; exact Oj; exact ⟨rfl, rfl⟩) | (apply Zl; rfl; exact Oj; exact ⟨rfl, rfl⟩; exact Ent.go) | (apply Zm; rfl; exact Oj; rfl) | (apply Zn; rfl; exact Oj; exact Ent.go; rfl) | (refine St.draw (id := 4) [(0, 0), (1, 0), (2, 0), (3, 1), (4, 0), (5, 0), (6, 0), (7, 1), (8, 0), (9, 0), (10, 0), (11, 1), (12, 2), (13, 3)] [13] mixed (by kernel_rfl) ?_) | (refine St.draw (id := 5) [(0, 0), (1, 0), (2, 0), (3, 0), (4, 1), (5, 0), (6, 0), (7, 0), (8, 1), (9, 0), (10, 0), (11, 0), (12, 0), (13, 0), (14, 3)] [14] mixed (by kernel_rfl) ?_) | (refine St.draw (id := 7) [(0, 0), (1, 0), (2, 0), (3, 1), (4, 0), (5, 1), (6, 0), (7, 1), (8, 0), (9, 0), (10, 3)] [10] mixed (by kernel_rfl) ?_) | (refine St.draw (id := 8) [(0, 0), (1, 0), (2, 0), (3, 1), (4, 0), (5, 0), (6, 0), (7, 0), (8, 1), (9, 0), (10, 1), (11, 0), (12, 0), (13, 1), (14, 1), (15, 0), (16, 3)] [16] mixed (by kernel_rfl) ?_) | (refine St.draw (id := 9) [(0, 0), (1, 0), (2, 0), (3, 0), (4, 1), (5, 0), (6, 1), (7, 0), (8, 0), (9, 0), (10, 3)] [10] mixed (by kernel_rfl) ?_) | (apply Ka; exact Og; exact hsl; exact Oh) | (apply Kb; rfl; exact Og; exact hsl; exact Oi) | (apply Kc; rfl; exact Oj; exact Og; exact hsl; exact Oi) | (apply Zo; rfl; exact Oj; exact On; all_goals (intro h; try (exfalso; omega))))
        refine IH' _ _ ?_ ?_
        · exact Sub.go
        · refine Ent.trans ?_ (Ent.ex_in (Ls := wsL W room qs) ⟨some ⟨g, 0, none⟩, lcp, some ⟨gd, 0, none⟩, dcp, y.T, y.p, y.hp, y.h2, y.hroom, by omega, y.hr⟩)
          unfold wsL
          dsimp only
          rw [show (((qs.length + 1 : Nat) : Int) - 1).toNat = qs.length by omega, show ((allP qs).length : Int).toNat = (allP qs).length by omega]
          refine Ent.trans (Ent.of_take (p := bl g 111 ((allP qs ++ [(a, v)]).flatMap entV ++ rest)) Take.go) ?_
          rw [List.flatMap_append (xs := allP qs), List.append_assoc]
          refine Ent.trans (Ent.rowF (n := (allP qs).length) (cap := lcp) (sz := 2) ⟨by have := hrf.le; omega, hrf.max, flat_len entV_len _, ?_⟩) ?_
          · have := hrf.tot
            rw [List.flatMap_append, List.length_append] at this
            rw [List.length_append]; omega
          · refine Ent.trans (Ent.of_take (p := bl gd 198 ((chgs qs).flatMap Chg.v ++ [Chg.mk (allP qs).length 0 true].flatMap Chg.v ++ drest)) Take.go) ?_
            rw [List.append_assoc]
            refine Ent.trans (Ent.rowF (n := qs.length) (cap := dcp) (sz := 3) ⟨by have := drf.le; omega, drf.max, chgs_flat _, ?_⟩) ?_
            · have := drf.tot
              rw [List.length_append] at this
              rw [List.length_append]; omega
            · exact Ent.go
      · have e3 : allP (qs ++ [(a, v)]) = (allP qs).set i (a, v) := by rw [allP_snoc, hput]
        have e4 : chgs (qs ++ [(a, v)]) = chgs qs ++ [⟨i, u, false⟩] := by
          rw [chgs_snoc]; unfold chgOf; rw [hki]; dsimp only
          rw [List.getD_eq_getElem?_getD, List.getElem?_eq_getElem hi, hmi]; rfl
        have e5 : (allP (qs ++ [(a, v)])).length = (allP qs).length := by rw [e3, List.length_set]
        have e6 : (qs ++ [(a, v)]).length = qs.length + 1 := by simp
        obtain ⟨htab, _⟩ := tabP_same (p := y.p) (v := v) hg
        rw [e5, e6, e3, e4, List.flatMap_append, htab]
        refine St.conv ?_ (Sub.refl _) (Ent.of_take (.there .here))
        refine St.rowF (by omega) fun g lcp rest hv hrf => ?_
        injection hv with hv1 hv2 hv3
        refine St.conv ?_ (Sub.refl _) (Ent.of_take (.there (.there (.there .here))))
        refine St.rowF (by omega) fun gd dcp drest dv drf => ?_
        injection dv with dv1 dv2 dv3
        have hdc := drf.le
        have hlc := hrf.le
        rw [hv1, hv3, dv1, dv3]
        have hdr : DropN ((((qs.length + 1 : Nat) : Int) - 1).toNat * 3) ((chgs qs).flatMap Chg.v ++ [Chg.mk i u false].flatMap Chg.v ++ drest) ([.int .i64 (i : Int), .int .u64 (u : Int), .bool false] ++ drest) := chg_drop qs ⟨i, u, false⟩ drest
        have htk : TakeN 3 ([.int .i64 (i : Int), .int .u64 (u : Int), .bool false] ++ drest) [.int .i64 (i : Int), .int .u64 (u : Int), .bool false] := TakeN.app [_, _, _] drest
        have hs1 : SetN (.int .u64 (u : Int)) ((i : Int).toNat * 2 + 1) (((allP qs).set i (a, v)).flatMap entV ++ rest) ((allP qs).flatMap entV ++ rest) := by
          have := (SetN.flat entV_len (l := (allP qs).set i (a, v)) (i := i) (by rw [List.length_set]; exact hi) (v := .int .u64 (u : Int)) (j := 1) (x := (a, u)) (by simp only [List.getElem_set_self]; exact .succ .zero)).app_left rest
          rw [List.set_set, ← hmi, List.set_getElem_self hi] at this
          exact this
        repeat' (first | (apply Ya; exact Oa) | (apply Yb; exact Ob) | (apply Yc; exact Oc; intro b) | (apply Ye; exact Oe; intro g cap rest hcap) | (apply Yd; exact Od; intro ad cap) | (apply Yf; exact Oj) | (apply Yg; exact Oj; exact ⟨rfl, rfl⟩) | (apply Yh; exact Oj; rfl) | (apply Yi; exact Oj; exact On; all_goals (intro h; try (exfalso; omega))) | apply StL.nil | apply St.region | apply St.seq | apply St.block | apply St.inBlock | apply St.skip | (apply St.exit; rfl) | (apply St.cond_t; rfl) | (apply St.cond_f; rfl) | (apply Ud; rfl; exact On; all_goals (intro h; try (exfalso; omega))) | (apply Za; rfl; exact Oa) | (apply Zb; rfl; exact Oa; exact Ent.go) | (apply Zc; rfl; exact Ob) | (apply Zd; rfl; exact Oc; intro b; refine ⟨Ent.go, ?_⟩) | (apply Ze; rfl; exact Oc; intro b) | (apply Zf; rfl; exact Oe; intro g cap rest hcap) | (apply Zg; rfl; exact Od; intro ad cap) | apply StD.nil | exact StD.nope | apply StD.pick | (apply StD.claim; rfl; intro b) | (apply Zi; rfl; exact Oj; exact Oa) | (apply Zj; rfl; exact Oj; exact Oa; exact Ent.go) | (apply Zk; rfl; exact Oj; exact ⟨rfl, rfl⟩) | (apply Zl; rfl; exact Oj; exact ⟨rfl, rfl⟩; exact Ent.go) | (apply Zm; rfl; exact Oj; rfl) | (apply Zn; rfl; exact Oj; exact Ent.go; rfl) | (refine St.draw (id := 4) [(0, 0), (1, 0), (2, 0), (3, 1), (4, 0), (5, 0), (6, 0), (7, 1), (8, 0), (9, 0), (10, 0), (11, 1), (12, 2), (13, 3)] [13] mixed (by kernel_rfl) ?_) | (refine St.draw (id := 5) [(0, 0), (1, 0), (2, 0), (3, 0), (4, 1), (5, 0), (6, 0), (7, 0), (8, 1), (9, 0), (10, 0), (11, 0), (12, 0), (13, 0), (14, 3)] [14] mixed (by kernel_rfl) ?_) | (refine St.draw (id := 7) [(0, 0), (1, 0), (2, 0), (3, 1), (4, 0), (5, 1), (6, 0), (7, 1), (8, 0), (9, 0), (10, 3)] [10] mixed (by kernel_rfl) ?_) | (refine St.draw (id := 8) [(0, 0), (1, 0), (2, 0), (3, 1), (4, 0), (5, 0), (6, 0), (7, 0), (8, 1), (9, 0), (10, 1), (11, 0), (12, 0), (13, 1), (14, 1), (15, 0), (16, 3)] [16] mixed (by kernel_rfl) ?_) | (refine St.draw (id := 9) [(0, 0), (1, 0), (2, 0), (3, 0), (4, 1), (5, 0), (6, 1), (7, 0), (8, 0), (9, 0), (10, 3)] [10] mixed (by kernel_rfl) ?_)  | (apply Zo; rfl; exact Oj; exact On; all_goals (intro h; try (exfalso; omega))))
        refine IH' _ _ ?_ ?_
        · exact Sub.go
        · refine Ent.trans ?_ (Ent.ex_in (Ls := wsL W room qs) ⟨some ⟨g, 0, none⟩, lcp, some ⟨gd, 0, none⟩, dcp, y.T, y.p, y.hp, y.h2, y.hroom, by omega, y.hr⟩)
          unfold wsL
          dsimp only
          rw [show (((qs.length + 1 : Nat) : Int) - 1).toNat = qs.length by omega]
          refine Ent.trans (Ent.of_take (p := bl g 111 ((allP qs).flatMap entV ++ rest)) Take.go) ?_
          refine Ent.trans (Ent.rowF (n := (allP qs).length) (cap := lcp) (sz := 2) ⟨hrf.le, hrf.max, flat_len entV_len _, ?_⟩) ?_
          · have := hrf.tot
            rw [flat_len entV_len, List.length_set] at this
            rw [flat_len entV_len]; exact this
          · refine Ent.trans (Ent.of_take (p := bl gd 198 ((chgs qs).flatMap Chg.v ++ [Chg.mk i u false].flatMap Chg.v ++ drest)) Take.go) ?_
            rw [List.append_assoc]
            refine Ent.trans (Ent.rowF (n := qs.length) (cap := dcp) (sz := 3) ⟨by have := drf.le; omega, drf.max, chgs_flat _, ?_⟩) ?_
            · have := drf.tot
              rw [List.length_append] at this
              rw [List.length_append]; omega
            · exact Ent.go
    · obtain rfl : n = mark := by omega
      have hql : (puts.take n).length = n := by rw [List.length_take]; omega
      refine St.ex_out fun y => ?_
      clear IH
      repeat' (first | (apply Ya; exact Oa) | (apply Yb; exact Ob) | (apply Yc; exact Oc; intro b) | (apply Ye; exact Oe; intro g cap rest hcap) | (apply Yd; exact Od; intro ad cap) | (apply Yf; exact Oj) | (apply Yg; exact Oj; exact ⟨rfl, rfl⟩) | (apply Yh; exact Oj; rfl) | (apply Yi; exact Oj; exact On; all_goals (intro h; try (exfalso; omega))) | apply StL.nil | apply St.region | apply St.seq | apply St.block | apply St.inBlock | apply St.skip | (apply St.exit; rfl) | (apply St.cond_t; rfl) | (apply St.cond_f; rfl) | (apply Ud; rfl; exact On; all_goals (intro h; try (exfalso; omega))) | (apply Za; rfl; exact Oa) | (apply Zb; rfl; exact Oa; exact Ent.go) | (apply Zc; rfl; exact Ob) | (apply Zd; rfl; exact Oc; intro b; refine ⟨Ent.go, ?_⟩) | (apply Ze; rfl; exact Oc; intro b) | (apply Zf; rfl; exact Oe; intro g cap rest hcap) | (apply Zg; rfl; exact Od; intro ad cap) | apply StD.nil | exact StD.nope | apply StD.pick | (apply StD.claim; rfl; intro b) | (apply Zi; rfl; exact Oj; exact Oa) | (apply Zj; rfl; exact Oj; exact Oa; exact Ent.go) | (apply Zk; rfl; exact Oj; exact ⟨rfl, rfl⟩) | (apply Zl; rfl; exact Oj; exact ⟨rfl, rfl⟩; exact Ent.go) | (apply Zm; rfl; exact Oj; rfl) | (apply Zn; rfl; exact Oj; exact Ent.go; rfl) | (refine St.draw (id := 4) [(0, 0), (1, 0), (2, 0), (3, 1), (4, 0), (5, 0), (6, 0), (7, 1), (8, 0), (9, 0), (10, 0), (11, 1), (12, 2), (13, 3)] [13] mixed (by kernel_rfl) ?_) | (refine St.draw (id := 5) [(0, 0), (1, 0), (2, 0), (3, 0), (4, 1), (5, 0), (6, 0), (7, 0), (8, 1), (9, 0), (10, 0), (11, 0), (12, 0), (13, 0), (14, 3)] [14] mixed (by kernel_rfl) ?_) | (refine St.draw (id := 7) [(0, 0), (1, 0), (2, 0), (3, 1), (4, 0), (5, 1), (6, 0), (7, 1), (8, 0), (9, 0), (10, 3)] [10] mixed (by kernel_rfl) ?_) | (refine St.draw (id := 8) [(0, 0), (1, 0), (2, 0), (3, 1), (4, 0), (5, 0), (6, 0), (7, 0), (8, 1), (9, 0), (10, 1), (11, 0), (12, 0), (13, 1), (14, 1), (15, 0), (16, 3)] [16] mixed (by kernel_rfl) ?_) | (refine St.draw (id := 9) [(0, 0), (1, 0), (2, 0), (3, 0), (4, 1), (5, 0), (6, 1), (7, 0), (8, 0), (9, 0), (10, 3)] [10] mixed (by kernel_rfl) ?_)  | (apply Zo; rfl; exact Oj; exact On; all_goals (intro h; try (exfalso; omega))))
      refine St.d1 Tryz.func107 ⟨_, ⟨rfl, rfl⟩, ?_⟩
      exact Ent.trans Ent.go (Ent.ex_in (Ls := wsL W room (puts.take n)) y)
end Go.Proofs.YtipnljhelbjmaaaGreat
