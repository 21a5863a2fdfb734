/-
  Package wset: Get, Mark, Put.
-/
import Derived.Test.YtipnljhelbjmaaaGreatWs
namespace Go.Proofs.YtipnljhelbjmaaaGreat
theorem LsR.of_row {W : World} {L : List HProp} {lad : Option Addr} {lcap e : Nat} {m : List (Int × Nat)} (hs : Sat (Row (.slice lad m.length lcap) e 2 m.length (m.flatMap entV) :: L) (hpOf W)) : LsR (exact' W) lad m := by
  rw [sat_cons] at hs
  obtain ⟨h1, h2, hd, hu, ⟨hl, hr⟩, _⟩ := hs
  rcases hr with ⟨_, h0⟩ | ⟨g, cap, cur, hv, hc, _, hcs, htk, hp⟩
  · exact .inl h0
  · injection hv with e1 e2 e3
    refine .inr ⟨g, cur.toList.drop (m.length * 2), e1, e, (0, 0), fun h hh => ?_⟩
    rw [← htk, List.take_append_drop, show h = hpOf W from hh, hu g, hp g, if_pos rfl]
    rfl
theorem slot_r {room : Nat} {puts : List (Int × Nat)} (x : WsX room puts) (W : Nat) (dv : Value) (a : Int) : RTri Tryz.prog 100 #[.pointer (some ⟨W, 0, none⟩), .int .i64 a]
    [bl W 151 (setV room (.slice x.lad (allP puts).length x.lcap) x.T (2 ^ x.p) dv), Row (.slice x.lad (allP puts).length x.lcap) 111 2 (allP puts).length ((allP puts).flatMap entV), bl x.T 3 (ints (tabP x.p puts))]
    (.int .i64 ((slotOf (tabP x.p puts) (keysP puts) a : Nat) : Int)) :=
  RTri.of_exact fun W0 hs => slot_t (exact' W0) W room x.lcap x.T x.p x.lad dv puts x.hp x.tab x.lt (RdC.exact hs (ReadsC.here RdC.bl)) (LsR.of_row hs.tail) (RdC.exact hs (ReadsC.there (ReadsC.there (ReadsC.here RdC.bl)))) a
theorem WsX.old {room : Nat} {puts : List (Int × Nat)} (x : WsX room puts) {a : Int} {i v : Nat} {hi : i < (allP puts).length} (h : (allP puts)[i] = (a, v)) : (tabP x.p puts).getD (slotOf (tabP x.p puts) (keysP puts) a) 0 = i + 1 ∧ slotOf (tabP x.p puts) (keysP puts) a < 2 ^ x.p := by
  have hkl : (keysP puts).length = (allP puts).length := by rw [keysP, List.length_map]
  have hk : (keysP puts).getD i 0 = a := by
    rw [keysP, List.getD_eq_getElem?_getD, List.getElem?_map, List.getElem?_eq_getElem hi, h]; rfl
  have h1 := slot_old x.tab x.lt (allP_nodup puts) (Nat.le_refl _) (i := i) (by omega)
  rw [hk, List.take_length] at h1
  exact ⟨h1, (slot_is x.tab x.lt (keysP puts) a).lt⟩
theorem WsX.none {room : Nat} {puts : List (Int × Nat)} (x : WsX room puts) {a : Int} (h : mget (allP puts) a = none) : (tabP x.p puts).getD (slotOf (tabP x.p puts) (keysP puts) a) 0 = 0 ∧ slotOf (tabP x.p puts) (keysP puts) a < 2 ^ x.p :=
  ⟨slot_new x.tab x.lt rfl (mget_none h), (slot_is x.tab x.lt (keysP puts) a).lt⟩
set_option maxRecDepth 100000 in
theorem wgetE_r (W room : Nat) (puts : List (Int × Nat)) (a : Int) : RTri Tryz.prog 53 #[.pointer (some ⟨W, 0, none⟩), .int .i64 a] [WsE W room puts]
    (.tuple ⟨[.int .u64 (((mget (allP puts) a).getD 0 : Nat) : Int), .bool (mget (allP puts) a).isSome]⟩) := by
  refine RTri.of_exact fun W0 hs => ?_
  obtain ⟨x, hs⟩ := sat_ex hs
  have hW := RdC.exact hs (ReadsC.here RdC.bl)
  have hT := RdC.exact hs (ReadsC.there (ReadsC.there (ReadsC.here RdC.bl)))
  have hL := LsR.of_row (hs.tail)
  have hsl := (slot_r x W (.slice x.dad puts.length x.dcap) a).of_read (p := exact' W0) fun k hk => by
    rw [show k = hpOf W0 from hk]
    have := (Ent.go : Ent (wsL W room puts x ++ []) [bl W 151 (setV room (.slice x.lad (allP puts).length x.lcap) x.T (2 ^ x.p) (.slice x.dad puts.length x.dcap)), Row (.slice x.lad (allP puts).length x.lcap) 111 2 (allP puts).length ((allP puts).flatMap entV), bl x.T 3 (ints (tabP x.p puts))])
    unfold Ent at this
    exact this _ hs
  have htl : (tabP x.p puts).length = 2 ^ x.p := x.tab.len
  have hpw := x.pow
  rcases kidx_spec (allP puts) a with ⟨_, hg⟩ | ⟨i, v, hi, _, hg, hm, _⟩
  · obtain ⟨h0, hlt⟩ := x.none hg
    rw [hg]
    generalize slotOf (tabP x.p puts) (keysP puts) a = sl at *
    have hnT := NthN.ints (l := tabP x.p puts) (i := sl) (by omega)
    rw [h0] at hnT
    have hnT' : NthN ((sl : Int).toNat * 1) (ints (tabP x.p puts)) (.int .i64 0) := by rw [Nat.mul_one]; exact hnT
    refine Tri.of_body (vs := [_, _]) Tryz.func53 rfl rfl fun w0 F => ?_
    repeat' (first | (apply Ya; exact Oa) | (apply Yb; exact Ob) | (apply Yc; exact Oc; intro b) | (apply Ye; exact Oe; intro g cap rest hcap) | (apply Yd; exact Od; intro ad cap) | (apply Yf; exact Oj) | (apply Yg; exact Oj; exact ⟨rfl, rfl⟩) | (apply Yh; exact Oj; rfl) | (apply Yi; exact Oj; exact On; all_goals (intro h; try (exfalso; omega))) | apply StL.nil | apply St.region | apply St.seq | apply St.block | apply St.inBlock | apply St.skip | (apply St.exit; rfl) | (apply St.cond_t; rfl) | (apply St.cond_f; rfl) | (apply Ud; rfl; exact On; all_goals (intro h; try (exfalso; omega))) | (apply Za; rfl; exact Oa) | (apply Zb; rfl; exact Oa; exact Ent.go) | (apply Zc; rfl; exact Ob) | (apply Zd; rfl; exact Oc; intro b; refine ⟨Ent.go, ?_⟩) | (apply Ze; rfl; exact Oc; intro b) | (apply Zf; rfl; exact Oe; intro g cap rest hcap) | (apply Zg; rfl; exact Od; intro ad cap) | apply StD.nil | exact StD.nope | apply StD.pick | (apply StD.claim; rfl; intro b) | (apply Zi; rfl; exact Oj; exact Oa) | (apply Zj; rfl; exact Oj; exact Oa; exact Ent.go) | (apply Zk; rfl; exact Oj; exact ⟨rfl, rfl⟩) | (apply Zl; rfl; exact Oj; exact ⟨rfl, rfl⟩; exact Ent.go) | (apply Zm; rfl; exact Oj; rfl) | (apply Zn; rfl; exact Oj; exact Ent.go; rfl) | (refine St.draw (id := 1) [(0, 0), (1, 0), (2, 0), (3, 1), (4, 0), (5, 0), (6, 1), (7, 0), (8, 1), (9, 0)] [] mixed (by kernel_rfl) ?_) | (apply Ka; exact Og; exact hsl; exact Oh) | (apply Kb; rfl; exact Og; exact hsl; exact Oi) | (apply Kc; rfl; exact Oj; exact Og; exact hsl; exact Oi) | (apply Zo; rfl; exact Oj; exact On; all_goals (intro h; try (exfalso; omega))))
    (first | refine St.dn Tryz.func53 ⟨?_, rfl⟩ Ent.go | refine St.fl Tryz.func53 ⟨?_, rfl⟩ Ent.go)
    rfl
  · obtain ⟨h0, hlt⟩ := x.old hm
    rw [hg]
    generalize slotOf (tabP x.p puts) (keysP puts) a = sl at *
    have hnT := NthN.ints (l := tabP x.p puts) (i := sl) (by omega)
    rw [h0] at hnT
    have hnT' : NthN ((sl : Int).toNat * 1) (ints (tabP x.p puts)) (.int .i64 ((i + 1 : Nat) : Int)) := by rw [Nat.mul_one]; exact hnT
    obtain ⟨g, l, hlad, hrd, hn1, hn2⟩ := hL.at hi
    rw [hm] at hn2
    rw [show i * 2 = (((i + 1 : Nat) : Int) - 1).toNat * 2 by omega] at hn2
    have hml := x.hm
    have hmr := x.hr
    rw [hlad] at hW
    refine Tri.of_body (vs := [_, _]) Tryz.func53 rfl rfl fun w0 F => ?_
    repeat' (first | (apply Ya; exact Oa) | (apply Yb; exact Ob) | (apply Yc; exact Oc; intro b) | (apply Ye; exact Oe; intro g cap rest hcap) | (apply Yd; exact Od; intro ad cap) | (apply Yf; exact Oj) | (apply Yg; exact Oj; exact ⟨rfl, rfl⟩) | (apply Yh; exact Oj; rfl) | (apply Yi; exact Oj; exact On; all_goals (intro h; try (exfalso; omega))) | apply StL.nil | apply St.region | apply St.seq | apply St.block | apply St.inBlock | apply St.skip | (apply St.exit; rfl) | (apply St.cond_t; rfl) | (apply St.cond_f; rfl) | (apply Ud; rfl; exact On; all_goals (intro h; try (exfalso; omega))) | (apply Za; rfl; exact Oa) | (apply Zb; rfl; exact Oa; exact Ent.go) | (apply Zc; rfl; exact Ob) | (apply Zd; rfl; exact Oc; intro b; refine ⟨Ent.go, ?_⟩) | (apply Ze; rfl; exact Oc; intro b) | (apply Zf; rfl; exact Oe; intro g cap rest hcap) | (apply Zg; rfl; exact Od; intro ad cap) | apply StD.nil | exact StD.nope | apply StD.pick | (apply StD.claim; rfl; intro b) | (apply Zi; rfl; exact Oj; exact Oa) | (apply Zj; rfl; exact Oj; exact Oa; exact Ent.go) | (apply Zk; rfl; exact Oj; exact ⟨rfl, rfl⟩) | (apply Zl; rfl; exact Oj; exact ⟨rfl, rfl⟩; exact Ent.go) | (apply Zm; rfl; exact Oj; rfl) | (apply Zn; rfl; exact Oj; exact Ent.go; rfl) | (refine St.draw (id := 1) [(0, 0), (1, 0), (2, 0), (3, 1), (4, 0), (5, 0), (6, 1), (7, 0), (8, 1), (9, 0)] [] mixed (by kernel_rfl) ?_) | (apply Ka; exact Og; exact hsl; exact Oh) | (apply Kb; rfl; exact Og; exact hsl; exact Oi) | (apply Kc; rfl; exact Oj; exact Og; exact hsl; exact Oi) | (apply Zo; rfl; exact Oj; exact On; all_goals (intro h; try (exfalso; omega))))
    (first | refine St.dn Tryz.func53 ⟨?_, rfl⟩ Ent.go | refine St.fl Tryz.func53 ⟨?_, rfl⟩ Ent.go)
    rfl
set_option maxRecDepth 100000 in
theorem wmarkE_r (W room : Nat) (puts : List (Int × Nat)) : RTri Tryz.prog 67 #[.pointer (some ⟨W, 0, none⟩)] [WsE W room puts] (.int .i64 (puts.length : Int)) := by
  refine RTri.of_exact fun W0 hs => ?_
  obtain ⟨x, hs⟩ := sat_ex hs
  have hW := RdC.exact hs (ReadsC.here RdC.bl)
  refine Tri.of_body (vs := [_]) Tryz.func67 rfl rfl fun w0 F => ?_
  repeat' (first | (apply Ya; exact Oa) | (apply Yb; exact Ob) | (apply Yc; exact Oc; intro b) | (apply Ye; exact Oe; intro g cap rest hcap) | (apply Yd; exact Od; intro ad cap) | (apply Yf; exact Oj) | (apply Yg; exact Oj; exact ⟨rfl, rfl⟩) | (apply Yh; exact Oj; rfl) | (apply Yi; exact Oj; exact On; all_goals (intro h; try (exfalso; omega))) | apply StL.nil | apply St.region | apply St.seq | apply St.block | apply St.inBlock | apply St.skip | (apply St.exit; rfl) | (apply St.cond_t; rfl) | (apply St.cond_f; rfl) | (apply Ud; rfl; exact On; all_goals (intro h; try (exfalso; omega))) | (apply Za; rfl; exact Oa) | (apply Zb; rfl; exact Oa; exact Ent.go) | (apply Zc; rfl; exact Ob) | (apply Zd; rfl; exact Oc; intro b; refine ⟨Ent.go, ?_⟩) | (apply Ze; rfl; exact Oc; intro b) | (apply Zf; rfl; exact Oe; intro g cap rest hcap) | (apply Zg; rfl; exact Od; intro ad cap) | apply StD.nil | exact StD.nope | apply StD.pick | (apply StD.claim; rfl; intro b) | (apply Zi; rfl; exact Oj; exact Oa) | (apply Zj; rfl; exact Oj; exact Oa; exact Ent.go) | (apply Zk; rfl; exact Oj; exact ⟨rfl, rfl⟩) | (apply Zl; rfl; exact Oj; exact ⟨rfl, rfl⟩; exact Ent.go) | (apply Zm; rfl; exact Oj; rfl) | (apply Zn; rfl; exact Oj; exact Ent.go; rfl)   | (apply Zo; rfl; exact Oj; exact On; all_goals (intro h; try (exfalso; omega))))
  (first | refine St.dn Tryz.func67 ⟨?_, rfl⟩ Ent.go | refine St.fl Tryz.func67 ⟨?_, rfl⟩ Ent.go)
  rfl
/-- behind putting something -/
def putP (room : Nat) (puts : List (Int × Nat)) (a : Int) (v : Nat) : List (Int × Nat) := if mget (allP puts) a = none ∧ room ≤ (allP puts).length then puts else puts ++ [(a, v)]
def putR (room : Nat) (puts : List (Int × Nat)) (a : Int) : Int := if mget (allP puts) a = none ∧ room ≤ (allP puts).length then 6 else 0
theorem tabP_snoc {p : Nat} {puts : List (Int × Nat)} {a : Int} {v : Nat} (h : mget (allP puts) a = none) : tabP p (puts ++ [(a, v)]) = (tabP p puts).set (slotOf (tabP p puts) (keysP puts) a) ((allP puts).length + 1) := by
  have hk : keysP (puts ++ [(a, v)]) = keysP puts ++ [a] := by
    unfold keysP; rw [allP_snoc, mput_new _ _ _ h, List.map_append]; rfl
  have hl : (keysP puts).length = (allP puts).length := by rw [keysP, List.length_map]
  unfold tabP
  rw [hk, List.length_append, List.length_singleton, tabN, tabN_app _ (Nat.le_refl _), List.take_left, hl]
  congr 2
  rw [← hl]
  simp
theorem tabP_same {p : Nat} {puts : List (Int × Nat)} {a : Int} {v u : Nat} (h : mget (allP puts) a = some u) : tabP p (puts ++ [(a, v)]) = tabP p puts ∧ keysP (puts ++ [(a, v)]) = keysP puts := by
  have hk : keysP (puts ++ [(a, v)]) = keysP puts := by
    unfold keysP; rw [allP_snoc, mput_keys _ _ _ _ h]
  unfold tabP
  rw [hk]
  exact ⟨rfl, rfl⟩
theorem entV_one (m : List (Int × Nat)) : (m.flatMap entV).all one = true := by
  induction m with
  | nil => rfl
  | cons e l ih => rw [List.flatMap_cons, List.all_append, ih]; rfl
set_option maxRecDepth 100000 in
theorem wputE_t (W room : Nat) (puts : List (Int × Nat)) (a : Int) (v : Nat) (hlen : puts.length ≤ 1000000000) : Tri Tryz.prog 64 #[.pointer (some ⟨W, 0, none⟩), .int .i64 a, .int .u64 (v : Int)] [WsE W room puts]
    fun r L => r = .int .i64 (putR room puts a) ∧ L = [WsE W room (putP room puts a v)] := by
  refine Tri.ex_out fun x => ?_
  have hsl := slot_r x W (.slice x.dad puts.length x.dcap) a
  have htl : (tabP x.p puts).length = 2 ^ x.p := x.tab.len
  have hpw := x.pow
  have hml := x.hm
  have hmr := x.hr
  rcases kidx_spec (allP puts) a with ⟨hki, hg⟩ | ⟨i, u, hi, hki, hg, hm, hput⟩
  · obtain ⟨h0, hlt⟩ := x.none hg
    have htab := fun p => tabP_snoc (p := p) (v := v) hg
    generalize hslt : slotOf (tabP x.p puts) (keysP puts) a = sl at *
    have hnT := NthN.ints (l := tabP x.p puts) (i := sl) (by omega)
    rw [h0] at hnT
    have hnT' : NthN ((sl : Int).toNat * 1) (ints (tabP x.p puts)) (.int .i64 0) := by rw [Nat.mul_one]; exact hnT
    by_cases hfull : room ≤ (allP puts).length
    · have e1 : putR room puts a = 6 := if_pos ⟨hg, hfull⟩
      have e2 : putP room puts a v = puts := if_pos ⟨hg, hfull⟩
      rw [e1, e2]
      refine Tri.of_body (vs := [_, _, _]) Tryz.func64 rfl rfl fun w0 F => ?_
      repeat' (first | (apply Ya; exact Oa) | (apply Yb; exact Ob) | (apply Yc; exact Oc; intro b) | (apply Ye; exact Oe; intro g cap rest hcap) | (apply Yd; exact Od; intro ad cap) | (apply Yf; exact Oj) | (apply Yg; exact Oj; exact ⟨rfl, rfl⟩) | (apply Yh; exact Oj; rfl) | (apply Yi; exact Oj; exact On; all_goals (intro h; try (exfalso; omega))) | apply StL.nil | apply St.region | apply St.seq | apply St.block | apply St.inBlock | apply St.skip | (apply St.exit; rfl) | (apply St.cond_t; rfl) | (apply St.cond_f; rfl) | (apply Ud; rfl; exact On; all_goals (intro h; try (exfalso; omega))) | (apply Za; rfl; exact Oa) | (apply Zb; rfl; exact Oa; exact Ent.go) | (apply Zc; rfl; exact Ob) | (apply Zd; rfl; exact Oc; intro b; refine ⟨Ent.go, ?_⟩) | (apply Ze; rfl; exact Oc; intro b) | (apply Zf; rfl; exact Oe; intro g cap rest hcap) | (apply Zg; rfl; exact Od; intro ad cap) | apply StD.nil | exact StD.nope | apply StD.pick | (apply StD.claim; rfl; intro b) | (apply Zi; rfl; exact Oj; exact Oa) | (apply Zj; rfl; exact Oj; exact Oa; exact Ent.go) | (apply Zk; rfl; exact Oj; exact ⟨rfl, rfl⟩) | (apply Zl; rfl; exact Oj; exact ⟨rfl, rfl⟩; exact Ent.go) | (apply Zm; rfl; exact Oj; rfl) | (apply Zn; rfl; exact Oj; exact Ent.go; rfl) | (refine St.draw (id := 5) [(0, 0), (1, 0), (2, 0), (3, 0), (4, 1), (5, 0), (6, 0), (7, 0), (8, 0), (9, 0), (10, 1), (11, 0), (12, 2), (13, 3), (14, 0), (15, 0), (16, 3)] [13, 16] mixed (by kernel_rfl) ?_) | (refine St.draw (id := 8) [(0, 0), (1, 0), (2, 0), (3, 1), (4, 0), (5, 0), (6, 0), (7, 0), (8, 1), (9, 0)] [] mixed (by kernel_rfl) ?_) | (refine St.draw (id := 10) [(0, 0), (1, 0), (2, 0), (3, 0), (4, 1), (5, 0), (6, 0), (7, 0), (8, 1), (9, 0), (10, 0), (11, 2), (12, 3), (13, 0), (14, 0), (15, 3)] [12, 15] mixed (by kernel_rfl) ?_) | (refine St.draw (id := 12) [(0, 0), (1, 0), (2, 0), (3, 1), (4, 0), (5, 0), (6, 0), (7, 0), (8, 1), (9, 0), (10, 0), (11, 3)] [11] mixed (by kernel_rfl) ?_) | (apply Ka; exact Og; exact hsl; exact Oh) | (apply Kb; rfl; exact Og; exact hsl; exact Oi) | (apply Kc; rfl; exact Oj; exact Og; exact hsl; exact Oi) | (apply Zo; rfl; exact Oj; exact On; all_goals (intro h; try (exfalso; omega))))
      refine St.d1 Tryz.func64 ⟨_, ⟨rfl, rfl⟩, ?_⟩
      exact Ent.trans Ent.go (Ent.ex_in (Ls := wsL W room puts) x)
    · have e1 : putR room puts a = 0 := if_neg (fun h => hfull h.2)
      have e2 : putP room puts a v = puts ++ [(a, v)] := if_neg (fun h => hfull h.2)
      rw [e1, e2]
      have hsT : SetN (.int .i64 (((allP puts).length + 1 : Nat) : Int)) ((sl : Int).toNat * 1) (ints (tabP x.p puts)) (ints (tabP x.p (puts ++ [(a, v)]))) := by
        rw [Nat.mul_one, htab x.p, hslt]; exact SetN.ints (by omega) _
      refine Tri.of_body (vs := [_, _, _]) Tryz.func64 rfl rfl fun w0 F => ?_
      repeat' (first | (apply Ya; exact Oa) | (apply Yb; exact Ob) | (apply Yc; exact Oc; intro b) | (apply Ye; exact Oe; intro g cap rest hcap) | (apply Yd; exact Od; intro ad cap) | (apply Yf; exact Oj) | (apply Yg; exact Oj; exact ⟨rfl, rfl⟩) | (apply Yh; exact Oj; rfl) | (apply Yi; exact Oj; exact On; all_goals (intro h; try (exfalso; omega))) | apply StL.nil | apply St.region | apply St.seq | apply St.block | apply St.inBlock | apply St.skip | (apply St.exit; rfl) | (apply St.cond_t; rfl) | (apply St.cond_f; rfl) | (apply Ud; rfl; exact On; all_goals (intro h; try (exfalso; omega))) | (apply Za; rfl; exact Oa) | (apply Zb; rfl; exact Oa; exact Ent.go) | (apply Zc; rfl; exact Ob) | (apply Zd; rfl; exact Oc; intro b; refine ⟨Ent.go, ?_⟩) | (apply Ze; rfl; exact Oc; intro b) | (apply Zf; rfl; exact Oe; intro g cap rest hcap) | (apply Zg; rfl; exact Od; intro ad cap) | apply StD.nil | exact StD.nope | apply StD.pick | (apply StD.claim; rfl; intro b) | (apply Zi; rfl; exact Oj; exact Oa) | (apply Zj; rfl; exact Oj; exact Oa; exact Ent.go) | (apply Zk; rfl; exact Oj; exact ⟨rfl, rfl⟩) | (apply Zl; rfl; exact Oj; exact ⟨rfl, rfl⟩; exact Ent.go) | (apply Zm; rfl; exact Oj; rfl) | (apply Zn; rfl; exact Oj; exact Ent.go; rfl) | (refine St.draw (id := 5) [(0, 0), (1, 0), (2, 0), (3, 0), (4, 1), (5, 0), (6, 0), (7, 0), (8, 0), (9, 0), (10, 1), (11, 0), (12, 2), (13, 3), (14, 0), (15, 0), (16, 3)] [13, 16] mixed (by kernel_rfl) ?_) | (refine St.draw (id := 8) [(0, 0), (1, 0), (2, 0), (3, 1), (4, 0), (5, 0), (6, 0), (7, 0), (8, 1), (9, 0)] [] mixed (by kernel_rfl) ?_) | (refine St.draw (id := 10) [(0, 0), (1, 0), (2, 0), (3, 0), (4, 1), (5, 0), (6, 0), (7, 0), (8, 1), (9, 0), (10, 0), (11, 2), (12, 3), (13, 0), (14, 0), (15, 3)] [12, 15] mixed (by kernel_rfl) ?_) | (refine St.draw (id := 12) [(0, 0), (1, 0), (2, 0), (3, 1), (4, 0), (5, 0), (6, 0), (7, 0), (8, 1), (9, 0), (10, 0), (11, 3)] [11] mixed (by kernel_rfl) ?_) | (apply Ka; exact Og; exact hsl; exact Oh) | (apply Kb; rfl; exact Og; exact hsl; exact Oi) | (apply Kc; rfl; exact Oj; exact Og; exact hsl; exact Oi) | (apply Zo; rfl; exact Oj; exact On; all_goals (intro h; try (exfalso; omega))))
      have e3 : allP (puts ++ [(a, v)]) = allP puts ++ [(a, v)] := by rw [allP_snoc, mput_new _ _ _ hg]
      have e4 : chgs (puts ++ [(a, v)]) = chgs puts ++ [⟨(allP puts).length, 0, true⟩] := by rw [chgs_snoc]; unfold chgOf; rw [hki]
      refine St.d1 Tryz.func64 ⟨_, ⟨rfl, rfl⟩, ?_⟩
      refine Ent.trans ?_ (Ent.ex_in (Ls := wsL W room (puts ++ [(a, v)])) ⟨?lad, ?lcap, ?dad, ?dcap, x.T, x.p, x.hp, x.h2, x.hroom, by rw [e3, List.length_append]; show _ + 1 ≤ _; omega, x.hr⟩)
      unfold wsL
      dsimp only
      rw [e3, e4, List.flatMap_append, List.flatMap_append, List.length_append, List.length_append]
      exact Ent.go
  · obtain ⟨h0, hlt⟩ := x.old hm
    obtain ⟨htab, _⟩ := tabP_same (p := x.p) (v := v) hg
    have e1 : putR room puts a = 0 := if_neg (fun h => by rw [hg] at h; cases h.1)
    have e2 : putP room puts a v = puts ++ [(a, v)] := if_neg (fun h => by rw [hg] at h; cases h.1)
    rw [e1, e2]
    generalize hslt : slotOf (tabP x.p puts) (keysP puts) a = sl at *
    have hnT := NthN.ints (l := tabP x.p puts) (i := sl) (by omega)
    rw [h0] at hnT
    have hnT' : NthN ((sl : Int).toNat * 1) (ints (tabP x.p puts)) (.int .i64 ((i + 1 : Nat) : Int)) := by rw [Nat.mul_one]; exact hnT
    have e3 : allP (puts ++ [(a, v)]) = (allP puts).set i (a, v) := by rw [allP_snoc, hput]
    have e4 : chgs (puts ++ [(a, v)]) = chgs puts ++ [⟨i, u, false⟩] := by
      rw [chgs_snoc]; unfold chgOf; rw [hki]; dsimp only
      rw [List.getD_eq_getElem?_getD, List.getElem?_eq_getElem hi, hm]; rfl
    refine Tri.of_body (vs := [_, _, _]) Tryz.func64 rfl rfl fun w0 F => ?_
    refine St.conv ?_ (Sub.refl _) (Ent.of_take (.there .here))
    refine St.rowF (by omega) fun g lcp rest hv hrf => ?_
    injection hv with hv1 hv2 hv3
    have hsl := hsl.ent (M := [bl g 111 ((allP puts).flatMap entV ++ rest), bl W 151 (setV room (.slice x.lad (allP puts).length x.lcap) x.T (2 ^ x.p) (.slice x.dad puts.length x.dcap)), bl x.T 3 (ints (tabP x.p puts))]) (by
      rw [hv1, hv3]
      exact Ent.trans (Ent.rowF hrf) Ent.go)
    rw [hv1, hv3] at hsl ⊢
    have hn1 : NthN ((((i + 1 : Nat) : Int) - 1).toNat * 2 + 1) ((allP puts).flatMap entV ++ rest) (.int .u64 (u : Int)) := by
      have := (NthN.flat entV_len hi (v := .int .u64 (u : Int)) (j := 1) (by rw [hm]; exact .succ .zero)).app_left rest
      rw [show i * 2 = (((i + 1 : Nat) : Int) - 1).toNat * 2 by omega] at this
      exact this
    have hs1 : SetN (.int .u64 (v : Int)) ((((i + 1 : Nat) : Int) - 1).toNat * 2 + 1) ((allP puts).flatMap entV ++ rest) (((allP puts).set i (a, v)).flatMap entV ++ rest) := by
      have := (SetN.flat entV_len hi (v := .int .u64 (v : Int)) (j := 1) (x := (a, v)) (by rw [hm]; exact .succ .zero)).app_left rest
      rw [show i * 2 = (((i + 1 : Nat) : Int) - 1).toNat * 2 by omega] at this
      exact this
    repeat' (first | (apply Ya; exact Oa) | (apply Yb; exact Ob) | (apply Yc; exact Oc; intro b) | (apply Ye; exact Oe; intro g cap rest hcap) | (apply Yd; exact Od; intro ad cap) | (apply Yf; exact Oj) | (apply Yg; exact Oj; exact ⟨rfl, rfl⟩) | (apply Yh; exact Oj; rfl) | (apply Yi; exact Oj; exact On; all_goals (intro h; try (exfalso; omega))) | apply StL.nil | apply St.region | apply St.seq | apply St.block | apply St.inBlock | apply St.skip | (apply St.exit; rfl) | (apply St.cond_t; rfl) | (apply St.cond_f; rfl) | (apply Ud; rfl; exact On; all_goals (intro h; try (exfalso; omega))) | (apply Za; rfl; exact Oa) | (apply Zb; rfl; exact Oa; exact Ent.go) | (apply Zc; rfl; exact Ob) | (apply Zd; rfl; exact Oc; intro b; refine ⟨Ent.go, ?_⟩) | (apply Ze; rfl; exact Oc; intro b) | (apply Zf; rfl; exact Oe; intro g cap rest hcap) | (apply Zg; rfl; exact Od; intro ad cap) | apply StD.nil | exact StD.nope | apply StD.pick | (apply StD.claim; rfl; intro b) | (apply Zi; rfl; exact Oj; exact Oa) | (apply Zj; rfl; exact Oj; exact Oa; exact Ent.go) | (apply Zk; rfl; exact Oj; exact ⟨rfl, rfl⟩) | (apply Zl; rfl; exact Oj; exact ⟨rfl, rfl⟩; exact Ent.go) | (apply Zm; rfl; exact Oj; rfl) | (apply Zn; rfl; exact Oj; exact Ent.go; rfl) | (refine St.draw (id := 5) [(0, 0), (1, 0), (2, 0), (3, 0), (4, 1), (5, 0), (6, 0), (7, 0), (8, 0), (9, 0), (10, 1), (11, 0), (12, 2), (13, 3), (14, 0), (15, 0), (16, 3)] [13, 16] mixed (by kernel_rfl) ?_) | (refine St.draw (id := 8) [(0, 0), (1, 0), (2, 0), (3, 1), (4, 0), (5, 0), (6, 0), (7, 0), (8, 1), (9, 0)] [] mixed (by kernel_rfl) ?_) | (refine St.draw (id := 10) [(0, 0), (1, 0), (2, 0), (3, 0), (4, 1), (5, 0), (6, 0), (7, 0), (8, 1), (9, 0), (10, 0), (11, 2), (12, 3), (13, 0), (14, 0), (15, 3)] [12, 15] mixed (by kernel_rfl) ?_) | (refine St.draw (id := 12) [(0, 0), (1, 0), (2, 0), (3, 1), (4, 0), (5, 0), (6, 0), (7, 0), (8, 1), (9, 0), (10, 0), (11, 3)] [11] mixed (by kernel_rfl) ?_) | (apply Ka; exact Og; exact hsl; exact Oh) | (apply Kb; rfl; exact Og; exact hsl; exact Oi) | (apply Kc; rfl; exact Oj; exact Og; exact hsl; exact Oi) | (apply Zo; rfl; exact Oj; exact On; all_goals (intro h; try (exfalso; omega))))
    refine St.d1 Tryz.func64 ⟨_, ⟨rfl, rfl⟩, ?_⟩
    refine Ent.trans ?_ (Ent.ex_in (Ls := wsL W room (puts ++ [(a, v)])) ⟨some ⟨g, 0, none⟩, lcp, ad, cap, x.T, x.p, x.hp, x.h2, x.hroom, by rw [e3, List.length_set]; exact x.hm, x.hr⟩)
    unfold wsL
    dsimp only
    rw [e3, e4, List.flatMap_append, List.length_append, List.length_set, htab, show ((i + 1 : Nat) : Int) - 1 = (i : Int) by omega]
    refine Ent.trans (Ent.of_take (p := bl g 111 (((allP puts).set i (a, v)).flatMap entV ++ rest)) Take.go) ?_
    refine Ent.trans (Ent.rowF (n := (allP puts).length) (cap := lcp) (sz := 2) ⟨hrf.le, hrf.max, ?_, ?_⟩) ?_
    · rw [flat_len entV_len, List.length_set]
    · have := hrf.tot
      rw [flat_len entV_len] at this
      rw [flat_len entV_len, List.length_set]; exact this
    · exact Ent.go
end Go.Proofs.YtipnljhelbjmaaaGreat
