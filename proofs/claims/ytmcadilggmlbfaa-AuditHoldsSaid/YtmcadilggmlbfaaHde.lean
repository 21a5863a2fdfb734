/-
  The law AuditHolds: same.
-/
import Derived.ChangeKeysEq
import Derived.Test.YtmcadilggmlbfaaHdd
namespace Go.Proofs.Ytmcadilggmlbfaa
set_option maxRecDepth 100000
theorem eqItems_ints {P : Program} {e d : Nat} {k k' : IntKind} {xs ys : List Int} {w : World} [he : Und P e (.int k')] [ha : IsAg P e false] :
    ∀ is : List Nat, (∀ i ∈ is, i < xs.length ∧ i < ys.length) → (Op.eqItems (d + 1) e 1 ⟨xs.map (Value.int k)⟩ ⟨ys.map (Value.int k)⟩ is).run P w = .ok (is.all fun i => xs[i]? == ys[i]?) w
  | [], _ => by simp [Op.eqItems]
  | i :: is, h => by
    obtain ⟨h1, h2⟩ := h i (by simp)
    have ih := eqItems_ints (P := P) (d := d) (k := k) (k' := k') (xs := xs) (ys := ys) (w := w) (e := e) is (fun j hj => h j (by simp [hj]))
    have hx : (xs.map (Value.int k))[i]? = some (.int k xs[i]) := by rw [List.getElem?_map, List.getElem?_eq_getElem h1]; rfl
    have hy : (ys.map (Value.int k))[i]? = some (.int k ys[i]) := by rw [List.getElem?_map, List.getElem?_eq_getElem h2]; rfl
    simp only [Op.eqItems, Sem.run_bind, part, ha.h, Result.andThen_ok, Bool.false_eq_true, if_false, Nat.mul_one, List.getElem?_toArray, hx, hy, Sem.run_pure, run_equalIn_int w d e k k' _ _ he.h, List.all_cons, List.getElem?_eq_getElem h1, List.getElem?_eq_getElem h2]
    by_cases hb : xs[i] = ys[i]
    · simp [hb, ih]
    · simp [hb]
theorem EqV.arr {P : Program} {m t e n : Nat} {k k' : IntKind} {xs ys : List Int} [hu : Und P t (.array n e)] [he : Und P e (.int k')] [ha : IsAg P e false] [hb : Byt P e 8] (hc : P.cellsOf e = 1) (hx : xs.length = n) (hy : ys.length = n) :
    EqV P (m + 2) t (.agg ⟨xs.map (Value.int k)⟩) (.agg ⟨ys.map (Value.int k)⟩) (xs == ys) := by
  unfold EqV
  intro d w
  obtain ⟨i, hi, _⟩ := hb.h
  have hi' : P.info? e = some i := by
    have := hi w
    simp only [typeInfo, Sem.run_bind, run_program, Result.andThen_ok] at this
    cases h : P.info? e with
    | none => rw [h] at this; simp at this
    | some j => rw [h] at this; simp at this; rw [this]
  rw [show d + (m + 2) = (d + m + 1) + 1 by omega, run_equalIn_array w (d + m + 1) _ _ hu.h hi', hc, eqItems_ints (k' := k') _ (fun j hj => by have := List.mem_range.1 hj; omega)]
  congr 1
  rw [Bool.eq_iff_iff, List.all_eq_true]
  constructor
  · intro h
    refine beq_iff_eq.2 (List.ext_getElem? fun j => ?_)
    by_cases hj : j < n
    · exact beq_iff_eq.1 (h j (List.mem_range.2 hj))
    · rw [List.getElem?_eq_none (by omega), List.getElem?_eq_none (by omega)]
  · intro h j _
    rw [beq_iff_eq.1 h]; simp
theorem boxes_handles (c : Cfg) (g : Int → Nat) (n : Nat) {m : List (Int × List Nat)} (hm : m.Perm (boxesBy c g n)) {ys : List Int} (hp : ys.Perm (m.map (·.1))) (hu : Up ys) : ys = (boxesBy c g n).map (·.1) :=
  List.Perm.eq_of_pairwise (fun a b _ _ h1 h2 => Int.le_antisymm h1 h2) hu ((boxesBy_up c g n).imp fun h => Int.le_of_lt h) (hp.trans (hm.map _))
theorem box_at {l : List (Int × List Nat)} (h8 : ∀ p ∈ l, p.2.length = 8) : ∀ p ∈ l, (boxV p).length = 9 := fun p hp => by simp [boxV, h8 p hp]
theorem DropN.flat' {α : Type} {f : α → List Value} {sz : Nat} : ∀ {l : List α} {i : Nat}, (∀ x ∈ l, (f x).length = sz) → (hi : i < l.length) → DropN (i * sz) (l.flatMap f) (f l[i] ++ (l.drop (i + 1)).flatMap f)
  | x :: l, 0, _, _ => by rw [Nat.zero_mul]; exact .zero
  | x :: l, i + 1, h, hi => by
    have ih := DropN.flat' (f := f) (sz := sz) (l := l) (i := i) (fun y hy => h y (by simp [hy])) (by simpa using hi)
    have e : (f x).length = sz := h x (by simp)
    have h1 : ∀ (a b c : List Value) (n : Nat), DropN n b c → DropN (a.length + n) (a ++ b) c := fun a b c n hd => by
      induction a with
      | nil => rw [List.length_nil, Nat.zero_add]; exact hd
      | cons y a ih => rw [List.length_cons, show a.length + 1 + n = (a.length + n) + 1 by omega]; exact .succ ih
    have h2 := h1 (f x) _ _ _ ih
    rw [e] at h2
    rw [Nat.succ_mul, Nat.add_comm]
    exact h2
set_option maxHeartbeats 2000000 in
theorem same_t (c : Cfg) (g : Int → Nat) (n : Nat) (hn : n ≤ 12) (S mb : Nat) (m : List (Int × List Nat)) (hm : m.Perm (boxesBy c g n)) (bad : Option Addr) (bcap : Nat) :
    Tri Try.prog 15 #[.pointer (some ⟨S, 0, none⟩), stateV (rootsBy c g) (.slice bad (boxesBy c g n).length bcap)]
      [bl S 125 (stV (rootsBy c g) mb), Mp mb u64K aggL m, Row (.slice bad (boxesBy c g n).length bcap) 95 9 (boxesBy c g n).length ((boxesBy c g n).flatMap boxV)]
      fun r L => r = .bool true ∧ L = [] := by
  have hl16 : (rootsBy c g).length = 16 := by simp [rootsBy]
  have hnb := boxesBy_len c g n
  have hlt := boxesBy_lt c g n
  have hup := boxesBy_up c g n
  have hml : m.length ≤ 12 := by rw [hm.length_eq]; omega
  have hha := handles_t S mb (rootsBy c g) hl16 m hml
  have hrt := fun k => root_r S mb (rootsBy c g) hl16 k
  have hbk := fun h => block_r S mb (rootsBy c g) hl16 m (fun p hp => (hlt p (hm.subset hp)).2.2) h
  have hmem : ∀ p ∈ boxesBy c g n, mget m p.1 = some p.2 := fun p hp => mget_of_perm ((hm.map _).symm.nodup_iff.1 (hup.imp fun h => Int.ne_of_lt h)) (hm.symm.subset hp)
  have hys := fun {ys : List Int} => boxes_handles c g n hm (ys := ys)
  generalize rootsBy c g = R at *
  generalize hBx : boxesBy c g n = B at *
  have hnR : ∀ v : Value, NthN (0 + 16) (R.map nat64 ++ [v]) v := fun v => by
    have h1 : NthN ((R.map nat64).length + 0) (R.map nat64 ++ [v]) v := NthN.zero.app_right _
    rwa [List.length_map, hl16] at h1
  have hRk : ∀ (k : Nat) (v : Value), k < 16 → NthN (0 + 0 + (k : Int).toNat * 1) (R.map nat64 ++ [v]) (.int .u64 (rootOf R k : Int)) := fun k v hk => by
    rw [show 0 + 0 + (k : Int).toNat * 1 = k by omega]
    refine (NthN.of ?_).app_left _
    unfold rootOf
    rw [if_neg (by omega), List.getElem?_map, Int.toNat_natCast, List.getD_eq_getElem?_getD, List.getElem?_eq_getElem (by omega)]
    rfl
  unfold stateV
  refine Tri.of_body (vs := [_, _]) Try.func15 rfl rfl fun w0 F => ?_
  repeat' (first | (apply Ya; exact Oa) | (apply Yb; exact Ob) | (apply Yc; exact Oc; intro b) | (apply Ye; exact Oe; intro g cap rest hcap) | (apply Yd; exact Od; intro ad cap) | (apply Yf; exact Oj) | (apply Yg; exact Oj; exact ⟨rfl, rfl⟩) | (apply Yh; exact Oj; rfl) | (apply Yi; exact Oj; exact On; all_goals (intro h; try (exfalso; omega))) | apply StL.nil | apply St.region | apply St.seq | apply St.block | apply St.inBlock | apply St.skip | (apply St.exit; rfl) | (apply St.cond_t; rfl) | (apply St.cond_f; rfl) | (apply Ud; rfl; exact On; all_goals (intro h; try (exfalso; omega))) | (apply Za; rfl; exact Oa) | (apply Zb; rfl; exact Oa; exact Ent.go) | (apply Zc; rfl; exact Ob) | (apply Zd; rfl; exact Oc; intro b; refine ⟨Ent.go, ?_⟩) | (apply Ze; rfl; exact Oc; intro b) | (apply Zf; rfl; exact Oe; intro g cap rest hcap) | (apply Zg; rfl; exact Od; intro ad cap) | apply StD.nil | exact StD.nope | apply StD.pick | (apply StD.claim; rfl; intro b) | (apply Zi; rfl; exact Oj; exact Oa) | (apply Zj; rfl; exact Oj; exact Oa; exact Ent.go) | (apply Zk; rfl; exact Oj; exact ⟨rfl, rfl⟩) | (apply Zl; rfl; exact Oj; exact ⟨rfl, rfl⟩; exact Ent.go) | (apply Zm; rfl; exact Oj; rfl) | (apply Zn; rfl; exact Oj; exact Ent.go; rfl) | (refine St.draw (id := 7) [(0, 0), (1, 0), (2, 1), (3, 0), (4, 0), (5, 0), (6, 1), (7, 0)] [] mixed (by kernel_rfl) ?_) | (refine St.draw (id := 14) [(0, 0), (1, 0), (2, 0), (3, 1), (4, 0), (5, 1), (6, 0), (7, 0), (8, 0), (9, 0), (10, 0), (11, 0), (12, 0), (13, 0), (14, 0), (15, 0), (16, 0), (17, 0), (18, 1), (19, 0), (20, 1), (21, 0), (22, 0)] [] mixed (by kernel_rfl) ?_)  | (apply Kd; exact Og; exact hha; exact Oh; rintro _ _ ⟨ys, lad, lcap, hp, hu, rfl, rfl⟩) | (apply Ke; rfl; exact Og; exact hha; exact Oh; rintro _ _ ⟨ys, lad, lcap, hp, hu, rfl, rfl⟩) | (apply Kf; rfl; exact Og; exact hha; exact Oh; rintro _ _ ⟨ys, lad, lcap, hp, hu, rfl, rfl⟩; refine ⟨Ent.go, ?_⟩) | (apply Zo; rfl; exact Oj; exact On; all_goals (intro h; try (exfalso; omega))))
  obtain rfl := hys hp hu
  rw [List.length_map]
  refine St.loopY (Lr := ?Lr1) (ι := { k : Nat // k ≤ 16 }) (fun x => 16 - x.1) (fun x => [(15, .int .i64 (x.1 : Int))]) (fun x => []) ⟨0, Nat.zero_le _⟩ ?hE ?hL ?round
  case hE => exact Sub.go
  case hL => exact Takes.go
  case round =>
    rintro ⟨k, hk⟩ IH; dsimp only at hk ⊢
    by_cases hlt16 : k < 16
    · have hr := hrt k
      have hn := hRk k (.slice bad B.length bcap) hlt16
      repeat' (first | (apply Ya; exact Oa) | (apply Yb; exact Ob) | (apply Yc; exact Oc; intro b) | (apply Ye; exact Oe; intro g cap rest hcap) | (apply Yd; exact Od; intro ad cap) | (apply Yf; exact Oj) | (apply Yg; exact Oj; exact ⟨rfl, rfl⟩) | (apply Yh; exact Oj; rfl) | (apply Yi; exact Oj; exact On; all_goals (intro h; try (exfalso; omega))) | apply StL.nil | apply St.region | apply St.seq | apply St.block | apply St.inBlock | apply St.skip | (apply St.exit; rfl) | (apply St.cond_t; rfl) | (apply St.cond_f; rfl) | (apply Ud; rfl; exact On; all_goals (intro h; try (exfalso; omega))) | (apply Za; rfl; exact Oa) | (apply Zb; rfl; exact Oa; exact Ent.go) | (apply Zc; rfl; exact Ob) | (apply Zd; rfl; exact Oc; intro b; refine ⟨Ent.go, ?_⟩) | (apply Ze; rfl; exact Oc; intro b) | (apply Zf; rfl; exact Oe; intro g cap rest hcap) | (apply Zg; rfl; exact Od; intro ad cap) | apply StD.nil | exact StD.nope | apply StD.pick | (apply StD.claim; rfl; intro b) | (apply Zi; rfl; exact Oj; exact Oa) | (apply Zj; rfl; exact Oj; exact Oa; exact Ent.go) | (apply Zk; rfl; exact Oj; exact ⟨rfl, rfl⟩) | (apply Zl; rfl; exact Oj; exact ⟨rfl, rfl⟩; exact Ent.go) | (apply Zm; rfl; exact Oj; rfl) | (apply Zn; rfl; exact Oj; exact Ent.go; rfl) | (refine St.draw (id := 7) [(0, 0), (1, 0), (2, 1), (3, 0), (4, 0), (5, 0), (6, 1), (7, 0)] [] mixed (by kernel_rfl) ?_) | (refine St.draw (id := 14) [(0, 0), (1, 0), (2, 0), (3, 1), (4, 0), (5, 1), (6, 0), (7, 0), (8, 0), (9, 0), (10, 0), (11, 0), (12, 0), (13, 0), (14, 0), (15, 0), (16, 0), (17, 0), (18, 1), (19, 0), (20, 1), (21, 0), (22, 0)] [] mixed (by kernel_rfl) ?_) | (apply Ka; exact Og; exact hr; exact Oh) | (apply Kb; rfl; exact Og; exact hr; exact Oi) | (apply Kc; rfl; exact Oj; exact Og; exact hr; exact Oi) | (apply Zo; rfl; exact Oj; exact On; all_goals (intro h; try (exfalso; omega))))
      refine IH ⟨k + 1, hlt16⟩ (by show 16 - (k + 1) < 16 - k; omega) ?_ ?_
      · exact Sub.go
      · exact Ent.go
    · obtain rfl : k = 16 := by omega
      clear IH
      have hn := hnR (.slice bad B.length bcap)
      repeat' (first | (apply Ya; exact Oa) | (apply Yb; exact Ob) | (apply Yc; exact Oc; intro b) | (apply Ye; exact Oe; intro g cap rest hcap) | (apply Yd; exact Od; intro ad cap) | (apply Yf; exact Oj) | (apply Yg; exact Oj; exact ⟨rfl, rfl⟩) | (apply Yh; exact Oj; rfl) | (apply Yi; exact Oj; exact On; all_goals (intro h; try (exfalso; omega))) | apply StL.nil | apply St.region | apply St.seq | apply St.block | apply St.inBlock | apply St.skip | (apply St.exit; rfl) | (apply St.cond_t; rfl) | (apply St.cond_f; rfl) | (apply Ud; rfl; exact On; all_goals (intro h; try (exfalso; omega))) | (apply Za; rfl; exact Oa) | (apply Zb; rfl; exact Oa; exact Ent.go) | (apply Zc; rfl; exact Ob) | (apply Zd; rfl; exact Oc; intro b; refine ⟨Ent.go, ?_⟩) | (apply Ze; rfl; exact Oc; intro b) | (apply Zf; rfl; exact Oe; intro g cap rest hcap) | (apply Zg; rfl; exact Od; intro ad cap) | apply StD.nil | exact StD.nope | apply StD.pick | (apply StD.claim; rfl; intro b) | (apply Zi; rfl; exact Oj; exact Oa) | (apply Zj; rfl; exact Oj; exact Oa; exact Ent.go) | (apply Zk; rfl; exact Oj; exact ⟨rfl, rfl⟩) | (apply Zl; rfl; exact Oj; exact ⟨rfl, rfl⟩; exact Ent.go) | (apply Zm; rfl; exact Oj; rfl) | (apply Zn; rfl; exact Oj; exact Ent.go; rfl) | (refine St.draw (id := 7) [(0, 0), (1, 0), (2, 1), (3, 0), (4, 0), (5, 0), (6, 1), (7, 0)] [] mixed (by kernel_rfl) ?_) | (refine St.draw (id := 14) [(0, 0), (1, 0), (2, 0), (3, 1), (4, 0), (5, 1), (6, 0), (7, 0), (8, 0), (9, 0), (10, 0), (11, 0), (12, 0), (13, 0), (14, 0), (15, 0), (16, 0), (17, 0), (18, 1), (19, 0), (20, 1), (21, 0), (22, 0)] [] mixed (by kernel_rfl) ?_)  | (apply Zo; rfl; exact Oj; exact On; all_goals (intro h; try (exfalso; omega))))
      refine St.conv ?_ (Sub.refl _) (Ent.of_take (p := Row (.slice bad B.length bcap) 95 9 B.length (B.flatMap boxV)) Take.go)
      by_cases hB0 : B.length = 0
      · rw [hB0] at hn ⊢
        refine St.loop1 ?_
        repeat' (first | (apply Ya; exact Oa) | (apply Yb; exact Ob) | (apply Yc; exact Oc; intro b) | (apply Ye; exact Oe; intro g cap rest hcap) | (apply Yd; exact Od; intro ad cap) | (apply Yf; exact Oj) | (apply Yg; exact Oj; exact ⟨rfl, rfl⟩) | (apply Yh; exact Oj; rfl) | (apply Yi; exact Oj; exact On; all_goals (intro h; try (exfalso; omega))) | apply StL.nil | apply St.region | apply St.seq | apply St.block | apply St.inBlock | apply St.skip | (apply St.exit; rfl) | (apply St.cond_t; rfl) | (apply St.cond_f; rfl) | (apply Ud; rfl; exact On; all_goals (intro h; try (exfalso; omega))) | (apply Za; rfl; exact Oa) | (apply Zb; rfl; exact Oa; exact Ent.go) | (apply Zc; rfl; exact Ob) | (apply Zd; rfl; exact Oc; intro b; refine ⟨Ent.go, ?_⟩) | (apply Ze; rfl; exact Oc; intro b) | (apply Zf; rfl; exact Oe; intro g cap rest hcap) | (apply Zg; rfl; exact Od; intro ad cap) | apply StD.nil | exact StD.nope | apply StD.pick | (apply StD.claim; rfl; intro b) | (apply Zi; rfl; exact Oj; exact Oa) | (apply Zj; rfl; exact Oj; exact Oa; exact Ent.go) | (apply Zk; rfl; exact Oj; exact ⟨rfl, rfl⟩) | (apply Zl; rfl; exact Oj; exact ⟨rfl, rfl⟩; exact Ent.go) | (apply Zm; rfl; exact Oj; rfl) | (apply Zn; rfl; exact Oj; exact Ent.go; rfl) | (refine St.draw (id := 7) [(0, 0), (1, 0), (2, 1), (3, 0), (4, 0), (5, 0), (6, 1), (7, 0)] [] mixed (by kernel_rfl) ?_) | (refine St.draw (id := 14) [(0, 0), (1, 0), (2, 0), (3, 1), (4, 0), (5, 1), (6, 0), (7, 0), (8, 0), (9, 0), (10, 0), (11, 0), (12, 0), (13, 0), (14, 0), (15, 0), (16, 0), (17, 0), (18, 1), (19, 0), (20, 1), (21, 0), (22, 0)] [] mixed (by kernel_rfl) ?_)  | (apply Zo; rfl; exact Oj; exact On; all_goals (intro h; try (exfalso; omega))))
        refine St.d1 Try.func15 ⟨_, ⟨rfl, rfl⟩, Ent.go⟩
      refine St.rowF (by omega) (fun gb bcap' rst hv hrf => ?_)
      injection hv with hv1 hv2 hv3
      subst hv1 hv3
      refine St.conv ?_ (Sub.refl _) (Ent.of_take (p := rowU lad lcap (B.map (·.1))) Take.go)
      unfold rowU
      rw [List.length_map]
      refine St.rowF (by omega) (fun gy ycap ryst hv hyf => ?_)
      injection hv with hv1 hv2 hv3
      subst hv1 hv3
      have hb1 := hrf.le
      have hy1 := hyf.le
      refine St.loopY (Lr := ?Lr2) (ι := { k : Nat // k ≤ B.length }) (fun x => B.length - x.1) (fun x => [(30, .int .i64 (x.1 : Int))]) (fun x => []) ⟨0, Nat.zero_le _⟩ ?hE ?hL ?round
      case hE => exact Sub.go
      case hL => exact Takes.go
      case round =>
        rintro ⟨k, hk⟩ IH; dsimp only at hk ⊢
        by_cases hkB : k < B.length
        · have hin : B[k] ∈ B := List.getElem_mem hkB
          have hd := (DropN.flat' (f := boxV) (sz := 9) (fun p hp => by simp [boxV, (hlt p hp).2.2]) hkB).more rst
          have hny : NthN ((k : Int).toNat * 1) ((B.map (·.1)).map u64K ++ ryst) (.int .u64 (B[k]).1) := by
            rw [show (k : Int).toNat * 1 = k by omega]
            refine (NthN.of ?_).app_left _
            rw [List.map_map, List.getElem?_map, List.getElem?_eq_getElem hkB]; rfl
          have hmk := hmem _ hin
          have hl := hlt _ hin
          generalize B[k] = e at *
          obtain ⟨h, ws⟩ := e
          dsimp only at hmk hl hny
          obtain ⟨y0, y1, y2, y3, y4, y5, y6, y7, rfl⟩ := eight_of hl.2.2
          obtain ⟨hh, rfl⟩ : ∃ hh : Nat, h = hh := ⟨h.toNat, by omega⟩
          have hb := hbk hh
          rw [hmk] at hb
          have hb' : RTri Try.prog 36 #[.pointer (some ⟨S, 0, none⟩), .int .u64 (hh : Int)] [bl S 125 (stV R mb), Mp mb u64K aggL m] (.tuple ⟨[.agg ⟨[nat64 y0, nat64 y1, nat64 y2, nat64 y3, nat64 y4, nat64 y5, nat64 y6, nat64 y7]⟩, .bool true]⟩) := hb
          have hd' : DropN ((k : Int).toNat * 9) (B.flatMap boxV ++ rst) ([.int .u64 (hh : Int), nat64 y0, nat64 y1, nat64 y2, nat64 y3, nat64 y4, nat64 y5, nat64 y6, nat64 y7] ++ ((B.drop (k + 1)).flatMap boxV ++ rst)) := by
            rw [show (k : Int).toNat * 9 = k * 9 by omega, ← List.append_assoc]; exact hd
          have hev : EqV Try.prog 4 93 (.agg ⟨[nat64 y0, nat64 y1, nat64 y2, nat64 y3, nat64 y4, nat64 y5, nat64 y6, nat64 y7]⟩) (.agg ⟨[nat64 y0, nat64 y1, nat64 y2, nat64 y3, nat64 y4, nat64 y5, nat64 y6, nat64 y7]⟩) true := by
            have := EqV.arr (P := Try.prog) (m := 2) (t := 93) (k := .u64) (k' := .u64) (e := 22) (n := 8) (xs := [(y0 : Int), y1, y2, y3, y4, y5, y6, y7]) (ys := [(y0 : Int), y1, y2, y3, y4, y5, y6, y7]) (by kernel_rfl) rfl rfl
            rw [beq_self_eq_true] at this
            exact this
          repeat' (first | (refine St.halt 14 ?_) |(apply Ya; exact Oa) | (apply Yb; exact Ob) | (apply Yc; exact Oc; intro b) | (apply Ye; exact Oe; intro g cap rest hcap) | (apply Yd; exact Od; intro ad cap) | (apply Yf; exact Oj) | (apply Yg; exact Oj; exact ⟨rfl, rfl⟩) | (apply Yh; exact Oj; rfl) | (apply Yi; exact Oj; exact On; all_goals (intro h; try (exfalso; omega))) | apply StL.nil | apply St.region | apply St.seq | apply St.block | apply St.inBlock | apply St.skip | (apply St.exit; rfl) | (apply St.cond_t; rfl) | (apply St.cond_f; rfl) | (apply Ud; rfl; exact On; all_goals (intro h; try (exfalso; omega))) | (apply Za; rfl; exact Oa) | (apply Zb; rfl; exact Oa; exact Ent.go) | (apply Zc; rfl; exact Ob) | (apply Zd; rfl; exact Oc; intro b; refine ⟨Ent.go, ?_⟩) | (apply Ze; rfl; exact Oc; intro b) | (apply Zf; rfl; exact Oe; intro g cap rest hcap) | (apply Zg; rfl; exact Od; intro ad cap) | apply StD.nil | exact StD.nope | apply StD.pick | (apply StD.claim; rfl; intro b) | (apply Zi; rfl; exact Oj; exact Oa) | (apply Zj; rfl; exact Oj; exact Oa; exact Ent.go) | (apply Zk; rfl; exact Oj; exact ⟨rfl, rfl⟩) | (apply Zl; rfl; exact Oj; exact ⟨rfl, rfl⟩; exact Ent.go) | (apply Zm; rfl; exact Oj; rfl) | (apply Zn; rfl; exact Oj; exact Ent.go; rfl) | (refine St.draw (id := 7) [(0, 0), (1, 0), (2, 1), (3, 0), (4, 0), (5, 0), (6, 1), (7, 0)] [] mixed (by kernel_rfl) ?_) | (refine St.draw (id := 14) [(0, 0), (1, 0), (2, 0), (3, 1), (4, 0), (5, 1), (6, 0), (7, 0), (8, 0), (9, 0), (10, 0), (11, 0), (12, 0), (13, 0), (14, 0), (15, 0), (16, 0), (17, 0), (18, 1), (19, 0), (20, 1), (21, 0), (22, 0)] [] mixed (by kernel_rfl) ?_) | (apply Ka; exact Og; exact hb'; exact Oh) | (apply Kb; rfl; exact Og; exact hb'; exact Oi) | (apply Kc; rfl; exact Oj; exact Og; exact hb'; exact Oi) | (apply Zo; rfl; exact Oj; exact On; all_goals (intro h; try (exfalso; omega))))
          apply Halt.go
          iterate 8 (first | (apply Ya; exact Oa) | (apply Yb; exact Ob) | (apply Yc; exact Oc; intro b) | (apply Ye; exact Oe; intro g cap rest hcap) | (apply Yd; exact Od; intro ad cap) | (apply Yf; exact Oj) | (apply Yg; exact Oj; exact ⟨rfl, rfl⟩) | (apply Yh; exact Oj; rfl) | (apply Yi; exact Oj; exact On; all_goals (intro h; try (exfalso; omega))) | apply StL.nil | apply St.region | apply St.seq | apply St.block | apply St.inBlock | apply St.skip | (apply St.exit; rfl) | (apply St.cond_t; rfl) | (apply St.cond_f; rfl) | (apply Ud; rfl; exact On; all_goals (intro h; try (exfalso; omega))) | (apply Za; rfl; exact Oa) | (apply Zb; rfl; exact Oa; exact Ent.go) | (apply Zc; rfl; exact Ob) | (apply Zd; rfl; exact Oc; intro b; refine ⟨Ent.go, ?_⟩) | (apply Ze; rfl; exact Oc; intro b) | (apply Zf; rfl; exact Oe; intro g cap rest hcap) | (apply Zg; rfl; exact Od; intro ad cap) | apply StD.nil | exact StD.nope | apply StD.pick | (apply StD.claim; rfl; intro b) | (apply Zi; rfl; exact Oj; exact Oa) | (apply Zj; rfl; exact Oj; exact Oa; exact Ent.go) | (apply Zk; rfl; exact Oj; exact ⟨rfl, rfl⟩) | (apply Zl; rfl; exact Oj; exact ⟨rfl, rfl⟩; exact Ent.go) | (apply Zm; rfl; exact Oj; rfl) | (apply Zn; rfl; exact Oj; exact Ent.go; rfl) | (refine St.draw (id := 7) [(0, 0), (1, 0), (2, 1), (3, 0), (4, 0), (5, 0), (6, 1), (7, 0)] [] mixed (by kernel_rfl) ?_) | (refine St.draw (id := 14) [(0, 0), (1, 0), (2, 0), (3, 1), (4, 0), (5, 1), (6, 0), (7, 0), (8, 0), (9, 0), (10, 0), (11, 0), (12, 0), (13, 0), (14, 0), (15, 0), (16, 0), (17, 0), (18, 1), (19, 0), (20, 1), (21, 0), (22, 0)] [] mixed (by kernel_rfl) ?_)  | (apply Zo; rfl; exact Oj; exact On; all_goals (intro h; try (exfalso; omega))))
          (apply Zi; rfl; exact Oj; exact ⟨OpV.neA (m := 4) rfl rfl hev rfl, rfl⟩)
          repeat' (first | (apply Ya; exact Oa) | (apply Yb; exact Ob) | (apply Yc; exact Oc; intro b) | (apply Ye; exact Oe; intro g cap rest hcap) | (apply Yd; exact Od; intro ad cap) | (apply Yf; exact Oj) | (apply Yg; exact Oj; exact ⟨rfl, rfl⟩) | (apply Yh; exact Oj; rfl) | (apply Yi; exact Oj; exact On; all_goals (intro h; try (exfalso; omega))) | apply StL.nil | apply St.region | apply St.seq | apply St.block | apply St.inBlock | apply St.skip | (apply St.exit; rfl) | (apply St.cond_t; rfl) | (apply St.cond_f; rfl) | (apply Ud; rfl; exact On; all_goals (intro h; try (exfalso; omega))) | (apply Za; rfl; exact Oa) | (apply Zb; rfl; exact Oa; exact Ent.go) | (apply Zc; rfl; exact Ob) | (apply Zd; rfl; exact Oc; intro b; refine ⟨Ent.go, ?_⟩) | (apply Ze; rfl; exact Oc; intro b) | (apply Zf; rfl; exact Oe; intro g cap rest hcap) | (apply Zg; rfl; exact Od; intro ad cap) | apply StD.nil | exact StD.nope | apply StD.pick | (apply StD.claim; rfl; intro b) | (apply Zi; rfl; exact Oj; exact Oa) | (apply Zj; rfl; exact Oj; exact Oa; exact Ent.go) | (apply Zk; rfl; exact Oj; exact ⟨rfl, rfl⟩) | (apply Zl; rfl; exact Oj; exact ⟨rfl, rfl⟩; exact Ent.go) | (apply Zm; rfl; exact Oj; rfl) | (apply Zn; rfl; exact Oj; exact Ent.go; rfl) | (refine St.draw (id := 7) [(0, 0), (1, 0), (2, 1), (3, 0), (4, 0), (5, 0), (6, 1), (7, 0)] [] mixed (by kernel_rfl) ?_) | (refine St.draw (id := 14) [(0, 0), (1, 0), (2, 0), (3, 1), (4, 0), (5, 1), (6, 0), (7, 0), (8, 0), (9, 0), (10, 0), (11, 0), (12, 0), (13, 0), (14, 0), (15, 0), (16, 0), (17, 0), (18, 1), (19, 0), (20, 1), (21, 0), (22, 0)] [] mixed (by kernel_rfl) ?_)  | (apply Zo; rfl; exact Oj; exact On; all_goals (intro h; try (exfalso; omega))))
          refine IH ⟨k + 1, hkB⟩ (by show B.length - (k + 1) < B.length - k; omega) ?_ ?_
          · exact Sub.go
          · exact Ent.go
        · obtain rfl : k = B.length := by omega
          clear IH
          repeat' (first | (apply Ya; exact Oa) | (apply Yb; exact Ob) | (apply Yc; exact Oc; intro b) | (apply Ye; exact Oe; intro g cap rest hcap) | (apply Yd; exact Od; intro ad cap) | (apply Yf; exact Oj) | (apply Yg; exact Oj; exact ⟨rfl, rfl⟩) | (apply Yh; exact Oj; rfl) | (apply Yi; exact Oj; exact On; all_goals (intro h; try (exfalso; omega))) | apply StL.nil | apply St.region | apply St.seq | apply St.block | apply St.inBlock | apply St.skip | (apply St.exit; rfl) | (apply St.cond_t; rfl) | (apply St.cond_f; rfl) | (apply Ud; rfl; exact On; all_goals (intro h; try (exfalso; omega))) | (apply Za; rfl; exact Oa) | (apply Zb; rfl; exact Oa; exact Ent.go) | (apply Zc; rfl; exact Ob) | (apply Zd; rfl; exact Oc; intro b; refine ⟨Ent.go, ?_⟩) | (apply Ze; rfl; exact Oc; intro b) | (apply Zf; rfl; exact Oe; intro g cap rest hcap) | (apply Zg; rfl; exact Od; intro ad cap) | apply StD.nil | exact StD.nope | apply StD.pick | (apply StD.claim; rfl; intro b) | (apply Zi; rfl; exact Oj; exact Oa) | (apply Zj; rfl; exact Oj; exact Oa; exact Ent.go) | (apply Zk; rfl; exact Oj; exact ⟨rfl, rfl⟩) | (apply Zl; rfl; exact Oj; exact ⟨rfl, rfl⟩; exact Ent.go) | (apply Zm; rfl; exact Oj; rfl) | (apply Zn; rfl; exact Oj; exact Ent.go; rfl) | (refine St.draw (id := 7) [(0, 0), (1, 0), (2, 1), (3, 0), (4, 0), (5, 0), (6, 1), (7, 0)] [] mixed (by kernel_rfl) ?_) | (refine St.draw (id := 14) [(0, 0), (1, 0), (2, 0), (3, 1), (4, 0), (5, 1), (6, 0), (7, 0), (8, 0), (9, 0), (10, 0), (11, 0), (12, 0), (13, 0), (14, 0), (15, 0), (16, 0), (17, 0), (18, 1), (19, 0), (20, 1), (21, 0), (22, 0)] [] mixed (by kernel_rfl) ?_)  | (apply Zo; rfl; exact Oj; exact On; all_goals (intro h; try (exfalso; omega))))
          refine St.d1 Try.func15 ⟨_, ⟨?_, rfl⟩, Ent.go⟩
          simp [resV]
end Go.Proofs.Ytmcadilggmlbfaa
