/-
  Package sched: told.
-/
import Derived.Test.YtemaaenipjinaaaGreatFz
namespace Go.Proofs.YtemaaenipjinaaaGreat
set_option maxRecDepth 100000
theorem splP {pre l l' : List Value} {o k : Nat} {vs : List Value} (ho : pre.length = o) (h : SplN vs k l l') : SplN vs (o + k) (pre ++ l) (pre ++ l') := by subst ho; exact h.app_right _
/-- the assertions of the call that a thread is at -/
def atP (c : Cfg) (pv : Value) (q : HProp) (progs : Progs) : Option (Cp × Cm) → Nat → HProp
  | none, _ => star []
  | some x, Cb => ClE Cb c pv x.1 q progs x.2
def toldR (R : Rec) (picks : Nat) (s : Cs) : Rec := if s.next = 13 then { R with steps := R.steps + 1, to_ := picks, done := true, rc := s.rc, rv := s.rv } else { R with steps := R.steps + 1 }
def toldW (t picks cnt lk : Nat) (s : Cs) : List SRow := if s.next = 13 ∧ s.alone = true then [⟨((if s.fresh = true then picks else lk : Nat) : Int), (t : Int), (cnt : Int), s.rc, s.rv, []⟩] else []
theorem get_mid {α : Type} {l : List α} {i : Nat} (h : i < l.length) (d : α) : l = l.take i ++ l.getD i d :: l.drop (i + 1) := by
  rw [List.getD_eq_getElem?_getD, List.getElem?_eq_getElem h, Option.getD_some, ← List.drop_eq_getElem_cons h, List.take_append_drop]
theorem set_mid {α : Type} {l : List α} {i : Nat} (h : i < l.length) (x : α) : l.set i x = l.take i ++ x :: l.drop (i + 1) := by
  rw [List.set_eq_take_append_cons_drop, if_pos h]
theorem Ent.star_app (A B : List HProp) {M : List HProp} : Ent (star A :: star B :: M) (star (A ++ B) :: M) := by
  refine Ent.trans Ent.star_out (Ent.trans (Ent.under Ent.star_out) ?_)
  rw [← List.append_assoc]
  exact Ent.star_in (A ++ B)
def conv (picks : Nat) (r : RowH) : SRowH := (rowOf picks r.1, r.2)
set_option maxHeartbeats 2000000 in
theorem told_t (Sb Mb Tb n cap : Nat) (c : Cfg) (hc : Small c) (pv : Value) (q : HProp) (progs : Progs) (hpv : ProgsR q pv progs) (t : Nat) (o : Nat) (pre post : List Value) (ho : pre.length = o) (cv : Value) (Cb : Nat) (rec cnt lk picks : Nat) (p : Cp) (cm : Cm) (hi : Cinv c p progs cm) (recs : List Rec) (hrec : rec < recs.length) (hst : (recs.getD rec rec0).steps ≤ 65536) (rad : Option Addr) (rcap : Nat) (rows : List SRowH) (hrows : rows.length ≤ 1000000) (wad : Option Addr) (wcap : Nat) :
    Tri Tryz.prog 98 #[.pointer (some ⟨Sb, 0, none⟩), .int .i64 (t : Int), .pointer (some ⟨Tb, o, none⟩)]
      [bl Sb 188 (sdV c Mb pv Tb n cap picks (.slice rad recs.length rcap) (.slice wad rows.length wcap)), bl Tb 192 (pre ++ (cv :: .pointer (some ⟨Cb, 0, none⟩) :: .int .i64 (rec : Int) :: .int .i64 (cnt : Int) :: .int .i64 (lk : Int) :: post)),
        ClE Cb c pv p q progs cm, Row (.slice rad recs.length rcap) 116 13 recs.length (recs.flatMap recV), Row (.slice wad rows.length wcap) 120 6 rows.length (rows.flatMap srV), star (rows.map srP)]
      fun r L => ∃ (rows' : List SRowH) (wad' : Option Addr) (wcap' : Nat), rows'.map (·.1) = rows.map (·.1) ++ cm.rows.map (rowOf picks) ++ toldW t picks cnt lk cm.s ∧ r = .tuple ⟨[]⟩ ∧
        L = [bl Sb 188 (sdV c Mb pv Tb n cap picks (.slice rad recs.length rcap) (.slice wad' rows'.length wcap')), bl Tb 192 (pre ++ (cv :: thPt (if cm.s.next = 13 then none else some (p, cm)) Cb :: .int .i64 (rec : Int) :: .int .i64 (cnt : Int) :: .int .i64 ((if cm.s.fresh = true then picks else lk : Nat) : Int) :: post)),
          atP c pv q progs (if cm.s.next = 13 then none else some (p, cm)) Cb, Row (.slice rad recs.length rcap) 116 13 recs.length ((recs.set rec (toldR (recs.getD rec rec0) picks cm.s)).flatMap recV), Row (.slice wad' rows'.length wcap') 120 6 rows'.length (rows'.flatMap srV), star (rows'.map srP)] := by
  have hlk := clooked_e Cb c pv p q progs cm
  have hrw := crows_t Cb c hc pv p q progs hpv cm hi
  have hdn := cdone_e Cb c pv p q progs cm
  have hre := cresult_e Cb c pv p q progs cm
  have hal := calone_e Cb c pv p q progs cm
  have hrl := crows_len hc hi
  generalize hR : recs.getD rec rec0 = R at hst ⊢
  have e1 : recs.flatMap recV = (recs.take rec).flatMap recV ++ (recV R ++ (recs.drop (rec + 1)).flatMap recV) := by
    conv => lhs; rw [get_mid hrec rec0, hR]
    rw [List.flatMap_append, List.flatMap_cons]
  have e2 : ∀ R', (recs.set rec R').flatMap recV = (recs.take rec).flatMap recV ++ (recV R' ++ (recs.drop (rec + 1)).flatMap recV) := fun R' => by
    rw [set_mid hrec, List.flatMap_append, List.flatMap_cons]
  have ho2 : ((recs.take rec).flatMap recV).length = (rec : Int).toNat * 13 := by
    rw [flat_len recV_len, List.length_take, Int.toNat_natCast, Nat.min_eq_left (by omega)]
  rw [e1, e2]
  generalize (recs.take rec).flatMap recV = rp at ho2 e1
  generalize (recs.drop (rec + 1)).flatMap recV = rq at e1
  have hlR : (rp ++ (recV R ++ rq)).length = recs.length * 13 := by rw [← e1]; exact flat_len recV_len recs
  have hlR2 : ∀ R', (rp ++ (recV R' ++ rq)).length = recs.length * 13 := fun R' => by
    rw [← hlR, List.length_append, List.length_append, List.length_append, List.length_append, recV_len, recV_len]
  clear e1 e2
  refine Tri.of_body (vs := [_, _, _]) Tryz.func98 rfl rfl fun w0 F => ?_
  refine St.conv ?_ (Sub.refl _) (Ent.of_take (p := Row (.slice rad recs.length rcap) 116 13 recs.length (rp ++ (recV R ++ rq))) Take.go)
  refine St.rowC (fun _ h0 _ => by omega) (fun Rb rc rr hv hrf => ?_)
  injection hv with hv1 _ hv2
  subst hv1 hv2
  rw [show rp ++ (recV R ++ rq) ++ rr = rp ++ (recV R ++ (rq ++ rr)) by rw [List.append_assoc, List.append_assoc]]
  have shutR : ∀ R' {M : List HProp}, Ent (bl Rb 116 (rp ++ (recV R' ++ (rq ++ rr))) :: M) (Row (.slice (some ⟨Rb, 0, none⟩) recs.length rcap) 116 13 recs.length (rp ++ (recV R' ++ rq)) :: M) := fun R' M => by
    have h2 : RowF recs.length rcap 13 (rp ++ (recV R' ++ rq)) rr := by
      have h1 := hrf
      exact ⟨h1.le, h1.max, hlR2 R', by have := h1.tot; rw [hlR] at this; rw [hlR2]; exact this⟩
    have := Ent.rowF (g := Rb) (e := 116) (L := M) h2
    rw [show rp ++ (recV R' ++ rq) ++ rr = rp ++ (recV R' ++ (rq ++ rr)) by rw [List.append_assoc, List.append_assoc]] at this
    exact this
  generalize rq ++ rr = rs2 at shutR ⊢
  obtain ⟨qw, qt, ⟨qjp, qja⟩, qf, qto, qst, qdn, qrc, qrv⟩ := R
  dsimp only at hst
  obtain ⟨ws, ho3, hX⟩ : ∃ ws : List Value, ws.length = (rec : Int).toNat * 13 + 8 ∧ ∀ (to st : Nat) (dn : Bool) (rc : Int) (rv : Nat), rp ++ (recV ⟨qw, qt, ⟨qjp, qja⟩, qf, to, st, dn, rc, rv⟩ ++ rs2) = ws ++ (.int .i64 (to : Int) :: .int .i64 (st : Int) :: .bool dn :: .int .i64 rc :: .int .u64 (rv : Int) :: rs2) :=
    ⟨rp ++ [.int .i64 qw, .int .i64 (qt : Int), .int .i64 qjp, .int .u64 ((qja.getD 0 0 : Nat) : Int), .int .u64 ((qja.getD 1 0 : Nat) : Int), .int .u64 ((qja.getD 2 0 : Nat) : Int), .int .u64 ((qja.getD 3 0 : Nat) : Int), .int .i64 (qf : Int)], by rw [List.length_append, ho2]; rfl, fun to st dn rc rv => by rw [List.append_assoc]; rfl⟩
  have shutR : ∀ (to st : Nat) (dn : Bool) (rc : Int) (rv : Nat) {M : List HProp}, Ent (bl Rb 116 (ws ++ (.int .i64 (to : Int) :: .int .i64 (st : Int) :: .bool dn :: .int .i64 rc :: .int .u64 (rv : Int) :: rs2)) :: M) (Row (.slice (some ⟨Rb, 0, none⟩) recs.length rcap) 116 13 recs.length (rp ++ (recV ⟨qw, qt, ⟨qjp, qja⟩, qf, to, st, dn, rc, rv⟩ ++ rq)) :: M) := fun to st dn rc rv M => by
    have := shutR ⟨qw, qt, ⟨qjp, qja⟩, qf, to, st, dn, rc, rv⟩ (M := M)
    rw [hX] at this
    exact this
  rw [hX]
  clear hX
  have hr9 := (th5 (post := rs2) ho3 (.int .i64 (qto : Int)) (.int .i64 (qst : Int)) (.bool qdn) (.int .i64 qrc) (.int .u64 (qrv : Int))).2.1
  have hs9 := (th5s (post := rs2) ho3 (.int .i64 (qto : Int)) (.int .i64 (qst : Int)) (.bool qdn) (.int .i64 qrc) (.int .u64 (qrv : Int)) (.int .i64 ((qst : Int) + 1))).2.1
  have hr9 : NthN ((rec : Int).toNat * 13 + 9) _ _ := hr9
  have hs9 : SetN _ ((rec : Int).toNat * 13 + 9) _ _ := hs9
  obtain ⟨_, a1, a2, a3, a4⟩ := th5 (post := post) ho cv (.pointer (some ⟨Cb, 0, none⟩)) (.int .i64 (rec : Int)) (.int .i64 (cnt : Int)) (.int .i64 (lk : Int))
  have s4 := (th5s (post := post) ho cv (.pointer (some ⟨Cb, 0, none⟩)) (.int .i64 (rec : Int)) (.int .i64 (cnt : Int)) (.int .i64 (lk : Int)) (.int .i64 (picks : Int))).2.2.2.2
  obtain ⟨_, b1, b2, b3, b4⟩ := th5 (post := post) ho cv (.pointer (some ⟨Cb, 0, none⟩)) (.int .i64 (rec : Int)) (.int .i64 (cnt : Int)) (.int .i64 (picks : Int))
  have hm : Cfg.m c = Cfg.m c := rfl
  unfold toldR toldW
  cases hfr : cm.s.fresh with
  | false =>
    rw [hfr] at hlk
    rw [if_neg (show ¬ (false = true) by decide)]
    have s1 := (th5s (post := post) ho cv (.pointer (some ⟨Cb, 0, none⟩)) (.int .i64 (rec : Int)) (.int .i64 (cnt : Int)) (.int .i64 (lk : Int)) (.pointer none)).2.1
    repeat' (first | refine Ga ?_ | (refine Gb ?_; intro b) | (refine Gd ?_; intro g cap rest hcap) | (refine Gc ?_; intro ad cap) | (refine St.draw (id := 0) [(0, 0), (1, 0), (2, 0), (3, 1), (4, 0), (5, 0), (6, 0), (7, 1), (8, 0), (9, 0)] [] mixed (by kernel_rfl) ?_) | (refine St.draw (id := 7) [(0, 0), (1, 0), (2, 0), (3, 0), (4, 1), (5, 0), (6, 0), (7, 0), (8, 1), (9, 0), (10, 1), (11, 0), (12, 1), (13, 0), (14, 0), (15, 1), (16, 0), (17, 1), (18, 0), (19, 2), (20, 3), (21, 0), (22, 0), (23, 3)] [20, 23] mixed (by kernel_rfl) ?_) | (refine St.draw (id := 10) [(0, 0), (1, 0), (2, 0), (3, 0), (4, 0), (5, 0), (6, 1), (7, 0), (8, 0), (9, 0), (10, 1), (11, 1), (12, 0), (13, 0), (14, 3), (15, 0), (16, 0), (17, 3), (18, 0), (19, 0), (20, 3)] [14, 17, 20] mixed (by kernel_rfl) ?_) | (refine St.draw (id := 12) [(0, 0), (1, 0), (2, 0), (3, 0), (4, 1), (5, 0), (6, 0), (7, 0), (8, 1), (9, 0), (10, 0), (11, 0), (12, 0), (13, 1), (14, 0), (15, 0), (16, 0), (17, 1), (18, 0), (19, 2), (20, 3), (21, 0), (22, 0), (23, 3)] [20, 23] mixed (by kernel_rfl) ?_)| refine Gl hlk ?_ | (refine Gt hrw ?_; rintro _ _ ⟨bad, bcap, rfl, rfl⟩) | (refine Ge ?_ ?_ <;> (intro h; try (exfalso; omega))) | fail)
    refine St.conv ?_ (Sub.refl _) (Ent.of_take (p := RwE (.slice bad cm.rows.length bcap) cm.rows) Take.go)
    refine St.ex_out fun x => ?_
    obtain ⟨xad, xcap, brs, hbrs, hxe⟩ := x
    dsimp only
    refine St.rowL (f := rowV) (by rw [← hbrs, List.length_map]) (fun R2 hR2 => ?_)
    have hbl : brs.length = cm.rows.length := by rw [← hbrs, List.length_map]
    rw [← hbl] at hR2 ⊢
    refine St.loopY (Lr := ?Lrfalse) (ι := { x : Nat × Option Addr × Nat // x.1 ≤ brs.length }) (fun x => brs.length - x.1.1) (fun x => [(43, .int .i64 (x.1.1 : Int))])
      (fun x => [bl Sb 188 (sdV c Mb pv Tb n cap picks (.slice (some ⟨Rb, 0, none⟩) recs.length rcap) (.slice x.1.2.1 (rows ++ (brs.take x.1.1).map (conv picks)).length x.1.2.2)), Row (.slice x.1.2.1 (rows ++ (brs.take x.1.1).map (conv picks)).length x.1.2.2) 120 6 (rows ++ (brs.take x.1.1).map (conv picks)).length ((rows ++ (brs.take x.1.1).map (conv picks)).flatMap srV)]) ⟨(0, wad, wcap), Nat.zero_le _⟩ ?hEfalse ?hLfalse ?roundfalse
    case hEfalse => exact Sub.go
    case hLfalse => dsimp only; rw [List.take_zero, List.map_nil, List.append_nil]; exact Takes.go
    case roundfalse =>
      rintro ⟨⟨k, ad1, cap1⟩, hk⟩ IH; dsimp only at hk IH ⊢
      have hal1 : (rows ++ (brs.take k).map (conv picks)).length = rows.length + k := by rw [List.length_append, List.length_map, List.length_take, Nat.min_eq_left hk]
      by_cases hlt : k < brs.length
      · obtain ⟨bf, fo, lc, l1, rfl, hrd, hdr, htk⟩ := hR2.at' (f := rowV) (sz := 5) rowV_len k hlt
        have hnx : rows ++ (brs.take (k + 1)).map (conv picks) = (rows ++ (brs.take k).map (conv picks)) ++ [conv picks brs[k]] := by
          rw [List.take_succ_eq_append_getElem hlt, List.map_append, List.append_assoc]; rfl
        generalize rows ++ (brs.take k).map (conv picks) = acc at hal1 hnx ⊢
        generalize brs[k] = y at htk hnx
        obtain ⟨⟨yw, yt, yc, yv, yn⟩, yad, ycap⟩ := y
        unfold rowV at htk
        dsimp only at htk
        have hla : (acc.flatMap srV).length = acc.length * 6 := flat_len srV_len acc
        repeat' (first | refine Ga ?_ | (refine Gb ?_; intro b) | (refine Gd ?_; intro g cap rest hcap) | (refine Gc ?_; intro ad cap) | (refine St.draw (id := 0) [(0, 0), (1, 0), (2, 0), (3, 1), (4, 0), (5, 0), (6, 0), (7, 1), (8, 0), (9, 0)] [] mixed (by kernel_rfl) ?_) | (refine St.draw (id := 7) [(0, 0), (1, 0), (2, 0), (3, 0), (4, 1), (5, 0), (6, 0), (7, 0), (8, 1), (9, 0), (10, 1), (11, 0), (12, 1), (13, 0), (14, 0), (15, 1), (16, 0), (17, 1), (18, 0), (19, 2), (20, 3), (21, 0), (22, 0), (23, 3)] [20, 23] mixed (by kernel_rfl) ?_) | (refine St.draw (id := 10) [(0, 0), (1, 0), (2, 0), (3, 0), (4, 0), (5, 0), (6, 1), (7, 0), (8, 0), (9, 0), (10, 1), (11, 1), (12, 0), (13, 0), (14, 3), (15, 0), (16, 0), (17, 3), (18, 0), (19, 0), (20, 3)] [14, 17, 20] mixed (by kernel_rfl) ?_) | (refine St.draw (id := 12) [(0, 0), (1, 0), (2, 0), (3, 0), (4, 1), (5, 0), (6, 0), (7, 0), (8, 1), (9, 0), (10, 0), (11, 0), (12, 0), (13, 1), (14, 0), (15, 0), (16, 0), (17, 1), (18, 0), (19, 2), (20, 3), (21, 0), (22, 0), (23, 3)] [20, 23] mixed (by kernel_rfl) ?_) | (refine Ge ?_ ?_ <;> (intro h; try (exfalso; omega))) | fail)
        refine IH ⟨(k + 1, ad, cap), hlt⟩ (by show _ - (k + 1) < _ - k; omega) ?_ ?_
        · exact Sub.go
        · dsimp only; rw [hnx, List.length_append, List.length_singleton, List.flatMap_append]; exact Ent.go
      · obtain rfl : k = brs.length := by omega
        clear IH
        rw [List.take_length]
        have hmap : (rows ++ brs.map (conv picks)).map (·.1) = rows.map (·.1) ++ cm.rows.map (rowOf picks) := by rw [List.map_append, ← hbrs, List.map_map, List.map_map]; rfl
        have hst2 : ∀ M, Ent (star (rows.map srP) :: star (brs.map rowP) :: M) (star ((rows ++ brs.map (conv picks)).map srP) :: M) := fun M => by
          rw [List.map_append, List.map_map]
          exact Ent.star_app (rows.map srP) (brs.map (srP ∘ conv picks))
        rw [List.take_length] at hal1
        generalize rows ++ brs.map (conv picks) = acc at hmap hst2 hal1 ⊢
        clear hR2 hbrs
        by_cases h13 : cm.s.next = 13
        · rw [decide_eq_true h13] at hdn
          have hT := fun dn rc rv => (th5s (post := rs2) ho3 (.int .i64 (qto : Int)) (.int .i64 ((qst : Int) + 1)) dn rc rv (.int .i64 (picks : Int))).1
          have hD := fun to rc rv => (th5s (post := rs2) ho3 to (.int .i64 ((qst : Int) + 1)) (.bool qdn) rc rv (.bool true)).2.2.1
          have hS := fun to dn => splP (k := 3) ho3 (SplN.succ (x := to) (SplN.succ (x := .int .i64 ((qst : Int) + 1)) (SplN.succ (x := dn) (SplN.zero (vs := [.int .i64 cm.s.rc, .int .u64 (cm.s.rv : Int)]) (l := .int .i64 qrc :: .int .u64 (qrv : Int) :: rs2) (.cons (.cons .nil))))))
          have T1 : SetN _ ((rec : Int).toNat * 13 + 8) _ _ := hT (.bool qdn) (.int .i64 qrc) (.int .u64 (qrv : Int))
          have T2 : SetN _ ((rec : Int).toNat * 13 + 8) _ _ := hT (.bool true) (.int .i64 qrc) (.int .u64 (qrv : Int))
          have T3 : SetN _ ((rec : Int).toNat * 13 + 8) _ _ := hT (.bool qdn) (.int .i64 cm.s.rc) (.int .u64 (cm.s.rv : Int))
          have T4 : SetN _ ((rec : Int).toNat * 13 + 8) _ _ := hT (.bool true) (.int .i64 cm.s.rc) (.int .u64 (cm.s.rv : Int))
          have D1 : SetN _ ((rec : Int).toNat * 13 + 10) _ _ := hD (.int .i64 (qto : Int)) (.int .i64 qrc) (.int .u64 (qrv : Int))
          have D2 : SetN _ ((rec : Int).toNat * 13 + 10) _ _ := hD (.int .i64 (picks : Int)) (.int .i64 qrc) (.int .u64 (qrv : Int))
          have D3 : SetN _ ((rec : Int).toNat * 13 + 10) _ _ := hD (.int .i64 (qto : Int)) (.int .i64 cm.s.rc) (.int .u64 (cm.s.rv : Int))
          have D4 : SetN _ ((rec : Int).toNat * 13 + 10) _ _ := hD (.int .i64 (picks : Int)) (.int .i64 cm.s.rc) (.int .u64 (cm.s.rv : Int))
          have S1 : SplN _ ((rec : Int).toNat * 13 + 11) _ _ := hS (.int .i64 (qto : Int)) (.bool qdn)
          have S2 : SplN _ ((rec : Int).toNat * 13 + 11) _ _ := hS (.int .i64 (picks : Int)) (.bool qdn)
          have S3 : SplN _ ((rec : Int).toNat * 13 + 11) _ _ := hS (.int .i64 (qto : Int)) (.bool true)
          have S4 : SplN _ ((rec : Int).toNat * 13 + 11) _ _ := hS (.int .i64 (picks : Int)) (.bool true)
          have hdR : DropN ((rec : Int).toNat * 13 + 11) (ws ++ (.int .i64 (picks : Int) :: .int .i64 ((qst : Int) + 1) :: .bool true :: .int .i64 cm.s.rc :: .int .u64 (cm.s.rv : Int) :: rs2)) (.int .i64 cm.s.rc :: .int .u64 (cm.s.rv : Int) :: rs2) := by
            have h := (DropN.app ws (.int .i64 (picks : Int) :: .int .i64 ((qst : Int) + 1) :: .bool true :: .int .i64 cm.s.rc :: .int .u64 (cm.s.rv : Int) :: rs2)).add (m := 3) (.succ (.succ (.succ .zero)))
            rw [ho3] at h
            exact h
          have sh := fun M => shutR picks (qst + 1) true cm.s.rc cm.s.rv (M := M)
          rw [show ((qst + 1 : Nat) : Int) = (qst : Int) + 1 from rfl] at sh
          clear hT hD hS
          repeat' (first | refine St.halt 10 ?_ |refine Ga ?_ | (refine Gb ?_; intro b) | (refine Gd ?_; intro g cap rest hcap) | (refine Gc ?_; intro ad cap) | (refine St.draw (id := 0) [(0, 0), (1, 0), (2, 0), (3, 1), (4, 0), (5, 0), (6, 0), (7, 1), (8, 0), (9, 0)] [] mixed (by kernel_rfl) ?_) | (refine St.draw (id := 7) [(0, 0), (1, 0), (2, 0), (3, 0), (4, 1), (5, 0), (6, 0), (7, 0), (8, 1), (9, 0), (10, 1), (11, 0), (12, 1), (13, 0), (14, 0), (15, 1), (16, 0), (17, 1), (18, 0), (19, 2), (20, 3), (21, 0), (22, 0), (23, 3)] [20, 23] mixed (by kernel_rfl) ?_) | (refine St.draw (id := 10) [(0, 0), (1, 0), (2, 0), (3, 0), (4, 0), (5, 0), (6, 1), (7, 0), (8, 0), (9, 0), (10, 1), (11, 1), (12, 0), (13, 0), (14, 3), (15, 0), (16, 0), (17, 3), (18, 0), (19, 0), (20, 3)] [14, 17, 20] mixed (by kernel_rfl) ?_) | (refine St.draw (id := 12) [(0, 0), (1, 0), (2, 0), (3, 0), (4, 1), (5, 0), (6, 0), (7, 0), (8, 1), (9, 0), (10, 0), (11, 0), (12, 0), (13, 1), (14, 0), (15, 0), (16, 0), (17, 1), (18, 0), (19, 2), (20, 3), (21, 0), (22, 0), (23, 3)] [20, 23] mixed (by kernel_rfl) ?_)| refine Gl hdn ?_ | (refine Ge ?_ ?_ <;> (intro h; try (exfalso; omega))) | fail)
          apply Halt.go
          apply St.seq
          refine St.drawTo (L0 := [bl Sb 188 (sdV c Mb pv Tb n cap picks (.slice (some ⟨Rb, 0, none⟩) recs.length rcap) (.slice ad1 acc.length cap1)), bl Tb 192 (pre ++ (cv :: .pointer (some ⟨Cb, 0, none⟩) :: .int .i64 (rec : Int) :: .int .i64 (cnt : Int) :: .int .i64 (lk : Int) :: post)), ClE Cb c pv p q progs cm]) (id := 10) [(0, 0), (1, 0), (2, 0), (3, 0), (4, 0), (5, 0), (6, 1), (7, 0), (8, 0), (9, 0), (10, 1), (11, 1), (12, 0), (13, 0), (14, 2), (15, 0), (16, 0), (17, 2), (18, 0), (19, 0), (20, 2)] .done [] mixed (by kernel_rfl) ?_
          repeat' (first | refine St.halt 11 ?_ |refine Ga ?_ | (refine Gb ?_; intro b) | (refine Gd ?_; intro g cap rest hcap) | (refine Gc ?_; intro ad cap) | (refine St.draw (id := 0) [(0, 0), (1, 0), (2, 0), (3, 1), (4, 0), (5, 0), (6, 0), (7, 1), (8, 0), (9, 0)] [] mixed (by kernel_rfl) ?_) | (refine St.draw (id := 7) [(0, 0), (1, 0), (2, 0), (3, 0), (4, 1), (5, 0), (6, 0), (7, 0), (8, 1), (9, 0), (10, 1), (11, 0), (12, 1), (13, 0), (14, 0), (15, 1), (16, 0), (17, 1), (18, 0), (19, 2), (20, 3), (21, 0), (22, 0), (23, 3)] [20, 23] mixed (by kernel_rfl) ?_) | (refine St.draw (id := 10) [(0, 0), (1, 0), (2, 0), (3, 0), (4, 0), (5, 0), (6, 1), (7, 0), (8, 0), (9, 0), (10, 1), (11, 1), (12, 0), (13, 0), (14, 2), (15, 0), (16, 0), (17, 2), (18, 0), (19, 0), (20, 2)] [] mixed (by kernel_rfl) ?_) | (refine St.draw (id := 12) [(0, 0), (1, 0), (2, 0), (3, 0), (4, 1), (5, 0), (6, 0), (7, 0), (8, 1), (9, 0), (10, 0), (11, 0), (12, 0), (13, 1), (14, 0), (15, 0), (16, 0), (17, 1), (18, 0), (19, 2), (20, 3), (21, 0), (22, 0), (23, 3)] [20, 23] mixed (by kernel_rfl) ?_)| refine Gl hre ?_ | (apply Zq; rfl; exact Ob; exact Ent.go) | (refine Ge ?_ ?_ <;> (intro h; try (exfalso; omega))) | fail)
          apply Halt.go
          cases hal2 : cm.s.alone with
          | false =>
            rw [hal2] at hal
            repeat' (first | refine Ga ?_ | (refine Gb ?_; intro b) | (refine Gd ?_; intro g cap rest hcap) | (refine Gc ?_; intro ad cap) | (refine St.draw (id := 0) [(0, 0), (1, 0), (2, 0), (3, 1), (4, 0), (5, 0), (6, 0), (7, 1), (8, 0), (9, 0)] [] mixed (by kernel_rfl) ?_) | (refine St.draw (id := 7) [(0, 0), (1, 0), (2, 0), (3, 0), (4, 1), (5, 0), (6, 0), (7, 0), (8, 1), (9, 0), (10, 1), (11, 0), (12, 1), (13, 0), (14, 0), (15, 1), (16, 0), (17, 1), (18, 0), (19, 2), (20, 3), (21, 0), (22, 0), (23, 3)] [20, 23] mixed (by kernel_rfl) ?_) | (refine St.draw (id := 10) [(0, 0), (1, 0), (2, 0), (3, 0), (4, 0), (5, 0), (6, 1), (7, 0), (8, 0), (9, 0), (10, 1), (11, 1), (12, 0), (13, 0), (14, 3), (15, 0), (16, 0), (17, 3), (18, 0), (19, 0), (20, 3)] [14, 17, 20] mixed (by kernel_rfl) ?_) | (refine St.draw (id := 12) [(0, 0), (1, 0), (2, 0), (3, 0), (4, 1), (5, 0), (6, 0), (7, 0), (8, 1), (9, 0), (10, 0), (11, 0), (12, 0), (13, 1), (14, 0), (15, 0), (16, 0), (17, 1), (18, 0), (19, 2), (20, 3), (21, 0), (22, 0), (23, 3)] [20, 23] mixed (by kernel_rfl) ?_)| refine Gl hal ?_ | (refine Ge ?_ ?_ <;> (intro h; try (exfalso; omega))) | fail)
            refine St.f1 Tryz.func98 ⟨_, ⟨acc, ad1, cap1, by rw [hmap, if_neg (fun h => (by cases h.2)), List.append_nil], rfl, rfl⟩, ?_⟩
            rw [if_pos h13, if_pos h13]
            unfold thPt atP
            dsimp only
            exact Ent.trans (Ent.trans (Ent.trans Ent.go (sh _)) (Ent.trans Ent.go (hst2 _))) (Ent.trans (Ent.star_in []) Ent.go)
          | true =>
            rw [hal2] at hal
            have hla : (acc.flatMap srV).length = acc.length * 6 := flat_len srV_len acc
            repeat' (first | refine Ga ?_ | (refine Gb ?_; intro b) | (refine Gd ?_; intro g cap rest hcap) | (refine Gc ?_; intro ad cap) | (refine St.draw (id := 0) [(0, 0), (1, 0), (2, 0), (3, 1), (4, 0), (5, 0), (6, 0), (7, 1), (8, 0), (9, 0)] [] mixed (by kernel_rfl) ?_) | (refine St.draw (id := 7) [(0, 0), (1, 0), (2, 0), (3, 0), (4, 1), (5, 0), (6, 0), (7, 0), (8, 1), (9, 0), (10, 1), (11, 0), (12, 1), (13, 0), (14, 0), (15, 1), (16, 0), (17, 1), (18, 0), (19, 2), (20, 3), (21, 0), (22, 0), (23, 3)] [20, 23] mixed (by kernel_rfl) ?_) | (refine St.draw (id := 10) [(0, 0), (1, 0), (2, 0), (3, 0), (4, 0), (5, 0), (6, 1), (7, 0), (8, 0), (9, 0), (10, 1), (11, 1), (12, 0), (13, 0), (14, 3), (15, 0), (16, 0), (17, 3), (18, 0), (19, 0), (20, 3)] [14, 17, 20] mixed (by kernel_rfl) ?_) | (refine St.draw (id := 12) [(0, 0), (1, 0), (2, 0), (3, 0), (4, 1), (5, 0), (6, 0), (7, 0), (8, 1), (9, 0), (10, 0), (11, 0), (12, 0), (13, 1), (14, 0), (15, 0), (16, 0), (17, 1), (18, 0), (19, 2), (20, 3), (21, 0), (22, 0), (23, 3)] [20, 23] mixed (by kernel_rfl) ?_)| refine Gl hal ?_ | (refine Ge ?_ ?_ <;> (intro h; try (exfalso; omega))) | fail)
            refine St.f1 Tryz.func98 ⟨_, ⟨acc ++ [(⟨(lk : Int), (t : Int), (cnt : Int), cm.s.rc, cm.s.rv, []⟩, none, 0)], ad, cap, by rw [List.map_append, hmap, if_pos ⟨h13, rfl⟩]; rfl, rfl, rfl⟩, ?_⟩
            rw [if_pos h13, if_pos h13]
            unfold thPt atP
            dsimp only
            rw [List.length_append, List.length_singleton, List.flatMap_append, List.map_append]
            refine Ent.trans (Ent.trans (Ent.trans (Ent.trans Ent.go (sh _)) (Ent.trans Ent.go (hst2 _))) (Ent.trans (Ent.row_nil 22 1) (Ent.star_snoc (acc.map srP) (srP (⟨(lk : Int), (t : Int), (cnt : Int), cm.s.rc, cm.s.rv, []⟩, none, 0))))) (Ent.trans (Ent.star_in []) ?_)
            exact Ent.go
        · rw [decide_eq_false h13] at hdn
          have sh := fun M => shutR qto (qst + 1) qdn qrc qrv (M := M)
          rw [show ((qst + 1 : Nat) : Int) = (qst : Int) + 1 from rfl] at sh
          repeat' (first | refine Ga ?_ | (refine Gb ?_; intro b) | (refine Gd ?_; intro g cap rest hcap) | (refine Gc ?_; intro ad cap) | (refine St.draw (id := 0) [(0, 0), (1, 0), (2, 0), (3, 1), (4, 0), (5, 0), (6, 0), (7, 1), (8, 0), (9, 0)] [] mixed (by kernel_rfl) ?_) | (refine St.draw (id := 7) [(0, 0), (1, 0), (2, 0), (3, 0), (4, 1), (5, 0), (6, 0), (7, 0), (8, 1), (9, 0), (10, 1), (11, 0), (12, 1), (13, 0), (14, 0), (15, 1), (16, 0), (17, 1), (18, 0), (19, 2), (20, 3), (21, 0), (22, 0), (23, 3)] [20, 23] mixed (by kernel_rfl) ?_) | (refine St.draw (id := 10) [(0, 0), (1, 0), (2, 0), (3, 0), (4, 0), (5, 0), (6, 1), (7, 0), (8, 0), (9, 0), (10, 1), (11, 1), (12, 0), (13, 0), (14, 3), (15, 0), (16, 0), (17, 3), (18, 0), (19, 0), (20, 3)] [14, 17, 20] mixed (by kernel_rfl) ?_) | (refine St.draw (id := 12) [(0, 0), (1, 0), (2, 0), (3, 0), (4, 1), (5, 0), (6, 0), (7, 0), (8, 1), (9, 0), (10, 0), (11, 0), (12, 0), (13, 1), (14, 0), (15, 0), (16, 0), (17, 1), (18, 0), (19, 2), (20, 3), (21, 0), (22, 0), (23, 3)] [20, 23] mixed (by kernel_rfl) ?_)| refine Gl hdn ?_ | (refine Ge ?_ ?_ <;> (intro h; try (exfalso; omega))) | fail)
          refine St.d1 Tryz.func98 ⟨_, ⟨acc, ad1, cap1, by rw [hmap, if_neg (fun h => h13 h.1), List.append_nil], rfl, rfl⟩, ?_⟩
          rw [if_neg h13, if_neg h13]
          unfold thPt atP
          dsimp only
          exact Ent.trans (Ent.trans (Ent.trans Ent.go (sh _)) (Ent.trans Ent.go (hst2 _))) Ent.go
  | true =>
    rw [hfr] at hlk
    rw [if_pos (show true = true from rfl)]
    have s1 := (th5s (post := post) ho cv (.pointer (some ⟨Cb, 0, none⟩)) (.int .i64 (rec : Int)) (.int .i64 (cnt : Int)) (.int .i64 (picks : Int)) (.pointer none)).2.1
    repeat' (first | refine Ga ?_ | (refine Gb ?_; intro b) | (refine Gd ?_; intro g cap rest hcap) | (refine Gc ?_; intro ad cap) | (refine St.draw (id := 0) [(0, 0), (1, 0), (2, 0), (3, 1), (4, 0), (5, 0), (6, 0), (7, 1), (8, 0), (9, 0)] [] mixed (by kernel_rfl) ?_) | (refine St.draw (id := 7) [(0, 0), (1, 0), (2, 0), (3, 0), (4, 1), (5, 0), (6, 0), (7, 0), (8, 1), (9, 0), (10, 1), (11, 0), (12, 1), (13, 0), (14, 0), (15, 1), (16, 0), (17, 1), (18, 0), (19, 2), (20, 3), (21, 0), (22, 0), (23, 3)] [20, 23] mixed (by kernel_rfl) ?_) | (refine St.draw (id := 10) [(0, 0), (1, 0), (2, 0), (3, 0), (4, 0), (5, 0), (6, 1), (7, 0), (8, 0), (9, 0), (10, 1), (11, 1), (12, 0), (13, 0), (14, 3), (15, 0), (16, 0), (17, 3), (18, 0), (19, 0), (20, 3)] [14, 17, 20] mixed (by kernel_rfl) ?_) | (refine St.draw (id := 12) [(0, 0), (1, 0), (2, 0), (3, 0), (4, 1), (5, 0), (6, 0), (7, 0), (8, 1), (9, 0), (10, 0), (11, 0), (12, 0), (13, 1), (14, 0), (15, 0), (16, 0), (17, 1), (18, 0), (19, 2), (20, 3), (21, 0), (22, 0), (23, 3)] [20, 23] mixed (by kernel_rfl) ?_)| refine Gl hlk ?_ | (refine Gt hrw ?_; rintro _ _ ⟨bad, bcap, rfl, rfl⟩) | (refine Ge ?_ ?_ <;> (intro h; try (exfalso; omega))) | fail)
    refine St.conv ?_ (Sub.refl _) (Ent.of_take (p := RwE (.slice bad cm.rows.length bcap) cm.rows) Take.go)
    refine St.ex_out fun x => ?_
    obtain ⟨xad, xcap, brs, hbrs, hxe⟩ := x
    dsimp only
    refine St.rowL (f := rowV) (by rw [← hbrs, List.length_map]) (fun R2 hR2 => ?_)
    have hbl : brs.length = cm.rows.length := by rw [← hbrs, List.length_map]
    rw [← hbl] at hR2 ⊢
    refine St.loopY (Lr := ?Lrtrue) (ι := { x : Nat × Option Addr × Nat // x.1 ≤ brs.length }) (fun x => brs.length - x.1.1) (fun x => [(43, .int .i64 (x.1.1 : Int))])
      (fun x => [bl Sb 188 (sdV c Mb pv Tb n cap picks (.slice (some ⟨Rb, 0, none⟩) recs.length rcap) (.slice x.1.2.1 (rows ++ (brs.take x.1.1).map (conv picks)).length x.1.2.2)), Row (.slice x.1.2.1 (rows ++ (brs.take x.1.1).map (conv picks)).length x.1.2.2) 120 6 (rows ++ (brs.take x.1.1).map (conv picks)).length ((rows ++ (brs.take x.1.1).map (conv picks)).flatMap srV)]) ⟨(0, wad, wcap), Nat.zero_le _⟩ ?hEtrue ?hLtrue ?roundtrue
    case hEtrue => exact Sub.go
    case hLtrue => dsimp only; rw [List.take_zero, List.map_nil, List.append_nil]; exact Takes.go
    case roundtrue =>
      rintro ⟨⟨k, ad1, cap1⟩, hk⟩ IH; dsimp only at hk IH ⊢
      have hal1 : (rows ++ (brs.take k).map (conv picks)).length = rows.length + k := by rw [List.length_append, List.length_map, List.length_take, Nat.min_eq_left hk]
      by_cases hlt : k < brs.length
      · obtain ⟨bf, fo, lc, l1, rfl, hrd, hdr, htk⟩ := hR2.at' (f := rowV) (sz := 5) rowV_len k hlt
        have hnx : rows ++ (brs.take (k + 1)).map (conv picks) = (rows ++ (brs.take k).map (conv picks)) ++ [conv picks brs[k]] := by
          rw [List.take_succ_eq_append_getElem hlt, List.map_append, List.append_assoc]; rfl
        generalize rows ++ (brs.take k).map (conv picks) = acc at hal1 hnx ⊢
        generalize brs[k] = y at htk hnx
        obtain ⟨⟨yw, yt, yc, yv, yn⟩, yad, ycap⟩ := y
        unfold rowV at htk
        dsimp only at htk
        have hla : (acc.flatMap srV).length = acc.length * 6 := flat_len srV_len acc
        repeat' (first | refine Ga ?_ | (refine Gb ?_; intro b) | (refine Gd ?_; intro g cap rest hcap) | (refine Gc ?_; intro ad cap) | (refine St.draw (id := 0) [(0, 0), (1, 0), (2, 0), (3, 1), (4, 0), (5, 0), (6, 0), (7, 1), (8, 0), (9, 0)] [] mixed (by kernel_rfl) ?_) | (refine St.draw (id := 7) [(0, 0), (1, 0), (2, 0), (3, 0), (4, 1), (5, 0), (6, 0), (7, 0), (8, 1), (9, 0), (10, 1), (11, 0), (12, 1), (13, 0), (14, 0), (15, 1), (16, 0), (17, 1), (18, 0), (19, 2), (20, 3), (21, 0), (22, 0), (23, 3)] [20, 23] mixed (by kernel_rfl) ?_) | (refine St.draw (id := 10) [(0, 0), (1, 0), (2, 0), (3, 0), (4, 0), (5, 0), (6, 1), (7, 0), (8, 0), (9, 0), (10, 1), (11, 1), (12, 0), (13, 0), (14, 3), (15, 0), (16, 0), (17, 3), (18, 0), (19, 0), (20, 3)] [14, 17, 20] mixed (by kernel_rfl) ?_) | (refine St.draw (id := 12) [(0, 0), (1, 0), (2, 0), (3, 0), (4, 1), (5, 0), (6, 0), (7, 0), (8, 1), (9, 0), (10, 0), (11, 0), (12, 0), (13, 1), (14, 0), (15, 0), (16, 0), (17, 1), (18, 0), (19, 2), (20, 3), (21, 0), (22, 0), (23, 3)] [20, 23] mixed (by kernel_rfl) ?_) | (refine Ge ?_ ?_ <;> (intro h; try (exfalso; omega))) | fail)
        refine IH ⟨(k + 1, ad, cap), hlt⟩ (by show _ - (k + 1) < _ - k; omega) ?_ ?_
        · exact Sub.go
        · dsimp only; rw [hnx, List.length_append, List.length_singleton, List.flatMap_append]; exact Ent.go
      · obtain rfl : k = brs.length := by omega
        clear IH
        rw [List.take_length]
        have hmap : (rows ++ brs.map (conv picks)).map (·.1) = rows.map (·.1) ++ cm.rows.map (rowOf picks) := by rw [List.map_append, ← hbrs, List.map_map, List.map_map]; rfl
        have hst2 : ∀ M, Ent (star (rows.map srP) :: star (brs.map rowP) :: M) (star ((rows ++ brs.map (conv picks)).map srP) :: M) := fun M => by
          rw [List.map_append, List.map_map]
          exact Ent.star_app (rows.map srP) (brs.map (srP ∘ conv picks))
        rw [List.take_length] at hal1
        generalize rows ++ brs.map (conv picks) = acc at hmap hst2 hal1 ⊢
        clear hR2 hbrs
        by_cases h13 : cm.s.next = 13
        · rw [decide_eq_true h13] at hdn
          have hT := fun dn rc rv => (th5s (post := rs2) ho3 (.int .i64 (qto : Int)) (.int .i64 ((qst : Int) + 1)) dn rc rv (.int .i64 (picks : Int))).1
          have hD := fun to rc rv => (th5s (post := rs2) ho3 to (.int .i64 ((qst : Int) + 1)) (.bool qdn) rc rv (.bool true)).2.2.1
          have hS := fun to dn => splP (k := 3) ho3 (SplN.succ (x := to) (SplN.succ (x := .int .i64 ((qst : Int) + 1)) (SplN.succ (x := dn) (SplN.zero (vs := [.int .i64 cm.s.rc, .int .u64 (cm.s.rv : Int)]) (l := .int .i64 qrc :: .int .u64 (qrv : Int) :: rs2) (.cons (.cons .nil))))))
          have T1 : SetN _ ((rec : Int).toNat * 13 + 8) _ _ := hT (.bool qdn) (.int .i64 qrc) (.int .u64 (qrv : Int))
          have T2 : SetN _ ((rec : Int).toNat * 13 + 8) _ _ := hT (.bool true) (.int .i64 qrc) (.int .u64 (qrv : Int))
          have T3 : SetN _ ((rec : Int).toNat * 13 + 8) _ _ := hT (.bool qdn) (.int .i64 cm.s.rc) (.int .u64 (cm.s.rv : Int))
          have T4 : SetN _ ((rec : Int).toNat * 13 + 8) _ _ := hT (.bool true) (.int .i64 cm.s.rc) (.int .u64 (cm.s.rv : Int))
          have D1 : SetN _ ((rec : Int).toNat * 13 + 10) _ _ := hD (.int .i64 (qto : Int)) (.int .i64 qrc) (.int .u64 (qrv : Int))
          have D2 : SetN _ ((rec : Int).toNat * 13 + 10) _ _ := hD (.int .i64 (picks : Int)) (.int .i64 qrc) (.int .u64 (qrv : Int))
          have D3 : SetN _ ((rec : Int).toNat * 13 + 10) _ _ := hD (.int .i64 (qto : Int)) (.int .i64 cm.s.rc) (.int .u64 (cm.s.rv : Int))
          have D4 : SetN _ ((rec : Int).toNat * 13 + 10) _ _ := hD (.int .i64 (picks : Int)) (.int .i64 cm.s.rc) (.int .u64 (cm.s.rv : Int))
          have S1 : SplN _ ((rec : Int).toNat * 13 + 11) _ _ := hS (.int .i64 (qto : Int)) (.bool qdn)
          have S2 : SplN _ ((rec : Int).toNat * 13 + 11) _ _ := hS (.int .i64 (picks : Int)) (.bool qdn)
          have S3 : SplN _ ((rec : Int).toNat * 13 + 11) _ _ := hS (.int .i64 (qto : Int)) (.bool true)
          have S4 : SplN _ ((rec : Int).toNat * 13 + 11) _ _ := hS (.int .i64 (picks : Int)) (.bool true)
          have hdR : DropN ((rec : Int).toNat * 13 + 11) (ws ++ (.int .i64 (picks : Int) :: .int .i64 ((qst : Int) + 1) :: .bool true :: .int .i64 cm.s.rc :: .int .u64 (cm.s.rv : Int) :: rs2)) (.int .i64 cm.s.rc :: .int .u64 (cm.s.rv : Int) :: rs2) := by
            have h := (DropN.app ws (.int .i64 (picks : Int) :: .int .i64 ((qst : Int) + 1) :: .bool true :: .int .i64 cm.s.rc :: .int .u64 (cm.s.rv : Int) :: rs2)).add (m := 3) (.succ (.succ (.succ .zero)))
            rw [ho3] at h
            exact h
          have sh := fun M => shutR picks (qst + 1) true cm.s.rc cm.s.rv (M := M)
          rw [show ((qst + 1 : Nat) : Int) = (qst : Int) + 1 from rfl] at sh
          clear hT hD hS
          repeat' (first | refine St.halt 10 ?_ |refine Ga ?_ | (refine Gb ?_; intro b) | (refine Gd ?_; intro g cap rest hcap) | (refine Gc ?_; intro ad cap) | (refine St.draw (id := 0) [(0, 0), (1, 0), (2, 0), (3, 1), (4, 0), (5, 0), (6, 0), (7, 1), (8, 0), (9, 0)] [] mixed (by kernel_rfl) ?_) | (refine St.draw (id := 7) [(0, 0), (1, 0), (2, 0), (3, 0), (4, 1), (5, 0), (6, 0), (7, 0), (8, 1), (9, 0), (10, 1), (11, 0), (12, 1), (13, 0), (14, 0), (15, 1), (16, 0), (17, 1), (18, 0), (19, 2), (20, 3), (21, 0), (22, 0), (23, 3)] [20, 23] mixed (by kernel_rfl) ?_) | (refine St.draw (id := 10) [(0, 0), (1, 0), (2, 0), (3, 0), (4, 0), (5, 0), (6, 1), (7, 0), (8, 0), (9, 0), (10, 1), (11, 1), (12, 0), (13, 0), (14, 3), (15, 0), (16, 0), (17, 3), (18, 0), (19, 0), (20, 3)] [14, 17, 20] mixed (by kernel_rfl) ?_) | (refine St.draw (id := 12) [(0, 0), (1, 0), (2, 0), (3, 0), (4, 1), (5, 0), (6, 0), (7, 0), (8, 1), (9, 0), (10, 0), (11, 0), (12, 0), (13, 1), (14, 0), (15, 0), (16, 0), (17, 1), (18, 0), (19, 2), (20, 3), (21, 0), (22, 0), (23, 3)] [20, 23] mixed (by kernel_rfl) ?_)| refine Gl hdn ?_ | (refine Ge ?_ ?_ <;> (intro h; try (exfalso; omega))) | fail)
          apply Halt.go
          apply St.seq
          refine St.drawTo (L0 := [bl Sb 188 (sdV c Mb pv Tb n cap picks (.slice (some ⟨Rb, 0, none⟩) recs.length rcap) (.slice ad1 acc.length cap1)), bl Tb 192 (pre ++ (cv :: .pointer (some ⟨Cb, 0, none⟩) :: .int .i64 (rec : Int) :: .int .i64 (cnt : Int) :: .int .i64 (picks : Int) :: post)), ClE Cb c pv p q progs cm]) (id := 10) [(0, 0), (1, 0), (2, 0), (3, 0), (4, 0), (5, 0), (6, 1), (7, 0), (8, 0), (9, 0), (10, 1), (11, 1), (12, 0), (13, 0), (14, 2), (15, 0), (16, 0), (17, 2), (18, 0), (19, 0), (20, 2)] .done [] mixed (by kernel_rfl) ?_
          repeat' (first | refine St.halt 11 ?_ |refine Ga ?_ | (refine Gb ?_; intro b) | (refine Gd ?_; intro g cap rest hcap) | (refine Gc ?_; intro ad cap) | (refine St.draw (id := 0) [(0, 0), (1, 0), (2, 0), (3, 1), (4, 0), (5, 0), (6, 0), (7, 1), (8, 0), (9, 0)] [] mixed (by kernel_rfl) ?_) | (refine St.draw (id := 7) [(0, 0), (1, 0), (2, 0), (3, 0), (4, 1), (5, 0), (6, 0), (7, 0), (8, 1), (9, 0), (10, 1), (11, 0), (12, 1), (13, 0), (14, 0), (15, 1), (16, 0), (17, 1), (18, 0), (19, 2), (20, 3), (21, 0), (22, 0), (23, 3)] [20, 23] mixed (by kernel_rfl) ?_) | (refine St.draw (id := 10) [(0, 0), (1, 0), (2, 0), (3, 0), (4, 0), (5, 0), (6, 1), (7, 0), (8, 0), (9, 0), (10, 1), (11, 1), (12, 0), (13, 0), (14, 2), (15, 0), (16, 0), (17, 2), (18, 0), (19, 0), (20, 2)] [] mixed (by kernel_rfl) ?_) | (refine St.draw (id := 12) [(0, 0), (1, 0), (2, 0), (3, 0), (4, 1), (5, 0), (6, 0), (7, 0), (8, 1), (9, 0), (10, 0), (11, 0), (12, 0), (13, 1), (14, 0), (15, 0), (16, 0), (17, 1), (18, 0), (19, 2), (20, 3), (21, 0), (22, 0), (23, 3)] [20, 23] mixed (by kernel_rfl) ?_)| refine Gl hre ?_ | (apply Zq; rfl; exact Ob; exact Ent.go) | (refine Ge ?_ ?_ <;> (intro h; try (exfalso; omega))) | fail)
          apply Halt.go
          cases hal2 : cm.s.alone with
          | false =>
            rw [hal2] at hal
            repeat' (first | refine Ga ?_ | (refine Gb ?_; intro b) | (refine Gd ?_; intro g cap rest hcap) | (refine Gc ?_; intro ad cap) | (refine St.draw (id := 0) [(0, 0), (1, 0), (2, 0), (3, 1), (4, 0), (5, 0), (6, 0), (7, 1), (8, 0), (9, 0)] [] mixed (by kernel_rfl) ?_) | (refine St.draw (id := 7) [(0, 0), (1, 0), (2, 0), (3, 0), (4, 1), (5, 0), (6, 0), (7, 0), (8, 1), (9, 0), (10, 1), (11, 0), (12, 1), (13, 0), (14, 0), (15, 1), (16, 0), (17, 1), (18, 0), (19, 2), (20, 3), (21, 0), (22, 0), (23, 3)] [20, 23] mixed (by kernel_rfl) ?_) | (refine St.draw (id := 10) [(0, 0), (1, 0), (2, 0), (3, 0), (4, 0), (5, 0), (6, 1), (7, 0), (8, 0), (9, 0), (10, 1), (11, 1), (12, 0), (13, 0), (14, 3), (15, 0), (16, 0), (17, 3), (18, 0), (19, 0), (20, 3)] [14, 17, 20] mixed (by kernel_rfl) ?_) | (refine St.draw (id := 12) [(0, 0), (1, 0), (2, 0), (3, 0), (4, 1), (5, 0), (6, 0), (7, 0), (8, 1), (9, 0), (10, 0), (11, 0), (12, 0), (13, 1), (14, 0), (15, 0), (16, 0), (17, 1), (18, 0), (19, 2), (20, 3), (21, 0), (22, 0), (23, 3)] [20, 23] mixed (by kernel_rfl) ?_)| refine Gl hal ?_ | (refine Ge ?_ ?_ <;> (intro h; try (exfalso; omega))) | fail)
            refine St.f1 Tryz.func98 ⟨_, ⟨acc, ad1, cap1, by rw [hmap, if_neg (fun h => (by cases h.2)), List.append_nil], rfl, rfl⟩, ?_⟩
            rw [if_pos h13, if_pos h13]
            unfold thPt atP
            dsimp only
            exact Ent.trans (Ent.trans (Ent.trans Ent.go (sh _)) (Ent.trans Ent.go (hst2 _))) (Ent.trans (Ent.star_in []) Ent.go)
          | true =>
            rw [hal2] at hal
            have hla : (acc.flatMap srV).length = acc.length * 6 := flat_len srV_len acc
            repeat' (first | refine Ga ?_ | (refine Gb ?_; intro b) | (refine Gd ?_; intro g cap rest hcap) | (refine Gc ?_; intro ad cap) | (refine St.draw (id := 0) [(0, 0), (1, 0), (2, 0), (3, 1), (4, 0), (5, 0), (6, 0), (7, 1), (8, 0), (9, 0)] [] mixed (by kernel_rfl) ?_) | (refine St.draw (id := 7) [(0, 0), (1, 0), (2, 0), (3, 0), (4, 1), (5, 0), (6, 0), (7, 0), (8, 1), (9, 0), (10, 1), (11, 0), (12, 1), (13, 0), (14, 0), (15, 1), (16, 0), (17, 1), (18, 0), (19, 2), (20, 3), (21, 0), (22, 0), (23, 3)] [20, 23] mixed (by kernel_rfl) ?_) | (refine St.draw (id := 10) [(0, 0), (1, 0), (2, 0), (3, 0), (4, 0), (5, 0), (6, 1), (7, 0), (8, 0), (9, 0), (10, 1), (11, 1), (12, 0), (13, 0), (14, 3), (15, 0), (16, 0), (17, 3), (18, 0), (19, 0), (20, 3)] [14, 17, 20] mixed (by kernel_rfl) ?_) | (refine St.draw (id := 12) [(0, 0), (1, 0), (2, 0), (3, 0), (4, 1), (5, 0), (6, 0), (7, 0), (8, 1), (9, 0), (10, 0), (11, 0), (12, 0), (13, 1), (14, 0), (15, 0), (16, 0), (17, 1), (18, 0), (19, 2), (20, 3), (21, 0), (22, 0), (23, 3)] [20, 23] mixed (by kernel_rfl) ?_)| refine Gl hal ?_ | (refine Ge ?_ ?_ <;> (intro h; try (exfalso; omega))) | fail)
            refine St.f1 Tryz.func98 ⟨_, ⟨acc ++ [(⟨(picks : Int), (t : Int), (cnt : Int), cm.s.rc, cm.s.rv, []⟩, none, 0)], ad, cap, by rw [List.map_append, hmap, if_pos ⟨h13, rfl⟩]; rfl, rfl, rfl⟩, ?_⟩
            rw [if_pos h13, if_pos h13]
            unfold thPt atP
            dsimp only
            rw [List.length_append, List.length_singleton, List.flatMap_append, List.map_append]
            refine Ent.trans (Ent.trans (Ent.trans (Ent.trans Ent.go (sh _)) (Ent.trans Ent.go (hst2 _))) (Ent.trans (Ent.row_nil 22 1) (Ent.star_snoc (acc.map srP) (srP (⟨(picks : Int), (t : Int), (cnt : Int), cm.s.rc, cm.s.rv, []⟩, none, 0))))) (Ent.trans (Ent.star_in []) ?_)
            exact Ent.go
        · rw [decide_eq_false h13] at hdn
          have sh := fun M => shutR qto (qst + 1) qdn qrc qrv (M := M)
          rw [show ((qst + 1 : Nat) : Int) = (qst : Int) + 1 from rfl] at sh
          repeat' (first | refine Ga ?_ | (refine Gb ?_; intro b) | (refine Gd ?_; intro g cap rest hcap) | (refine Gc ?_; intro ad cap) | (refine St.draw (id := 0) [(0, 0), (1, 0), (2, 0), (3, 1), (4, 0), (5, 0), (6, 0), (7, 1), (8, 0), (9, 0)] [] mixed (by kernel_rfl) ?_) | (refine St.draw (id := 7) [(0, 0), (1, 0), (2, 0), (3, 0), (4, 1), (5, 0), (6, 0), (7, 0), (8, 1), (9, 0), (10, 1), (11, 0), (12, 1), (13, 0), (14, 0), (15, 1), (16, 0), (17, 1), (18, 0), (19, 2), (20, 3), (21, 0), (22, 0), (23, 3)] [20, 23] mixed (by kernel_rfl) ?_) | (refine St.draw (id := 10) [(0, 0), (1, 0), (2, 0), (3, 0), (4, 0), (5, 0), (6, 1), (7, 0), (8, 0), (9, 0), (10, 1), (11, 1), (12, 0), (13, 0), (14, 3), (15, 0), (16, 0), (17, 3), (18, 0), (19, 0), (20, 3)] [14, 17, 20] mixed (by kernel_rfl) ?_) | (refine St.draw (id := 12) [(0, 0), (1, 0), (2, 0), (3, 0), (4, 1), (5, 0), (6, 0), (7, 0), (8, 1), (9, 0), (10, 0), (11, 0), (12, 0), (13, 1), (14, 0), (15, 0), (16, 0), (17, 1), (18, 0), (19, 2), (20, 3), (21, 0), (22, 0), (23, 3)] [20, 23] mixed (by kernel_rfl) ?_)| refine Gl hdn ?_ | (refine Ge ?_ ?_ <;> (intro h; try (exfalso; omega))) | fail)
          refine St.d1 Tryz.func98 ⟨_, ⟨acc, ad1, cap1, by rw [hmap, if_neg (fun h => h13 h.1), List.append_nil], rfl, rfl⟩, ?_⟩
          rw [if_neg h13, if_neg h13]
          unfold thPt atP
          dsimp only
          exact Ent.trans (Ent.trans (Ent.trans Ent.go (sh _)) (Ent.trans Ent.go (hst2 _))) Ent.go
end Go.Proofs.YtemaaenipjinaaaGreat
