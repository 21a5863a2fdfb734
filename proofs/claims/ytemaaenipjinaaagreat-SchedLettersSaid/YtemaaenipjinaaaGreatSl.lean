/-
  Package sched: Pick. Package sched: Records, Rows. Package sched: Play. Packages tumblerlaw16, tumblerref16: few, as, Same.
-/
import Derived.Test.YtemaaenipjinaaaGreatSj
import Derived.Test.YtemaaenipjinaaaGreatSc
section
namespace Go.Proofs.YtemaaenipjinaaaGreat
set_option maxRecDepth 100000
theorem mid_getD {α β : Type} (f : α → β) (A : List α) (y : α) (B : List α) (d : β) : ((A ++ y :: B).map f).getD A.length d = f y := by
  rw [map_getD f (by rw [List.length_append, List.length_cons]; omega)]
  congr 1
  simp
theorem mid_set {α β : Type} (f : α → β) (A : List α) (y y' : α) (B : List α) : ((A ++ y :: B).map f).set A.length (f y') = (A ++ y' :: B).map f := by
  rw [List.map_append, List.map_append, List.map_cons, List.map_cons, List.set_append_right _ _ (by rw [List.length_map]; omega), List.length_map, Nat.sub_self]
  rfl
theorem told_eq (_c : Cfg) (_progs : Progs) (mem2 : Pm) (picks : Nat) (recs : List Rec) (rows : List SRow) (A : List ThH) (y y' : ThH) (B : List ThH) (p : Cp) (cm2 : Cm) (hy : y'.u = { y.u with at_ := if cm2.s.next = 13 then none else some (p, cm2), looked := if cm2.s.fresh = true then picks else y.u.looked }) (rows' : List SRow) (hr : rows' = rows ++ cm2.rows.map (rowOf picks) ++ toldW A.length picks y.u.count y.u.looked cm2.s) :
    Sd.told ⟨mem2, (A ++ y :: B).map (·.u), picks, recs, rows⟩ A.length y.u p cm2 = ⟨mem2, (A ++ y' :: B).map (·.u), picks, recs.set y.u.record (toldR (recs.getD y.u.record rec0) picks cm2.s), rows'⟩ := by
  subst hr
  rw [← mid_set (·.u) A y y' B, hy]
  rfl
theorem step_eq {c : Cfg} {progs : Progs} {mem mem2 : Pm} {picks : Nat} {recs : List Rec} {rows : List SRow} {A : List ThH} {y : ThH} (y' : ThH) {B : List ThH} {p : Cp} {cm cm2 : Cm} {out : Out} (hat : y.u.at_ = some (p, cm)) (hmd : mem.do ((A.length : Nat) : Int) (cm.ask c p).1 = (mem2, out)) (hcm : cm.tell c p progs out = cm2)
    (hy : y'.u = { y.u with at_ := if cm2.s.next = 13 then none else some (p, cm2), looked := if cm2.s.fresh = true then picks else y.u.looked }) {rows' : List SRow} (hr : rows' = rows ++ cm2.rows.map (rowOf picks) ++ toldW A.length picks y.u.count y.u.looked cm2.s) :
    Sd.step c progs ⟨mem, (A ++ y :: B).map (·.u), picks, recs, rows⟩ A.length = ⟨mem2, (A ++ y' :: B).map (·.u), picks, recs.set y.u.record (toldR (recs.getD y.u.record rec0) picks cm2.s), rows'⟩ := by
  unfold Sd.step
  rw [mid_getD, hat]
  dsimp only
  rw [hmd]
  dsimp only
  rw [hcm]
  exact told_eq c progs mem2 picks recs rows A y y' B p cm2 hy rows' hr
theorem begin_eq {progs : Progs} {mem : Pm} {picks : Nat} {recs : List Rec} {rows : List SRow} {A : List ThH} {y : ThH} (y1 : ThH) {B : List ThH} {j : Jb} {js : List Jb} (hj : y.u.calls = j :: js)
    (hy : y1.u = { y.u with calls := js, at_ := some (j.cp A.length (y.u.count + 1), Cm.new (j.cp A.length (y.u.count + 1)) progs), record := recs.length, count := y.u.count + 1 }) :
    Sd.begin progs ⟨mem, (A ++ y :: B).map (·.u), picks, recs, rows⟩ A.length = ⟨mem, (A ++ y1 :: B).map (·.u), picks, recs ++ [⟨((A.length : Nat) : Int), y.u.count + 1, j, picks, 0, 0, false, 0, 0⟩], rows⟩ := by
  unfold Sd.begin
  rw [mid_getD, hj]
  dsimp only
  rw [← mid_set (·.u) A y y1 B, hy]
section
variable {Sb : Nat} {c : Cfg} (hc : Small c) (hf : 0 ≤ c.fuel ∧ c.fuel ≤ 1000) (hlast : c.last ≤ 140737488355328) {pv : Value} {q : HProp} {progs : Progs} (hpv : ProgsR q pv progs)
include hc hf hlast hpv in
set_option maxHeartbeats 2000000 in
theorem pick_t {m : Sd} (hi : SdI c progs m) (t : Int) : Tri Tryz.prog 45 #[.pointer (some ⟨Sb, 0, none⟩), .int .i64 t] [SdE Sb c pv q progs m]
    fun r L => r = .bool (m.pick c progs t).2 ∧ L = [SdE Sb c pv q progs (m.pick c progs t).1] := by
  have hid := idle_r (Sb := Sb) (c := c) (pv := pv) (q := q) (progs := progs) (m := m) t
  cases hidle : m.idle t with
  | true =>
    rw [hidle] at hid
    have e : m.pick c progs t = (m, false) := by unfold Sd.pick; rw [if_pos (.inl hidle)]
    rw [e]
    refine Tri.of_body (vs := [_, _]) Tryz.func45 rfl rfl fun w0 F => ?_
    repeat' (first | refine Ga ?_ | (refine Gb ?_; intro b) | (refine Gd ?_; intro g cap rest hcap) | (refine Gc ?_; intro ad cap) | (refine St.drawa (id := 8) [(0, 0), (1, 0), (2, 0), (3, 1), (4, 0), (5, 1), (6, 3), (7, 0), (8, 0), (9, 0)] [(11, 3), (12, 0)] [6, 11] 10 mixed rfl (by intro w; rfl) (by kernel_rfl) ?_) | (refine St.draw (id := 9) [(0, 0), (1, 0), (2, 0), (3, 1), (4, 1), (5, 3)] [5] mixed (by kernel_rfl) ?_)| refine Gl hid ?_ | (refine Ge ?_ ?_ <;> (intro h; try (exfalso; omega))) | fail)
    refine St.d1 Tryz.func45 ⟨_, ⟨rfl, rfl⟩, Ent.go⟩
  | false =>
    rw [hidle] at hid
    refine Tri.ex_out fun x => ?_
    have hjd := hid.ent (M := sdL Sb c pv q progs m x ++ []) (Ent.ex_in (Ls := sdL Sb c pv q progs m) x)
    by_cases hp : 65536 ≤ m.picks
    · have e : m.pick c progs t = (m, false) := by unfold Sd.pick; rw [if_pos (.inr hp)]
      rw [e]
      have shut := fun M => Ent.ex_in (Ls := sdL Sb c pv q progs m) (L := M) x
      unfold sdL at hjd shut ⊢
      dsimp only [List.cons_append, List.nil_append] at hjd shut ⊢
      refine Tri.of_body (vs := [_, _]) Tryz.func45 rfl rfl fun w0 F => ?_
      repeat' (first | refine Ga ?_ | (refine Gb ?_; intro b) | (refine Gd ?_; intro g cap rest hcap) | (refine Gc ?_; intro ad cap) | (refine St.drawa (id := 8) [(0, 0), (1, 0), (2, 0), (3, 1), (4, 0), (5, 1), (6, 3), (7, 0), (8, 0), (9, 0)] [(11, 3), (12, 0)] [6, 11] 10 mixed rfl (by intro w; rfl) (by kernel_rfl) ?_) | (refine St.draw (id := 9) [(0, 0), (1, 0), (2, 0), (3, 1), (4, 1), (5, 3)] [5] mixed (by kernel_rfl) ?_)| refine Gl hjd ?_ | (refine Ge ?_ ?_ <;> (intro h; try (exfalso; omega))) | fail)
      all_goals first | (exfalso; omega) | skip
      refine St.d1 Tryz.func45 ⟨_, ⟨rfl, rfl⟩, ?_⟩
      exact Ent.trans Ent.go (shut F)
    · obtain ⟨h0, h1, h2⟩ := Sd.not_idle hidle
      obtain ⟨tn, rfl⟩ : ∃ tn : Nat, t = (tn : Int) := ⟨t.toNat, by omega⟩
      rw [Int.toNat_natCast] at h2
      have e : m.pick c progs (tn : Int) = (Sd.step c progs (if (m.ths.getD tn th0).at_.isNone = true then Sd.begin progs { m with picks := m.picks + 1 } tn else { m with picks := m.picks + 1 }) tn, true) := by
        unfold Sd.pick; rw [if_neg (by rw [hidle]; simp; omega), Int.toNat_natCast]
      rw [e]
      clear e
      have hmid := hi.mid (by omega)
      have htl : tn < m.ths.length := by omega
      have hth := hi.th tn htl
      have hn := hi.n; have hst := hi.st; have htr := hi.tr; have hpk := hi.picks; have hrc := hi.recs; have hrw := hi.rows
      have hsteps := hi.steps
      obtain ⟨mem, ths, picks, recs, rows⟩ := m
      obtain ⟨Mb, C, Tb, cap, trest, xs, hxs, rad, rcap, wad, wcap, rs, hrs⟩ := x
      clear hid
      unfold sdL at hjd ⊢
      dsimp only [List.cons_append, List.nil_append] at *
      subst hxs hrs
      obtain ⟨A, y, B, rfl, hA⟩ : ∃ A y B, xs = A ++ y :: B ∧ A.length = tn := by
        rw [List.length_map] at htl
        refine ⟨xs.take tn, xs[tn], xs.drop (tn + 1), ?_, by rw [List.length_take]; omega⟩
        rw [← List.drop_eq_getElem_cons (by omega), List.take_append_drop]
      subst hA
      rw [mid_getD] at hth h2 ⊢
      have hxl : (A ++ y :: B).length = A.length + 1 + B.length := by rw [List.length_append, List.length_cons]; omega
      rw [List.length_map, hxl] at hn htl h1
      have hpre : (A.flatMap thV).length = ((A.length : Nat) : Int).toNat * 5 := by rw [flat_len thV_len, Int.toNat_natCast]
      have ebl : ∀ y', (A ++ y' :: B).flatMap thV ++ trest = A.flatMap thV ++ (y'.cv :: thPt y'.u.at_ y'.Cb :: .int .i64 (y'.u.record : Int) :: .int .i64 (y'.u.count : Int) :: .int .i64 (y'.u.looked : Int) :: (B.flatMap thV ++ trest)) := fun y' => by
        rw [List.flatMap_append, List.flatMap_cons, List.append_assoc, List.append_assoc]; rfl
      rw [ebl, hxl] at hjd ⊢
      rw [List.map_append, List.map_cons] at hjd ⊢
      obtain ⟨⟨calls, at_, rec, cnt, lk⟩, cv, qc, hcl, Cb⟩ := y
      dsimp only at *
      have hopen : ∀ (M : List HProp), Ent (star (A.map (thP c pv q progs) ++ thP c pv q progs ⟨⟨calls, at_, rec, cnt, lk⟩, cv, qc, hcl, Cb⟩ :: B.map (thP c pv q progs)) :: M) (qc :: atP c pv q progs at_ Cb :: star (A.map (thP c pv q progs) ++ B.map (thP c pv q progs)) :: M) := fun M =>
        Ent.trans (Ent.star_get _ _ _) (Ent.star_out (L := [qc, atP c pv q progs at_ Cb]))
      have hput : ∀ (y : ThH) (M : List HProp), Ent (y.qc :: atP c pv q progs y.u.at_ y.Cb :: star (A.map (thP c pv q progs) ++ B.map (thP c pv q progs)) :: M) (star ((A ++ y :: B).map (thP c pv q progs)) :: M) := fun y M => by
        rw [List.map_append, List.map_cons]
        exact Ent.trans (Ent.star_in [y.qc, atP c pv q progs y.u.at_ y.Cb]) (Ent.star_put _ _ (thP c pv q progs y))
      have shut : ∀ (mem' : Pm) (y : ThH) (recs' : List Rec) (rad' : Option Addr) (rcap' : Nat) (rs' : List SRowH) (wad' : Option Addr) (wcap' : Nat) (m' : Sd) (M : List HProp), m' = ⟨mem', (A ++ y :: B).map (·.u), picks + 1, recs', rs'.map (·.1)⟩ →
          Ent (bl Sb 188 (sdV c Mb pv Tb (A.length + 1 + B.length) cap (picks + 1) (.slice rad' recs'.length rcap') (.slice wad' rs'.length wcap')) :: Mm Mb C mem' :: bl Tb 192 (A.flatMap thV ++ (y.cv :: thPt y.u.at_ y.Cb :: .int .i64 (y.u.record : Int) :: .int .i64 (y.u.count : Int) :: .int .i64 (y.u.looked : Int) :: (B.flatMap thV ++ trest))) :: y.qc :: atP c pv q progs y.u.at_ y.Cb :: star (A.map (thP c pv q progs) ++ B.map (thP c pv q progs)) ::
            Row (.slice rad' recs'.length rcap') 116 13 recs'.length (recs'.flatMap recV) :: Row (.slice wad' rs'.length wcap') 120 6 rs'.length (rs'.flatMap srV) :: star (rs'.map srP) :: q :: M) (SdE Sb c pv q progs m' :: M) := by
        intro mem' y recs' rad' rcap' rs' wad' wcap' m' M em
        subst em
        refine Ent.trans ?_ (Ent.ex_in (Ls := sdL Sb c pv q progs ⟨mem', (A ++ y :: B).map (·.u), picks + 1, recs', rs'.map (·.1)⟩) ⟨Mb, C, Tb, cap, trest, A ++ y :: B, rfl, rad', rcap', wad', wcap', rs', rfl⟩)
        unfold sdL
        dsimp only [List.cons_append, List.nil_append]
        rw [ebl, List.length_append, List.length_cons, show A.length + (B.length + 1) = A.length + 1 + B.length by omega]
        exact Ent.cons (Ent.cons (Ent.cons (hput y _)))
      cases at_ with
      | some a =>
        obtain ⟨p, cm⟩ := a
        obtain ⟨hp1, hp2, hci, hcr, hrec⟩ := hth.at_ p cm rfl
        rw [if_neg (show ¬ ((some (p, cm) : Option (Cp × Cm)).isNone = true) by simp)]
        have hbnd := hci.nx
        have hdo := mdo_t Mb C mem hst (by omega) ((A.length : Nat) : Int) (cm.ask c p).1
        have hask := cask_r Cb c hc pv p q progs (by have := hc.t1; omega) hlast cm hci
        have htell := ctell_t Cb c hc pv p hp2 q progs hpv hf hlast cm hci hcr (mem.do ((A.length : Nat) : Int) (cm.ask c p).1).2
        have hci2 := hci.tell hc hf hp2 (mem.do ((A.length : Nat) : Int) (cm.ask c p).1).2
        have htold := told_t Sb Mb Tb (A.length + 1 + B.length) cap c hc pv q progs hpv A.length _ _ (B.flatMap thV ++ trest) hpre cv Cb rec cnt lk (picks + 1) p _ hci2 recs hrec (by have := hsteps rec hrec; omega) rad rcap rs (by rw [List.length_map] at hrw; omega) wad wcap
        unfold MOp.v at hask hdo
        generalize hmd : mem.do ((A.length : Nat) : Int) (cm.ask c p).1 = md at *
        obtain ⟨mem2, out⟩ := md
        dsimp only at hdo htell htold hci2
        generalize hcm2 : Cm.tell c p progs cm out = cm2 at *
        generalize hop : (cm.ask c p) = op at hask hdo
        unfold sdV at htold
        rw [show ((picks + 1 : Nat) : Int) = (picks : Int) + 1 from rfl] at htold
        skip
        have a1 := (th5 (post := B.flatMap thV ++ trest) hpre cv (.pointer (some ⟨Cb, 0, none⟩)) (.int .i64 (rec : Int)) (.int .i64 (cnt : Int)) (.int .i64 (lk : Int))).2.1
        unfold thPt
        dsimp only
        refine Tri.of_body (vs := [_, _]) Tryz.func45 rfl rfl fun w0 F => ?_
        repeat' (first | refine St.halt 3 ?_ |refine Ga ?_ | (refine Gb ?_; intro b) | (refine Gd ?_; intro g cap rest hcap) | (refine Gc ?_; intro ad cap) | (refine St.drawa (id := 8) [(0, 0), (1, 0), (2, 0), (3, 1), (4, 0), (5, 1), (6, 3), (7, 0), (8, 0), (9, 0)] [(11, 3), (12, 0)] [6, 11] 10 mixed rfl (by intro w; rfl) (by kernel_rfl) ?_) | (refine St.draw (id := 9) [(0, 0), (1, 0), (2, 0), (3, 1), (4, 1), (5, 3)] [5] mixed (by kernel_rfl) ?_)| refine Gl hjd ?_ | (refine Ge ?_ ?_ <;> (intro h; try (exfalso; omega))) | fail)
        apply Halt.go
        refine St.conv ?_ (Sub.refl _) (Ent.of_take (p := star (A.map (thP c pv q progs) ++ thP c pv q progs ⟨⟨calls, some (p, cm), rec, cnt, lk⟩, cv, qc, hcl, Cb⟩ :: B.map (thP c pv q progs))) Take.go)
        refine St.conv ?_ (Sub.refl _) (hopen _)
        unfold atP
        dsimp only
        repeat' (first | refine Ga ?_ | (refine Gb ?_; intro b) | (refine Gd ?_; intro g cap rest hcap) | (refine Gc ?_; intro ad cap) | (refine St.drawa (id := 8) [(0, 0), (1, 0), (2, 0), (3, 1), (4, 0), (5, 1), (6, 3), (7, 0), (8, 0), (9, 0)] [(11, 3), (12, 0)] [6, 11] 10 mixed rfl (by intro w; rfl) (by kernel_rfl) ?_) | (refine St.draw (id := 9) [(0, 0), (1, 0), (2, 0), (3, 1), (4, 1), (5, 3)] [5] mixed (by kernel_rfl) ?_)| refine Gl hask ?_ | (refine Gt hdo ?_; rintro _ _ ⟨e, rfl, rfl⟩) | (refine Gt htell ?_; rintro _ _ ⟨rfl, rfl⟩) | (refine Gt htold ?_; rintro _ _ ⟨rs2, wad2, wcap2, hrs2, rfl, rfl⟩) | (refine Ge ?_ ?_ <;> (intro h; try (exfalso; omega))) | fail)
        refine St.d1 Tryz.func45 ⟨_, ⟨rfl, rfl⟩, ?_⟩
        have sh := fun M => shut mem2 ⟨⟨calls, if cm2.s.next = 13 then none else some (p, cm2), rec, cnt, if cm2.s.fresh = true then picks + 1 else lk⟩, cv, qc, hcl, Cb⟩ _ rad rcap rs2 wad2 wcap2 _ M (step_eq (c := c) (progs := progs) (y := ⟨⟨calls, some (p, cm), rec, cnt, lk⟩, cv, qc, hcl, Cb⟩) (B := B) (recs := recs) _ rfl hmd hcm2 rfl hrs2)
        rw [List.length_set] at sh
        unfold sdV at sh
        rw [show ((picks + 1 : Nat) : Int) = (picks : Int) + 1 from rfl] at sh
        dsimp only at sh
        exact Ent.trans (Ent.trans Ent.go (sh _)) Ent.go
      | none =>
        obtain ⟨j, js, rfl⟩ : ∃ j js, calls = j :: js := by
          cases calls with
          | nil => exact absurd rfl (h2 rfl)
          | cons j js => exact ⟨j, js, rfl⟩
        have hcl : ListR jbV qc cv (j :: js) := hcl
        have hja := hth.calls j List.mem_cons_self
        have hcnt : cnt ≤ picks := hth.count
        rw [if_pos (show (none : Option (Cp × Cm)).isNone = true from rfl)]
        have hbg := begin_t Sb Mb Tb (A.length + 1 + B.length) cap c hc pv q progs hpv A.length _ _ (B.flatMap thV ++ trest) hpre j js cv qc hcl rec cnt lk (picks + 1) (by omega) recs (by omega) rad rcap (.slice wad rs.length wcap)
        unfold sdV at hbg
        rw [show ((picks + 1 : Nat) : Int) = (picks : Int) + 1 from rfl] at hbg
        have a1 := (th5 (post := B.flatMap thV ++ trest) hpre cv (.pointer none) (.int .i64 (rec : Int)) (.int .i64 (cnt : Int)) (.int .i64 (lk : Int))).2.1
        unfold thPt
        dsimp only
        refine Tri.of_body (vs := [_, _]) Tryz.func45 rfl rfl fun w0 F => ?_
        repeat' (first | refine St.halt 3 ?_ |refine Ga ?_ | (refine Gb ?_; intro b) | (refine Gd ?_; intro g cap rest hcap) | (refine Gc ?_; intro ad cap) | (refine St.drawa (id := 8) [(0, 0), (1, 0), (2, 0), (3, 1), (4, 0), (5, 1), (6, 3), (7, 0), (8, 0), (9, 0)] [(11, 3), (12, 0)] [6, 11] 10 mixed rfl (by intro w; rfl) (by kernel_rfl) ?_) | (refine St.draw (id := 9) [(0, 0), (1, 0), (2, 0), (3, 1), (4, 1), (5, 3)] [5] mixed (by kernel_rfl) ?_)| refine Gl hjd ?_ | (refine Ge ?_ ?_ <;> (intro h; try (exfalso; omega))) | fail)
        apply Halt.go
        refine St.conv ?_ (Sub.refl _) (Ent.of_take (p := star (A.map (thP c pv q progs) ++ thP c pv q progs ⟨⟨j :: js, none, rec, cnt, lk⟩, cv, qc, hcl, Cb⟩ :: B.map (thP c pv q progs))) Take.go)
        refine St.conv ?_ (Sub.refl _) (hopen _)
        repeat' (first | refine St.halt 7 ?_ |refine Ga ?_ | (refine Gb ?_; intro b) | (refine Gd ?_; intro g cap rest hcap) | (refine Gc ?_; intro ad cap) | (refine St.drawa (id := 8) [(0, 0), (1, 0), (2, 0), (3, 1), (4, 0), (5, 1), (6, 3), (7, 0), (8, 0), (9, 0)] [(11, 3), (12, 0)] [6, 11] 10 mixed rfl (by intro w; rfl) (by kernel_rfl) ?_) | (refine St.draw (id := 9) [(0, 0), (1, 0), (2, 0), (3, 1), (4, 1), (5, 3)] [5] mixed (by kernel_rfl) ?_) | (refine Gt hbg ?_; rintro _ _ ⟨Cb2, cv2, rad2, rcap2, hcv2, rfl, rfl⟩) | (refine Ge ?_ ?_ <;> (intro h; try (exfalso; omega))) | fail)
        apply Halt.go
        have eb := begin_eq (progs := progs) (mem := mem) (picks := picks + 1) (recs := recs) (rows := rs.map (·.1)) (A := A) (y := ⟨⟨j :: js, none, rec, cnt, lk⟩, cv, qc, hcl, Cb⟩) ⟨⟨js, some (j.cp A.length (cnt + 1), Cm.new (j.cp A.length (cnt + 1)) progs), recs.length, cnt + 1, lk⟩, cv2, qc, hcv2, Cb2⟩ (B := B) rfl rfl
        rw [eb]
        clear eb
        dsimp only
        obtain ⟨p, hp, hp1, hp2⟩ : ∃ p, j.cp A.length (cnt + 1) = p ∧ p.who = (A.length : Int) ∧ p.args.length = 4 := ⟨_, rfl, rfl, hja⟩
        rw [hp]
        have hci : Cinv c p progs (Cm.new p progs) := Cinv.new
        have hcr : Crt p progs (Cm.new p progs) := Crt.new
        generalize Cm.new p progs = cm at hci hcr ⊢
        generalize hr1 : (⟨((A.length : Nat) : Int), cnt + 1, j, picks + 1, 0, 0, false, 0, 0⟩ : Rec) = r1
        have hr1s : r1.steps = 0 := by rw [← hr1]
        have er : (recs ++ [r1]).flatMap recV = recs.flatMap recV ++ recV r1 := by rw [List.flatMap_append, List.flatMap_cons, List.flatMap_nil, List.append_nil]
        have el : (recs ++ [r1]).length = recs.length + 1 := by rw [List.length_append, List.length_singleton]
        have eg : (recs ++ [r1]).getD recs.length rec0 = r1 := by rw [List.getD_eq_getElem?_getD, List.getElem?_append_right (Nat.le_refl _), Nat.sub_self]; rfl
        have hdo := mdo_t Mb C mem hst (by omega) ((A.length : Nat) : Int) (cm.ask c p).1
        have hask := cask_r Cb2 c hc pv p q progs (by have := hc.t1; omega) hlast cm hci
        have htell := ctell_t Cb2 c hc pv p hp2 q progs hpv hf hlast cm hci hcr (mem.do ((A.length : Nat) : Int) (cm.ask c p).1).2
        have hci2 := hci.tell hc hf hp2 (mem.do ((A.length : Nat) : Int) (cm.ask c p).1).2
        have htold := told_t Sb Mb Tb (A.length + 1 + B.length) cap c hc pv q progs hpv A.length _ _ (B.flatMap thV ++ trest) hpre cv2 Cb2 recs.length (cnt + 1) lk (picks + 1) p _ hci2 (recs ++ [r1]) (by omega) (by rw [eg]; omega) rad2 rcap2 rs (by rw [List.length_map] at hrw; omega) wad wcap
        rw [er, el] at htold
        unfold MOp.v at hask hdo
        generalize hmd : mem.do ((A.length : Nat) : Int) (cm.ask c p).1 = md at *
        obtain ⟨mem2, out⟩ := md
        dsimp only at hdo htell htold hci2
        generalize hcm2 : Cm.tell c p progs cm out = cm2 at *
        generalize hop : (cm.ask c p) = op at hask hdo
        unfold sdV at htold
        rw [show ((picks + 1 : Nat) : Int) = (picks : Int) + 1 from rfl, show ((cnt + 1 : Nat) : Int) = (cnt : Int) + 1 from rfl] at htold
        have a2 := (th5 (post := B.flatMap thV ++ trest) hpre cv2 (.pointer (some ⟨Cb2, 0, none⟩)) (.int .i64 (recs.length : Int)) (.int .i64 ((cnt : Int) + 1)) (.int .i64 (lk : Int))).2.1
        repeat' (first | refine Ga ?_ | (refine Gb ?_; intro b) | (refine Gd ?_; intro g cap rest hcap) | (refine Gc ?_; intro ad cap) | (refine St.drawa (id := 8) [(0, 0), (1, 0), (2, 0), (3, 1), (4, 0), (5, 1), (6, 3), (7, 0), (8, 0), (9, 0)] [(11, 3), (12, 0)] [6, 11] 10 mixed rfl (by intro w; rfl) (by kernel_rfl) ?_) | (refine St.draw (id := 9) [(0, 0), (1, 0), (2, 0), (3, 1), (4, 1), (5, 3)] [5] mixed (by kernel_rfl) ?_)| refine Gl hask ?_ | (refine Gt hdo ?_; rintro _ _ ⟨e, rfl, rfl⟩) | (refine Gt htell ?_; rintro _ _ ⟨rfl, rfl⟩) | (refine Gt htold ?_; rintro _ _ ⟨rs2, wad2, wcap2, hrs2, rfl, rfl⟩) | (refine Ge ?_ ?_ <;> (intro h; try (exfalso; omega))) | fail)
        refine St.d1 Tryz.func45 ⟨_, ⟨rfl, rfl⟩, ?_⟩
        have sh := fun M => shut mem2 ⟨⟨js, if cm2.s.next = 13 then none else some (p, cm2), recs.length, cnt + 1, if cm2.s.fresh = true then picks + 1 else lk⟩, cv2, qc, hcv2, Cb2⟩ _ rad2 rcap2 rs2 wad2 wcap2 _ M (step_eq (c := c) (progs := progs) (y := ⟨⟨js, some (p, cm), recs.length, cnt + 1, lk⟩, cv2, qc, hcv2, Cb2⟩) (B := B) (recs := recs ++ [r1]) _ rfl hmd hcm2 rfl hrs2)
        rw [List.length_set, el] at sh
        unfold sdV at sh
        rw [show ((picks + 1 : Nat) : Int) = (picks : Int) + 1 from rfl] at sh
        dsimp only at sh
        rw [show ((cnt + 1 : Nat) : Int) = (cnt : Int) + 1 from rfl] at sh
        exact Ent.trans (Ent.trans Ent.go (sh _)) Ent.go
end
end Go.Proofs.YtemaaenipjinaaaGreat
end
section
namespace Go.Proofs.YtemaaenipjinaaaGreat
set_option maxRecDepth 100000
theorem clone_rec (v : Value) (n : Nat) (xs : List Value) (h1 : xs.all one = true) (hn : n ≤ 1000000) : Tri Tryz.prog 104 #[v] [Row v 116 13 n xs]
    fun r L => ∃ ad cap, r = .slice ad n cap ∧ L = [Row v 116 13 n xs, Row (.slice ad n cap) 116 13 n xs] := by
  refine Tri.of_body (vs := [_]) Tryz.func104 rfl rfl fun w0 F => ?_
  refine St.rowC (fun hv h0 hx => ?_) (fun g cap rest hv hrf => ?_)
  · subst hv h0 hx
    repeat' (first | refine Ga ?_ | (refine Gb ?_; intro b) | (refine Gd ?_; intro g cap rest hcap) | (refine Gc ?_; intro ad cap)  | (refine Ge ?_ ?_ <;> (intro h; try (exfalso; omega))) | fail)
    refine St.d1 Tryz.func104 ⟨_, ⟨none, 0, rfl, rfl⟩, ?_⟩
    exact Ent.trans (Ent.row_nil 116 13) (Ent.trans (Ent.row_nil 116 13) Ent.go)
  · subst hv
    have htk : TakeN (n * 13) (xs ++ rest) xs := by rw [← hrf.len]; exact TakeN.app _ _
    repeat' (first | refine Ga ?_ | (refine Gb ?_; intro b) | (refine Gd ?_; intro g cap rest hcap) | (refine Gc ?_; intro ad cap)  | (refine Ge ?_ ?_ <;> (intro h; try (exfalso; omega))) | fail)
    refine St.d1 Tryz.func104 ⟨_, ⟨_, _, rfl, rfl⟩, ?_⟩
    refine Ent.trans (Ent.of_take (p := bl g 116 (xs ++ rest)) Take.go) (Ent.trans (Ent.rowF hrf) Ent.go)
theorem clone_srow (v : Value) (n : Nat) (xs : List Value) (h1 : xs.all one = true) (hn : n ≤ 1000000) : Tri Tryz.prog 99 #[v] [Row v 120 6 n xs]
    fun r L => ∃ ad cap, r = .slice ad n cap ∧ L = [Row v 120 6 n xs, Row (.slice ad n cap) 120 6 n xs] := by
  refine Tri.of_body (vs := [_]) Tryz.func99 rfl rfl fun w0 F => ?_
  refine St.rowC (fun hv h0 hx => ?_) (fun g cap rest hv hrf => ?_)
  · subst hv h0 hx
    repeat' (first | refine Ga ?_ | (refine Gb ?_; intro b) | (refine Gd ?_; intro g cap rest hcap) | (refine Gc ?_; intro ad cap)  | (refine Ge ?_ ?_ <;> (intro h; try (exfalso; omega))) | fail)
    refine St.d1 Tryz.func99 ⟨_, ⟨none, 0, rfl, rfl⟩, ?_⟩
    exact Ent.trans (Ent.row_nil 120 6) (Ent.trans (Ent.row_nil 120 6) Ent.go)
  · subst hv
    have htk : TakeN (n * 6) (xs ++ rest) xs := by rw [← hrf.len]; exact TakeN.app _ _
    repeat' (first | refine Ga ?_ | (refine Gb ?_; intro b) | (refine Gd ?_; intro g cap rest hcap) | (refine Gc ?_; intro ad cap)  | (refine Ge ?_ ?_ <;> (intro h; try (exfalso; omega))) | fail)
    refine St.d1 Tryz.func99 ⟨_, ⟨_, _, rfl, rfl⟩, ?_⟩
    refine Ent.trans (Ent.of_take (p := bl g 120 (xs ++ rest)) Take.go) (Ent.trans (Ent.rowF hrf) Ent.go)
theorem recV_one (rs : List Rec) : (rs.flatMap recV).all one = true := by
  induction rs with
  | nil => rfl
  | cons x l ih => rw [List.flatMap_cons, List.all_append, ih]; rfl
section
variable {Sb : Nat} {c : Cfg} {pv : Value} {q : HProp} {progs : Progs}
theorem records_t {m : Sd} (hi : SdI c progs m) : Tri Tryz.prog 51 #[.pointer (some ⟨Sb, 0, none⟩)] [SdE Sb c pv q progs m]
    fun r L => ∃ ad cap, r = .slice ad m.recs.length cap ∧ L = [SdE Sb c pv q progs m, Row (.slice ad m.recs.length cap) 116 13 m.recs.length (m.recs.flatMap recV)] := by
  refine Tri.ex_out fun x => ?_
  have h1 := hi.recs; have h2 := hi.picks
  have hcr := clone_rec (.slice x.rad m.recs.length x.rcap) m.recs.length (m.recs.flatMap recV) (recV_one _) (by omega)
  have shut : ∀ {M : List HProp}, Ent (sdL Sb c pv q progs m x ++ M) (SdE Sb c pv q progs m :: M) := Ent.ex_in (Ls := sdL Sb c pv q progs m) x
  unfold sdL at shut ⊢
  refine Tri.of_body (vs := [_]) Tryz.func51 rfl rfl fun w0 F => ?_
  repeat' (first | refine Ga ?_ | (refine Gb ?_; intro b) | (refine Gd ?_; intro g cap rest hcap) | (refine Gc ?_; intro ad cap)  | (refine Gt hcr ?_; rintro _ _ ⟨oad, ocap, rfl, rfl⟩) | (refine Ge ?_ ?_ <;> (intro h; try (exfalso; omega))) | fail)
  refine St.d1 Tryz.func51 ⟨_, ⟨oad, ocap, rfl, rfl⟩, ?_⟩
  exact Ent.trans (Ent.trans Ent.go (shut (M := Row (.slice oad m.recs.length ocap) 116 13 m.recs.length (m.recs.flatMap recV) :: F))) Ent.go
set_option maxHeartbeats 2000000 in
theorem rows_t {m : Sd} (hi : SdI c progs m) (hlen : m.rows.length ≤ 100000) : Tri Tryz.prog 50 #[.pointer (some ⟨Sb, 0, none⟩)] [SdE Sb c pv q progs m]
    fun r L => ∃ (ad : Option Addr) (cap : Nat) (rs : List SRowH), rs.map (·.1) = m.rows ∧ r = .slice ad m.rows.length cap ∧ L = [SdE Sb c pv q progs m, Row (.slice ad m.rows.length cap) 120 6 m.rows.length ((sortS rs).flatMap srV), star (rs.map srP)] := by
  refine Tri.ex_out ?_
  intro y
  have hrs := y.hrs
  have hlrs : y.rs.length = m.rows.length := by rw [← hrs, List.length_map]
  have hnw := hi.news
  have hcr := clone_srow (.slice y.wad m.rows.length y.wcap) m.rows.length (y.rs.flatMap srV) (srV_one _) (by omega)
  have shut : ∀ {M : List HProp}, Ent (sdL Sb c pv q progs m y ++ M) (SdE Sb c pv q progs m :: M) := Ent.ex_in (Ls := sdL Sb c pv q progs m) y
  unfold sdL at shut ⊢
  rw [hlrs] at shut ⊢
  refine Tri.of_body (vs := [_]) Tryz.func50 rfl rfl fun w0 F => ?_
  repeat' (first | refine Ga ?_ | (refine Gb ?_; intro b) | (refine Gd ?_; intro g cap rest hcap) | (refine Gc ?_; intro ad cap)  | (refine Gt hcr ?_; rintro _ _ ⟨oad, ocap, rfl, rfl⟩) | (refine Ge ?_ ?_ <;> (intro h; try (exfalso; omega))) | fail)
  by_cases hl0 : m.rows.length = 0
  · have hrn : m.rows = [] := List.eq_nil_of_length_eq_zero hl0
    have hsn : y.rs = [] := List.eq_nil_of_length_eq_zero (by omega)
    refine St.loop1 ?_
    have hso := sort_t (.slice oad m.rows.length ocap) m.rows.length hlen y.rs hlrs
    repeat' (first | refine Ga ?_ | (refine Gb ?_; intro b) | (refine Gd ?_; intro g cap rest hcap) | (refine Gc ?_; intro ad cap)  | (refine Gt hso ?_; rintro _ _ ⟨rfl, rfl⟩) | (refine Ge ?_ ?_ <;> (intro h; try (exfalso; omega))) | fail)
    refine St.d1 Tryz.func50 ⟨_, ⟨oad, ocap, y.rs, hrs, rfl, rfl⟩, ?_⟩
    refine Ent.trans (Ent.star_in []) (Ent.trans ?_ (shut (M := Row (.slice oad m.rows.length ocap) 120 6 m.rows.length ((sortS y.rs).flatMap srV) :: star (y.rs.map srP) :: F)))
    rw [hsn]
    exact Ent.go
  · refine St.conv ?_ (Sub.refl _) (Ent.of_take (p := Row (.slice oad m.rows.length ocap) 120 6 m.rows.length (y.rs.flatMap srV)) Take.go)
    refine St.rowF (by omega) (fun g ocap' rst hv hrf => ?_)
    injection hv with hv1 hv2 hv3
    subst hv1 hv3
    have hle := hrf.le
    refine St.conv ?_ (Sub.refl _) (Ent.star_in [])
    refine St.loopY (Lr := ?Lr) (ι := { x : Nat × List SRowH // x.1 ≤ m.rows.length ∧ x.2.length = x.1 ∧ x.2.map (·.1) = (y.rs.take x.1).map (·.1) }) (fun x => m.rows.length - x.1.1) (fun x => [(12, .int .i64 (x.1.1 : Int))])
      (fun x => [bl g 120 ((x.1.2 ++ y.rs.drop x.1.1).flatMap srV ++ rst), star (x.1.2.map srP)]) ⟨(0, []), Nat.zero_le _, rfl, rfl⟩ ?hE ?hL ?round
    case hE => exact Sub.go
    case hL => exact Takes.go
    case round =>
      rintro ⟨⟨k, xs⟩, hk, hxl, hxm⟩ IH; dsimp only at hk hxl hxm ⊢
      by_cases hlt : k < m.rows.length
      · have hkr : k < y.rs.length := by omega
        have hsplit : y.rs.map srP = (y.rs.take k).map srP ++ srP y.rs[k] :: (y.rs.drop (k + 1)).map srP := by
          rw [← List.map_cons, ← List.drop_eq_getElem_cons hkr, ← List.map_append, List.take_append_drop]
        have hkl : k < (xs ++ y.rs.drop k).length := by rw [List.length_append, List.length_drop]; omega
        have hget : (xs ++ y.rs.drop k)[k] = y.rs[k] := by
          rw [List.getElem_append_right (by omega)]
          simp [hxl]
        have hr1 : y.rs[k].1 ∈ m.rows := by rw [← hrs]; exact List.mem_map.2 ⟨_, List.getElem_mem hkr, rfl⟩
        have hn1 := hnw _ hr1
        have hnx : (y.rs.take (k + 1)).map (·.1) = (y.rs.take k).map (·.1) ++ [y.rs[k].1] := by rw [List.take_succ_eq_append_getElem hkr, List.map_append]; rfl
        have hnth : NthN ((k : Int).toNat * 6 + 5) ((xs ++ y.rs.drop k).flatMap srV ++ rst) (.slice y.rs[k].2.1 y.rs[k].1.news.length y.rs[k].2.2) := by
          rw [Int.toNat_natCast]
          have h1 := NthN.flat srV_len hkl (NthN.of (l := srV (xs ++ y.rs.drop k)[k]) (n := 5) rfl)
          rw [hget] at h1
          exact h1.app_left rst
        have hset : ∀ (a : Option Addr) (cp : Nat), SetN (.slice a y.rs[k].1.news.length cp) ((k : Int).toNat * 6 + 5) ((xs ++ y.rs.drop k).flatMap srV ++ rst) (((xs ++ [(y.rs[k].1, a, cp)]) ++ y.rs.drop (k + 1)).flatMap srV ++ rst) := fun a cp => by
          rw [Int.toNat_natCast]
          have h1 : SetN (.slice a y.rs[k].1.news.length cp) (k * 6 + 5) ((xs ++ y.rs.drop k).flatMap srV) (((xs ++ y.rs.drop k).set k (y.rs[k].1, a, cp)).flatMap srV) := SetN.flat srV_len hkl (by rw [hget]; exact .succ (.succ (.succ (.succ (.succ .zero)))))
          have e : (xs ++ y.rs.drop k).set k (y.rs[k].1, a, cp) = (xs ++ [(y.rs[k].1, a, cp)]) ++ y.rs.drop (k + 1) := by
            rw [List.set_append_right _ _ (by omega), List.drop_eq_getElem_cons hkr, hxl, Nat.sub_self, List.set_cons_zero]; simp
          rw [e] at h1
          exact h1.app_left rst
        refine St.conv ?_ (Sub.refl _) (Ent.trans (Ent.of_take (p := star (y.rs.map srP)) Take.go) (by rw [hsplit]; exact Ent.star_get _ _ _))
        have hin : (y.rs.take k).map srP ++ srP y.rs[k] :: (y.rs.drop (k + 1)).map srP = y.rs.map srP := hsplit.symm
        generalize y.rs[k] = r at *
        obtain ⟨r, rad, rcap⟩ := r
        dsimp only at *
        have hcl := clone_u64 (.slice rad r.news.length rcap) r.news.length (u64s r.news) (u64s_one _) (by omega)
        have hrp : ∀ a cp, srP (r, a, cp) = Row (.slice a r.news.length cp) 22 1 r.news.length (u64s r.news) := fun _ _ => rfl
        rw [hrp]
        repeat' (first | refine Ga ?_ | (refine Gb ?_; intro b) | (refine Gd ?_; intro g cap rest hcap) | (refine Gc ?_; intro ad cap)  | (refine Gt hcl ?_; rintro _ _ ⟨nad, ncap, rfl, rfl⟩) | (refine Ge ?_ ?_ <;> (intro h; try (exfalso; omega))) | fail)
        have hset1 := hset nad ncap
        repeat' (first | refine Ga ?_ | (refine Gb ?_; intro b) | (refine Gd ?_; intro g cap rest hcap) | (refine Gc ?_; intro ad cap)  | (refine Ge ?_ ?_ <;> (intro h; try (exfalso; omega))) | fail)
        refine IH ⟨(k + 1, xs ++ [(r, nad, ncap)]), hlt, by dsimp only; rw [List.length_append, hxl]; rfl, by dsimp only; rw [List.map_append, hxm, hnx]; rfl⟩ (by show _ - (k + 1) < _ - k; omega) ?_ ?_
        · exact Sub.go
        · dsimp only
          rw [List.map_append]
          refine Ent.trans (Ent.of_take (p := star ((y.rs.take k).map srP ++ (y.rs.drop (k + 1)).map srP)) Take.go) (Ent.trans (Ent.of_take (p := Row (.slice rad r.news.length rcap) 22 1 r.news.length (u64s r.news)) Take.go) (Ent.trans (Ent.star_put _ _ _) ?_))
          rw [← hrp, hin]
          refine Ent.trans (Ent.of_take (p := star (xs.map srP)) Take.go) (Ent.trans (Ent.of_take (p := Row (.slice nad r.news.length ncap) 22 1 r.news.length (u64s r.news)) Take.go) (Ent.trans (Ent.star_snoc _ _) ?_))
          exact Ent.go
      · obtain rfl : k = m.rows.length := by omega
        clear IH
        have hdn : y.rs.drop m.rows.length = [] := List.drop_eq_nil_of_le (by omega)
        rw [List.take_of_length_le (by omega), hrs] at hxm
        rw [hdn, List.append_nil]
        have hrf' : RowF m.rows.length ocap 6 (xs.flatMap srV) rst := by
          have e : (xs.flatMap srV).length = m.rows.length * 6 := by rw [flat_len srV_len, hxl]
          exact ⟨hrf.le, hrf.max, e, by have h1 := hrf.tot; have h2 := hrf.len; omega⟩
        refine St.conv ?_ (Sub.refl _) (Ent.trans (Ent.of_take (p := bl g 120 (xs.flatMap srV ++ rst)) Take.go) (Ent.rowF hrf'))
        have hso := sort_t (.slice (some ⟨g, 0, none⟩) m.rows.length ocap) m.rows.length (by omega) xs hxl
        unfold cmpF at hso
        repeat' (first | refine Ga ?_ | (refine Gb ?_; intro b) | (refine Gd ?_; intro g cap rest hcap) | (refine Gc ?_; intro ad cap)  | (refine Gt hso ?_; rintro _ _ ⟨rfl, rfl⟩) | (refine Ge ?_ ?_ <;> (intro h; try (exfalso; omega))) | fail)
        refine St.d1 Tryz.func50 ⟨_, ⟨some ⟨g, 0, none⟩, ocap, xs, hxm, rfl, rfl⟩, ?_⟩
        exact Ent.trans (Ent.trans Ent.go (shut (M := Row (.slice (some ⟨g, 0, none⟩) m.rows.length ocap) 120 6 m.rows.length ((sortS xs).flatMap srV) :: star (xs.map srP) :: F))) Ent.go
end
end Go.Proofs.YtemaaenipjinaaaGreat
end
section
namespace Go.Proofs.YtemaaenipjinaaaGreat
set_option maxRecDepth 100000
theorem dec_pos (s : ByteArray) (pos : Nat) : 1 ≤ (Utf8.decode s pos).2 := by
  unfold Utf8.decode
  dsimp only
  repeat' split
  all_goals (dsimp only; omega)
theorem dec_max (s : ByteArray) (pos : Nat) : (Utf8.decode s pos).1 ≤ 1114111 := by
  unfold Utf8.decode Utf8.valid Utf8.runeError
  dsimp only
  have h0 : (s.get! (pos + 0)).toNat < 256 := UInt8.toNat_lt _
  have h1 : (s.get! (pos + 1)).toNat < 256 := UInt8.toNat_lt _
  repeat' split
  all_goals first | (dsimp only; omega) | (rename_i h; simp only [Bool.and_eq_true, Bool.or_eq_true, decide_eq_true_eq] at h; dsimp only; omega)
/-- a rune picks a thread -/
def playR (c : Cfg) (progs : Progs) (x : Sd × Nat) (r : Nat) : Sd × Nat := if 97 ≤ r then ((x.1.pick c progs ((r : Int) - 97)).1, if (x.1.pick c progs ((r : Int) - 97)).2 = true then x.2 + 1 else x.2) else x
def playGo (c : Cfg) (progs : Progs) (s : ByteArray) : Nat → Nat → Sd × Nat → Sd × Nat
  | 0, _, x => x
  | k + 1, pos, x => if s.data.size ≤ pos then x else playGo c progs s k (pos + (Utf8.decode s pos).2) (playR c progs x (Utf8.decode s pos).1)
def playM (c : Cfg) (progs : Progs) (s : ByteArray) (m : Sd) : Sd × Nat := playGo c progs s (s.data.size + 2) 0 (m, 0)
section
variable {Sb : Nat} {c : Cfg} (hc : Small c) (hf : 0 ≤ c.fuel ∧ c.fuel ≤ 1000) (hlast : c.last ≤ 140737488355328) {pv : Value} {q : HProp} {progs : Progs} (hpv : ProgsR q pv progs)
theorem playR_inv {c : Cfg} (hc : Small c) (hf : 0 ≤ c.fuel ∧ c.fuel ≤ 1000) {progs : Progs} {x : Sd × Nat} (h : SdI c progs x.1) (r : Nat) : SdI c progs (playR c progs x r).1 := by
  unfold playR
  split
  · exact h.pick hc hf _
  · exact h
include hc hf hlast hpv in
set_option maxHeartbeats 1000000 in
theorem play_t {m : Sd} (hi : SdI c progs m) (text : ByteArray) (hsz : text.data.size ≤ 1000000) : Tri Tryz.prog 46 #[.pointer (some ⟨Sb, 0, none⟩), .string text] [SdE Sb c pv q progs m]
    fun r L => r = .int .i64 ((playM c progs text m).2 : Int) ∧ L = [SdE Sb c pv q progs (playM c progs text m).1] := by
  unfold playM
  generalize hR : playGo c progs text (text.data.size + 2) 0 (m, 0) = R
  obtain ⟨mR, nR⟩ := R
  refine Tri.of_body (vs := [_, _]) Tryz.func46 rfl rfl fun w0 F => ?_
  repeat' (first | refine Ga ?_ | (refine Gb ?_; intro b) | (refine Gd ?_; intro g cap rest hcap) | (refine Gc ?_; intro ad cap)  | (refine Ge ?_ ?_ <;> (intro h; try (exfalso; omega))) | fail)
  revert b; intro it
  refine St.loopY (Lr := ?Lr1) (ι := { x : Nat × Nat × Sd × Nat // playGo c progs text x.1 x.2.1 x.2.2 = (mR, nR) ∧ text.data.size + 2 ≤ x.1 + x.2.1 ∧ 2 ≤ x.1 ∧ SdI c progs x.2.2.1 ∧ x.2.2.2 ≤ x.2.1 ∧ x.2.1 ≤ text.data.size + 3 }) (fun x => x.1.1) (fun x => [(5, .int .i64 (x.1.2.2.2 : Int))]) (fun x => [si it text x.1.2.1, SdE Sb c pv q progs x.1.2.2.1])
    ⟨(text.data.size + 2, 0, m, 0), hR, by dsimp only; omega, by dsimp only; omega, hi, Nat.le_refl _, by dsimp only; omega⟩ ?hE1 ?hL1 ?round1
  case hE1 => exact Sub.go
  case hL1 => exact Takes.go
  case round1 =>
    rintro ⟨⟨k, pos, mm, n⟩, hgo, hk, hk2, hmi, hn, hps⟩ IH
    dsimp only at hgo hk hk2 hmi hn hps IH ⊢
    obtain ⟨k, rfl⟩ : ∃ k', k = k' + 1 := ⟨k - 1, by omega⟩
    rw [playGo] at hgo
    have hp := dec_pos text pos
    have hmx := dec_max text pos
    by_cases he : text.data.size ≤ pos
    · rw [if_pos he] at hgo
      injection hgo with e1 e2
      subst e1 e2
      clear IH
      repeat' (first | refine Ga ?_ | (refine Gb ?_; intro b) | (refine Gd ?_; intro g cap rest hcap) | (refine Gc ?_; intro ad cap)  | (refine Ge ?_ ?_ <;> (intro h; try (exfalso; omega))) | fail)
      refine St.d1 Tryz.func46 ⟨_, ⟨rfl, rfl⟩, Ent.go⟩
    · rw [if_neg he] at hgo
      have hinv := playR_inv hc hf (x := (mm, n)) hmi (Utf8.decode text pos).1
      generalize hdec : Utf8.decode text pos = d at hgo hp hmx hinv
      obtain ⟨cc, wd⟩ := d
      have hw4 : wd ≤ 4 := by
        have h := congrArg Prod.snd hdec
        rw [← show (Utf8.decode text pos).2 = wd from h]
        unfold Utf8.decode
        dsimp only
        repeat' split
        all_goals (dsimp only; omega)
      dsimp only at hgo hp hmx hinv
      unfold playR at hgo hinv
      dsimp only at hgo hinv
      by_cases h97 : 97 ≤ cc
      · rw [if_pos h97] at hgo hinv
        have hpk := pick_t (Sb := Sb) hc hf hlast hpv hmi ((cc : Int) - 97)
        generalize mm.pick c progs ((cc : Int) - 97) = y at hpk hgo hinv
        obtain ⟨m2, ok⟩ := y
        dsimp only at hpk hgo hinv
        cases ok with
        | true =>
          rw [if_pos rfl] at hgo
          repeat' (first | refine Ga ?_ | (refine Gb ?_; intro b) | (refine Gd ?_; intro g cap rest hcap) | (refine Gc ?_; intro ad cap)  | (refine Gt hpk ?_; rintro _ _ ⟨rfl, rfl⟩) | (refine Ge ?_ ?_ <;> (intro h; try (exfalso; omega))) | fail)
          all_goals first | (exfalso; omega) | skip
          refine IH ⟨(k, pos + wd, m2, n + 1), hgo, by dsimp only; omega, by dsimp only; omega, hinv, by dsimp only; omega, by dsimp only; omega⟩ (by show k < k + 1; omega) ?_ ?_
          · exact Sub.go
          · exact Ent.go
        | false =>
          rw [if_neg (by decide)] at hgo
          repeat' (first | refine Ga ?_ | (refine Gb ?_; intro b) | (refine Gd ?_; intro g cap rest hcap) | (refine Gc ?_; intro ad cap)  | (refine Gt hpk ?_; rintro _ _ ⟨rfl, rfl⟩) | (refine Ge ?_ ?_ <;> (intro h; try (exfalso; omega))) | fail)
          all_goals first | (exfalso; omega) | skip
          refine IH ⟨(k, pos + wd, m2, n), hgo, by dsimp only; omega, by dsimp only; omega, hinv, by dsimp only; omega, by dsimp only; omega⟩ (by show k < k + 1; omega) ?_ ?_
          · exact Sub.go
          · exact Ent.go
      · rw [if_neg h97] at hgo hinv
        repeat' (first | refine Ga ?_ | (refine Gb ?_; intro b) | (refine Gd ?_; intro g cap rest hcap) | (refine Gc ?_; intro ad cap)  | (refine Ge ?_ ?_ <;> (intro h; try (exfalso; omega))) | fail)
        all_goals first | (exfalso; omega) | skip
        refine IH ⟨(k, pos + wd, mm, n), hgo, by dsimp only; omega, by dsimp only; omega, hinv, by dsimp only; omega, by dsimp only; omega⟩ (by show k < k + 1; omega) ?_ ?_
        · exact Sub.go
        · exact Ent.go
end
end Go.Proofs.YtemaaenipjinaaaGreat
end
