/-
  Package tumblerlaw14: alive.
-/
import Derived.Test.YtipnljhelbjmaaaGreatBl
namespace Go.Proofs.YtipnljhelbjmaaaGreat
set_option maxRecDepth 100000
def cfg14 : Cfg := ⟨2, 3, 20, 50, 0, 99⟩
def code14 : List Ins := [⟨8, 1, 0, 0, 0⟩, ⟨10, 1, 2, 0, 0⟩, ⟨20, 1, 0, 0, 0⟩]
def progs14 : Progs := [code14]
def boot14 : Pm := ⟨cfg14.boot, zeros8, []⟩
def mem14 : Pm := boot14.want cfg14 0 0 [7, 0, 0, 0] 1
def it14 : Pm × Bm := pit cfg14 progs14 1 (mem14, Bm.new 1 0) 11
theorem small14 : Small cfg14 := Cfg.small (by decide +kernel)
theorem asks14 : ∀ k ≤ 11, ((pit cfg14 progs14 1 (mem14, Bm.new 1 0) k).2.ask cfg14).2 = decide (k < 11) := by decide +kernel
theorem s14 : it14.2.b.s = 1 := by kernel_rfl
theorem rows14 : it14.2.rows = [⟨0, 1, 0, 7, []⟩] := by kernel_rfl
theorem ents14 : entriesOf cfg14 it14.2.e.puts = [(371, 7), (366, 0), (367, 7), (365, 1)] := by kernel_rfl
theorem tr14 : it14.1.tr.length = 11 := by kernel_rfl
theorem at371 : cfg14.at 10 0 0 = 371 := by kernel_rfl
theorem at365 : cfg14.at 7 0 0 = 365 := by kernel_rfl
def blkV (l : Value × Unit) : Value := l.1
instance : MapTy Tryz.prog 191 Int (Value × Unit) (Value.int .u64) blkV (.agg #[.int .u64 0, .int .u64 0, .int .u64 0, .int .u64 0, .int .u64 0, .int .u64 0, .int .u64 0, .int .u64 0], ()) :=
  MapTy.int Tryz.underlying191 Tryz.underlying22 (inferInstance : Zer Tryz.prog 267 _).h
theorem mnew_t : Tri Tryz.prog 50 #[] [] fun r L => (∃ S, r = .pointer (some ⟨S, 0, none⟩)) ∧ L = [] := by
  refine Tri.of_body (vs := []) Tryz.func50 rfl rfl fun w0 F => ?_
  repeat' (first | (apply Ya; exact Oa) | (apply Yb; exact Ob) | (apply Yc; exact Oc; intro b) | (apply Ye; exact Oe; intro g cap rest hcap) | (apply Yd; exact Od; intro ad cap) | (apply Yf; exact Oj) | (apply Yg; exact Oj; exact ⟨rfl, rfl⟩) | (apply Yh; exact Oj; rfl) | (apply Yi; exact Oj; exact On; all_goals (intro h; try (exfalso; omega))) | apply StL.nil | apply St.region | apply St.seq | apply St.block | apply St.inBlock | apply St.skip | (apply St.exit; rfl) | (apply St.cond_t; rfl) | (apply St.cond_f; rfl) | (apply Ud; rfl; exact On; all_goals (intro h; try (exfalso; omega))) | (apply Za; rfl; exact Oa) | (apply Zb; rfl; exact Oa; exact Ent.go) | (apply Zc; rfl; exact Ob) | (apply Zd; rfl; exact Oc; intro b; refine ⟨Ent.go, ?_⟩) | (apply Ze; rfl; exact Oc; intro b) | (apply Zf; rfl; exact Oe; intro g cap rest hcap) | (apply Zg; rfl; exact Od; intro ad cap) | apply StD.nil | exact StD.nope | apply StD.pick | (apply StD.claim; rfl; intro b) | (apply Zi; rfl; exact Oj; exact Oa) | (apply Zj; rfl; exact Oj; exact Oa; exact Ent.go) | (apply Zk; rfl; exact Oj; exact ⟨rfl, rfl⟩) | (apply Zl; rfl; exact Oj; exact ⟨rfl, rfl⟩; exact Ent.go) | (apply Zm; rfl; exact Oj; rfl) | (apply Zn; rfl; exact Oj; exact Ent.go; rfl)   | (apply Zo; rfl; exact Oj; exact On; all_goals (intro h; try (exfalso; omega))))
  refine St.d1 Tryz.func50 ⟨_, ⟨⟨_, rfl⟩, rfl⟩, ?_⟩
  exact Ent.go
theorem sample14_r : RTri Tryz.prog 78 #[] [] (.agg ⟨cfg14.v⟩) := by
  apply RTri.of_pure
  refine Tri.of_body (vs := []) Tryz.func78 rfl rfl fun w0 F => ?_
  repeat' (first | (apply Ya; exact Oa) | (apply Yb; exact Ob) | (apply Yc; exact Oc; intro b) | (apply Ye; exact Oe; intro g cap rest hcap) | (apply Yd; exact Od; intro ad cap) | (apply Yf; exact Oj) | (apply Yg; exact Oj; exact ⟨rfl, rfl⟩) | (apply Yh; exact Oj; rfl) | (apply Yi; exact Oj; exact On; all_goals (intro h; try (exfalso; omega))) | apply StL.nil | apply St.region | apply St.seq | apply St.block | apply St.inBlock | apply St.skip | (apply St.exit; rfl) | (apply St.cond_t; rfl) | (apply St.cond_f; rfl) | (apply Ud; rfl; exact On; all_goals (intro h; try (exfalso; omega))) | (apply Za; rfl; exact Oa) | (apply Zb; rfl; exact Oa; exact Ent.go) | (apply Zc; rfl; exact Ob) | (apply Zd; rfl; exact Oc; intro b; refine ⟨Ent.go, ?_⟩) | (apply Ze; rfl; exact Oc; intro b) | (apply Zf; rfl; exact Oe; intro g cap rest hcap) | (apply Zg; rfl; exact Od; intro ad cap) | apply StD.nil | exact StD.nope | apply StD.pick | (apply StD.claim; rfl; intro b) | (apply Zi; rfl; exact Oj; exact Oa) | (apply Zj; rfl; exact Oj; exact Oa; exact Ent.go) | (apply Zk; rfl; exact Oj; exact ⟨rfl, rfl⟩) | (apply Zl; rfl; exact Oj; exact ⟨rfl, rfl⟩; exact Ent.go) | (apply Zm; rfl; exact Oj; rfl) | (apply Zn; rfl; exact Oj; exact Ent.go; rfl)   | (apply Zo; rfl; exact Oj; exact On; all_goals (intro h; try (exfalso; omega))))
  (first | refine St.dn Tryz.func78 ⟨?_, rfl⟩ Ent.go | refine St.fl Tryz.func78 ⟨?_, rfl⟩ Ent.go)
  rfl
theorem Tri.wk {P : Program} {f : FuncId} {args : Array Value} {L : List HProp} {Q Q' : Value → List HProp → Prop} (h : Tri P f args L Q) (hq : ∀ v L', Q v L' → ∃ M, Q' v M ∧ Ent L' M) : Tri P f args L Q' := by
  unfold Tri at *
  intro w F hs
  refine (h w F hs).mono ?_
  rintro e w' ⟨v, L', he, h1, hs', ho⟩
  obtain ⟨M, h2, h3⟩ := hq v L' h1
  have := h3.app (N := F)
  unfold Ent at this
  exact ⟨v, M, he, h2, this _ hs', ho⟩
theorem bootm_t (c : Cfg) (hc : Small c) : Tri Tryz.prog 45 #[.agg ⟨c.m⟩] [] fun v L => ∃ M C, v = .pointer (some ⟨M, 0, none⟩) ∧ L = [Mm M C ⟨c.boot, zeros8, []⟩] := by
  refine (boot_t c hc).wk ?_
  rintro v L' ⟨M, C, rfl, rfl⟩
  refine ⟨_, ⟨M, C, rfl, rfl⟩, ?_⟩
  have hl : c.boot.length = c.size := c.bootN_len _
  have := Ent.mm M C ⟨c.boot, zeros8, []⟩ (.slice none 0 0) (L := [])
  dsimp only at this
  rw [hl] at this
  refine Ent.trans ?_ this
  refine Ent.trans (Ent.row_nil 219 10) ?_
  exact Ent.go
theorem Tri.row_out {P : Program} {f : FuncId} {args : Array Value} {L : List HProp} {A : HProp} {ι : Type} {S : ι → List HProp} {e sz n : Nat} {xs : ι → List Value} (hn : 0 < n)
    (h : Tri P f args L fun r L' => ∃ ad cap y, r = .slice ad n cap ∧ L' = A :: Row (.slice ad n cap) e sz n (xs y) :: S y) :
    Tri P f args L fun r L' => ∃ g cap rest y, r = .slice (some ⟨g, 0, none⟩) n cap ∧ L' = A :: Go.Proofs.YtipnljhelbjmaaaGreat.bl g e (xs y ++ rest) :: S y := by
  unfold Tri at *
  intro w F hs
  refine (h w F hs).mono ?_
  rintro e' w' ⟨v, L', he, ⟨ad, cap, y, rfl, rfl⟩, hs', ho⟩
  rw [List.cons_append, List.cons_append] at hs'
  obtain ⟨h1, h2, hd, hor, hA, hs'⟩ := sat_cons.1 hs'
  obtain ⟨h3, h4, hd', hor', hR, hF⟩ := sat_cons.1 hs'
  unfold Row at hR
  obtain ⟨_, ⟨_, h0⟩ | ⟨g, cap', cur, hv, hc, _, _, htk, hp⟩⟩ := hR
  · omega
  · injection hv with hv1 _ hv3
    subst hv1 hv3
    refine ⟨_, _, he, ⟨g, _, cur.toList.drop (n * sz), y, rfl, rfl⟩, ?_, ho⟩
    rw [List.cons_append, List.cons_append]
    refine sat_cons.2 ⟨h1, h2, hd, hor, hA, sat_cons.2 ⟨h3, h4, hd', hor', ?_, hF⟩⟩
    rw [← htk, List.take_append_drop]
    exact hp
theorem RdC.star {L : List HProp} {b : Nat} {l : List Value} (r : ReadsC L b l) : RdC (star L) b l := by
  refine RdC.of_sat (fun k hk => ?_) r
  have := Ent.star_out (L := L) (M := [])
  unfold Ent at this
  have := this k (sat_cons.2 ⟨k, fun _ => none, fun _ => .inr rfl, fun _ => (or_none' _).symm, hk, by with_unfolding_all exact True.intro⟩)
  rwa [List.append_nil] at this
theorem St.gather {P : Program} {C : Cx} {k : List Item} {E : Env} {L ps Lr : List HProp} (t : Takes ps L Lr) (h : St P C k E (star ps :: Lr)) : St P C k E L :=
  h.conv (Sub.refl _) (t.ent.trans (Ent.star_in ps))
def q14 (bi bo : Nat) : HProp := star [bl bi 134 (code14.flatMap Ins.v), bl bo 67 [.slice (some ⟨bi, 0, none⟩) 3 3]]
theorem progs14_r (bi bo : Nat) : ProgsR (q14 bi bo) (.slice (some ⟨bo, 0, none⟩) 1 1) progs14 := by
  refine ⟨_, _, rfl, by decide, fun i hi => ?_⟩
  have h0 : i = 0 := by simp only [progs14, List.length_cons, List.length_nil] at hi; omega
  subst h0
  refine ⟨bo, 0, _, _, rfl, RdC.star (.there (.here .bl)), .zero, _, _, rfl, .inr ⟨bi, 0, _, [], rfl, RdC.star (.here .bl), ?_⟩⟩
  rw [List.append_nil]
  exact .zero
set_option maxHeartbeats 1000000 in
theorem alive_t : Tri Tryz.prog 28 #[] [] fun v L => v = .bool true ∧ L = [] := by
  have hr : cfg14.right = true := by decide +kernel
  have hof := of_r cfg14
  unfold Cfg.ofV at hof
  rw [hr] at hof
  have hb := bootm_t cfg14 small14
  have h1 := at_r cfg14 small14 10 0 0
  have h2 := at_r cfg14 small14 7 0 0
  rw [at371] at h1
  rw [at365] at h2
  have hnew := fun bi bo => bnew_t cfg14 small14 _ (q14 bi bo) progs14 1 0 (progs14_r bi bo)
  have hw := fun Mb C => want_t Mb C cfg14 small14 boot14 0 0 (by decide) 7 0 0 0 1
  have hp := fun Mb C bi bo => plan_t Mb C cfg14 small14 (by decide) mem14 rfl 1 0 _ (q14 bi bo) progs14 (progs14_r bi bo) 11 (by decide) asks14
  rw [show pit cfg14 progs14 1 (mem14, Bm.new 1 0) 11 = it14 from rfl] at hp
  have hi : Binv cfg14 progs14 it14.2 := (pit_inv (who := 1) small14 (by decide) (s := (mem14, Bm.new 1 0)) (Binv.new small14 1 0 (progs := progs14)) rfl 11).1
  have hl : it14.1.st.length = 8 := (pit_inv (who := 1) small14 (by decide) (s := (mem14, Bm.new 1 0)) (Binv.new small14 1 0 (progs := progs14)) rfl 11).2.1
  have hs := fun B pv q => bstatus_r B cfg14 pv q progs14 it14.2
  rw [s14] at hs
  have ht := fun Mb C => mtotal_r Mb C it14.1 hl
  rw [tr14] at ht
  have he := fun B pv q => bentries_t B cfg14 small14 pv q progs14 it14.2 hi
  rw [ents14] at he
  have hrw := fun B pv q => brows_t B cfg14 small14 pv q progs14 it14.2 hi
  rw [rows14] at hrw
  have he2 : ∀ B pv q, Tri Tryz.prog 39 #[.pointer (some ⟨B, 0, none⟩)] [Bd B cfg14 pv q progs14 it14.2] fun r L => ∃ g cap rest, r = .slice (some ⟨g, 0, none⟩) 4 cap ∧ L = [Bd B cfg14 pv q progs14 it14.2, bl g 111 ([.int .i64 371, .int .u64 7, .int .i64 366, .int .u64 0, .int .i64 367, .int .u64 7, .int .i64 365, .int .u64 1] ++ rest)] := fun B pv q => by
    have := Tri.row_out (ι := Unit) (S := fun _ => []) (A := Bd B cfg14 pv q progs14 it14.2) (e := 111) (sz := 2) (n := 4) (xs := fun _ => [.int .i64 371, .int .u64 7, .int .i64 366, .int .u64 0, .int .i64 367, .int .u64 7, .int .i64 365, .int .u64 1]) (by decide)
      ((he B pv q).wk fun v L' ⟨ad, cap, h3, h4⟩ => ⟨_, ⟨ad, cap, (), h3, h4⟩, Ent.refl _⟩)
    exact this.wk fun v L' ⟨g, cap, rest, _, h3, h4⟩ => ⟨_, ⟨g, cap, rest, h3, h4⟩, Ent.refl _⟩
  have hrw2 : ∀ B pv q, Tri Tryz.prog 36 #[.pointer (some ⟨B, 0, none⟩)] [Bd B cfg14 pv q progs14 it14.2] fun r L => ∃ g cap rest na nc, r = .slice (some ⟨g, 0, none⟩) 1 cap ∧ L = [Bd B cfg14 pv q progs14 it14.2, bl g 116 ([.int .i64 0, .int .u64 1, .int .i64 0, .int .u64 7, .slice na 0 nc] ++ rest)] := fun B pv q => by
    have := Tri.row_out (ι := Option Addr × Nat) (S := fun y => [star [rowP (⟨0, 1, 0, 7, []⟩, y)]]) (A := Bd B cfg14 pv q progs14 it14.2) (e := 116) (sz := 5) (n := 1) (xs := fun y => [.int .i64 0, .int .u64 1, .int .i64 0, .int .u64 7, .slice y.1 0 y.2]) (by decide)
      ((hrw B pv q).wk fun v L' ⟨ad, cap, rs, h0, h3, h4⟩ => by
        match rs, h0 with
        | [(r, y)], h0 =>
          injection h0 with h0 _
          dsimp only at h0
          subst h0
          exact ⟨_, ⟨ad, cap, y, h3, h4⟩, Ent.refl _⟩)
    exact this.wk fun v L' ⟨g, cap, rest, y, h3, h4⟩ => ⟨_, ⟨g, cap, rest, y.1, y.2, h3, rfl⟩, by rw [h4]; exact Ent.go⟩
  refine Tri.of_body (vs := []) Tryz.func28 rfl rfl fun w0 F => ?_
  repeat' (first | (refine St.halt 6 ?_) |(apply Ya; exact Oa) | (apply Yb; exact Ob) | (apply Yc; exact Oc; intro b) | (apply Ye; exact Oe; intro g cap rest hcap) | (apply Yd; exact Od; intro ad cap) | (apply Yf; exact Oj) | (apply Yg; exact Oj; exact ⟨rfl, rfl⟩) | (apply Yh; exact Oj; rfl) | (apply Yi; exact Oj; exact On; all_goals (intro h; try (exfalso; omega))) | apply StL.nil | apply St.region | apply St.seq | apply St.block | apply St.inBlock | apply St.skip | (apply St.exit; rfl) | (apply St.cond_t; rfl) | (apply St.cond_f; rfl) | (apply Ud; rfl; exact On; all_goals (intro h; try (exfalso; omega))) | (apply Za; rfl; exact Oa) | (apply Zb; rfl; exact Oa; exact Ent.go) | (apply Zc; rfl; exact Ob) | (apply Zd; rfl; exact Oc; intro b; refine ⟨Ent.go, ?_⟩) | (apply Ze; rfl; exact Oc; intro b) | (apply Zf; rfl; exact Oe; intro g cap rest hcap) | (apply Zg; rfl; exact Od; intro ad cap) | apply StD.nil | exact StD.nope | apply StD.pick | (apply StD.claim; rfl; intro b) | (apply Zi; rfl; exact Oj; exact Oa) | (apply Zj; rfl; exact Oj; exact Oa; exact Ent.go) | (apply Zk; rfl; exact Oj; exact ⟨rfl, rfl⟩) | (apply Zl; rfl; exact Oj; exact ⟨rfl, rfl⟩; exact Ent.go) | (apply Zm; rfl; exact Oj; rfl) | (apply Zn; rfl; exact Oj; exact Ent.go; rfl) | (refine St.draw (id := 11) [(0, 0), (1, 1), (2, 0), (3, 0), (4, 0), (5, 0), (6, 0), (7, 0), (8, 0), (9, 0), (10, 0), (11, 0), (12, 1), (13, 0), (14, 0), (15, 0), (16, 0), (17, 0), (18, 0), (19, 1), (20, 0), (21, 0), (22, 0), (23, 0), (24, 0), (25, 0), (26, 1), (27, 0), (28, 0), (29, 0), (30, 0), (31, 0), (32, 0), (33, 0), (34, 0), (35, 0), (36, 0), (37, 0), (38, 1), (39, 1), (40, 1), (41, 0), (42, 0), (43, 0), (44, 0), (45, 0), (46, 0), (47, 1), (48, 1), (49, 1), (50, 0), (51, 0), (52, 0), (53, 0), (54, 0), (55, 1), (56, 0), (57, 0), (58, 0)] [] mixed (by kernel_rfl) ?_) | (apply Ka; exact Og; exact sample14_r; exact Oh) | (apply Kb; rfl; exact Og; exact sample14_r; exact Oi) | (apply Kc; rfl; exact Oj; exact Og; exact sample14_r; exact Oi) | (apply Ka; exact Og; exact hof; exact Oh) | (apply Kb; rfl; exact Og; exact hof; exact Oi) | (apply Kc; rfl; exact Oj; exact Og; exact hof; exact Oi) | (apply Kd; exact Og; exact mnew_t; exact Oh; rintro _ _ ⟨⟨S, rfl⟩, rfl⟩) | (apply Ke; rfl; exact Og; exact mnew_t; exact Oh; rintro _ _ ⟨⟨S, rfl⟩, rfl⟩) | (apply Kf; rfl; exact Og; exact mnew_t; exact Oh; rintro _ _ ⟨⟨S, rfl⟩, rfl⟩; refine ⟨Ent.go, ?_⟩) | (apply Kd; exact Og; exact hb; exact Oh; rintro _ _ ⟨Mb, C, rfl, rfl⟩) | (apply Ke; rfl; exact Og; exact hb; exact Oh; rintro _ _ ⟨Mb, C, rfl, rfl⟩) | (apply Kf; rfl; exact Og; exact hb; exact Oh; rintro _ _ ⟨Mb, C, rfl, rfl⟩; refine ⟨Ent.go, ?_⟩) | (apply Zo; rfl; exact Oj; exact On; all_goals (intro h; try (exfalso; omega))))
  revert b; intro bo
  revert b; intro bi
  refine Halt.go (St.gather (Lr := ?Lr0) (ps := [bl bi 134 (code14.flatMap Ins.v), bl bo 67 [.slice (some ⟨bi, 0, none⟩) 3 3]]) ?tk ?go)
  case tk => exact Takes.go
  show St _ _ _ _ (q14 bi bo :: _)
  have hnew := hnew bi bo
  have hp := hp Mb C bi bo
  have hs := fun B => hs B (.slice (some ⟨bo, 0, none⟩) 1 1) (q14 bi bo)
  have he2 := fun B => he2 B (.slice (some ⟨bo, 0, none⟩) 1 1) (q14 bi bo)
  have hrw2 := fun B => hrw2 B (.slice (some ⟨bo, 0, none⟩) 1 1) (q14 bi bo)
  have ht := ht Mb C
  repeat' (first | (apply Ya; exact Oa) | (apply Yb; exact Ob) | (apply Yc; exact Oc; intro b) | (apply Ye; exact Oe; intro g cap rest hcap) | (apply Yd; exact Od; intro ad cap) | (apply Yf; exact Oj) | (apply Yg; exact Oj; exact ⟨rfl, rfl⟩) | (apply Yh; exact Oj; rfl) | (apply Yi; exact Oj; exact On; all_goals (intro h; try (exfalso; omega))) | apply StL.nil | apply St.region | apply St.seq | apply St.block | apply St.inBlock | apply St.skip | (apply St.exit; rfl) | (apply St.cond_t; rfl) | (apply St.cond_f; rfl) | (apply Ud; rfl; exact On; all_goals (intro h; try (exfalso; omega))) | (apply Za; rfl; exact Oa) | (apply Zb; rfl; exact Oa; exact Ent.go) | (apply Zc; rfl; exact Ob) | (apply Zd; rfl; exact Oc; intro b; refine ⟨Ent.go, ?_⟩) | (apply Ze; rfl; exact Oc; intro b) | (apply Zf; rfl; exact Oe; intro g cap rest hcap) | (apply Zg; rfl; exact Od; intro ad cap) | apply StD.nil | exact StD.nope | apply StD.pick | (apply StD.claim; rfl; intro b) | (apply Zi; rfl; exact Oj; exact Oa) | (apply Zj; rfl; exact Oj; exact Oa; exact Ent.go) | (apply Zk; rfl; exact Oj; exact ⟨rfl, rfl⟩) | (apply Zl; rfl; exact Oj; exact ⟨rfl, rfl⟩; exact Ent.go) | (apply Zm; rfl; exact Oj; rfl) | (apply Zn; rfl; exact Oj; exact Ent.go; rfl) | (refine St.draw (id := 11) [(0, 0), (1, 1), (2, 0), (3, 0), (4, 0), (5, 0), (6, 0), (7, 0), (8, 0), (9, 0), (10, 0), (11, 0), (12, 1), (13, 0), (14, 0), (15, 0), (16, 0), (17, 0), (18, 0), (19, 1), (20, 0), (21, 0), (22, 0), (23, 0), (24, 0), (25, 0), (26, 1), (27, 0), (28, 0), (29, 0), (30, 0), (31, 0), (32, 0), (33, 0), (34, 0), (35, 0), (36, 0), (37, 0), (38, 1), (39, 1), (40, 1), (41, 0), (42, 0), (43, 0), (44, 0), (45, 0), (46, 0), (47, 1), (48, 1), (49, 1), (50, 0), (51, 0), (52, 0), (53, 0), (54, 0), (55, 1), (56, 0), (57, 0), (58, 0)] [] mixed (by kernel_rfl) ?_) | (apply Ka; exact Og; exact h1; exact Oh) | (apply Kb; rfl; exact Og; exact h1; exact Oi) | (apply Kc; rfl; exact Oj; exact Og; exact h1; exact Oi) | (apply Ka; exact Og; exact h2; exact Oh) | (apply Kb; rfl; exact Og; exact h2; exact Oi) | (apply Kc; rfl; exact Oj; exact Og; exact h2; exact Oi) | (apply Ka; exact Og; exact hs _; exact Oh) | (apply Kb; rfl; exact Og; exact hs _; exact Oi) | (apply Kc; rfl; exact Oj; exact Og; exact hs _; exact Oi) | (apply Ka; exact Og; exact ht; exact Oh) | (apply Kb; rfl; exact Og; exact ht; exact Oi) | (apply Kc; rfl; exact Oj; exact Og; exact ht; exact Oi) | (apply Kd; exact Og; exact hnew; exact Oh; rintro _ _ ⟨B0, rfl, rfl⟩) | (apply Ke; rfl; exact Og; exact hnew; exact Oh; rintro _ _ ⟨B0, rfl, rfl⟩) | (apply Kf; rfl; exact Og; exact hnew; exact Oh; rintro _ _ ⟨B0, rfl, rfl⟩; refine ⟨Ent.go, ?_⟩) | (apply Kd; exact Og; exact hw Mb C; exact Oh; rintro _ _ ⟨rfl, rfl⟩) | (apply Ke; rfl; exact Og; exact hw Mb C; exact Oh; rintro _ _ ⟨rfl, rfl⟩) | (apply Kf; rfl; exact Og; exact hw Mb C; exact Oh; rintro _ _ ⟨rfl, rfl⟩; refine ⟨Ent.go, ?_⟩) | (apply Kd; exact Og; exact hp; exact Oh; rintro _ _ ⟨B, rfl, rfl⟩) | (apply Ke; rfl; exact Og; exact hp; exact Oh; rintro _ _ ⟨B, rfl, rfl⟩) | (apply Kf; rfl; exact Og; exact hp; exact Oh; rintro _ _ ⟨B, rfl, rfl⟩; refine ⟨Ent.go, ?_⟩) | (apply Kd; exact Og; exact hrw2 _; exact Oh; rintro _ _ ⟨gr, capr, restr, na, nc, rfl, rfl⟩) | (apply Ke; rfl; exact Og; exact hrw2 _; exact Oh; rintro _ _ ⟨gr, capr, restr, na, nc, rfl, rfl⟩) | (apply Kf; rfl; exact Og; exact hrw2 _; exact Oh; rintro _ _ ⟨gr, capr, restr, na, nc, rfl, rfl⟩; refine ⟨Ent.go, ?_⟩) | (apply Kd; exact Og; exact he2 _; exact Oh; rintro _ _ ⟨ge, cape, reste, rfl, rfl⟩) | (apply Ke; rfl; exact Og; exact he2 _; exact Oh; rintro _ _ ⟨ge, cape, reste, rfl, rfl⟩) | (apply Kf; rfl; exact Og; exact he2 _; exact Oh; rintro _ _ ⟨ge, cape, reste, rfl, rfl⟩; refine ⟨Ent.go, ?_⟩) | (apply Zo; rfl; exact Oj; exact On; all_goals (intro h; try (exfalso; omega))))
  (apply StL.v; (apply OpV.buildA; (focus (repeat (first | rfl | constructor))); (exact Fill.cons ⟨rfl, rfl⟩ rfl (by repeat constructor) Fill.nil)); rfl)
  repeat' (first | (apply Ya; exact Oa) | (apply Yb; exact Ob) | (apply Yc; exact Oc; intro b) | (apply Ye; exact Oe; intro g cap rest hcap) | (apply Yd; exact Od; intro ad cap) | (apply Yf; exact Oj) | (apply Yg; exact Oj; exact ⟨rfl, rfl⟩) | (apply Yh; exact Oj; rfl) | (apply Yi; exact Oj; exact On; all_goals (intro h; try (exfalso; omega))) | apply StL.nil | apply St.region | apply St.seq | apply St.block | apply St.inBlock | apply St.skip | (apply St.exit; rfl) | (apply St.cond_t; rfl) | (apply St.cond_f; rfl) | (apply Ud; rfl; exact On; all_goals (intro h; try (exfalso; omega))) | (apply Za; rfl; exact Oa) | (apply Zb; rfl; exact Oa; exact Ent.go) | (apply Zc; rfl; exact Ob) | (apply Zd; rfl; exact Oc; intro b; refine ⟨Ent.go, ?_⟩) | (apply Ze; rfl; exact Oc; intro b) | (apply Zf; rfl; exact Oe; intro g cap rest hcap) | (apply Zg; rfl; exact Od; intro ad cap) | apply StD.nil | exact StD.nope | apply StD.pick | (apply StD.claim; rfl; intro b) | (apply Zi; rfl; exact Oj; exact Oa) | (apply Zj; rfl; exact Oj; exact Oa; exact Ent.go) | (apply Zk; rfl; exact Oj; exact ⟨rfl, rfl⟩) | (apply Zl; rfl; exact Oj; exact ⟨rfl, rfl⟩; exact Ent.go) | (apply Zm; rfl; exact Oj; rfl) | (apply Zn; rfl; exact Oj; exact Ent.go; rfl) | (refine St.draw (id := 11) [(0, 0), (1, 1), (2, 0), (3, 0), (4, 0), (5, 0), (6, 0), (7, 0), (8, 0), (9, 0), (10, 0), (11, 0), (12, 1), (13, 0), (14, 0), (15, 0), (16, 0), (17, 0), (18, 0), (19, 1), (20, 0), (21, 0), (22, 0), (23, 0), (24, 0), (25, 0), (26, 1), (27, 0), (28, 0), (29, 0), (30, 0), (31, 0), (32, 0), (33, 0), (34, 0), (35, 0), (36, 0), (37, 0), (38, 1), (39, 1), (40, 1), (41, 0), (42, 0), (43, 0), (44, 0), (45, 0), (46, 0), (47, 1), (48, 1), (49, 1), (50, 0), (51, 0), (52, 0), (53, 0), (54, 0), (55, 1), (56, 0), (57, 0), (58, 0)] [] mixed (by kernel_rfl) ?_) | (apply Ka; exact Og; exact h1; exact Oh) | (apply Kb; rfl; exact Og; exact h1; exact Oi) | (apply Kc; rfl; exact Oj; exact Og; exact h1; exact Oi) | (apply Ka; exact Og; exact h2; exact Oh) | (apply Kb; rfl; exact Og; exact h2; exact Oi) | (apply Kc; rfl; exact Oj; exact Og; exact h2; exact Oi) | (apply Ka; exact Og; exact hs _; exact Oh) | (apply Kb; rfl; exact Og; exact hs _; exact Oi) | (apply Kc; rfl; exact Oj; exact Og; exact hs _; exact Oi) | (apply Ka; exact Og; exact ht; exact Oh) | (apply Kb; rfl; exact Og; exact ht; exact Oi) | (apply Kc; rfl; exact Oj; exact Og; exact ht; exact Oi) | (apply Kd; exact Og; exact hnew; exact Oh; rintro _ _ ⟨B0, rfl, rfl⟩) | (apply Ke; rfl; exact Og; exact hnew; exact Oh; rintro _ _ ⟨B0, rfl, rfl⟩) | (apply Kf; rfl; exact Og; exact hnew; exact Oh; rintro _ _ ⟨B0, rfl, rfl⟩; refine ⟨Ent.go, ?_⟩) | (apply Kd; exact Og; exact hw Mb C; exact Oh; rintro _ _ ⟨rfl, rfl⟩) | (apply Ke; rfl; exact Og; exact hw Mb C; exact Oh; rintro _ _ ⟨rfl, rfl⟩) | (apply Kf; rfl; exact Og; exact hw Mb C; exact Oh; rintro _ _ ⟨rfl, rfl⟩; refine ⟨Ent.go, ?_⟩) | (apply Kd; exact Og; exact hp; exact Oh; rintro _ _ ⟨B, rfl, rfl⟩) | (apply Ke; rfl; exact Og; exact hp; exact Oh; rintro _ _ ⟨B, rfl, rfl⟩) | (apply Kf; rfl; exact Og; exact hp; exact Oh; rintro _ _ ⟨B, rfl, rfl⟩; refine ⟨Ent.go, ?_⟩) | (apply Kd; exact Og; exact hrw2 _; exact Oh; rintro _ _ ⟨gr, capr, restr, na, nc, rfl, rfl⟩) | (apply Ke; rfl; exact Og; exact hrw2 _; exact Oh; rintro _ _ ⟨gr, capr, restr, na, nc, rfl, rfl⟩) | (apply Kf; rfl; exact Og; exact hrw2 _; exact Oh; rintro _ _ ⟨gr, capr, restr, na, nc, rfl, rfl⟩; refine ⟨Ent.go, ?_⟩) | (apply Kd; exact Og; exact he2 _; exact Oh; rintro _ _ ⟨ge, cape, reste, rfl, rfl⟩) | (apply Ke; rfl; exact Og; exact he2 _; exact Oh; rintro _ _ ⟨ge, cape, reste, rfl, rfl⟩) | (apply Kf; rfl; exact Og; exact he2 _; exact Oh; rintro _ _ ⟨ge, cape, reste, rfl, rfl⟩; refine ⟨Ent.go, ?_⟩) | (apply Zo; rfl; exact Oj; exact On; all_goals (intro h; try (exfalso; omega))))
  refine St.d1 Tryz.func28 ?_; apply Exists.intro; apply And.intro; exact ⟨rfl, rfl⟩; exact Ent.go
end Go.Proofs.YtipnljhelbjmaaaGreat
