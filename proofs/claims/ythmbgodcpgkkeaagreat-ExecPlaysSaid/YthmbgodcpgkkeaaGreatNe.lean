/-
  Package tumblerlaw11: ExecPlays, of all jobs.
-/
import Derived.Test.YthmbgodcpgkkeaaGreatNc
import Derived.Test.YthmbgodcpgkkeaaGreatNd
namespace Go.Proofs.YthmbgodcpgkkeaaGreat
set_option maxRecDepth 100000
/-- a job whose numbers are numbers -/
structure JbOk (q : HProp) (j : Jb) : Prop where
  code : InsR q j.cv j.code
  args : j.args.length = 4
  av : ∀ a ∈ j.args, a < 18446744073709551616
  iv : ∀ i ∈ j.code, i.imm < 18446744073709551616
/-- between two jobs -/
structure PJ where
  k : Nat
  fr : Nat
  v : Vw
  rv : Rv
  p : Po
  P : List (Int × Nat)
  q : HProp
  sa : Option Addr
  sc : Nat
structure PJok (c : Cfg) (q : HProp) (nj no : Nat) (x : PJ) : Prop where
  k : x.k ≤ nj
  fr : x.fr ≤ no
  g : Gr q x.q
  l : ListR entV x.q (.slice x.sa x.P.length x.sc) x.P
  pv : ∀ p ∈ x.P, p.2 < 18446744073709551616
  vr : VR x.rv x.v
  st : x.v.step = 0
  ns : x.v.s ≠ 2
  vg : Vgo x.v
  vb : 0 ≤ x.v.block ∧ x.v.block ≤ 1000
  S : Start c x.P x.p.nt x.p.nl
  len : x.P.length ≤ 200 + 64 * x.k
/-- x[i:i+d] -/
theorem OpV.slLD {P : Program} {n' : Fi} {E : Env} {L : List HProp} {ty : TypeId} {t e sz : Nat} {x lo hi : Operand} {ad : Option Addr} {len cap i d : Nat} {k1 k2 : IntKind} [hu : Und P t (.slice e)] [hs : Siz P e sz] (hx : ev E x = some (.slice ad len cap)) (hl : ev E lo = some (.int k1 (i : Int))) (hh : ev E hi = some (.int k2 ((i : Int) + (d : Int))))
    (h2 : i + d ≤ cap) : OpV P n' (.slice t x (some lo) (some hi) none) ty E L (.slice (tlN ad cap i sz) d (cap - i)) := by
  have h := OpV.slLH (P := P) (n' := n') (L := L) (ty := ty) (t := t) (i := i) (j := i + d) hx hl (by rw [hh]; rfl) (by omega) h2
  rw [Nat.add_sub_cancel_left] at h
  exact h
def playQ (q : HProp) : Value → List HProp → Prop := fun r L => r = .bool true ∧ L = [q]
theorem u64s_flat (l : List Nat) : u64s l = l.flatMap u1V := by
  induction l with
  | nil => rfl
  | cons x l ih => rw [List.flatMap_cons, ← ih]; rfl
section
set_option maxHeartbeats 8000000 in
theorem plays_jobs {q : HProp} {jad : Option Addr} {jcap : Nat} {jobs : List Jb} (hjr : jobs.length = 0 ∨ ∃ b o l rest, jad = some ⟨b, o, none⟩ ∧ RdC q b l ∧ DropN o l (jobs.flatMap Jb.v ++ rest)) (_hjl : jobs.length ≤ 6) (hjo : ∀ j ∈ jobs, JbOk q j) {oad : Option Addr} {ocap : Nat} {outs : List Out} (hov : ListR Out.v q (.slice oad outs.length ocap) outs) (_hol : outs.length ≤ 60) (hosv : ∀ o ∈ outs, o.was.val < 18446744073709551616) {c : Cfg} (hc : Small c) (hf0 : 0 ≤ c.fuel) (_hf1 : c.fuel ≤ 200) (_seq : Nat) (room : Nat) (hroom : room ≤ 255) (x : Px) (hxr : x.room = room) (st : PJ) (hst : PJok c q jobs.length outs.length st) (hst0 : st.k = 0 ∧ st.fr = 0) (V Pb W b13 b23 : Nat) (w0 : World) (F : List HProp) :
    St Tryz.prog ⟨3, Tryz.f3, w0, playQ q, F, []⟩ [.code (codeAt Tryz.f3 22), .code (codeAt Tryz.f3 43)]
      [(3, .slice jad jobs.length jcap), (4, .slice oad outs.length ocap), (13, .pointer (some ⟨b13, 0, none⟩)), (22, .pointer (some ⟨V, 0, none⟩)), (18, .pointer (some ⟨Pb, 0, none⟩)), (21, .pointer (some ⟨W, 0, none⟩)), (23, .pointer (some ⟨b23, 0, none⟩)), (24, .int .i64 0), (25, .int .i64 0)]
      (st.q :: bl V 215 (viewV c st.v) :: Pl Pb c st.p :: Ws W room st.P :: bl b23 63 (evV c st.rv { x with nt := st.p.nt, nl := st.p.nl, sa := st.sa, sn := st.P.length, sc := st.sc }) :: bl b13 31 c.m :: F) := by
  obtain ⟨xna, xnn, xnc, xma, xmn, xmc, xwt, xwl, xnt, xnl, xroom, xsa, xsn, xsc⟩ := x
  dsimp only at hxr ⊢
  subst hxr
  repeat' (first | refine Ga ?_ | (refine Gb ?_; intro b) | (refine Gd ?_; intro g cap rest hcap) | (refine Gc ?_; intro ad cap) | (refine St.draw (id := 20) [(0, 1), (1, 0), (2, 1), (3, 1), (4, 0), (5, 0), (6, 0), (7, 0), (8, 3), (9, 0), (10, 3)] [8, 10] mixed (by kernel_rfl) ?_) | (refine St.draw (id := 26) [(0, 1), (1, 0), (2, 0), (3, 0), (4, 0), (5, 0), (6, 0), (7, 1), (8, 0), (9, 1), (10, 1), (11, 2), (12, 3)] [12] mixed (by kernel_rfl) ?_) | (refine St.draw (id := 28) [(0, 0), (1, 0), (2, 0), (3, 1), (4, 0), (5, 0), (6, 1), (7, 0), (8, 0), (9, 1), (10, 0), (11, 0), (12, 0), (13, 0), (14, 1), (15, 0), (16, 1), (17, 0), (18, 0)] [] mixed (by kernel_rfl) ?_) | (refine St.draw (id := 33) [(0, 0), (1, 1), (2, 0), (3, 0), (4, 0), (5, 1), (6, 0), (7, 1), (8, 0), (9, 0), (10, 0), (11, 1), (12, 0), (13, 1), (14, 0), (15, 0), (16, 0), (17, 0), (18, 0), (19, 1), (20, 1), (21, 0), (22, 0), (23, 0), (24, 0), (25, 0), (26, 1), (27, 1), (28, 0), (29, 0), (30, 0), (31, 0), (32, 1), (33, 0), (34, 0), (35, 1), (36, 0), (37, 0), (38, 1), (39, 0), (40, 0), (41, 0), (42, 0)] [] mixed (by kernel_rfl) ?_) | (refine Ge ?_ ?_ <;> (intro h; try (exfalso; omega))) | fail)
  all_goals first | (exfalso; omega) | skip
  refine St.loopY (Lr := ?Lr1) (ι := { x : PJ // PJok c q jobs.length outs.length x }) (fun x => jobs.length - x.1.k) (fun x => [(104, .int .i64 (x.1.k : Int)), (24, .int .i64 (x.1.fr : Int)), (25, .int .i64 (x.1.fr : Int))])
    (fun x => [x.1.q, bl V 215 (viewV c x.1.v), Pl Pb c x.1.p, Ws W xroom x.1.P, bl b23 63 (evV c x.1.rv ⟨xna, xnn, xnc, xma, xmn, xmc, xwt, xwl, x.1.p.nt, x.1.p.nl, xroom, x.1.sa, x.1.P.length, x.1.sc⟩)]) ⟨st, hst⟩ ?hE1 ?hL1 ?round1
  case hE1 => rw [hst0.1, hst0.2]; exact Sub.go
  case hL1 => exact Takes.go
  case round1 =>
    rintro ⟨⟨jn, fr, v, rv, p, P, q1, sa, sc⟩, ⟨hk, hfr, hg, hl, hpv, hvr, hv0, hns, hvg, hvb, hS, hlen⟩⟩ IH; dsimp only at hk hfr hg hl hpv hvr hv0 hns hvg hvb hS hlen IH ⊢
    by_cases hlt : jn < jobs.length
    · have hjok := hjo jobs[jn] (List.getElem_mem hlt)
      obtain ⟨jb, jo, jl, jl1, rfl, hjrd, hjdr, hjtk⟩ := JobsR.at hjr jn hlt
      replace hjrd := hg.2 _ _ hjrd
      generalize jobs[jn] = j at hjok hjtk
      obtain ⟨hcode, ha4, hav, hiv⟩ := hjok
      have hxn := xnew_s V Pb W xroom c hc j.cv q1 j.code (hcode.gr hg) v p P j.args (by have := hS.len; omega) _ (fun hr => run_inv' hS xroom hr 0) (fun hr => Xinv.init hr hS hf0 v p rfl rfl j.args ha4 hvb)
      unfold xsL at hxn
      repeat' (first | refine Ga ?_ | (refine Gb ?_; intro b) | (refine Gd ?_; intro g cap rest hcap) | (refine Gc ?_; intro ad cap) | (refine St.draw (id := 20) [(0, 1), (1, 0), (2, 1), (3, 1), (4, 0), (5, 0), (6, 0), (7, 0), (8, 3), (9, 0), (10, 3)] [8, 10] mixed (by kernel_rfl) ?_) | (refine St.draw (id := 26) [(0, 1), (1, 0), (2, 0), (3, 0), (4, 0), (5, 0), (6, 0), (7, 1), (8, 0), (9, 1), (10, 1), (11, 2), (12, 3)] [12] mixed (by kernel_rfl) ?_) | (refine St.draw (id := 28) [(0, 0), (1, 0), (2, 0), (3, 1), (4, 0), (5, 0), (6, 1), (7, 0), (8, 0), (9, 1), (10, 0), (11, 0), (12, 0), (13, 0), (14, 1), (15, 0), (16, 1), (17, 0), (18, 0)] [] mixed (by kernel_rfl) ?_) | (refine St.draw (id := 33) [(0, 0), (1, 1), (2, 0), (3, 0), (4, 0), (5, 1), (6, 0), (7, 1), (8, 0), (9, 0), (10, 0), (11, 1), (12, 0), (13, 1), (14, 0), (15, 0), (16, 0), (17, 0), (18, 0), (19, 1), (20, 1), (21, 0), (22, 0), (23, 0), (24, 0), (25, 0), (26, 1), (27, 1), (28, 0), (29, 0), (30, 0), (31, 0), (32, 1), (33, 0), (34, 0), (35, 1), (36, 0), (37, 0), (38, 1), (39, 0), (40, 0), (41, 0), (42, 0)] [] mixed (by kernel_rfl) ?_) | (refine Gt hxn ?_; rintro _ _ ⟨X, rfl, rfl⟩) | (refine Ge ?_ ?_ <;> (intro h; try (exfalso; omega))) | fail)
      all_goals first | (exfalso; omega) | skip
      have hstart := Xr.start (code := j.code) hS hf0 xroom v p rfl rfl j.args ha4 hvb hvg
      generalize hM0 : Xm.start c xroom j.code v p P j.args = M0 at hstart ⊢
      refine St.loopY (Lr := ?Lr2) (ι := { y : Nat × HProp // fr + y.1 ≤ outs.length ∧ Gr q y.2 ∧ ListR entV y.2 (.slice sa P.length sc) P ∧ ∀ i, i < y.1 → ((fedM (XX c xroom j.code) (outs.drop fr) M0 i).ask c).2 = true }) (fun y => outs.length - fr - y.1.1) (fun y => [(25, .int .i64 ((fr : Int) + (y.1.1 : Int)))])
        (fun y => [y.1.2, Xe X c j.cv V Pb W (fedM (XX c xroom j.code) (outs.drop fr) M0 y.1.1).x (fedM (XX c xroom j.code) (outs.drop fr) M0 y.1.1).news, bl V 215 (viewV c (fedM (XX c xroom j.code) (outs.drop fr) M0 y.1.1).v), Pl Pb c (fedM (XX c xroom j.code) (outs.drop fr) M0 y.1.1).p, Ws W xroom (fedM (XX c xroom j.code) (outs.drop fr) M0 y.1.1).puts]) ⟨(0, q1), by omega, hg, hl, fun i hi => absurd hi (Nat.not_lt_zero i)⟩ ?hE2 ?hL2 ?round2
      case hE2 => exact Sub.go
      case hL2 => exact Takes.go
      case round2 =>
        rintro ⟨⟨i, q2⟩, hi, hg2, hl2, hall⟩ IH2; dsimp only at hi hg2 hl2 hall IH2 ⊢
        have hx := hstart.fed (room := xroom) (os := outs.drop fr) hS i hall
        obtain ⟨n1, n2, n3, n4, n5, n6, _, n7, n8⟩ := hx.num hS
        have hosl : ((outs.drop fr).take i).length = i := by rw [List.length_take, List.length_drop]; omega
        have hio : i ≤ (outs.drop fr).length := by rw [List.length_drop]; omega
        have hpa := rplay_at (os := (outs.drop fr).take i) (room := xroom) (code := j.code) hS hf0 j.args ha4 hvr hv0 hns hvg hvb p rfl rfl (fun i' hi' => by
          rw [hosl] at hi'
          rw [hM0, fedM_take _ _ _ hio i' (by omega)]
          exact hall i' hi') (m := fedM (XX c xroom j.code) (outs.drop fr) M0 i) (by rw [hosl, hM0, fedM_take _ _ _ hio i (Nat.le_refl i)])
        have hoc : outs.length ≤ ocap := by obtain ⟨_, _, e, h, _⟩ := hov; injection e with _ _ e; omega
        have hsub := ListR.sub (f := Out.v) (sz := 3) (fun _ => rfl) (hov.gr hg2) (i := fr) (j := fr + i) (by omega) hi
        rw [show fr + i - fr = i by omega] at hsub
        have hosv2 : ∀ o ∈ (outs.drop fr).take i, o.was.val < 18446744073709551616 := fun o ho => hosv o (List.mem_of_mem_drop (List.mem_of_mem_take ho))
        have hplay := rplay_t hsub (by omega) hosv2 hc ⟨xna, xnn, xnc, xma, xmn, xmc, xwt, xwl, p.nt, p.nl, xroom, sa, P.length, sc⟩ (.live 0) (Nat.zero_le _) rv P rfl hl2 (by dsimp only; omega) (by omega) hpv (by have := hS.nt; dsimp only; omega) (by have := hS.nl; dsimp only; omega) hf0 (by omega) j.code j.cv (hcode.gr hg2) hiv j.args ha4 hav
        have hval := rplay_val (room := xroom) (code := j.code) (args := j.args) hosv2 hiv hav (by have := hc.b1; omega) hf0 hpv rv p.nt p.nl hS.nt.1 (.live 0)
        dsimp only at hplay
        generalize rplay c ((outs.drop fr).take i) xroom j.code j.args rv p.nt p.nl P (.live 0) = y at hpa hplay hval
        have hask := xask_s X V Pb W c hc j.cv (fedM (XX c xroom j.code) (outs.drop fr) M0 i) ⟨n4.1, by omega⟩
        have hstat := xstatus_s X V Pb W c j.cv (fedM (XX c xroom j.code) (outs.drop fr) M0 i)
        have hres := xresult_s X V Pb W c j.cv (fedM (XX c xroom j.code) (outs.drop fr) M0 i) (by omega)
        have htl := fun (q9 : HProp) (hq9 : InsR q9 j.cv j.code) hr o => xtell_s X V Pb W xroom c hc j.cv q9 j.code hr hq9 _ (xi_run hS xroom hr (i + 1)) (fedM (XX c xroom j.code) (outs.drop fr) M0 i) o (fun hs => (hx.tell hS xroom hs o).2.1)
        unfold xsL at htl
        have hnext := hx.next hS (by omega)
        have hfed1 : fedM (XX c xroom j.code) (outs.drop fr) M0 (i + 1) = (fedM (XX c xroom j.code) (outs.drop fr) M0 i).tell c xroom j.code ((outs.drop fr).getD i out0) := rfl
        generalize hmE : fedM (XX c xroom j.code) (outs.drop fr) M0 i = m at *
        obtain ⟨t', r'⟩ := y
        obtain ⟨xad, xcp, hsl, _⟩ := id hsub
        dsimp only at hpa hplay hval
        obtain ⟨rwho, rseq, rheld, rstale⟩ := rv
        unfold evV rvV plV tpV Cfg.v at hplay
        dsimp only [List.cons_append, List.nil_append, Tp.live, op0, mop] at hplay
        rcases hpa with ⟨e1, e2, e3, hxp, _⟩ | ⟨e2, hs0, e1, e4⟩
        · have hma : m.ask c = (op0, false) := Prod.ext e3 e2
          rw [hma] at hask
          unfold op0 mop MOp.v at hask
          dsimp only at hask
          obtain ⟨rv', nt', nl', puts', regs', pc', st', wr', news', s', er', val'⟩ := r'
          obtain ⟨x1, x2, x3, x4, x5⟩ := hxp
          dsimp only at x1 x2 x3 x4 x5 hval
          subst e1
          rw [hosl] at hplay
          obtain ⟨x3, x3b⟩ := x3
          clear IH2 htl
          by_cases hs1 : m.x.s = 1
          · rw [hs1] at x3 hstat
            obtain ⟨y1, y2, y3, y4, y5, y6⟩ := x4 hs1
            have x5 := x5 hs1
            clear x4
            subst x3 y1 y2 y3 y4 y5 y6
            repeat' (first | refine St.halt 33 ?_ |refine Ga ?_ | (refine Gb ?_; intro b) | (refine Gd ?_; intro g cap rest hcap) | (refine Gc ?_; intro ad cap) | (refine St.draw (id := 20) [(0, 1), (1, 0), (2, 1), (3, 1), (4, 0), (5, 0), (6, 0), (7, 0), (8, 3), (9, 0), (10, 3)] [8, 10] mixed (by kernel_rfl) ?_) | (refine St.drawa (id := 26) [(0, 1), (1, 0), (2, 0), (3, 0), (4, 0), (5, 0), (6, 0), (7, 1), (8, 0), (9, 1), (10, 3)] [(12, 3)] [10, 12] 11 mixed rfl (by intro w; rfl) (by kernel_rfl) ?_) | (refine St.draw (id := 28) [(0, 0), (1, 0), (2, 0), (3, 1), (4, 0), (5, 0), (6, 1), (7, 0), (8, 0), (9, 1), (10, 0), (11, 0), (12, 0), (13, 0), (14, 1), (15, 0), (16, 1), (17, 0), (18, 0)] [] mixed (by kernel_rfl) ?_) | (refine St.draw (id := 33) [(0, 0), (1, 1), (2, 0), (3, 0), (4, 0), (5, 1), (6, 0), (7, 1), (8, 0), (9, 0), (10, 0), (11, 1), (12, 0), (13, 1), (14, 0), (15, 0), (16, 0), (17, 0), (18, 0), (19, 1), (20, 1), (21, 0), (22, 0), (23, 0), (24, 0), (25, 0), (26, 1), (27, 1), (28, 0), (29, 0), (30, 0), (31, 0), (32, 1), (33, 0), (34, 0), (35, 1), (36, 0), (37, 0), (38, 1), (39, 0), (40, 0), (41, 0), (42, 0)] [] mixed (by kernel_rfl) ?_) | (apply StD.v0; rfl; (apply OpV.slLD (i := fr) (d := i); rfl; rfl; rfl; omega); rfl)| refine Gl hask ?_ | refine Gl hstat ?_ | (refine Gt hplay ?_; rintro _ _ ⟨q3, sa3, sc3, wa3, wc3, hg3, hl3, hn3, rfl, rfl⟩) | (refine Gt hres ?_; rintro _ _ ⟨nad, ncap, rfl, rfl⟩) | (refine StD.ok3 rfl (OpOk.ofW OpV.go) rfl ?_; rintro _ _ ⟨rfl, rfl⟩) | (refine Ge ?_ ?_ <;> (intro h; try (exfalso; omega))) | fail)
            all_goals first | (exfalso; omega) | skip
            refine Halt.go ?_
            rw [u64s_flat]
            refine St.conv ?_ (Sub.refl _) (Ent.of_take (p := Row (.slice nad m.news.length ncap) 22 1 m.news.length (m.news.flatMap u1V)) Take.go)
            refine St.rowL rfl fun Rn hRn => ?_
            have hhd := handles_r hRn hn3 (by omega)
            have hsm := same11_t hl3 (by have := hnext.1.len; omega) W xroom (xroom : Int)
            have hmk := pMark_r Pb c m.p
            obtain ⟨nad2, ncp2, hne, _⟩ := id hRn
            injection hne with hne1 hne2 hne3
            subst hne1 hne3
            repeat' (first | refine Ga ?_ | (refine Gb ?_; intro b) | (refine Gd ?_; intro g cap rest hcap) | (refine Gc ?_; intro ad cap) | (refine St.draw (id := 20) [(0, 1), (1, 0), (2, 1), (3, 1), (4, 0), (5, 0), (6, 0), (7, 0), (8, 3), (9, 0), (10, 3)] [8, 10] mixed (by kernel_rfl) ?_) | (refine St.draw (id := 26) [(0, 1), (1, 0), (2, 0), (3, 0), (4, 0), (5, 0), (6, 0), (7, 1), (8, 0), (9, 1), (10, 1), (11, 2), (12, 3)] [12] mixed (by kernel_rfl) ?_) | (refine St.draw (id := 28) [(0, 0), (1, 0), (2, 0), (3, 1), (4, 0), (5, 0), (6, 1), (7, 0), (8, 0), (9, 1), (10, 0), (11, 0), (12, 0), (13, 0), (14, 1), (15, 0), (16, 1), (17, 0), (18, 0)] [] mixed (by kernel_rfl) ?_) | (refine St.draw (id := 33) [(0, 0), (1, 1), (2, 0), (3, 0), (4, 0), (5, 1), (6, 0), (7, 1), (8, 0), (9, 0), (10, 0), (11, 1), (12, 0), (13, 1), (14, 0), (15, 0), (16, 0), (17, 0), (18, 0), (19, 1), (20, 1), (21, 0), (22, 0), (23, 0), (24, 0), (25, 0), (26, 1), (27, 2), (28, 0), (29, 0), (30, 0), (31, 0), (32, 1), (33, 0), (34, 0), (35, 1), (36, 0), (37, 0), (38, 1), (39, 0), (40, 0), (41, 0), (42, 0)] [] mixed (by kernel_rfl) ?_) | (refine StD.skip2 (by rfl) (by rfl) (by rfl) (by rfl) (by rfl) ?_) | (apply StD.gcallt2; rfl; rfl; rfl; exact Og; exact hsm; exact Oh; rintro _ _ ⟨rfl, rfl⟩; refine ⟨Ent.go, ?_⟩)| refine Gl hhd ?_ | refine Gl hmk ?_ | refine Gl hstat ?_ | (refine Gt hsm ?_; rintro _ _ ⟨rfl, rfl⟩) | (refine Gu hsm ?_; rintro _ _ ⟨rfl, rfl⟩; refine ⟨Ent.go, ?_⟩) | (refine Ge ?_ ?_ <;> (intro h; try (exfalso; omega))) | fail)
            all_goals first | (exfalso; omega) | skip
            all_goals first | (exfalso; exact absurd rfl (by assumption)) | (exfalso; simp at h; done) | skip
            refine IH ⟨⟨jn + 1, fr + i, m.v, rv', m.p, m.puts, q3, sa3, sc3⟩, ⟨hlt, hi, hg2.trans hg3, hl3, hval, x1, x2, x5, n5, n4, hnext.1, by have := hnext.2; dsimp only; omega⟩⟩ (by show jobs.length - (jn + 1) < jobs.length - jn; omega) ?_ ?_
            · exact Sub.go
            · exact Ent.go
          · have hs2 : m.x.s = 2 := by omega
            rw [hs2] at x3 hstat
            subst x3
            clear x4
            repeat' (first | refine Ga ?_ | (refine Gb ?_; intro b) | (refine Gd ?_; intro g cap rest hcap) | (refine Gc ?_; intro ad cap) | (refine St.draw (id := 20) [(0, 1), (1, 0), (2, 1), (3, 1), (4, 0), (5, 0), (6, 0), (7, 0), (8, 3), (9, 0), (10, 3)] [8, 10] mixed (by kernel_rfl) ?_) | (refine St.drawa (id := 26) [(0, 1), (1, 0), (2, 0), (3, 0), (4, 0), (5, 0), (6, 0), (7, 1), (8, 0), (9, 1), (10, 3)] [(12, 3)] [10, 12] 11 mixed rfl (by intro w; rfl) (by kernel_rfl) ?_) | (refine St.draw (id := 28) [(0, 0), (1, 0), (2, 0), (3, 1), (4, 0), (5, 0), (6, 1), (7, 0), (8, 0), (9, 1), (10, 0), (11, 0), (12, 0), (13, 0), (14, 1), (15, 0), (16, 1), (17, 0), (18, 0)] [] mixed (by kernel_rfl) ?_) | (refine St.draw (id := 33) [(0, 0), (1, 1), (2, 0), (3, 0), (4, 0), (5, 1), (6, 0), (7, 1), (8, 0), (9, 0), (10, 0), (11, 1), (12, 0), (13, 1), (14, 0), (15, 0), (16, 0), (17, 0), (18, 0), (19, 1), (20, 1), (21, 0), (22, 0), (23, 0), (24, 0), (25, 0), (26, 1), (27, 1), (28, 0), (29, 0), (30, 0), (31, 0), (32, 1), (33, 0), (34, 0), (35, 1), (36, 0), (37, 0), (38, 1), (39, 0), (40, 0), (41, 0), (42, 0)] [] mixed (by kernel_rfl) ?_) | (apply StD.v0; rfl; (apply OpV.slLD (i := fr) (d := i); rfl; rfl; rfl; omega); rfl)| refine Gl hask ?_ | refine Gl hstat ?_ | (refine Gt hplay ?_; rintro _ _ ⟨q3, sa3, sc3, wa3, wc3, hg3, hl3, hn3, rfl, rfl⟩) | (refine Gt hres ?_; rintro _ _ ⟨nad, ncap, rfl, rfl⟩) | (refine StD.ok3 rfl (OpOk.ofW OpV.go) rfl ?_; rintro _ _ ⟨rfl, rfl⟩) | (refine Ge ?_ ?_ <;> (intro h; try (exfalso; omega))) | fail)
            all_goals first | (exfalso; omega) | skip
            all_goals refine St.conv ?_ (Sub.refl _) (Ent.trans (Ent.of_take (p := q3) Take.go) ((hg2.trans hg3).1 _))
            all_goals exact St.d1 Tryz.func3 ⟨_, ⟨rfl, rfl⟩, Ent.go⟩
        · have hr := n8 hs0
          rw [hs0] at hstat
          have hasks : (m.ask c).2 = true := e2
          generalize m.ask c = a at hask e2 e1
          obtain ⟨⟨ak, aa, ⟨ao1, ao2⟩, ⟨an1, an2⟩⟩, ab⟩ := a
          dsimp only at e2 e1 hask
          subst e2 e1
          unfold MOp.v at hask
          dsimp only at hask
          obtain ⟨rv', nt', nl', puts', regs', pc', st', wr', news', s', er', val'⟩ := r'
          dsimp only at e4
          subst e4
          rw [hosl] at hplay
          clear IH
          by_cases hend : fr + i = outs.length
          · repeat' (first | refine Ga ?_ | (refine Gb ?_; intro b) | (refine Gd ?_; intro g cap rest hcap) | (refine Gc ?_; intro ad cap) | (refine St.draw (id := 20) [(0, 1), (1, 0), (2, 1), (3, 1), (4, 0), (5, 0), (6, 0), (7, 0), (8, 3), (9, 0), (10, 3)] [8, 10] mixed (by kernel_rfl) ?_) | (refine St.drawa (id := 26) [(0, 1), (1, 0), (2, 0), (3, 0), (4, 0), (5, 0), (6, 0), (7, 1), (8, 0), (9, 1), (10, 3)] [(12, 3)] [10, 12] 11 mixed rfl (by intro w; rfl) (by kernel_rfl) ?_) | (refine St.draw (id := 28) [(0, 0), (1, 0), (2, 0), (3, 1), (4, 0), (5, 0), (6, 1), (7, 0), (8, 0), (9, 1), (10, 0), (11, 0), (12, 0), (13, 0), (14, 1), (15, 0), (16, 1), (17, 0), (18, 0)] [] mixed (by kernel_rfl) ?_) | (refine St.draw (id := 33) [(0, 0), (1, 1), (2, 0), (3, 0), (4, 0), (5, 1), (6, 0), (7, 1), (8, 0), (9, 0), (10, 0), (11, 1), (12, 0), (13, 1), (14, 0), (15, 0), (16, 0), (17, 0), (18, 0), (19, 1), (20, 1), (21, 0), (22, 0), (23, 0), (24, 0), (25, 0), (26, 1), (27, 1), (28, 0), (29, 0), (30, 0), (31, 0), (32, 1), (33, 0), (34, 0), (35, 1), (36, 0), (37, 0), (38, 1), (39, 0), (40, 0), (41, 0), (42, 0)] [] mixed (by kernel_rfl) ?_) | (apply StD.v0; rfl; (apply OpV.slLD (i := fr) (d := i); rfl; rfl; rfl; omega); rfl)| refine Gl hask ?_ | refine Gl hstat ?_ | (refine Gt hplay ?_; rintro _ _ ⟨q3, sa3, sc3, wa3, wc3, hg3, hl3, hn3, rfl, rfl⟩) | (refine StD.ok3 rfl (OpOk.ofW OpV.go) rfl ?_; rintro _ _ ⟨rfl, rfl⟩) | (refine Ge ?_ ?_ <;> (intro h; try (exfalso; omega))) | fail)
            all_goals first | (exfalso; omega) | (exfalso; simp at h; done) | skip
            all_goals refine St.conv ?_ (Sub.refl _) (Ent.trans (Ent.of_take (p := q3) Take.go) ((hg2.trans hg3).1 _))
            all_goals exact St.d1 Tryz.func3 ⟨_, ⟨rfl, rfl⟩, Ent.go⟩
          · have hlt2 : fr + i < outs.length := by omega
            have hod : (outs.drop fr).getD i out0 = outs[fr + i] := by
              rw [List.getD_eq_getElem?_getD, List.getElem?_drop, List.getElem?_eq_getElem hlt2]; rfl
            have e9 : (fr : Int) + (i : Int) = ((fr + i : Nat) : Int) := by omega
            repeat' (first | refine St.halt 39 ?_ |refine Ga ?_ | (refine Gb ?_; intro b) | (refine Gd ?_; intro g cap rest hcap) | (refine Gc ?_; intro ad cap) | (refine St.draw (id := 20) [(0, 1), (1, 0), (2, 1), (3, 1), (4, 0), (5, 0), (6, 0), (7, 0), (8, 3), (9, 0), (10, 3)] [8, 10] mixed (by kernel_rfl) ?_) | (refine St.drawa (id := 26) [(0, 1), (1, 0), (2, 0), (3, 0), (4, 0), (5, 0), (6, 0), (7, 1), (8, 0), (9, 1), (10, 3)] [(12, 3)] [10, 12] 11 mixed rfl (by intro w; rfl) (by kernel_rfl) ?_) | (refine St.draw (id := 28) [(0, 0), (1, 0), (2, 0), (3, 1), (4, 0), (5, 0), (6, 1), (7, 0), (8, 0), (9, 1), (10, 0), (11, 0), (12, 0), (13, 0), (14, 1), (15, 0), (16, 1), (17, 0), (18, 0)] [] mixed (by kernel_rfl) ?_) | (refine St.draw (id := 33) [(0, 0), (1, 1), (2, 0), (3, 0), (4, 0), (5, 1), (6, 0), (7, 1), (8, 0), (9, 0), (10, 0), (11, 1), (12, 0), (13, 1), (14, 0), (15, 0), (16, 0), (17, 0), (18, 0), (19, 1), (20, 1), (21, 0), (22, 0), (23, 0), (24, 0), (25, 0), (26, 1), (27, 1), (28, 0), (29, 0), (30, 0), (31, 0), (32, 1), (33, 0), (34, 0), (35, 1), (36, 0), (37, 0), (38, 1), (39, 0), (40, 0), (41, 0), (42, 0)] [] mixed (by kernel_rfl) ?_) | (apply StD.v0; rfl; (apply OpV.slLD (i := fr) (d := i); rfl; rfl; rfl; omega); rfl)| refine Gl hask ?_ | refine Gl hstat ?_ | (refine Gt hplay ?_; rintro _ _ ⟨q3, sa3, sc3, wa3, wc3, hg3, hl3, hn3, rfl, rfl⟩) | (refine StD.ok3 rfl (OpOk.ofW OpV.go) rfl ?_; rintro _ _ ⟨rfl, rfl⟩) | (refine Ge ?_ ?_ <;> (intro h; try (exfalso; omega))) | fail)
            all_goals first | (exfalso; omega) | (exfalso; simp at h; done) | skip
            refine Halt.go ?_
            have htl := fun o => htl q3 (hcode.gr (hg2.trans hg3)) hr o
            obtain ⟨ob, oo, ol, ol1, hoad, hord, hodr, hotk⟩ := (hov.gr (hg2.trans hg3)).at' (fun _ => rfl) (sz := 3) (fr + i) hlt2
            rw [hod] at hfed1
            generalize outs[fr + i] = o at hotk hfed1
            have htl := htl o
            rw [← hfed1] at htl
            rw [← e9] at hodr
            subst hoad
            repeat' (first | refine Ga ?_ | (refine Gb ?_; intro b) | (refine Gd ?_; intro g cap rest hcap) | (refine Gc ?_; intro ad cap) | (refine St.draw (id := 20) [(0, 1), (1, 0), (2, 1), (3, 1), (4, 0), (5, 0), (6, 0), (7, 0), (8, 3), (9, 0), (10, 3)] [8, 10] mixed (by kernel_rfl) ?_) | (refine St.draw (id := 26) [(0, 1), (1, 0), (2, 0), (3, 0), (4, 0), (5, 0), (6, 0), (7, 1), (8, 0), (9, 1), (10, 1), (11, 2), (12, 3)] [12] mixed (by kernel_rfl) ?_) | (refine St.draw (id := 28) [(0, 0), (1, 0), (2, 0), (3, 1), (4, 0), (5, 0), (6, 1), (7, 0), (8, 0), (9, 1), (10, 0), (11, 0), (12, 0), (13, 0), (14, 1), (15, 0), (16, 1), (17, 0), (18, 0)] [] mixed (by kernel_rfl) ?_) | (refine St.draw (id := 33) [(0, 0), (1, 1), (2, 0), (3, 0), (4, 0), (5, 1), (6, 0), (7, 1), (8, 0), (9, 0), (10, 0), (11, 1), (12, 0), (13, 1), (14, 0), (15, 0), (16, 0), (17, 0), (18, 0), (19, 1), (20, 1), (21, 0), (22, 0), (23, 0), (24, 0), (25, 0), (26, 1), (27, 1), (28, 0), (29, 0), (30, 0), (31, 0), (32, 1), (33, 0), (34, 0), (35, 1), (36, 0), (37, 0), (38, 1), (39, 0), (40, 0), (41, 0), (42, 0)] [] mixed (by kernel_rfl) ?_) | (refine Gt htl ?_; rintro _ _ ⟨rfl, rfl⟩) | (refine Ge ?_ ?_ <;> (intro h; try (exfalso; omega))) | fail)
            all_goals first | (exfalso; omega) | skip
            refine IH2 ⟨(i + 1, q3), by dsimp only; omega, hg2.trans hg3, hl2.gr hg3, fun i' hi' => ?_⟩ (by show outs.length - fr - (i + 1) < outs.length - fr - i; omega) ?_ ?_
            · by_cases hie : i' = i
              · subst hie
                rw [hmE]; exact hasks
              · exact hall i' (by dsimp only at hi'; omega)
            · exact Sub.go
            · exact Ent.go
    · clear IH
      repeat' (first | refine Ga ?_ | (refine Gb ?_; intro b) | (refine Gd ?_; intro g cap rest hcap) | (refine Gc ?_; intro ad cap) | (refine St.draw (id := 20) [(0, 1), (1, 0), (2, 1), (3, 1), (4, 0), (5, 0), (6, 0), (7, 0), (8, 3), (9, 0), (10, 3)] [8, 10] mixed (by kernel_rfl) ?_) | (refine St.draw (id := 26) [(0, 1), (1, 0), (2, 0), (3, 0), (4, 0), (5, 0), (6, 0), (7, 1), (8, 0), (9, 1), (10, 1), (11, 2), (12, 3)] [12] mixed (by kernel_rfl) ?_) | (refine St.draw (id := 28) [(0, 0), (1, 0), (2, 0), (3, 1), (4, 0), (5, 0), (6, 1), (7, 0), (8, 0), (9, 1), (10, 0), (11, 0), (12, 0), (13, 0), (14, 1), (15, 0), (16, 1), (17, 0), (18, 0)] [] mixed (by kernel_rfl) ?_) | (refine St.draw (id := 33) [(0, 0), (1, 1), (2, 0), (3, 0), (4, 0), (5, 1), (6, 0), (7, 1), (8, 0), (9, 0), (10, 0), (11, 1), (12, 0), (13, 1), (14, 0), (15, 0), (16, 0), (17, 0), (18, 0), (19, 1), (20, 1), (21, 0), (22, 0), (23, 0), (24, 0), (25, 0), (26, 1), (27, 1), (28, 0), (29, 0), (30, 0), (31, 0), (32, 1), (33, 0), (34, 0), (35, 1), (36, 0), (37, 0), (38, 1), (39, 0), (40, 0), (41, 0), (42, 0)] [] mixed (by kernel_rfl) ?_) | (refine Ge ?_ ?_ <;> (intro h; try (exfalso; omega))) | fail)
      all_goals first | (exfalso; omega) | skip
      refine St.conv ?_ (Sub.refl _) (Ent.trans (Ent.of_take (p := q1) Take.go) (hg.1 _))
      exact St.d1 Tryz.func3 ⟨_, ⟨rfl, rfl⟩, Ent.go⟩
end
end Go.Proofs.YthmbgodcpgkkeaaGreat
