/-
  Package tumblerlaw15: CallTouches.
-/
import Derived.Test.YtemaaenipjinaaaGreatWd
import Derived.Test.YtemaaenipjinaaaGreatVx
namespace Go.Proofs.YtemaaenipjinaaaGreat
set_option maxRecDepth 100000
theorem and_le (a : Int) (m : Nat) (hm : m < 9223372036854775808) : 0 ≤ IntKind.i64.wrap ((BitVec.ofInt IntKind.i64.bits a &&& BitVec.ofInt IntKind.i64.bits m).toNat : Int) ∧ IntKind.i64.wrap ((BitVec.ofInt IntKind.i64.bits a &&& BitVec.ofInt IntKind.i64.bits m).toNat : Int) ≤ m := by
  have h1 : (BitVec.ofInt IntKind.i64.bits a &&& BitVec.ofInt IntKind.i64.bits m).toNat ≤ m := by
    rw [BitVec.toNat_and]
    refine Nat.le_trans Nat.and_le_right ?_
    rw [BitVec.toNat_ofInt]
    have : (2 : Nat) ^ IntKind.i64.bits = 18446744073709551616 := rfl
    rw [this]
    omega
  generalize (BitVec.ofInt IntKind.i64.bits a &&& BitVec.ofInt IntKind.i64.bits m).toNat = n at h1
  have : IntKind.i64.wrap (n : Int) = n := by simp [IntKind.wrap, IntKind.bits, IntKind.signed]; omega
  rw [this]
  omega
theorem few15_r (c : Cfg) (q : HProp) (v : Value) (progs : Progs) (hv : ProgsG q v progs) : RTri Tryz.prog 15 #[.agg ⟨c.v⟩, v] [q] (.bool (few14B c progs)) := by
  apply RTri.of_reads
  intro p hp
  have hr0 := right14_r c
  obtain ⟨ad, cap, rfl, hn, hr⟩ := hv.of (p := p) fun h => RdC.of_sat hp (ReadsC.here h)
  refine Tri.of_body (vs := [_, _]) Tryz.func15 rfl rfl fun w0 F => ?_
  repeat' (first | refine Ga ?_ | (refine Gb ?_; intro b) | (refine Gd ?_; intro g cap rest hcap) | (refine Gc ?_; intro ad cap)  | (refine Ge ?_ ?_ <;> (intro h; try (exfalso; omega))) | fail)
  refine St.loopY (Lr := ?Lr) (ι := { k : Nat // k ≤ progs.length ∧ short14 progs = short14 (progs.drop k) }) (fun k => progs.length - k.1)
    (fun k => [(9, .int .i64 (k.1 : Int))]) (fun k => []) ⟨0, Nat.zero_le _, rfl⟩ ?hE ?hL ?round
  case hE => exact Sub.go
  case hL => exact Takes.go
  case round =>
    rintro ⟨k, hk, hgo⟩ IH; dsimp only at hk hgo ⊢
    by_cases hlt : k < progs.length
    · obtain ⟨bj, o, l, cv, rfl, hrd, hnth, hins⟩ := hr k hlt
      rw [List.drop_eq_getElem_cons hlt] at hgo
      generalize progs[k] = pk at hgo hins
      obtain ⟨cad, ccap, rfl, _⟩ := hins
      by_cases he : pk.length ≤ 40
      · repeat' (first | refine Ga ?_ | (refine Gb ?_; intro b) | (refine Gd ?_; intro g cap rest hcap) | (refine Gc ?_; intro ad cap)  | (refine Ge ?_ ?_ <;> (intro h; try (exfalso; omega))) | fail)
        refine IH ⟨k + 1, hlt, ?_⟩ (by show _ - (k + 1) < _ - k; omega) ?_ ?_
        · rw [hgo]; unfold short14; rw [List.all_cons, decide_eq_true he, Bool.true_and]
        · exact Sub.go
        · exact Ent.go
      · have e : few14B c progs = false := by
          unfold few14B
          rw [hgo]; unfold short14; rw [List.all_cons, decide_eq_false he]; rfl
        rw [e]
        repeat' (first | refine Ga ?_ | (refine Gb ?_; intro b) | (refine Gd ?_; intro g cap rest hcap) | (refine Gc ?_; intro ad cap)  | (refine Ge ?_ ?_ <;> (intro h; try (exfalso; omega))) | fail)
        (first | refine St.dn Tryz.func15 ⟨?_, rfl⟩ Ent.go | refine St.fl Tryz.func15 ⟨?_, rfl⟩ Ent.go)
        rfl
    · have e : few14B c progs = (c.right && decide (c.fuel ≤ 200) && decide (progs.length ≤ 8)) := by
        unfold few14B
        rw [hgo, List.drop_eq_nil_of_le (by omega)]; rfl
      rw [e]
      clear IH
      cases hcr : c.right with
      | false =>
        rw [hcr] at hr0
        repeat' (first | refine Ga ?_ | (refine Gb ?_; intro b) | (refine Gd ?_; intro g cap rest hcap) | (refine Gc ?_; intro ad cap) | refine Gl hr0 ?_ | (refine Ge ?_ ?_ <;> (intro h; try (exfalso; omega))) | fail)
        (first | refine St.dn Tryz.func15 ⟨?_, rfl⟩ Ent.go | refine St.fl Tryz.func15 ⟨?_, rfl⟩ Ent.go)
        rfl
      | true =>
        rw [hcr] at hr0
        by_cases hf : c.fuel ≤ 200
        · repeat' (first | refine Ga ?_ | (refine Gb ?_; intro b) | (refine Gd ?_; intro g cap rest hcap) | (refine Gc ?_; intro ad cap) | refine Gl hr0 ?_ | (refine Ge ?_ ?_ <;> (intro h; try (exfalso; omega))) | fail)
          all_goals (first | refine St.dn Tryz.func15 ⟨?_, rfl⟩ Ent.go | refine St.fl Tryz.func15 ⟨?_, rfl⟩ Ent.go)
          all_goals refine congrArg Value.bool ?_
          all_goals rw [decide_eq_true hf, Bool.true_and, Bool.true_and, decide_eq_decide]
          all_goals omega
        · rw [decide_eq_false hf]
          repeat' (first | refine Ga ?_ | (refine Gb ?_; intro b) | (refine Gd ?_; intro g cap rest hcap) | (refine Gc ?_; intro ad cap) | refine Gl hr0 ?_ | (refine Ge ?_ ?_ <;> (intro h; try (exfalso; omega))) | fail)
          all_goals (first | refine St.dn Tryz.func15 ⟨?_, rfl⟩ Ent.go | refine St.fl Tryz.func15 ⟨?_, rfl⟩ Ent.go)
          all_goals rfl
def touchQ (q : HProp) (v : Value) (L : List HProp) : Prop := v = .bool true ∧ L = [q]
theorem touch_few (c : Cfg) (who : Int) (tag : Nat) (q : HProp) (pv ov : Value) (progs : Progs) (jp : Int) (ja : List Nat) (outs : List Out) (hpv : ProgsG q pv progs) (hov : ListR Out.v q ov outs) (hb : ¬ (few14B c progs = true ∧ outs.length ≤ 120)) :
    Tri Tryz.prog 5 #[.agg ⟨c.v⟩, .int .i64 who, .int .u64 (tag : Int), pv, .agg ⟨.int .i64 jp :: g4 ja⟩, ov] [q] (touchQ q) := by
  have hfew := few15_r c q pv progs hpv
  have hal := alive15_t
  obtain ⟨oad, ocap, rfl, hor⟩ := hov
  unfold g4
  cases hb1 : few14B c progs with
  | false =>
    rw [hb1] at hfew
    refine Tri.of_body (vs := [_, _, _, _, _, _]) Tryz.func5 rfl rfl fun w0 F => ?_
    repeat' (first | refine Ga ?_ | (refine Gb ?_; intro b) | (refine Gd ?_; intro g cap rest hcap) | (refine Gc ?_; intro ad cap) | refine Gl hfew ?_ | (refine Gt hal ?_; rintro _ _ ⟨rfl, rfl⟩) | (refine Ge ?_ ?_ <;> (intro h; try (exfalso; omega))) | fail)
    refine St.d1 Tryz.func5 ⟨_, ⟨rfl, rfl⟩, Ent.go⟩
  | true =>
    rw [hb1] at hfew
    have hbig : ¬ outs.length ≤ 120 := fun h => hb ⟨hb1, h⟩
    refine Tri.of_body (vs := [_, _, _, _, _, _]) Tryz.func5 rfl rfl fun w0 F => ?_
    repeat' (first | refine Ga ?_ | (refine Gb ?_; intro b) | (refine Gd ?_; intro g cap rest hcap) | (refine Gc ?_; intro ad cap) | refine Gl hfew ?_ | (refine Gt hal ?_; rintro _ _ ⟨rfl, rfl⟩) | (refine Ge ?_ ?_ <;> (intro h; try (exfalso; omega))) | fail)
    all_goals first | (exfalso; omega) | skip
    refine St.d1 Tryz.func5 ⟨_, ⟨rfl, rfl⟩, Ent.go⟩
def opZ (o : MOp) : List Value := [.int .i64 o.kind, .int .i64 o.at_, .int .u64 (o.old.val : Int), .int .u64 (o.old.seq : Int), .int .u64 (o.new.val : Int), .int .u64 (o.new.seq : Int)]
set_option maxHeartbeats 2000000 in
theorem touch_near (c : Cfg) (who : Int) (tag : Nat) (q : HProp) (pv ov : Value) (progs : Progs) (jp : Int) (ja : List Nat) (hja : ja.length = 4) (outs : List Out) (hpv : ProgsG q pv progs) (hov : ListR Out.v q ov outs) (hb : few14B c progs = true) (hol : outs.length ≤ 120) :
    Tri Tryz.prog 5 #[.agg ⟨c.v⟩, .int .i64 who, .int .u64 (tag : Int), pv, .agg ⟨.int .i64 jp :: g4 ja⟩, ov] [q] (touchQ q) := by
  have hfew := few15_r c q pv progs hpv
  have hal := alive15_t
  obtain ⟨oad, ocap, rfl, _, hor⟩ := hov
  rw [hb] at hfew
  unfold few14B at hb
  simp only [Bool.and_eq_true, decide_eq_true_eq] at hb
  obtain ⟨_, ⟨hcr, hfu⟩, hpl⟩ := hb
  have hc := Cfg.small hcr
  have hcd := of_decide_eq_true hcr
  have hf0 : 0 ≤ c.fuel := by omega
  have hlast : c.last ≤ 140737488355328 := by omega
  have hof := of_r c
  unfold Cfg.ofV at hof
  rw [if_pos hcr] at hof
  have hpr := hpv.r (by omega)
  have ht0 := hc.t0; have ht1 := hc.t1
  have hm : 0 ≤ IntKind.i64.wrap ((BitVec.ofInt IntKind.i64.bits who &&& BitVec.ofInt IntKind.i64.bits 255).toNat : Int) ∧ IntKind.i64.wrap ((BitVec.ofInt IntKind.i64.bits who &&& BitVec.ofInt IntKind.i64.bits 255).toNat : Int) ≤ 255 := and_le who 255 (by decide)
  have hnew := fun who => cnew_t c hc pv ⟨who, tag, jp, ja⟩ q progs hpr
  unfold g4 at hnew ⊢
  dsimp only at hnew
  refine Tri.of_body (vs := [_, _, _, _, _, _]) Tryz.func5 rfl rfl fun w0 F => ?_
  repeat' (first | refine St.halt 6 ?_ |refine Ga ?_ | (refine Gb ?_; intro b) | (refine Gd ?_; intro g cap rest hcap) | (refine Gc ?_; intro ad cap) | refine Gl hfew ?_ | refine Gl hof ?_ | (refine Gt hal ?_; rintro _ _ ⟨rfl, rfl⟩) | (refine Ge ?_ ?_ <;> (intro h; try (exfalso; omega))) | fail)
  all_goals first | (exfalso; omega) | skip
  apply Halt.go
  iterate 6 (first | refine Ga ?_ | (refine Gb ?_; intro b) | (refine Gd ?_; intro g cap rest hcap) | (refine Gc ?_; intro ad cap)  | (refine Ge ?_ ?_ <;> (intro h; try (exfalso; omega))) | fail)
  generalize IntKind.i64.wrap ((BitVec.ofInt IntKind.i64.bits who &&& BitVec.ofInt IntKind.i64.bits 255).toNat : Int) = mk at hm ⊢
  have hm0 : 0 ≤ mk % c.threads := Int.emod_nonneg _ (by omega)
  have hm1 : mk % c.threads < c.threads := Int.emod_lt_of_pos _ (by omega)
  have hnew := hnew (mk % c.threads)
  repeat' (first | refine Ga ?_ | (refine Gb ?_; intro b) | (refine Gd ?_; intro g cap rest hcap) | (refine Gc ?_; intro ad cap)  | (refine Gt hnew ?_; rintro _ _ ⟨Cb, rfl, rfl⟩) | (refine Ge ?_ ?_ <;> (intro h; try (exfalso; omega))) | fail)
  generalize mk % c.threads = wh at hm0 hm1 ⊢
  revert b; intro nb
  generalize hp : (⟨wh, tag, jp, ja⟩ : Cp) = p
  have hpw : p.who = wh := by rw [← hp]
  have hpa : p.args.length = 4 := by rw [← hp]; exact hja
  subst hpw
  clear hnew hp
  have hnum : ∀ (x : Nat × Cm × Int), Cm.ask c p x.2.1 = Cm.ask c p x.2.1 := fun _ => rfl
  clear hnum
  refine St.loopY (Lr := ?Lr1) (ι := { x : Nat × Cm × Int // x.1 ≤ outs.length ∧ Cinv c p progs x.2.1 ∧ Crt p progs x.2.1 ∧ Ct c p x.2.2 x.2.1 ∧ -1 ≤ x.2.2 ∧ x.2.2 ≤ 1000 }) (fun x => outs.length - x.1.1) (fun x => [(55, .int .i64 (x.1.1 : Int)), (16, .int .i64 x.1.2.2)])
    (fun x => [ClE Cb c pv p q progs x.1.2.1, bl nb 43 [.int .u64 (x.1.2.1.s.now.val : Int), .int .u64 (x.1.2.1.s.now.seq : Int)]]) ⟨(0, Cm.new p progs, -1), Nat.zero_le _, Cinv.new, Crt.new, Ct.new, by dsimp only; omega, by dsimp only; omega⟩ ?hE1 ?hL1 ?round1
  case hE1 => exact Sub.go
  case hL1 => exact Takes.go
  case round1 =>
    rintro ⟨⟨k, cm, n⟩, hk, hi, hrt, hct, hn0, hn1⟩ IH; dsimp only at hk hi hrt hct hn0 hn1 IH ⊢
    by_cases hlt : k < outs.length
    · obtain ⟨bf, o, l, l1, rfl, hrd, hdr, htk⟩ := ListR.at (f := Out.v) (sz := 3) (fun _ => rfl) hor k hlt
      generalize outs[k] = out at htk
      have hask := cask_r Cb c hc pv p q progs (by omega) hlast cm hi
      have hdn := cdone_e Cb c pv p q progs cm
      by_cases h13 : cm.s.next = 13
      · have e : cm.ask c p = (mop 0 0 0, false) := by
          unfold Cm.ask
          repeat rw [if_neg (by omega)]
        rw [e] at hask
        rw [decide_eq_true h13] at hdn
        unfold mop MOp.v at hask
        unfold Out.v at htk
        clear IH
        repeat' (first | refine Ga ?_ | (refine Gb ?_; intro b) | (refine Gd ?_; intro g cap rest hcap) | (refine Gc ?_; intro ad cap) | refine Gl hask ?_ | refine Gl hdn ?_ | (refine Ge ?_ ?_ <;> (intro h; try (exfalso; omega))) | fail)
        all_goals first | (exfalso; omega) | skip
        refine St.d1 Tryz.func5 ⟨_, ⟨rfl, rfl⟩, Ent.go⟩
      · obtain ⟨g2, g1, g3, g4⟩ := Ct.step (progs := progs) hc ⟨hm0, hm1⟩ hi hct h13 out
        have hwt := what_r c hc (cm.ask c p).1.at_
        have htell := ctell_t Cb c hc pv p hpa q progs hpr ⟨hf0, by omega⟩ hlast cm hi hrt out
        have hi2 := hi.tell hc ⟨hf0, by omega⟩ hpa out
        have hrt2 := hrt.tell (c := c) out
        have hsw := hi.sw
        rw [g2] at hask
        generalize hop : (cm.ask c p).1 = op at hask hwt g1 g3
        generalize cm.tell c p progs out = cm2 at htell hi2 hrt2 g3 g4
        obtain ⟨kd, at_, ⟨xv, xs⟩, ⟨nv, ns⟩⟩ := op
        unfold MOp.v at hask
        unfold Out.v at htk htell
        dsimp only at hask hwt
        generalize hwat : c.what at_ = w at hwt
        obtain ⟨wk, wi, wj⟩ := w
        dsimp only at hwt
        rcases g1 with ⟨hn2, g⟩ | ⟨hn2, e⟩ | ⟨hn11, e⟩
        · rw [if_neg hn2] at g4
          have k1 := g.kind; have k2 := g.store; have k3 := g.swap; have k4 := g.load; have k5 := g.word; have k6 := g.slot
          unfold namedOf at g3
          dsimp only at k1 k2 k3 k4 k5 k6 g3
          rw [hwat] at k2 k3 k4 k5 k6 g3
          dsimp only at k2 k3 k4 k5 k6 g3
          by_cases hsl : kd = 1 ∧ wk = 3
          · rw [if_pos hsl] at g3
            obtain ⟨rfl, rfl⟩ := hsl
            obtain ⟨_, _, rfl⟩ := k2 rfl
            obtain ⟨_, _⟩ := k6 rfl rfl
            repeat' (first | refine Ga ?_ | (refine Gb ?_; intro b) | (refine Gd ?_; intro g cap rest hcap) | (refine Gc ?_; intro ad cap) | refine Gl hask ?_ | refine Gl hwt ?_ | (refine Gt htell ?_; rintro _ _ ⟨rfl, rfl⟩) | (refine Ge ?_ ?_ <;> (intro h; try (exfalso; omega))) | fail)
            all_goals first | (exfalso; omega) | skip
            refine IH ⟨(k + 1, cm2, (nv : Int) - 1), hlt, hi2, hrt2, g3, by dsimp only; omega, by dsimp only; omega⟩ (by show _ - (k + 1) < _ - k; omega) ?_ ?_
            · exact Sub.go
            · dsimp only; rw [g4]; exact Ent.go
          · rw [if_neg hsl] at g3
            rcases k1 with rfl | rfl | rfl
            · have k4 := k4 rfl
              repeat' (first | refine Ga ?_ | (refine Gb ?_; intro b) | (refine Gd ?_; intro g cap rest hcap) | (refine Gc ?_; intro ad cap) | refine Gl hask ?_ | refine Gl hwt ?_ | (refine Gt htell ?_; rintro _ _ ⟨rfl, rfl⟩) | (refine Ge ?_ ?_ <;> (intro h; try (exfalso; omega))) | fail)
              all_goals first | (exfalso; omega) | skip
              all_goals (refine IH ⟨(k + 1, cm2, n), hlt, hi2, hrt2, g3, by dsimp only; omega, by dsimp only; omega⟩ (by show _ - (k + 1) < _ - k; omega) ?_ ?_; (exact Sub.go); (dsimp only; rw [g4]; exact Ent.go))
            · have k2 := k2 rfl
              obtain ⟨k21, k22, rfl⟩ := k2
              repeat' (first | refine Ga ?_ | (refine Gb ?_; intro b) | (refine Gd ?_; intro g cap rest hcap) | (refine Gc ?_; intro ad cap) | refine Gl hask ?_ | refine Gl hwt ?_ | (refine Gt htell ?_; rintro _ _ ⟨rfl, rfl⟩) | (refine Ge ?_ ?_ <;> (intro h; try (exfalso; omega))) | fail)
              all_goals first | (exfalso; omega) | skip
              all_goals (refine IH ⟨(k + 1, cm2, n), hlt, hi2, hrt2, g3, by dsimp only; omega, by dsimp only; omega⟩ (by show _ - (k + 1) < _ - k; omega) ?_ ?_; (exact Sub.go); (dsimp only; rw [g4]; exact Ent.go))
            · have k3 := k3 rfl
              repeat' (first | refine Ga ?_ | (refine Gb ?_; intro b) | (refine Gd ?_; intro g cap rest hcap) | (refine Gc ?_; intro ad cap) | refine Gl hask ?_ | refine Gl hwt ?_ | (refine Gt htell ?_; rintro _ _ ⟨rfl, rfl⟩) | (refine Ge ?_ ?_ <;> (intro h; try (exfalso; omega))) | fail)
              all_goals first | (exfalso; omega) | skip
              all_goals (refine IH ⟨(k + 1, cm2, n), hlt, hi2, hrt2, g3, by dsimp only; omega, by dsimp only; omega⟩ (by show _ - (k + 1) < _ - k; omega) ?_ ?_; (exact Sub.go); (dsimp only; rw [g4]; exact Ent.go))
        · rw [if_pos hn2] at g4
          unfold mop at e
          injection e with e1 e2 e3 e4
          injection e3 with e5 e6
          injection e4 with e7 e8
          subst e1 e2 e5 e6 e7 e8
          rw [named_now hc] at g3
          rw [what0 hc] at hwat
          injection hwat with e1 e2
          injection e2 with e2 e3
          subst e1 e2 e3
          repeat' (first | refine Ga ?_ | (refine Gb ?_; intro b) | (refine Gd ?_; intro g cap rest hcap) | (refine Gc ?_; intro ad cap) | refine Gl hask ?_ | refine Gl hwt ?_ | (refine Gt htell ?_; rintro _ _ ⟨rfl, rfl⟩) | (refine Ge ?_ ?_ <;> (intro h; try (exfalso; omega))) | fail)
          all_goals first | (exfalso; omega) | skip
          refine IH ⟨(k + 1, cm2, n), hlt, hi2, hrt2, g3, by dsimp only; omega, by dsimp only; omega⟩ (by show _ - (k + 1) < _ - k; omega) ?_ ?_
          · exact Sub.go
          · dsimp only; rw [g4]; exact Ent.go
        · rw [if_neg (by omega)] at g4
          injection e with e1 e2 e3 e4
          obtain ⟨hsq, _⟩ := hsw hn11
          generalize cm.s.now = now at e3 e4 g4 hsq ⊢
          obtain ⟨yv, ys⟩ := now
          injection e3 with e5 e6
          injection e4 with e7 e8
          subst e1 e2 e5 e6 e7 e8
          rw [named_now hc] at g3
          rw [what0 hc] at hwat
          injection hwat with e1 e2
          injection e2 with e2 e3
          subst e1 e2 e3
          dsimp only at hsq
          have ew : ((p.who.toNat : Nat) : Int) = p.who := by omega
          rw [ew] at hask
          repeat' (first | refine Ga ?_ | (refine Gb ?_; intro b) | (refine Gd ?_; intro g cap rest hcap) | (refine Gc ?_; intro ad cap) | refine Gl hask ?_ | refine Gl hwt ?_ | (refine Gt htell ?_; rintro _ _ ⟨rfl, rfl⟩) | (refine Ge ?_ ?_ <;> (intro h; try (exfalso; first | omega | contradiction))) | fail)
          all_goals first | (exfalso; omega) | (exfalso; simp at h; done) | skip
          refine IH ⟨(k + 1, cm2, n), hlt, hi2, hrt2, g3, by dsimp only; omega, by dsimp only; omega⟩ (by show _ - (k + 1) < _ - k; omega) ?_ ?_
          · exact Sub.go
          · dsimp only; rw [g4]; exact Ent.go
    · clear IH
      repeat' (first | refine Ga ?_ | (refine Gb ?_; intro b) | (refine Gd ?_; intro g cap rest hcap) | (refine Gc ?_; intro ad cap)  | (refine Ge ?_ ?_ <;> (intro h; try (exfalso; omega))) | fail)
      all_goals first | (exfalso; omega) | skip
      refine St.d1 Tryz.func5 ⟨_, ⟨rfl, rfl⟩, Ent.go⟩
theorem touches_t (c : Cfg) (who : Int) (tag : Nat) (q : HProp) (pv ov : Value) (progs : Progs) (jp : Int) (ja : List Nat) (hja : ja.length = 4) (outs : List Out) (hpv : ProgsG q pv progs) (hov : ListR Out.v q ov outs) :
    Tri Tryz.prog 5 #[.agg ⟨c.v⟩, .int .i64 who, .int .u64 (tag : Int), pv, .agg ⟨.int .i64 jp :: g4 ja⟩, ov] [q] (touchQ q) := by
  by_cases hb : few14B c progs = true ∧ outs.length ≤ 120
  · exact touch_near c who tag q pv ov progs jp ja hja outs hpv hov hb.1 hb.2
  · exact touch_few c who tag q pv ov progs jp ja outs hpv hov hb
end Go.Proofs.YtemaaenipjinaaaGreat
