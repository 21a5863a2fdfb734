/-
  Package tumblerlaw11: ExecSerial. Package tumblerlaw11: ExecRows.
-/
import Derived.Test.YthmbgodcpgkkeaaGreatVr
import Derived.Test.YthmbgodcpgkkeaaGreatNc
import Derived.Test.YthmbgodcpgkkeaaGreatSr
import Derived.Test.YthmbgodcpgkkeaaGreatEya
section
namespace Go.Proofs.YthmbgodcpgkkeaaGreat
set_option maxRecDepth 100000
/-- a job that can be read -/
structure JbC (q : HProp) (j : Jb) : Prop where
  code : InsR q j.cv j.code
  args : j.args.length = 4
section
theorem endP_len (c : Cfg) (room : Nat) (p : Po) (puts : List (Int × Nat)) : (endP c room p puts).length ≤ puts.length + 2 := by
  have h1 := putP_len room puts (c.at 12 0 0) p.nt.toNat
  unfold endP
  by_cases e1 : p.nt = p.wt
  · rw [if_pos e1]
    have h2 := putP_len room puts (c.at 14 0 0) p.nl.toNat
    split <;> omega
  · rw [if_neg e1]
    have h2 := putP_len room (putP room puts (c.at 12 0 0) p.nt.toNat) (c.at 14 0 0) p.nl.toNat
    split <;> omega
theorem u64s_fl (l : List Nat) : u64s l = l.flatMap u1V := by
  induction l with
  | nil => rfl
  | cons x l ih => rw [List.flatMap_cons, ← ih]; rfl
end
end Go.Proofs.YthmbgodcpgkkeaaGreat
end
section
namespace Go.Proofs.YthmbgodcpgkkeaaGreat
set_option maxRecDepth 100000
/-- between two jobs of one transaction -/
structure SR where
  k : Nat
  t : Nat
  cs : List Cell
  ms : Ms
  P : List (Int × Nat)
  p : Po
  v : Vw
structure SRok (c : Cfg) (nj T t0 : Nat) (x : SR) : Prop where
  k : x.k ≤ nj
  t : x.t ≤ t0 + 700 * x.k
  jr : ∃ fs ls, JR c (fun a => (cellI c.boot a).val) 0 T 0 0 x.k 0 x.ms x.P x.p x.v fs ls
  mem : MemV c x.cs (fun a => (cellI c.boot a).val) 0
  len : x.ms.blocks.length ≤ 7 * x.k
section
set_option maxHeartbeats 8000000 in
theorem rows_near {q : HProp} {c : Cfg} {jv : Value} {jobs : List Jb} (hjv : JobsR q jv jobs) (hjo : ∀ j ∈ jobs, JbC q j) (hb : fewB { c with first := 0 } jobs = true) (hth : (jobs.length : Int) ≤ c.threads) :
    Tri Tryz.prog 9 #[.agg ⟨c.v⟩, jv] [q] fun r L => r = .bool true ∧ L = [q] := by
  obtain ⟨th, bk, wr, fu, fi, la⟩ := c
  dsimp only at hb hth
  have hjl : jobs.length ≤ 6 := by
    unfold fewB at hb
    simp only [Bool.and_eq_true, decide_eq_true_eq] at hb
    omega
  have hfew := few_r ⟨th, bk, wr, fu, 0, la⟩ q jv jobs hjv (by omega)
  rw [hb] at hfew
  unfold fewB at hb
  simp only [Bool.and_eq_true, decide_eq_true_eq] at hb
  obtain ⟨hsh, ⟨hcr, hfu⟩, _⟩ := hb
  have hof := of_r ⟨th, bk, wr, fu, 0, la⟩
  unfold Cfg.ofV at hof
  rw [if_pos hcr] at hof
  have hc0 : (⟨th, bk, wr, fu, 0, la⟩ : Cfg) = (⟨th, bk, wr, fu, 0, la⟩ : Cfg) := rfl
  generalize hcc : (⟨th, bk, wr, fu, 0, la⟩ : Cfg) = c at hcr hfu hof
  have hc := Cfg.small hcr
  have hf0 : 0 ≤ c.fuel := by have := of_decide_eq_true hcr; omega
  have hfu2 : c.fuel ≤ 200 := by rw [← hcc]; first | exact hfu | (rw [← hcc] at hfu; exact hfu)
  have hfirst : c.first = 0 := by rw [← hcc]
  have hthr : (jobs.length : Int) ≤ c.threads := by rw [← hcc]; exact hth
  have hboot := bootl_t c hc
  have hms0 := boot_mem hc hfirst
  obtain ⟨jad, jcap, rfl, hjr⟩ := id hjv
  unfold Cfg.v at hfew ⊢
  dsimp only at hfew ⊢
  have hcv : c.v = [.int .i64 th, .int .i64 bk, .int .i64 wr, .int .i64 fu, .int .u64 ((0 : Nat) : Int), .int .u64 (la : Int)] := by rw [← hcc]; rfl
  rw [hcv] at hof
  have hcap := hc.cap
  have hlim := hc.limit
  have ht1 := hc.t1; have ht0 := hc.t0; have hw0 := hc.w0; have hw1 := hc.w1; have hb1 := hc.b1
  have hcapr := cap_r c hc c.fr rfl
  have hwn := wnew_t c.cap.toNat (by omega)
  rw [show ((c.cap.toNat : Nat) : Int) = c.cap by omega] at hwn
  have hset := fun M W => settled_g M W c.cap.toNat c hc hms0.pool 0 (by omega) 0 ⟨by decide, by decide⟩ 0 (Nat.le_refl _) [] (Nat.zero_le _) (c.threads.toNat + 2 + 0) (by show ((c.threads.toNat + 2 + 0 : Nat) : Int) = c.threads + 2 + ((0 : Nat) : Int); omega)
  have hset : ∀ M W, Tri Tryz.prog 72 #[.agg ⟨c.m⟩, .pointer (some ⟨M, 0, none⟩), .int .i64 0, .int .u64 0, .pointer (some ⟨W, 0, none⟩)] [Ml M c.boot 0, Ws W c.cap.toNat []]
      fun r L => ∃ Pb, r = .pointer (some ⟨Pb, 0, none⟩) ∧ L = [Pl Pb c ((pool1 c c.boot 0 (fs0 c).length []).settled c c.cap.toNat []), Ml M c.boot (0 + (c.threads.toNat + 2 + 0)), Ws W c.cap.toNat (set1 c c.cap.toNat (pool1 c c.boot 0 (fs0 c).length []) []).puts] := hset
  obtain ⟨fs1, ls1, hjr0⟩ := JR.init hc hms0 0
  rw [show (fun a => (cellI c.boot a).val) = (fun a => (cellI c.boot a).val) from rfl] at hjr0
  have hjr0 : ∃ fs ls, JR c (fun a => (cellI c.boot a).val) 0 (fs0 c).length 0 0 0 0 ms0 (set1 c c.cap.toNat (pool1 c c.boot 0 (fs0 c).length []) []).puts ((pool1 c c.boot 0 (fs0 c).length []).settled c c.cap.toNat []) (Vw.new 0 0) fs ls := ⟨fs1, ls1, hjr0⟩
  generalize (pool1 c c.boot 0 (fs0 c).length []).settled c c.cap.toNat [] = p0 at hset hjr0
  generalize (set1 c c.cap.toNat (pool1 c c.boot 0 (fs0 c).length []) []).puts = P0 at hset hjr0
  generalize htt : 0 + (c.threads.toNat + 2 + 0) = t0 at hset
  have ht0b : t0 ≤ 20 := by omega
  have hvn := vnew_t c 0 0
  refine Tri.of_body (vs := [_, _]) Tryz.func9 rfl rfl fun w0 F => ?_
  repeat' (first | refine Ga ?_ | (refine Gb ?_; intro b) | (refine Gd ?_; intro g cap rest hcap) | (refine Gc ?_; intro ad cap) | (refine St.draw (id := 26) [(0, 0), (1, 1), (2, 0), (3, 0), (4, 1), (5, 0), (6, 1), (7, 0), (8, 0), (9, 0), (10, 0), (11, 0), (12, 1), (13, 1), (14, 0), (15, 0), (16, 0), (17, 0), (18, 1), (19, 0), (20, 0), (21, 0), (22, 0), (23, 0), (24, 0), (25, 1), (26, 1), (27, 0), (28, 0), (29, 1), (30, 0), (31, 0), (32, 0), (33, 0), (34, 0), (35, 1), (36, 1), (37, 0), (38, 0), (39, 1), (40, 0), (41, 0), (42, 0), (43, 0)] [] mixed (by kernel_rfl) ?_)| refine Gl hfew ?_ | refine Gl hof ?_ | refine Gl hcapr ?_ | (refine Gt alive_t ?_; rintro _ _ ⟨rfl, rfl⟩) | (refine Gt hboot ?_; rintro _ _ ⟨M, rfl, rfl⟩) | (refine Gt mnew_t ?_; rintro _ _ ⟨S, rfl, rfl⟩) | (refine Gt hwn ?_; rintro _ _ ⟨W, rfl, rfl⟩) | (refine Gt (hset _ _) ?_; rintro _ _ ⟨Pb, rfl, rfl⟩) | (refine Gt hvn ?_; rintro _ _ ⟨V, rfl, rfl⟩) | (refine Ge ?_ ?_ <;> (intro h; try (exfalso; omega))) | fail)
  all_goals first | (exfalso; omega) | skip
  refine St.loopY (Lr := ?Lr1) (ι := { x : SR // SRok c jobs.length (fs0 c).length t0 x }) (fun x => jobs.length - x.1.k) (fun x => [(62, .int .i64 (x.1.k : Int))]) (fun x => [Ml M x.1.cs x.1.t, MsE S x.1.ms, bl V 215 (viewV c x.1.v), Pl Pb c x.1.p, Ws W c.cap.toNat x.1.P]) ⟨⟨0, t0, c.boot, ms0, P0, p0, Vw.new 0 0⟩, ⟨Nat.zero_le _, Nat.le_refl _, hjr0, hms0.mem, Nat.zero_le _⟩⟩ ?hE1 ?hL1 ?round1
  case hE1 => exact Sub.go
  case hL1 => exact Takes.go
  case round1 =>
    rintro ⟨⟨k, t, cs, ms, P, p, v⟩, ⟨hk, ht, hjr2, hmem, hln⟩⟩ IH; dsimp only at hk ht hjr2 hmem hln IH ⊢
    obtain ⟨fs, ls, hjr2⟩ := hjr2
    by_cases hlt : k < jobs.length
    · have hjok := hjo jobs[k] (List.getElem_mem hlt)
      have hsl : jobs[k].code.length ≤ 40 := of_decide_eq_true (List.all_eq_true.1 hsh jobs[k] (List.getElem_mem hlt))
      obtain ⟨jb, jo, jl, jl1, rfl, hjrd, hjdr, hjtk⟩ := JobsR.at hjr k hlt
      generalize jobs[k] = j at hjok hjtk hsl
      obtain ⟨hcode, ha4⟩ := hjok
      obtain ⟨g, hjb⟩ := hjr2.begin hc ⟨hf0, by omega⟩ (by omega) (by omega)
      have hPl := hjr2.room hc (by omega) (by omega)
      have hxi := fun hr => hjb.xj j.code j.args ha4 hr
      have hji := JQ.init (code := j.code) hjb.fits hjb.S hxi
      have hk6 : k < 6 := by omega
      have hxn := xnew_s V Pb W c.cap.toNat c hc j.cv q j.code hcode v p P j.args (by omega) _ (fun hr => XJ.runInv (n := 0) (ms := ms) (args := j.args) hjb.fits hjb.S hr) hxi
      have hmk := wmark_r W c.cap.toNat P
      generalize Xm.start c c.cap.toNat j.code v p P j.args = M0 at hji hxn
      unfold xsL at hxn
      have hbl := hji.block hjr2.vb
      have hask0 := fun X => xask_s X V Pb W c hc j.cv M0 ⟨hbl.1, by omega⟩
      unfold MOp.v at hask0
      unfold Jb.v at hjtk
      unfold Jb.cv at hxn hask0
      repeat' (first | refine Ga ?_ | (refine Gb ?_; intro b) | (refine Gd ?_; intro g cap rest hcap) | (refine Gc ?_; intro ad cap) | (refine St.draw (id := 26) [(0, 0), (1, 1), (2, 0), (3, 0), (4, 1), (5, 0), (6, 1), (7, 0), (8, 0), (9, 0), (10, 0), (11, 0), (12, 1), (13, 1), (14, 0), (15, 0), (16, 0), (17, 0), (18, 1), (19, 0), (20, 0), (21, 0), (22, 0), (23, 0), (24, 0), (25, 1), (26, 1), (27, 0), (28, 0), (29, 1), (30, 0), (31, 0), (32, 0), (33, 0), (34, 0), (35, 1), (36, 1), (37, 0), (38, 0), (39, 1), (40, 0), (41, 0), (42, 0), (43, 0)] [] mixed (by kernel_rfl) ?_)| refine Gl hmk ?_ | refine Gl (hask0 _) ?_ | (refine Gt hxn ?_; rintro _ _ ⟨X, rfl, rfl⟩) | (refine Ge ?_ ?_ <;> (intro h; try (exfalso; omega))) | fail)
      all_goals first | (exfalso; omega) | skip
      refine St.loopY (Lr := ?Lr2) (ι := { y : Nat × Nat × List Cell × Xm // JQ c (fun a => (cellI c.boot a).val) g c.cap.toNat j.code ms j.args P v p y.1 y.2.2.2 ∧ MemV c y.2.2.1 (fun a => (cellI c.boot a).val) 0 }) (fun y => 3 * c.fuel.toNat - y.1.1) (fun y => [(16, .pointer (some ⟨y.1.2.1, 0, none⟩)), (17, .bool (y.1.2.2.2.ask c).2)])
        (fun y => [Ml M y.1.2.2.1 (t + y.1.1), Xe X c (.slice j.ad j.code.length j.cap) V Pb W y.1.2.2.2.x y.1.2.2.2.news, bl V 215 (viewV c y.1.2.2.2.v), Pl Pb c y.1.2.2.2.p, Ws W c.cap.toNat y.1.2.2.2.puts, q, bl y.1.2.1 41 (y.1.2.2.2.ask c).1.v]) ⟨(0, b, cs, M0), hji, hmem⟩ ?hE2 ?hL2 ?round2
      case hE2 => exact Sub.go
      case hL2 => unfold MOp.v; exact Takes.go
      case round2 =>
        rintro ⟨⟨i, b, cs2, m⟩, hji2, hm2⟩ IH2; dsimp only at hji2 hm2 IH2 ⊢
        have hst2 := hji2.steps hf0
        cases hak : (m.ask c).2 with
        | true =>
          rw [hak, if_pos rfl] at hst2
          obtain ⟨hr, hmv, hx2, hj2⟩ := hji2.step hjb.fits hjb.S hak hm2 (by rw [hjb.sq]; exact Nat.le_refl _) (by rw [hjb.who]; exact ⟨Int.le_refl _, by omega⟩)
          rw [hjb.who] at hmv hx2 hj2
          have hd := does_t M cs2 (t + i) (by omega) 0 (m.ask c).1
          have htl := xtell_s X V Pb W c.cap.toNat c hc (.slice j.ad j.code.length j.cap) q j.code hr hcode _ (XJ.runInv (n := i + 1) (ms := ms) (args := j.args) hjb.fits hjb.S hr) m (doOut cs2 0 (m.ask c).1) (fun _ => hx2)
          have hb2 := hj2.block hjr2.vb
          have ha2 := xask_s X V Pb W c hc (.slice j.ad j.code.length j.cap) (m.tell c c.cap.toNat j.code (doOut cs2 0 (m.ask c).1)) ⟨hb2.1, by omega⟩
          generalize m.tell c c.cap.toNat j.code (doOut cs2 0 (m.ask c).1) = m' at htl ha2 hj2
          unfold xsL at htl
          unfold Out.v at hd htl
          unfold MOp.v at hd ha2 IH2 ⊢
          repeat' (first | refine Ga ?_ | (refine Gb ?_; intro b) | (refine Gd ?_; intro g cap rest hcap) | (refine Gc ?_; intro ad cap) | (refine St.draw (id := 26) [(0, 0), (1, 1), (2, 0), (3, 0), (4, 1), (5, 0), (6, 1), (7, 0), (8, 0), (9, 0), (10, 0), (11, 0), (12, 1), (13, 1), (14, 0), (15, 0), (16, 0), (17, 0), (18, 1), (19, 0), (20, 0), (21, 0), (22, 0), (23, 0), (24, 0), (25, 1), (26, 1), (27, 0), (28, 0), (29, 1), (30, 0), (31, 0), (32, 0), (33, 0), (34, 0), (35, 1), (36, 1), (37, 0), (38, 0), (39, 1), (40, 0), (41, 0), (42, 0), (43, 0)] [] mixed (by kernel_rfl) ?_)| refine Gl ha2 ?_ | (refine Gt hd ?_; rintro _ _ ⟨rfl, rfl⟩) | (refine Gt htl ?_; rintro _ _ ⟨rfl, rfl⟩) | (refine Ge ?_ ?_ <;> (intro h; try (exfalso; omega))) | fail)
          all_goals first | (exfalso; omega) | skip
          refine IH2 ⟨(i + 1, b, _, m'), hj2, hmv⟩ (by show 3 * c.fuel.toNat - (i + 1) < 3 * c.fuel.toNat - i; omega) ?_ ?_
          · exact Sub.go
          · exact Ent.go
        | false =>
          clear IH2
          obtain ⟨hs1, ms', hje⟩ := hji2.fin hak
          have hnl := hji2.news (by omega)
          have hmo : MsOk ms := ⟨hjr2.rep.rl, fun p hp => hjr2.rep.len p hp⟩
          have hbk := hjr2.blk
          have hres := xresult_s X V Pb W c (.slice j.ad j.code.length j.cap) m (by omega)
          have hstat := xstatus_s X V Pb W c (.slice j.ad j.code.length j.cap) m
          have hhan := handles_t S ms (by omega)
          rw [hs1] at hstat
          repeat' (first | refine St.halt 24 ?_ |refine Ga ?_ | (refine Gb ?_; intro b) | (refine Gd ?_; intro g cap rest hcap) | (refine Gc ?_; intro ad cap) | (refine St.draw (id := 26) [(0, 0), (1, 1), (2, 0), (3, 0), (4, 1), (5, 0), (6, 1), (7, 0), (8, 0), (9, 0), (10, 0), (11, 0), (12, 1), (13, 1), (14, 0), (15, 0), (16, 0), (17, 0), (18, 1), (19, 0), (20, 0), (21, 0), (22, 0), (23, 0), (24, 0), (25, 1), (26, 1), (27, 0), (28, 0), (29, 1), (30, 0), (31, 0), (32, 0), (33, 0), (34, 0), (35, 1), (36, 1), (37, 0), (38, 0), (39, 1), (40, 0), (41, 0), (42, 0), (43, 0)] [] mixed (by kernel_rfl) ?_) | (refine Gt hres ?_; rintro _ _ ⟨nad, ncap, rfl, rfl⟩) | (refine Ge ?_ ?_ <;> (intro h; try (exfalso; omega))) | fail)
          all_goals first | (exfalso; omega) | skip
          refine Halt.go ?_
          rw [u64s_fl]
          refine St.conv ?_ (Sub.refl _) (Ent.of_take (p := Row (.slice nad m.news.length ncap) 22 1 m.news.length (m.news.flatMap u1V)) Take.go)
          refine St.rowL rfl fun Rn hRn => ?_
          have hrun := qrun_t S hmo hje.run ⟨hf0, by omega⟩ ⟨hw0, by omega⟩ ha4 q Rn (.slice j.ad j.code.length j.cap) hcode (by omega) nad ncap hRn
          have ewr : c.writes = wr := by rw [← hcc]
          have efu : c.fuel = fu := by rw [← hcc]
          rw [ewr, efu] at hrun
          repeat' (first | refine St.halt 26 ?_ |refine Ga ?_ | (refine Gb ?_; intro b) | (refine Gd ?_; intro g cap rest hcap) | (refine Gc ?_; intro ad cap) | (refine St.draw (id := 26) [(0, 0), (1, 1), (2, 0), (3, 0), (4, 1), (5, 0), (6, 1), (7, 0), (8, 0), (9, 0), (10, 0), (11, 0), (12, 1), (13, 1), (14, 0), (15, 0), (16, 0), (17, 0), (18, 1), (19, 0), (20, 0), (21, 0), (22, 0), (23, 0), (24, 0), (25, 1), (26, 1), (27, 0), (28, 0), (29, 1), (30, 0), (31, 0), (32, 0), (33, 0), (34, 0), (35, 1), (36, 1), (37, 0), (38, 0), (39, 1), (40, 0), (41, 0), (42, 0), (43, 0)] [] mixed (by kernel_rfl) ?_) | (refine Gt hhan ?_; rintro _ _ ⟨had, hcap2, rfl, rfl⟩) | (refine Gt hrun ?_; rintro _ _ ⟨st, dw, nad3, ncap3, rfl, rfl⟩) | (refine Ge ?_ ?_ <;> (intro h; try (exfalso; omega))) | fail)
          all_goals first | (exfalso; omega) | skip
          refine Halt.go ?_
          rw [u64s_fl]
          refine St.conv ?_ (Sub.refl _) (Ent.of_take (p := Row (.slice nad3 m.news.length ncap3) 22 1 m.news.length (m.news.flatMap u1V)) Take.go)
          refine St.rowL rfl fun Rm2 hRm2 => ?_
          have hhd := handles_r hRn hRm2 (by omega)
          have hlimr := limit_r c hc c.fr
          have hrds := reads_r q (.slice j.ad j.code.length j.cap) j.code hcode (by omega)
          have hmk2 := wmark_r W c.cap.toNat m.puts
          obtain ⟨fs', ls', hjr3⟩ := hjr2.next hc hjb hje
          have hln2 := hjr2.grow hc hjb hje
          have ebk : c.blocks = bk := by rw [← hcc]
          have h43 : m.x.rc = 43 → bk ≤ ms.blocks.length + m.news.length + c.limit := fun e => by
            rw [← ebk]
            exact hje.mem hc hjr2.rep hjb.F e
          cases hob : onlyB j.code with
          | true =>
            rw [hob] at hrds
            have hpu := hje.only hob
            rw [hpu] at hmk2 hjr3 ⊢
            repeat' (first | refine Ga ?_ | (refine Gb ?_; intro b) | (refine Gd ?_; intro g cap rest hcap) | (refine Gc ?_; intro ad cap) | (refine St.draw (id := 26) [(0, 0), (1, 1), (2, 0), (3, 0), (4, 1), (5, 0), (6, 1), (7, 0), (8, 0), (9, 0), (10, 0), (11, 0), (12, 1), (13, 1), (14, 0), (15, 0), (16, 0), (17, 0), (18, 1), (19, 0), (20, 0), (21, 0), (22, 0), (23, 0), (24, 0), (25, 1), (26, 1), (27, 0), (28, 0), (29, 1), (30, 0), (31, 0), (32, 0), (33, 0), (34, 0), (35, 1), (36, 1), (37, 0), (38, 0), (39, 1), (40, 0), (41, 0), (42, 0), (43, 0)] [] mixed (by kernel_rfl) ?_)| refine Gl hstat ?_ | refine Gl hhd ?_ | refine Gl hlimr ?_ | refine Gl hrds ?_ | refine Gl hmk2 ?_ | (refine Ge ?_ ?_ <;> (intro h; try (exfalso; omega))) | fail)
            all_goals first | (exfalso; omega) | (exfalso; simp at h; done) | (exfalso; have := h43 (by assumption); omega) | skip
            all_goals refine IH ⟨⟨k + 1, t + i, cs2, ms', P, m.p, m.v⟩, ⟨hlt, by dsimp only; omega, ⟨fs', ls', hjr3⟩, hm2, by dsimp only; omega⟩⟩ (by show jobs.length - (k + 1) < jobs.length - k; omega) ?_ ?_
            all_goals first | (exact Sub.go) | (exact Ent.go)
          | false =>
            rw [hob] at hrds
            repeat' (first | refine Ga ?_ | (refine Gb ?_; intro b) | (refine Gd ?_; intro g cap rest hcap) | (refine Gc ?_; intro ad cap) | (refine St.draw (id := 26) [(0, 0), (1, 1), (2, 0), (3, 0), (4, 1), (5, 0), (6, 1), (7, 0), (8, 0), (9, 0), (10, 0), (11, 0), (12, 1), (13, 1), (14, 0), (15, 0), (16, 0), (17, 0), (18, 1), (19, 0), (20, 0), (21, 0), (22, 0), (23, 0), (24, 0), (25, 1), (26, 1), (27, 0), (28, 0), (29, 1), (30, 0), (31, 0), (32, 0), (33, 0), (34, 0), (35, 1), (36, 1), (37, 0), (38, 0), (39, 1), (40, 0), (41, 0), (42, 0), (43, 0)] [] mixed (by kernel_rfl) ?_)| refine Gl hstat ?_ | refine Gl hhd ?_ | refine Gl hlimr ?_ | refine Gl hrds ?_ | refine Gl hmk2 ?_ | (refine Ge ?_ ?_ <;> (intro h; try (exfalso; omega))) | fail)
            all_goals first | (exfalso; omega) | (exfalso; simp at h; done) | (exfalso; have := h43 (by assumption); omega) | skip
            all_goals refine IH ⟨⟨k + 1, t + i, cs2, ms', m.puts, m.p, m.v⟩, ⟨hlt, by dsimp only; omega, ⟨fs', ls', hjr3⟩, hm2, by dsimp only; omega⟩⟩ (by show jobs.length - (k + 1) < jobs.length - k; omega) ?_ ?_
            all_goals first | (exact Sub.go) | (exact Ent.go)
    · obtain rfl : k = jobs.length := by omega
      clear IH
      have hPl := hjr2.room hc (by omega) (by omega)
      have hfz := hjr2.rep.fsz
      have hlz := hjr2.rep.lsz
      have hnt := hjr2.nt
      have hnl := hjr2.nl
      have hmf := hjr2.fin hc (by omega) (by omega) hmem hms0.top hms0.lim (sq' := 1) (Nat.zero_le _)
      have hend := pend_x Pb W c.cap.toNat c hc p P (by omega) (by omega) (by omega)
      have hall := wall_t W c.cap.toNat (endP c c.cap.toNat p P)
      have hget := fun a => wget_r W c.cap.toNat (endP c c.cap.toNat p P) a
      have hAl : (allP (endP c c.cap.toNat p P)).length ≤ 1000000000 := by
        have h1 := allP_len (endP c c.cap.toNat p P)
        have h2 := endP_len c c.cap.toNat p P
        omega
      generalize endP c c.cap.toNat p P = P2 at hend hall hget hmf hAl
      generalize hA : allP P2 = A at hall hget hmf hAl
      repeat' (first | refine Ga ?_ | (refine Gb ?_; intro b) | (refine Gd ?_; intro g cap rest hcap) | (refine Gc ?_; intro ad cap) | (refine St.draw (id := 26) [(0, 0), (1, 1), (2, 0), (3, 0), (4, 1), (5, 0), (6, 1), (7, 0), (8, 0), (9, 0), (10, 0), (11, 0), (12, 1), (13, 1), (14, 0), (15, 0), (16, 0), (17, 0), (18, 1), (19, 0), (20, 0), (21, 0), (22, 0), (23, 0), (24, 0), (25, 1), (26, 1), (27, 0), (28, 0), (29, 1), (30, 0), (31, 0), (32, 0), (33, 0), (34, 0), (35, 1), (36, 1), (37, 0), (38, 0), (39, 1), (40, 0), (41, 0), (42, 0), (43, 0)] [] mixed (by kernel_rfl) ?_) | (refine Gt hend ?_; rintro _ _ ⟨rfl, rfl⟩) | (refine Gt hall ?_; rintro _ _ ⟨aad, acap, rfl, rfl⟩) | (refine Ge ?_ ?_ <;> (intro h; try (exfalso; omega))) | fail)
      refine St.conv ?_ (Sub.refl _) (Ent.of_take (p := Row (.slice aad A.length acap) 119 2 A.length (A.flatMap entV)) Take.go)
      refine St.rowL rfl fun RE hRE => ?_
      obtain ⟨aad2, acap2, e2, _⟩ := id hRE
      injection e2 with e2a e2b e2c
      subst e2a e2c
      refine St.loopY (Lr := ?Lr3) (ι := { x : Nat // x ≤ A.length }) (fun x => A.length - x.1) (fun x => [(164, .int .i64 (x.1 : Int))]) (fun x => [Ml M (wrote c A 1 (A.take x.1) cs) t]) ⟨0, Nat.zero_le _⟩ ?hE3 ?hL3 ?round3
      case hE3 => exact Sub.go
      case hL3 => exact Takes.go
      case round3 =>
        rintro ⟨x, hx⟩ IH3; dsimp only at hx IH3 ⊢
        by_cases hxl : x < A.length
        · obtain ⟨lb, lo, ll, l1, rfl, hrd, hdr, htk⟩ := hRE.at' entV_len x hxl
          have hnx : wrote c A 1 (A.take (x + 1)) cs = setE c A 1 (wrote c A 1 (A.take x) cs) A[x] := by
            rw [List.take_succ_eq_append_getElem hxl]
            unfold wrote
            rw [List.foldl_append]; rfl
          generalize A[x] = e at htk hnx
          obtain ⟨a, v2⟩ := e
          unfold entV at htk
          dsimp only at htk
          have hwh := what_r c hc a
          have hat1 := at_r c hc 11 (c.what a).2.1 0
          have hget := hget (c.at 11 (c.what a).2.1 0)
          have hmset := mset_x M (wrote c A 1 (A.take x) cs) t a ⟨v2, 1⟩
          unfold Cell.v at hmset
          dsimp only at hmset
          unfold setE skipB at hnx
          dsimp only at hnx
          generalize c.at 11 (c.what a).2.1 0 = al at hat1 hget hnx
          generalize c.what a = wa at hwh hat1 hnx
          obtain ⟨wk, wb, wj⟩ := wa
          dsimp only at hwh hat1 hnx
          by_cases h16 : wk = 16
          · subst h16
            cases hlf : mget A al with
            | none =>
              rw [hlf] at hget hnx
              replace hnx := hnx.trans (if_neg (by decide))
              rw [← hnx] at hmset
              simp only [Option.isSome_none, Option.getD_none] at hget
              repeat' (first | refine Ga ?_ | (refine Gb ?_; intro b) | (refine Gd ?_; intro g cap rest hcap) | (refine Gc ?_; intro ad cap) | (refine St.draw (id := 26) [(0, 0), (1, 1), (2, 0), (3, 0), (4, 1), (5, 0), (6, 1), (7, 0), (8, 0), (9, 0), (10, 0), (11, 0), (12, 1), (13, 1), (14, 0), (15, 0), (16, 0), (17, 0), (18, 1), (19, 0), (20, 0), (21, 0), (22, 0), (23, 0), (24, 0), (25, 1), (26, 1), (27, 0), (28, 0), (29, 1), (30, 0), (31, 0), (32, 0), (33, 0), (34, 0), (35, 1), (36, 1), (37, 0), (38, 0), (39, 1), (40, 0), (41, 0), (42, 0), (43, 0)] [] mixed (by kernel_rfl) ?_)| refine Gl hwh ?_ | refine Gl hat1 ?_ | refine Gl hget ?_ | (refine Gt hmset ?_; rintro _ _ ⟨er, rfl, rfl⟩) | (refine Ge ?_ ?_ <;> (intro h; try (exfalso; omega))) | fail)
              all_goals first | (exfalso; omega) | skip
              refine IH3 ⟨x + 1, hxl⟩ (by show A.length - (x + 1) < A.length - x; omega) ?_ ?_
              · exact Sub.go
              · exact Ent.go
            | some life =>
              rw [hlf] at hget hnx
              simp only [Option.isSome_some, Option.getD_some] at hget hnx
              by_cases hl1 : life = 1
              · subst hl1
                replace hnx := hnx.trans (if_neg (by decide))
                rw [← hnx] at hmset
                repeat' (first | refine Ga ?_ | (refine Gb ?_; intro b) | (refine Gd ?_; intro g cap rest hcap) | (refine Gc ?_; intro ad cap) | (refine St.draw (id := 26) [(0, 0), (1, 1), (2, 0), (3, 0), (4, 1), (5, 0), (6, 1), (7, 0), (8, 0), (9, 0), (10, 0), (11, 0), (12, 1), (13, 1), (14, 0), (15, 0), (16, 0), (17, 0), (18, 1), (19, 0), (20, 0), (21, 0), (22, 0), (23, 0), (24, 0), (25, 1), (26, 1), (27, 0), (28, 0), (29, 1), (30, 0), (31, 0), (32, 0), (33, 0), (34, 0), (35, 1), (36, 1), (37, 0), (38, 0), (39, 1), (40, 0), (41, 0), (42, 0), (43, 0)] [] mixed (by kernel_rfl) ?_)| refine Gl hwh ?_ | refine Gl hat1 ?_ | refine Gl hget ?_ | (refine Gt hmset ?_; rintro _ _ ⟨er, rfl, rfl⟩) | (refine Ge ?_ ?_ <;> (intro h; try (exfalso; omega))) | fail)
                all_goals first | (exfalso; omega) | (exfalso; simp at h; done) | skip
                refine IH3 ⟨x + 1, hxl⟩ (by show A.length - (x + 1) < A.length - x; omega) ?_ ?_
                · exact Sub.go
                · exact Ent.go
              · replace hnx := hnx.trans (if_pos (by simp [hl1]))
                rw [← hnx]
                have hl1' : ¬ ((life : Nat) : Int) = 1 := by omega
                repeat' (first | refine Ga ?_ | (refine Gb ?_; intro b) | (refine Gd ?_; intro g cap rest hcap) | (refine Gc ?_; intro ad cap) | (refine St.draw (id := 26) [(0, 0), (1, 1), (2, 0), (3, 0), (4, 1), (5, 0), (6, 1), (7, 0), (8, 0), (9, 0), (10, 0), (11, 0), (12, 1), (13, 1), (14, 0), (15, 0), (16, 0), (17, 0), (18, 1), (19, 0), (20, 0), (21, 0), (22, 0), (23, 0), (24, 0), (25, 1), (26, 1), (27, 0), (28, 0), (29, 1), (30, 0), (31, 0), (32, 0), (33, 0), (34, 0), (35, 1), (36, 1), (37, 0), (38, 0), (39, 1), (40, 0), (41, 0), (42, 0), (43, 0)] [] mixed (by kernel_rfl) ?_)| refine Gl hwh ?_ | refine Gl hat1 ?_ | refine Gl hget ?_ | (refine Ge ?_ ?_ <;> (intro h; try (exfalso; omega))) | fail)
                all_goals first | (exfalso; omega) | (exfalso; exact h (beq_eq_false_iff_ne.2 hl1')) | (exfalso; simp at h; omega) | skip
                refine IH3 ⟨x + 1, hxl⟩ (by show A.length - (x + 1) < A.length - x; omega) ?_ ?_
                · exact Sub.go
                · exact Ent.go
          · replace hnx := hnx.trans (if_neg (by simp [h16]))
            rw [← hnx] at hmset
            repeat' (first | refine Ga ?_ | (refine Gb ?_; intro b) | (refine Gd ?_; intro g cap rest hcap) | (refine Gc ?_; intro ad cap) | (refine St.draw (id := 26) [(0, 0), (1, 1), (2, 0), (3, 0), (4, 1), (5, 0), (6, 1), (7, 0), (8, 0), (9, 0), (10, 0), (11, 0), (12, 1), (13, 1), (14, 0), (15, 0), (16, 0), (17, 0), (18, 1), (19, 0), (20, 0), (21, 0), (22, 0), (23, 0), (24, 0), (25, 1), (26, 1), (27, 0), (28, 0), (29, 1), (30, 0), (31, 0), (32, 0), (33, 0), (34, 0), (35, 1), (36, 1), (37, 0), (38, 0), (39, 1), (40, 0), (41, 0), (42, 0), (43, 0)] [] mixed (by kernel_rfl) ?_)| refine Gl hwh ?_ | (refine Gt hmset ?_; rintro _ _ ⟨er, rfl, rfl⟩) | (refine Ge ?_ ?_ <;> (intro h; try (exfalso; omega))) | fail)
            all_goals first | (exfalso; omega) | (exfalso; simp at h; omega) | skip
            refine IH3 ⟨x + 1, hxl⟩ (by show A.length - (x + 1) < A.length - x; omega) ?_ ?_
            · exact Sub.go
            · exact Ent.go
        · obtain rfl : x = A.length := by omega
          clear IH3
          rw [List.take_length]
          have hho := holds_t M S c hc hmf t
          repeat' (first | refine Ga ?_ | (refine Gb ?_; intro b) | (refine Gd ?_; intro g cap rest hcap) | (refine Gc ?_; intro ad cap) | (refine St.draw (id := 26) [(0, 0), (1, 1), (2, 0), (3, 0), (4, 1), (5, 0), (6, 1), (7, 0), (8, 0), (9, 0), (10, 0), (11, 0), (12, 1), (13, 1), (14, 0), (15, 0), (16, 0), (17, 0), (18, 1), (19, 0), (20, 0), (21, 0), (22, 0), (23, 0), (24, 0), (25, 1), (26, 1), (27, 0), (28, 0), (29, 1), (30, 0), (31, 0), (32, 0), (33, 0), (34, 0), (35, 1), (36, 1), (37, 0), (38, 0), (39, 1), (40, 0), (41, 0), (42, 0), (43, 0)] [] mixed (by kernel_rfl) ?_) | (refine Gt hho ?_; rintro _ _ ⟨rfl, rfl⟩) | (refine Ge ?_ ?_ <;> (intro h; try (exfalso; omega))) | fail)
          all_goals first | (exfalso; omega) | skip
          exact St.d1 Tryz.func9 ⟨_, ⟨rfl, rfl⟩, Ent.go⟩
end
end Go.Proofs.YthmbgodcpgkkeaaGreat
end
