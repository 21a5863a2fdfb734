/-
  Package tumblerlaw11: alive. Package tumblerlaw11: few. Package tumblerlaw11: handles, same.
-/
import Derived.Test.YthmbgodcpgkkeaaGreatLxc
section
namespace Go.Proofs.YthmbgodcpgkkeaaGreat
set_option maxRecDepth 100000
theorem at393 : cfg0.at 13 2 0 = 393 := by kernel_rfl
theorem at371 : cfg0.at 10 0 0 = 371 := by kernel_rfl
theorem at440 : cfg0.at 16 0 3 = 440 := by kernel_rfl
theorem Tri.row_out {P : Program} {f : FuncId} {args : Array Value} {L : List HProp} {A : HProp} {g1 : Value → Value} {e sz n : Nat} {xs : List Value} (hn : 0 < n)
    (h : Tri P f args L fun r L' => ∃ ad cap, r = g1 (.slice ad n cap) ∧ L' = [A, Row (.slice ad n cap) e sz n xs]) :
    Tri P f args L fun r L' => ∃ g cap rest, r = g1 (.slice (some ⟨g, 0, none⟩) n cap) ∧ L' = [A, Go.Proofs.YthmbgodcpgkkeaaGreat.bl g e (xs ++ rest)] := by
  unfold Tri at *
  intro w F hs
  refine (h w F hs).mono ?_
  rintro e' w' ⟨v, L', he, ⟨ad, cap, rfl, rfl⟩, hs', ho⟩
  rw [List.cons_append, List.cons_append, List.nil_append] at hs'
  obtain ⟨h1, h2, hd, hor, hA, hs'⟩ := sat_cons.1 hs'
  obtain ⟨h3, h4, hd', hor', hR, hF⟩ := sat_cons.1 hs'
  unfold Row at hR
  obtain ⟨_, ⟨_, h0⟩ | ⟨g, cap', cur, hv, hc, _, _, htk, hp⟩⟩ := hR
  · omega
  · injection hv with hv1 _ hv3
    subst hv1 hv3
    refine ⟨_, _, he, ⟨g, _, cur.toList.drop (n * sz), rfl, rfl⟩, ?_, ho⟩
    rw [List.cons_append, List.cons_append, List.nil_append]
    refine sat_cons.2 ⟨h1, h2, hd, hor, hA, sat_cons.2 ⟨h3, h4, hd', hor', ?_, hF⟩⟩
    rw [← htk, List.take_append_drop]
    exact hp
set_option maxHeartbeats 600000 in
theorem alive_t : Tri Tryz.prog 15 #[] [] fun v L => v = .bool true ∧ L = [] := by
  have hr : cfg0.right = true := by decide +kernel
  have hof := of_r cfg0
  unfold Cfg.ofV at hof
  rw [hr] at hof
  have h1 := at_r cfg0 small0 13 2 0
  have h2 := at_r cfg0 small0 10 0 0
  have h3 := at_r cfg0 small0 16 0 3
  rw [at393] at h1
  rw [at371] at h2
  rw [at440] at h3
  have hb : Tri _ _ _ _ (fun v L => ∃ M, v = .pointer (some ⟨M, 0, none⟩) ∧ L = [Ml M cs0 0]) := bootl_t cfg0 small0
  have hx0 := fun V Pb W b => xnew_s V Pb W 100 cfg0 small0 (.slice (some ⟨b, 0, none⟩) 6 6) (bl b 200 (code0.flatMap Ins.v)) code0 (InsR.bl b 200 6 code0) (Vw.new 1 0) po4 [] argsz (by decide) _ (run_inv' begin0 100 · 0) (fun _ => inv0)
  rw [start0] at hx0
  have ha0 := fun X V Pb W cv => xask_s X V Pb W cfg0 small0 cv xm0 (by decide)
  rw [xask0] at ha0
  have ha1 := fun X V Pb W cv => xask_s X V Pb W cfg0 small0 cv xm1 (by decide)
  rw [xask1] at ha1
  have ha2 := fun X V Pb W cv => xask_s X V Pb W cfg0 small0 cv xm2 (by decide)
  rw [xask2] at ha2
  have hd0 := fun M => does_t M cs0 4 (by decide) 1 (mop 0 393 0)
  rw [xout0, xmem0] at hd0
  have hd1 := fun M => does_t M cs0 5 (by decide) 1 (mop 0 371 0)
  rw [xout1, xmem1] at hd1
  have ht0 := fun X V Pb W b => xtell_s X V Pb W 100 cfg0 small0 (.slice (some ⟨b, 0, none⟩) 6 6) (bl b 200 (code0.flatMap Ins.v)) code0 right0 (InsR.bl b 200 6 code0) _ (run_inv' begin0 100 right0 1) xm0 oA (fun _ => inv0t)
  rw [xtell0] at ht0
  have ht1 := fun X V Pb W b => xtell_s X V Pb W 100 cfg0 small0 (.slice (some ⟨b, 0, none⟩) 6 6) (bl b 200 (code0.flatMap Ins.v)) code0 right0 (InsR.bl b 200 6 code0) _ (run_inv' begin0 100 right0 2) xm1 oA (fun _ => inv1t)
  rw [xtell1] at ht1
  have hs0 : ∀ X V Pb W cv, RTri Tryz.prog 30 #[.pointer (some ⟨X, 0, none⟩)] [Xe X cfg0 cv V Pb W xm0.x xm0.news] (.int .i64 0) := fun X V Pb W cv => xstatus_s X V Pb W cfg0 cv xm0
  have hs2 : ∀ X V Pb W cv, RTri Tryz.prog 30 #[.pointer (some ⟨X, 0, none⟩)] [Xe X cfg0 cv V Pb W xm2.x xm2.news] (.int .i64 1) := fun X V Pb W cv => xstatus_s X V Pb W cfg0 cv xm2
  have hr2 : ∀ X V Pb W cv, Tri Tryz.prog 31 #[.pointer (some ⟨X, 0, none⟩)] [Xe X cfg0 cv V Pb W xm2.x xm2.news] fun r L => ∃ ad cap rest, r = .tuple ⟨[.agg ⟨[.int .i64 0, .int .u64 7]⟩, .slice (some ⟨ad, 0, none⟩) 1 cap]⟩ ∧ L = [Xe X cfg0 cv V Pb W xm2.x xm2.news, bl ad 22 (.int .u64 1 :: rest)] :=
    fun X V Pb W cv => Tri.row_out (g1 := fun s => .tuple ⟨[.agg ⟨[.int .i64 0, .int .u64 7]⟩, s]⟩) (e := 22) (sz := 1) (n := 1) (xs := [.int .u64 1]) (by decide) (xresult_s X V Pb W cfg0 cv xm2 (by decide))
  have hr3 : ∀ X V Pb W cv, Tri Tryz.prog 31 #[.pointer (some ⟨X, 0, none⟩)] [Xe X cfg0 cv V Pb W xm3.x xm3.news] fun r L => ∃ ad cap, r = .tuple ⟨[.agg ⟨[.int .i64 40, .int .u64 5]⟩, .slice ad 0 cap]⟩ ∧ L = [Xe X cfg0 cv V Pb W xm3.x xm3.news, Row (.slice ad 0 cap) 22 1 0 []] :=
    fun X V Pb W cv => xresult_s X V Pb W cfg0 cv xm3 (by decide)
  have hg := fun W => wget_r W 100 xm2.puts 440
  rw [got2] at hg
  have hx1 := fun V Pb W b => xnew_s V Pb W 100 cfg0 small0 (.slice (some ⟨b, 0, none⟩) 1 1) (bl b 200 (code1.flatMap Ins.v)) code1 (InsR.bl b 200 1 code1) xm2.v xm2.p xm2.puts argsz (by decide) _ (run_inv' begin1 100 · 0) (fun _ => inv1)
  rw [start1] at hx1
  unfold xsL at hx0 hx1 ht0 ht1
  refine Tri.of_body (vs := []) Tryz.func15 rfl rfl fun w0 F => ?_
  repeat' (first | refine Ga ?_ | (refine Gb ?_; intro b) | (refine Gd ?_; intro g cap rest hcap) | (refine Gc ?_; intro ad cap) | (refine St.draw (id := 23) [(0, 0), (1, 0), (2, 0), (3, 1), (4, 1), (5, 1), (6, 0), (7, 0), (8, 0), (9, 0), (10, 0), (11, 0), (12, 0), (13, 1), (14, 1), (15, 1), (16, 0), (17, 0), (18, 0), (19, 0), (20, 0), (21, 0), (22, 0), (23, 0), (24, 1), (25, 0), (26, 0), (27, 0), (28, 1), (29, 0), (30, 0), (31, 0), (32, 0), (33, 0), (34, 0), (35, 0), (36, 0), (37, 0), (38, 0), (39, 0), (40, 1), (41, 0), (42, 0), (43, 0), (44, 0), (45, 0), (46, 0), (47, 0), (48, 0), (49, 0), (50, 0), (51, 1), (52, 0), (53, 0), (54, 0), (55, 0)] [] mixed (by kernel_rfl) ?_)| refine Gl sample_r ?_ | refine Gl hof ?_ | (refine Gt hb ?_; rintro _ _ ⟨M, rfl, rfl⟩) | (refine Gt (wnew_t 100 (by decide)) ?_; rintro _ _ ⟨W, rfl, rfl⟩) | (refine Gt (vnew_t cfg0 1 0) ?_; rintro _ _ ⟨V, rfl, rfl⟩) | (refine Gt (pnew_t cfg0 0) ?_; rintro _ _ ⟨Pd, rfl, rfl⟩) | (refine Gt mnew0_t ?_; rintro _ _ ⟨⟨S, rfl⟩, rfl⟩) | (refine Gt (settled_t _ _) ?_; rintro _ _ ⟨Pb, rfl, rfl⟩) | (refine Ge ?_ ?_ <;> (intro h; try (exfalso; omega))) | fail)
  have ha0 := fun X => ha0 X V Pb W (.slice (some ⟨b, 0, none⟩) 6 6)
  have ha1 := fun X => ha1 X V Pb W (.slice (some ⟨b, 0, none⟩) 6 6)
  have ha2 := fun X => ha2 X V Pb W (.slice (some ⟨b, 0, none⟩) 6 6)
  have hs0 := fun X => hs0 X V Pb W (.slice (some ⟨b, 0, none⟩) 6 6)
  have hs2 := fun X => hs2 X V Pb W (.slice (some ⟨b, 0, none⟩) 6 6)
  have hr2 := fun X => hr2 X V Pb W (.slice (some ⟨b, 0, none⟩) 6 6)
  have ht0 := fun X => ht0 X V Pb W b
  have ht1 := fun X => ht1 X V Pb W b
  have hx0 := hx0 V Pb W b
  repeat' (first | refine Ga ?_ | (refine Gb ?_; intro b) | (refine Gd ?_; intro g cap rest hcap) | (refine Gc ?_; intro ad cap) | (refine St.draw (id := 23) [(0, 0), (1, 0), (2, 0), (3, 1), (4, 1), (5, 1), (6, 0), (7, 0), (8, 0), (9, 0), (10, 0), (11, 0), (12, 0), (13, 1), (14, 1), (15, 1), (16, 0), (17, 0), (18, 0), (19, 0), (20, 0), (21, 0), (22, 0), (23, 0), (24, 1), (25, 0), (26, 0), (27, 0), (28, 1), (29, 0), (30, 0), (31, 0), (32, 0), (33, 0), (34, 0), (35, 0), (36, 0), (37, 0), (38, 0), (39, 0), (40, 1), (41, 0), (42, 0), (43, 0), (44, 0), (45, 0), (46, 0), (47, 0), (48, 0), (49, 0), (50, 0), (51, 1), (52, 0), (53, 0), (54, 0), (55, 0)] [] mixed (by kernel_rfl) ?_)| refine Gl h3 ?_ | refine Gl (ha0 _) ?_ | refine Gl (ha1 _) ?_ | refine Gl (ha2 _) ?_ | refine Gl (hs0 _) ?_ | refine Gl (hg _) ?_ | (refine Gt hx0 ?_; rintro _ _ ⟨X, rfl, rfl⟩) | (refine Gt (hd0 _) ?_; rintro _ _ ⟨rfl, rfl⟩) | (refine Gt (ht0 _) ?_; rintro _ _ ⟨rfl, rfl⟩) | (refine Gt (hd1 _) ?_; rintro _ _ ⟨rfl, rfl⟩) | (refine Gt (ht1 _) ?_; rintro _ _ ⟨rfl, rfl⟩) | (refine Gt (hr2 _) ?_; rintro _ _ ⟨ng, ncap, nrest, rfl, rfl⟩) | (refine Ge ?_ ?_ <;> (intro h; try (exfalso; omega))) | fail)
  have hx1 := hx1 V Pb W b
  have hr3 := fun X => hr3 X V Pb W (.slice (some ⟨b, 0, none⟩) 1 1)
  repeat' (first | refine Ga ?_ | (refine Gb ?_; intro b) | (refine Gd ?_; intro g cap rest hcap) | (refine Gc ?_; intro ad cap) | (refine St.draw (id := 23) [(0, 0), (1, 0), (2, 0), (3, 1), (4, 1), (5, 1), (6, 0), (7, 0), (8, 0), (9, 0), (10, 0), (11, 0), (12, 0), (13, 1), (14, 1), (15, 1), (16, 0), (17, 0), (18, 0), (19, 0), (20, 0), (21, 0), (22, 0), (23, 0), (24, 1), (25, 0), (26, 0), (27, 0), (28, 1), (29, 0), (30, 0), (31, 0), (32, 0), (33, 0), (34, 0), (35, 0), (36, 0), (37, 0), (38, 0), (39, 0), (40, 1), (41, 0), (42, 0), (43, 0), (44, 0), (45, 0), (46, 0), (47, 0), (48, 0), (49, 0), (50, 0), (51, 1), (52, 0), (53, 0), (54, 0), (55, 0)] [] mixed (by kernel_rfl) ?_)| refine Gl h1 ?_ | refine Gl h2 ?_ | refine Gl (hs2 _) ?_ | (refine Gt hx1 ?_; rintro _ _ ⟨Y, rfl, rfl⟩) | (refine Gt (hr3 _) ?_; rintro _ _ ⟨mad, mcap, rfl, rfl⟩) | (refine Ge ?_ ?_ <;> (intro h; try (exfalso; omega))) | fail)
  refine St.d1 Tryz.func15 ?_; apply Exists.intro; apply And.intro; exact ⟨rfl, rfl⟩; exact Ent.go
end Go.Proofs.YthmbgodcpgkkeaaGreat
end
section
namespace Go.Proofs.YthmbgodcpgkkeaaGreat
set_option maxRecDepth 100000
/-- a program, where it lies, and its arguments -/
structure Jb where
  ad : Option Addr
  cap : Nat
  code : List Ins
  args : List Nat
def Jb.cv (j : Jb) : Value := .slice j.ad j.code.length j.cap
def Jb.v (j : Jb) : List Value := .slice j.ad j.code.length j.cap :: g4 j.args
theorem Jb.v_len (j : Jb) : j.v.length = 5 := rfl
/-- a slice of programs that can be read -/
def JobsR (q : HProp) (v : Value) (jobs : List Jb) : Prop :=
  ∃ ad cap, v = .slice ad jobs.length cap ∧ (jobs.length = 0 ∨ ∃ b o l rest, ad = some ⟨b, o, none⟩ ∧ RdC q b l ∧ DropN o l (jobs.flatMap Jb.v ++ rest))
theorem JobsR.at {q : HProp} {ad : Option Addr} {jobs : List Jb} (h : jobs.length = 0 ∨ ∃ b o l rest, ad = some ⟨b, o, none⟩ ∧ RdC q b l ∧ DropN o l (jobs.flatMap Jb.v ++ rest)) (i : Nat) (hi : i < jobs.length) :
    ∃ b o l l1, ad = some ⟨b, o, none⟩ ∧ RdC q b l ∧ DropN (o + (i : Int).toNat * 5) l l1 ∧ TakeN 5 l1 jobs[i].v := by
  rcases h with h | ⟨b, o, l, rest, h1, h2, h3⟩
  · omega
  · refine ⟨b, o, l, jobs[i].v ++ (jobs.drop (i + 1)).flatMap Jb.v ++ rest, h1, h2, h3.add ((DropN.flat Jb.v_len hi).more rest), ?_⟩
    rw [List.append_assoc]; exact TakeN.app jobs[i].v _
def shortB (jobs : List Jb) : Bool := jobs.all fun j => decide (j.code.length ≤ 40)
def fewB (c : Cfg) (jobs : List Jb) : Bool := shortB jobs && (c.right && decide (c.fuel ≤ 200) && decide (jobs.length ≤ 6))
theorem few_r (c : Cfg) (q : HProp) (v : Value) (jobs : List Jb) (hv : JobsR q v jobs) (hn : jobs.length ≤ 9223372036854775807) : RTri Tryz.prog 16 #[.agg ⟨c.v⟩, v] [q] (.bool (fewB c jobs)) := by
  apply RTri.of_reads
  intro p hp
  have hr0 := rright_r c
  have hv' : JobsR p v jobs := by
    obtain ⟨ad, cap, rfl, hr⟩ := hv
    refine ⟨ad, cap, rfl, ?_⟩
    rcases hr with hr | ⟨b, o, l, rest, h1, h2, h3⟩
    · exact .inl hr
    · exact .inr ⟨b, o, l, rest, h1, RdC.of_sat hp (ReadsC.here h2), h3⟩
  obtain ⟨ad, cap, rfl, hr⟩ := hv'
  refine Tri.of_body (vs := [_, _]) Tryz.func16 rfl rfl fun w0 F => ?_
  repeat' (first | refine Ga ?_ | (refine Gb ?_; intro b) | (refine Gd ?_; intro g cap rest hcap) | (refine Gc ?_; intro ad cap)  | (refine Ge ?_ ?_ <;> (intro h; try (exfalso; omega))) | fail)
  refine St.loopX (Lr := ?Lr) (ι := { k : Nat // k ≤ jobs.length ∧ shortB jobs = shortB (jobs.drop k) }) (fun k => jobs.length - k.1)
    (fun k => [(9, .int .i64 (k.1 : Int))]) (fun k => []) ⟨0, Nat.zero_le _, rfl⟩ ?hE ?hL ?round
  case hE => exact Sub.go
  case hL => exact Ent.go
  case round =>
    rintro ⟨k, hk, hgo⟩ IH; dsimp only at hk hgo ⊢
    by_cases hlt : k < jobs.length
    · obtain ⟨bj, o, l, l1, rfl, hrd, hdr, htk⟩ := JobsR.at hr k hlt
      rw [List.drop_eq_getElem_cons hlt] at hgo
      by_cases he : jobs[k].code.length ≤ 40
      · repeat' (first | refine Ga ?_ | (refine Gb ?_; intro b) | (refine Gd ?_; intro g cap rest hcap) | (refine Gc ?_; intro ad cap)  | (refine Ge ?_ ?_ <;> (intro h; try (exfalso; omega))) | fail)
        refine IH ⟨k + 1, hlt, ?_⟩ (by show _ - (k + 1) < _ - k; omega) ?_ ?_
        · rw [hgo]; unfold shortB; rw [List.all_cons, decide_eq_true he, Bool.true_and]
        · exact Sub.go
        · exact Ent.go
      · have e : fewB c jobs = false := by
          unfold fewB
          rw [hgo]; unfold shortB; rw [List.all_cons, decide_eq_false he]; rfl
        rw [e]
        repeat' (first | refine Ga ?_ | (refine Gb ?_; intro b) | (refine Gd ?_; intro g cap rest hcap) | (refine Gc ?_; intro ad cap)  | (refine Ge ?_ ?_ <;> (intro h; try (exfalso; omega))) | fail)
        (first | refine St.dn Tryz.func16 ⟨?_, rfl⟩ Ent.go | refine St.fl Tryz.func16 ⟨?_, rfl⟩ Ent.go)
        rfl
    · have e : fewB c jobs = (c.right && decide (c.fuel ≤ 200) && decide (jobs.length ≤ 6)) := by
        unfold fewB
        rw [hgo, List.drop_eq_nil_of_le (by omega)]; rfl
      rw [e]
      clear IH
      cases hcr : c.right with
      | false =>
        rw [hcr] at hr0
        repeat' (first | refine Ga ?_ | (refine Gb ?_; intro b) | (refine Gd ?_; intro g cap rest hcap) | (refine Gc ?_; intro ad cap) | refine Gl hr0 ?_ | (refine Ge ?_ ?_ <;> (intro h; try (exfalso; omega))) | fail)
        (first | refine St.dn Tryz.func16 ⟨?_, rfl⟩ Ent.go | refine St.fl Tryz.func16 ⟨?_, rfl⟩ Ent.go)
        rfl
      | true =>
        rw [hcr] at hr0
        by_cases hf : c.fuel ≤ 200
        · repeat' (first | refine Ga ?_ | (refine Gb ?_; intro b) | (refine Gd ?_; intro g cap rest hcap) | (refine Gc ?_; intro ad cap) | refine Gl hr0 ?_ | (refine Ge ?_ ?_ <;> (intro h; try (exfalso; omega))) | fail)
          all_goals (first | refine St.dn Tryz.func16 ⟨?_, rfl⟩ Ent.go | refine St.fl Tryz.func16 ⟨?_, rfl⟩ Ent.go)
          all_goals refine congrArg Value.bool ?_
          all_goals rw [decide_eq_true hf, Bool.true_and, Bool.true_and, decide_eq_decide]
          all_goals omega
        · rw [decide_eq_false hf]
          repeat' (first | refine Ga ?_ | (refine Gb ?_; intro b) | (refine Gd ?_; intro g cap rest hcap) | (refine Gc ?_; intro ad cap) | refine Gl hr0 ?_ | (refine Ge ?_ ?_ <;> (intro h; try (exfalso; omega))) | fail)
          all_goals (first | refine St.dn Tryz.func16 ⟨?_, rfl⟩ Ent.go | refine St.fl Tryz.func16 ⟨?_, rfl⟩ Ent.go)
          all_goals rfl
end Go.Proofs.YthmbgodcpgkkeaaGreat
end
section
namespace Go.Proofs.YthmbgodcpgkkeaaGreat
set_option maxRecDepth 100000
section
variable {qa qb : HProp} {va vb : Value}
set_option maxHeartbeats 1000000 in
theorem handles_r {xs : List Nat} (ha : ListR u1V qa va xs) (hb : ListR u1V qb vb xs) (hn : xs.length ≤ 1000000) : RTri Tryz.prog 32 #[va, vb] [qa, qb] (.bool true) := by
  refine RTri.of_reads fun p hp => ?_
  replace ha := ha.weak fun b l h => RdC.of_sat hp (ReadsC.here h)
  replace hb := hb.weak fun b l h => RdC.of_sat hp (ReadsC.there (ReadsC.here h))
  obtain ⟨aad, acp, rfl, _⟩ := id ha
  obtain ⟨bad, bcp, rfl, _⟩ := id hb
  refine Tri.of_body (vs := [_, _]) Tryz.func32 rfl rfl fun w0 F => ?_
  repeat' (first | refine Ga ?_ | (refine Gb ?_; intro b) | (refine Gd ?_; intro g cap rest hcap) | (refine Gc ?_; intro ad cap)  | (refine Ge ?_ ?_ <;> (intro h; try (exfalso; omega))) | fail)
  all_goals first | (exfalso; omega) | skip
  refine St.loopY (Lr := ?Lr1) (ι := { x : Nat // x ≤ xs.length }) (fun x => xs.length - x.1) (fun x => [(14, .int .i64 (x.1 : Int))]) (fun _ => []) ⟨0, Nat.zero_le _⟩ ?hE1 ?hL1 ?round1
  case hE1 => exact Sub.go
  case hL1 => exact Takes.go
  case round1 =>
    rintro ⟨k, hk⟩ IH; dsimp only at hk IH ⊢
    by_cases hlt : k < xs.length
    · obtain ⟨ab, ao, al, al1, rfl, hra, hda, hta⟩ := ha.at' u1V_len k hlt
      obtain ⟨bb, bo, bl9, bl1, rfl, hrb, hdb, htb⟩ := hb.at' u1V_len k hlt
      have hna : NthN (ao + (k : Int).toNat * 1) al (.int .u64 (xs[k] : Int)) := NthN.part (j := 0) hda hta (NthN.of rfl)
      have hnb : NthN (bo + (k : Int).toNat * 1) bl9 (.int .u64 (xs[k] : Int)) := NthN.part (j := 0) hdb htb (NthN.of rfl)
      generalize xs[k] = x at hna hnb
      repeat' (first | refine Ga ?_ | (refine Gb ?_; intro b) | (refine Gd ?_; intro g cap rest hcap) | (refine Gc ?_; intro ad cap)  | (refine Ge ?_ ?_ <;> (intro h; try (exfalso; omega))) | fail)
      all_goals first | (exfalso; omega) | skip
      all_goals first | (exfalso; simp at h; done) | skip
      refine IH ⟨k + 1, hlt⟩ (by show xs.length - (k + 1) < xs.length - k; omega) ?_ ?_
      · exact Sub.go
      · exact Ent.go
    · obtain rfl : k = xs.length := by omega
      clear IH
      repeat' (first | refine Ga ?_ | (refine Gb ?_; intro b) | (refine Gd ?_; intro g cap rest hcap) | (refine Gc ?_; intro ad cap)  | (refine Ge ?_ ?_ <;> (intro h; try (exfalso; omega))) | fail)
      all_goals first | (exfalso; omega) | skip
      exact St.d1 Tryz.func32 ⟨_, ⟨rfl, rfl⟩, Ent.go⟩
end
end Go.Proofs.YthmbgodcpgkkeaaGreat
end
