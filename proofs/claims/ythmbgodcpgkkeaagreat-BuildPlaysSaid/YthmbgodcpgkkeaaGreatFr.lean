/-
  Package tumblerlaw14: BuildPlays. The closed facts of the row, one by one.
-/
import Derived.Test.YthmbgodcpgkkeaaGreatLe
import Derived.Test.YthmbgodcpgkkeaaGreatNr
import Derived.Test.YthmbgodcpgkkeaaGreatRows
import Derived.ProofKit
import Derived.JoinedOf
section
namespace Go.Proofs.YthmbgodcpgkkeaaGreat
set_option maxRecDepth 100000
theorem and_le14 (a : Int) (m : Nat) (hm : m < 9223372036854775808) : 0 ≤ IntKind.i64.wrap ((BitVec.ofInt IntKind.i64.bits a &&& BitVec.ofInt IntKind.i64.bits m).toNat : Int) ∧ IntKind.i64.wrap ((BitVec.ofInt IntKind.i64.bits a &&& BitVec.ofInt IntKind.i64.bits m).toNat : Int) ≤ m := by
  have h1 : (BitVec.ofInt IntKind.i64.bits a &&& BitVec.ofInt IntKind.i64.bits m).toNat ≤ m := by
    rw [BitVec.toNat_and]
    refine Nat.le_trans Nat.and_le_right ?_
    rw [BitVec.toNat_ofInt]
    have : (2 : Nat) ^ IntKind.i64.bits = 18446744073709551616 := rfl
    rw [this]
    omega
  generalize (BitVec.ofInt IntKind.i64.bits a &&& BitVec.ofInt IntKind.i64.bits m).toNat = n at h1
  have : IntKind.i64.wrap (n : Int) = n := by simp [IntKind.wrap, IntKind.bits, IntKind.signed]; omega
  rw [this]
  omega
/-- what BuildPlays gives back -/
def bplayQ (q : HProp) (v : Value) (L : List HProp) : Prop := v = .bool true ∧ L = [q]
theorem bplays_few (c : Cfg) (who : Int) (seq : Nat) (q : HProp) (pv ov : Value) (progs : Progs) (outs : List Out) (hpv : ProgsG q pv progs) (hov : ListR Out.v q ov outs) (hb : ¬ (few14B c progs = true ∧ outs.length ≤ 100)) :
    Tri Tryz.prog 4 #[.agg ⟨c.v⟩, .int .i64 who, .int .u64 (seq : Int), pv, ov] [q] (bplayQ q) := by
  have hfew := few14_r c q pv progs hpv
  obtain ⟨oad, ocap, rfl, hor⟩ := hov
  cases hb1 : few14B c progs with
  | false =>
    rw [hb1] at hfew
    refine Tri.of_body (vs := [_, _, _, _, _]) Tryz.func4 rfl rfl fun w0 F => ?_
    repeat' (first | refine Ga ?_ | (refine Gb ?_; intro b) | (refine Gd ?_; intro g cap rest hcap) | (refine Gc ?_; intro ad cap) | refine Gl hfew ?_ | (refine Gt alive_t ?_; rintro _ _ ⟨rfl, rfl⟩) | (refine Ge ?_ ?_ <;> (intro h; try (exfalso; omega))) | fail)
    refine St.d1 Tryz.func4 ⟨_, ⟨rfl, rfl⟩, Ent.go⟩
  | true =>
    rw [hb1] at hfew
    have hbig : ¬ outs.length ≤ 100 := fun h => hb ⟨hb1, h⟩
    refine Tri.of_body (vs := [_, _, _, _, _]) Tryz.func4 rfl rfl fun w0 F => ?_
    repeat' (first | refine Ga ?_ | (refine Gb ?_; intro b) | (refine Gd ?_; intro g cap rest hcap) | (refine Gc ?_; intro ad cap) | refine Gl hfew ?_ | (refine Gt alive_t ?_; rintro _ _ ⟨rfl, rfl⟩) | (refine Ge ?_ ?_ <;> (intro h; try (exfalso; omega))) | fail)
    refine St.d1 Tryz.func4 ⟨_, ⟨rfl, rfl⟩, Ent.go⟩
set_option maxHeartbeats 8000000 in
theorem bplays_near (c : Cfg) (who : Int) (seq : Nat) (q : HProp) (pv ov : Value) (progs : Progs) (outs : List Out) (hpv : ProgsG q pv progs) (hov : ListR Out.v q ov outs) (hpi : ∀ p ∈ progs, ∀ i ∈ p, i.imm < 18446744073709551616) (hosv : ∀ o ∈ outs, o.was.val < 18446744073709551616) (hoss : ∀ o ∈ outs, o.was.seq < 18446744073709551616) (hb : few14B c progs = true) (hol : outs.length ≤ 100) :
    Tri Tryz.prog 4 #[.agg ⟨c.v⟩, .int .i64 who, .int .u64 (seq : Int), pv, ov] [q] (bplayQ q) := by
  have hfew := few14_r c q pv progs hpv
  obtain ⟨oad, ocap, rfl, hoc, hor⟩ := id hov
  rw [hb] at hfew
  unfold few14B at hb
  simp only [Bool.and_eq_true, decide_eq_true_eq] at hb
  obtain ⟨_, ⟨hcr, hfu⟩, hpl⟩ := hb
  have hc := Cfg.small hcr
  have hf0 : 0 ≤ c.fuel := by have := of_decide_eq_true hcr; omega
  have hof := of_r c
  unfold Cfg.ofV at hof
  rw [if_pos hcr] at hof
  have hpr := hpv.r (by omega)
  have ht0 := hc.t0
  have hm : 0 ≤ IntKind.i64.wrap ((BitVec.ofInt IntKind.i64.bits who &&& BitVec.ofInt IntKind.i64.bits 255).toNat : Int) ∧ IntKind.i64.wrap ((BitVec.ofInt IntKind.i64.bits who &&& BitVec.ofInt IntKind.i64.bits 255).toNat : Int) ≤ 255 := and_le14 who 255 (by decide)
  have hnew := fun who => bnew_t c hc pv q progs who seq hpr
  refine Tri.of_body (vs := [_, _, _, _, _]) Tryz.func4 rfl rfl fun w0 F => ?_
  repeat' (first | refine St.halt 6 ?_ |refine Ga ?_ | (refine Gb ?_; intro b) | (refine Gd ?_; intro g cap rest hcap) | (refine Gc ?_; intro ad cap) | refine Gl hfew ?_ | refine Gl hof ?_ | (refine Gt alive_t ?_; rintro _ _ ⟨rfl, rfl⟩) | (refine Gu alive_t ?_; rintro _ _ ⟨rfl, rfl⟩; refine ⟨Ent.go, ?_⟩) | (refine Ge ?_ ?_ <;> (intro h; try (exfalso; omega))) | fail)
  apply Halt.go
  iterate 6 (first | refine Ga ?_ | (refine Gb ?_; intro b) | (refine Gd ?_; intro g cap rest hcap) | (refine Gc ?_; intro ad cap) | (refine Ge ?_ ?_ <;> (intro h; try (exfalso; omega))) | fail)
  generalize IntKind.i64.wrap ((BitVec.ofInt IntKind.i64.bits who &&& BitVec.ofInt IntKind.i64.bits 255).toNat : Int) = mk at hm ⊢
  have hm0 : 0 ≤ mk % c.threads := Int.emod_nonneg _ (by omega)
  repeat' (first | refine Ga ?_ | (refine Gb ?_; intro b) | (refine Gd ?_; intro g cap rest hcap) | (refine Gc ?_; intro ad cap) | (refine Gt (hnew (mk % c.threads)) ?_; rintro _ _ ⟨B, rfl, rfl⟩) | (refine Gu (hnew (mk % c.threads)) ?_; rintro _ _ ⟨B, rfl, rfl⟩; refine ⟨Ent.go, ?_⟩) | (refine Ge ?_ ?_ <;> (intro h; try (exfalso; omega))) | fail)
  generalize mk % c.threads = w at hm0 ⊢
  clear hnew
  refine St.loopY (Lr := ?Lr1) (ι := { k : Nat // k ≤ outs.length ∧ Binv c progs (fedM (XB c progs) outs (Bm.new w seq) k) ∧ ∀ i, i < k → ((fedM (XB c progs) outs (Bm.new w seq) i).ask c).2 = true }) (fun x => outs.length - x.1) (fun x => [(47, .int .i64 (x.1 : Int))]) (fun x => [Bd B c pv q progs (fedM (XB c progs) outs (Bm.new w seq) x.1), q]) ⟨0, Nat.zero_le _, Binv.new hc w seq, fun i h => absurd h (Nat.not_lt_zero i)⟩ ?hE ?hL ?round
  case hE => exact Sub.go
  case hL => exact Takes.go
  case round =>
    rintro ⟨k, hk, hbi, hall⟩ IH; dsimp only at hk hbi hall IH ⊢
    have hlk : (outs.take k).length = k := by rw [List.length_take]; omega
    have htk := ListR.take (f := Out.v) hov k hk
    have hat := rmake_at (os := outs.take k) (progs := progs) hc ⟨hf0, by omega⟩ w seq (fun i hi => by
      rw [hlk] at hi
      rw [fedM_take _ _ _ hk i (by omega)]
      exact hall i hi) (m := fedM (XB c progs) outs (Bm.new w seq) k) (by rw [hlk, fedM_take _ _ _ hk k (Nat.le_refl k)])
    have hkq := kq_rmake hc (outs.take k) w seq progs (.live 0)
    have hfed1 : fedM (XB c progs) outs (Bm.new w seq) (k + 1) = (fedM (XB c progs) outs (Bm.new w seq) k).tell c c.cap.toNat progs (outs.getD k out0) := rfl
    have hmake := rmake_t htk (by omega) (fun o ho => hosv o (List.mem_of_mem_take ho)) (fun o ho => hoss o (List.mem_of_mem_take ho)) hc hf0 (by omega) w seq hpr hpi (.live 0) (Nat.zero_le _)
    generalize rmake c (outs.take k) w seq progs (.live 0) = Z at hat hmake hkq
    generalize hmE : fedM (XB c progs) outs (Bm.new w seq) k = m at *
    have hask := bask_r B c hc pv q progs m hbi
    have hst := bstatus_r B c pv q progs m
    obtain ⟨t9, ⟨P9, rows9, s9⟩⟩ := Z
    unfold MakeQ tpV at hmake
    dsimp only [List.cons_append, List.nil_append, Tp.live, op0, mop] at hmake hat hkq
    rw [hlk] at hmake
    rcases hat with ⟨rfl, h2, h3⟩ | ⟨h1, h2, rfl, rfl⟩
    · rw [h2] at hask
      rw [hlk] at hmake
      unfold MOp.v at hask
      dsimp only at hask hmake
      have e1 := h3.s
      dsimp only at e1
      rw [e1] at hst
      have hs2 := h3.s2
      have hs3 := h3.ok
      dsimp only at hs2 hs3
      by_cases hs : s9 = 1
      · obtain ⟨hp9, hr9⟩ := hs3 hs
        subst hs
        have hlen9 := hbi.len
        have hrz := hbi.rows
        have hui := hbi.u
        have htb := hc.t1
        have hnw := hbi.gen.news
        have hen := bentries_z B c hc pv q progs m hbi
        have hrw := brows_z B c hc pv q progs m hbi
        rw [hp9] at hen hlen9
        rw [hr9] at hrw hrz hnw
        have hrl9 : ∀ {rs : List RowH}, rs.map (·.1) = rows9 → rs.length ≤ 1000000 := fun {rs} e => by
          have := congrArg List.length e
          rw [List.length_map] at this
          omega
        have hnl9 : ∀ {rs : List RowH}, rs.map (·.1) = rows9 → ∀ x ∈ rs, x.1.news.length ≤ 1000000 := fun {rs} e x hx => by
          have := (hnw x.1 (by rw [← e]; exact List.mem_map_of_mem hx)).1
          omega
        have hel9 : (entriesOf c P9).length ≤ 1000000 := by
          have h1 : (entriesOf c P9).length ≤ (allP P9).length := List.length_filter_le _ _
          have h2 := allP_le P9
          omega
        repeat' (first | refine St.halt 15 ?_ |refine Ga ?_ | (refine Gb ?_; intro b) | (refine Gd ?_; intro g cap rest hcap) | (refine Gc ?_; intro ad cap) | (refine St.drawa (id := 11) [(0, 1), (1, 0), (2, 0), (3, 0), (4, 0), (5, 0), (6, 0), (7, 0), (8, 3)] [(10, 3)] [8, 10] 9 mixed rfl (by intro w; rfl) (by kernel_rfl) ?_) | (refine St.draw (id := 13) [(0, 0), (1, 0), (2, 0), (3, 1), (4, 0), (5, 0), (6, 1), (7, 0), (8, 0), (9, 1), (10, 0), (11, 0), (12, 0), (13, 0), (14, 1), (15, 0), (16, 1), (17, 0), (18, 0)] [] mixed (by kernel_rfl) ?_) | apply StD.pick | exact StD.nope | refine Gl hask ?_ | refine Gl hst ?_ | (refine Gt hmake ?_; rintro _ _ ⟨q9, sa, sc, ra, rc, room, rl, hg, hP, hrl, hnw9, hR, rfl, rfl⟩) | (refine StD.ok3 rfl (OpOk.ofW OpV.go) rfl ?_; rintro _ _ ⟨rfl, rfl⟩) | (refine Ge ?_ ?_ <;> (intro h; try (exfalso; omega))) | fail)
        all_goals first | (exfalso; omega) | skip
        all_goals first | (exfalso; simp at h; done) | skip
        refine Halt.go ?_
        repeat' (first | refine Ga ?_ | (refine Gb ?_; intro b) | (refine Gd ?_; intro g cap rest hcap) | (refine Gc ?_; intro ad cap) | (refine St.draw (id := 15) [(0, 0), (1, 1), (2, 0), (3, 0), (4, 0), (7, 0), (8, 1), (5, 2), (6, 2), (9, 2), (10, 0), (11, 0), (12, 0), (15, 1), (16, 0), (17, 1), (13, 2), (14, 2), (18, 2), (19, 2), (20, 0), (21, 0), (22, 0)] [] mixed (by kernel_rfl) ?_) | (apply StD.gcallr2; rfl; rfl; rfl; exact Og; exact same14_r hR2 hR (hrs.trans hrl.symm) hN1 hnw9 (hrl9 hrs) (hnl9 hrs); exact Oh) | (apply StD.gcallr2; rfl; rfl; rfl; exact Og; exact same8_r hR4 hR5 hel9; exact Oh) | (apply StD.gcallt2; rfl; rfl; rfl; exact Og; exact hrw; exact Oh; rintro _ _ ⟨R1, ad1, cp1, rs, hrs, hR1, hN1, rfl, rfl⟩; refine ⟨Ent.go, ?_⟩) | (apply StD.gcallt2; rfl; rfl; rfl; exact Og; exact rows_t hR1 (hrl9 hrs); exact Oh; rintro _ _ ⟨R2, ad2, cp2, hR2, rfl, rfl⟩; refine ⟨Ent.go, ?_⟩) | (apply StD.gcallt2; rfl; rfl; rfl; exact Og; exact hen; exact Oh; rintro _ _ ⟨R3, ad3, cp3, hR3, rfl, rfl⟩; refine ⟨Ent.go, ?_⟩) | (apply StD.gcallt2; rfl; rfl; rfl; exact Og; exact as14_t hR3 hel9; exact Oh; rintro _ _ ⟨R4, ad4, cp4, hR4, rfl, rfl⟩; refine ⟨Ent.go, ?_⟩) | (apply StD.gcallt2; rfl; rfl; rfl; exact Og; exact rentries_z hc hP (by omega) hkq.all room; exact Oh; rintro _ _ ⟨R5, ad5, cp5, hR5, rfl, rfl⟩; refine ⟨Ent.go, ?_⟩) | (refine Ge ?_ ?_ <;> (intro h; try (exfalso; omega))) | fail)
        all_goals first | (exfalso; omega) | skip
        refine St.conv ?_ (Sub.refl _) (Ent.trans (Ent.of_take (p := q9) Take.go) (hg.1 _))
        exact St.d1 Tryz.func4 ⟨_, ⟨rfl, rfl⟩, Ent.go⟩
      · obtain rfl : s9 = 2 := by omega
        repeat' (first | refine St.halt 15 ?_ |refine Ga ?_ | (refine Gb ?_; intro b) | (refine Gd ?_; intro g cap rest hcap) | (refine Gc ?_; intro ad cap) | (refine St.drawa (id := 11) [(0, 1), (1, 0), (2, 0), (3, 0), (4, 0), (5, 0), (6, 0), (7, 0), (8, 3)] [(10, 3)] [8, 10] 9 mixed rfl (by intro w; rfl) (by kernel_rfl) ?_) | (refine St.draw (id := 13) [(0, 0), (1, 0), (2, 0), (3, 1), (4, 0), (5, 0), (6, 1), (7, 0), (8, 0), (9, 1), (10, 0), (11, 0), (12, 0), (13, 0), (14, 1), (15, 0), (16, 1), (17, 0), (18, 0)] [] mixed (by kernel_rfl) ?_) | apply StD.pick | exact StD.nope | refine Gl hask ?_ | refine Gl hst ?_ | (refine Gt hmake ?_; rintro _ _ ⟨q9, sa, sc, ra, rc, room, rl, hg, hP, hrl, hnw9, hR, rfl, rfl⟩) | (refine StD.ok3 rfl (OpOk.ofW OpV.go) rfl ?_; rintro _ _ ⟨rfl, rfl⟩) | (refine Ge ?_ ?_ <;> (intro h; try (exfalso; omega))) | fail)
        all_goals first | (exfalso; omega) | skip
        all_goals first | (exfalso; simp at h; done) | skip
        refine Halt.go ?_
        repeat' (first | refine Ga ?_ | (refine Gb ?_; intro b) | (refine Gd ?_; intro g cap rest hcap) | (refine Gc ?_; intro ad cap) | (refine St.draw (id := 15) [(0, 0), (1, 1), (2, 0), (3, 0), (4, 0), (7, 0), (8, 1), (5, 2), (6, 2), (9, 2), (10, 0), (11, 0), (12, 0), (15, 1), (16, 0), (17, 1), (13, 2), (14, 2), (18, 2), (19, 2), (20, 0), (21, 0), (22, 0)] [] mixed (by kernel_rfl) ?_) | (refine StD.skip2 (by rfl) (by rfl) (by rfl) (by rfl) (by rfl) ?_) | (refine StD.skipu2 (by rfl) (by rfl) (by rfl) (by rfl) ?_) | (refine Ge ?_ ?_ <;> (intro h; try (exfalso; omega))) | fail)
        all_goals first | (exfalso; omega) | skip
        refine St.conv ?_ (Sub.refl _) (Ent.trans (Ent.of_take (p := q9) Take.go) (hg.1 _))
        exact St.d1 Tryz.func4 ⟨_, ⟨rfl, rfl⟩, Ent.go⟩
    · rw [hlk] at hmake
      rw [h2] at hst
      generalize haE : m.ask c = a at hask h1 hmake
      obtain ⟨⟨ak, aa, ⟨ao1, ao2⟩, ⟨an1, an2⟩⟩, ab⟩ := a
      dsimp only at h1 hask hmake
      subst h1
      unfold MOp.v at hask
      dsimp only at hask
      by_cases hke : k < outs.length
      · repeat' (first | refine St.halt 15 ?_ |refine Ga ?_ | (refine Gb ?_; intro b) | (refine Gd ?_; intro g cap rest hcap) | (refine Gc ?_; intro ad cap) | (refine St.drawa (id := 11) [(0, 1), (1, 0), (2, 0), (3, 0), (4, 0), (5, 0), (6, 0), (7, 0), (8, 3)] [(10, 3)] [8, 10] 9 mixed rfl (by intro w; rfl) (by kernel_rfl) ?_) | (refine St.draw (id := 13) [(0, 0), (1, 0), (2, 0), (3, 1), (4, 0), (5, 0), (6, 1), (7, 0), (8, 0), (9, 1), (10, 0), (11, 0), (12, 0), (13, 0), (14, 1), (15, 0), (16, 1), (17, 0), (18, 0)] [] mixed (by kernel_rfl) ?_) | apply StD.pick | exact StD.nope | refine Gl hask ?_ | refine Gl hst ?_ | (refine Gt hmake ?_; rintro _ _ ⟨q9, sa, sc, ra, rc, room, rl, hg, hP, hrl, hnw9, hR, rfl, rfl⟩) | (refine StD.ok3 rfl (OpOk.ofW OpV.go) rfl ?_; rintro _ _ ⟨rfl, rfl⟩) | (refine Ge ?_ ?_ <;> (intro h; try (exfalso; omega))) | fail)
        all_goals first | (exfalso; omega) | skip
        all_goals first | (exfalso; simp at h; done) | skip
        refine Halt.go ?_
        repeat' (first | refine St.haltR 19 ?_ |refine Ga ?_ | (refine Gb ?_; intro b) | (refine Gd ?_; intro g cap rest hcap) | (refine Gc ?_; intro ad cap) | (refine St.draw (id := 15) [(0, 0), (1, 1), (2, 0), (3, 0), (4, 0), (7, 0), (8, 1), (5, 2), (6, 2), (9, 2), (10, 0), (11, 0), (12, 0), (15, 1), (16, 0), (17, 1), (13, 2), (14, 2), (18, 2), (19, 2), (20, 0), (21, 0), (22, 0)] [] mixed (by kernel_rfl) ?_) | (refine StD.skip2 (by rfl) (by rfl) (by rfl) (by rfl) (by rfl) ?_) | (refine StD.skipu2 (by rfl) (by rfl) (by rfl) (by rfl) ?_) | (refine Ge ?_ ?_ <;> (intro h; try (exfalso; omega))) | fail)
        all_goals first | (exfalso; omega) | skip
        refine Halt.go ?_
        refine St.conv ?_ (Sub.refl _) (Ent.trans (Ent.of_take (p := q9) Take.go) (hg.1 _))
        obtain ⟨bf, o, l, l1, rfl, hrd, hdr, htk9⟩ := ListR.at (f := Out.v) (sz := 3) (fun _ => rfl) hor k hke
        have htl := btell_t B c hc pv q progs m ⟨hf0, by omega⟩ hpr hbi outs[k]
        have hnx : fedM (XB c progs) outs (Bm.new w seq) (k + 1) = m.tell c c.cap.toNat progs outs[k] := by
          rw [hfed1, List.getD_eq_getElem?_getD, List.getElem?_eq_getElem hke]; rfl
        rw [← hnx] at htl
        repeat' (first | refine Ga ?_ | (refine Gb ?_; intro b) | (refine Gd ?_; intro g cap rest hcap) | (refine Gc ?_; intro ad cap) | (refine Gt htl ?_; rintro _ _ ⟨rfl, rfl⟩) | (refine Ge ?_ ?_ <;> (intro h; try (exfalso; omega))) | fail)
        all_goals first | (exfalso; omega) | skip
        refine IH ⟨k + 1, hke, ?_, fun i hi => ?_⟩ (by show _ - (k + 1) < _ - k; omega) ?_ ?_
        · rw [hnx]; exact hbi.tell hc ⟨hf0, by omega⟩ _
        · rcases Nat.lt_or_ge i k with h | h
          · exact hall i h
          · obtain rfl : i = k := by omega
            rw [hmE, haE]
        · exact Sub.go
        · exact Ent.go
      · obtain rfl : k = outs.length := by omega
        repeat' (first | refine St.halt 15 ?_ |refine Ga ?_ | (refine Gb ?_; intro b) | (refine Gd ?_; intro g cap rest hcap) | (refine Gc ?_; intro ad cap) | (refine St.drawa (id := 11) [(0, 1), (1, 0), (2, 0), (3, 0), (4, 0), (5, 0), (6, 0), (7, 0), (8, 3)] [(10, 3)] [8, 10] 9 mixed rfl (by intro w; rfl) (by kernel_rfl) ?_) | (refine St.draw (id := 13) [(0, 0), (1, 0), (2, 0), (3, 1), (4, 0), (5, 0), (6, 1), (7, 0), (8, 0), (9, 1), (10, 0), (11, 0), (12, 0), (13, 0), (14, 1), (15, 0), (16, 1), (17, 0), (18, 0)] [] mixed (by kernel_rfl) ?_) | apply StD.pick | exact StD.nope | refine Gl hask ?_ | refine Gl hst ?_ | (refine Gt hmake ?_; rintro _ _ ⟨q9, sa, sc, ra, rc, room, rl, hg, hP, hrl, hnw9, hR, rfl, rfl⟩) | (refine StD.ok3 rfl (OpOk.ofW OpV.go) rfl ?_; rintro _ _ ⟨rfl, rfl⟩) | (refine Ge ?_ ?_ <;> (intro h; try (exfalso; omega))) | fail)
        all_goals first | (exfalso; omega) | skip
        all_goals first | (exfalso; simp at h; done) | skip
        refine Halt.go ?_
        repeat' (first | refine Ga ?_ | (refine Gb ?_; intro b) | (refine Gd ?_; intro g cap rest hcap) | (refine Gc ?_; intro ad cap) | (refine St.draw (id := 15) [(0, 0), (1, 1), (2, 0), (3, 0), (4, 0), (7, 0), (8, 1), (5, 2), (6, 2), (9, 2), (10, 0), (11, 0), (12, 0), (15, 1), (16, 0), (17, 1), (13, 2), (14, 2), (18, 2), (19, 2), (20, 0), (21, 0), (22, 0)] [] mixed (by kernel_rfl) ?_) | (refine StD.skip2 (by rfl) (by rfl) (by rfl) (by rfl) (by rfl) ?_) | (refine StD.skipu2 (by rfl) (by rfl) (by rfl) (by rfl) ?_) | (refine Ge ?_ ?_ <;> (intro h; try (exfalso; omega))) | fail)
        all_goals first | (exfalso; omega) | skip
        refine St.conv ?_ (Sub.refl _) (Ent.trans (Ent.of_take (p := q9) Take.go) (hg.1 _))
        exact St.d1 Tryz.func4 ⟨_, ⟨rfl, rfl⟩, Ent.go⟩
theorem bplays_t (c : Cfg) (who : Int) (seq : Nat) (q : HProp) (pv ov : Value) (progs : Progs) (outs : List Out) (hpv : ProgsG q pv progs) (hov : ListR Out.v q ov outs) (hpi : ∀ p ∈ progs, ∀ i ∈ p, i.imm < 18446744073709551616) (hosv : ∀ o ∈ outs, o.was.val < 18446744073709551616) (hoss : ∀ o ∈ outs, o.was.seq < 18446744073709551616) :
    Tri Tryz.prog 4 #[.agg ⟨c.v⟩, .int .i64 who, .int .u64 (seq : Int), pv, ov] [q] (bplayQ q) := by
  by_cases h : few14B c progs = true ∧ outs.length ≤ 100
  · exact bplays_near c who seq q pv ov progs outs hpv hov hpi hosv hoss h.1 h.2
  · exact bplays_few c who seq q pv ov progs outs hpv hov h
end Go.Proofs.YthmbgodcpgkkeaaGreat
end
section
namespace Go.Proofs.YthmbgodcpgkkeaaGreat
theorem fr_and {a b : Bool} (ha : a = true) (hb : b = true) : (a && b) = true := by rw [ha, hb]; rfl
theorem fr_0 : (Rows.buildPlaysRow.wf (OpenSpec.ofChange Rows.buildPlaysSpec)) = true := by kernel_rfl
theorem fr_1 : (laidOutB Tryz.prog) = true := by kernel_rfl
theorem fr_2 : (mapsRowed Tryz.prog) = true := by kernel_rfl
theorem fr_3 : (Tryz.f4.params.all (Tryz.prog.readableRec ·)) = true := by kernel_rfl
theorem fr_4 : (namedTie Tryz.prog Rows.buildPlaysRow.named Rows.buildPlaysSpec.vars) = true := by kernel_rfl
theorem fr_5 : ((Rows.buildPlaysRow.stops == [])) = true := by kernel_rfl
theorem fr_6 : ((Tryz.prog.stops == [])) = true := by kernel_rfl
theorem fr_7 : ((Rows.buildPlaysRow.knobs == [])) = true := by kernel_rfl
theorem fr_8 : ((Tryz.prog.stopKnobs == [])) = true := by kernel_rfl
theorem fr_9 : ((Rows.buildPlaysRow.inPlace == Tryz.prog.inPlace 4)) = true := by kernel_rfl
theorem fr_10 : ((Rows.buildPlaysRow.unfollowed == Tryz.prog.unfollowed 4)) = true := by kernel_rfl
theorem fr_11 : ((Rows.buildPlaysRow.recurses == Tryz.prog.recurses 4)) = true := by kernel_rfl
theorem fr_12 : ((Rows.buildPlaysRow.named == Tryz.prog.varsNamed 4)) = true := by kernel_rfl
theorem fr_13 : ((Rows.buildPlaysRow.maps == (Tryz.f4.params.toList ++ Rows.buildPlaysSpec.plain.varTypes Tryz.prog).any (Tryz.prog.mapsRec ·))) = true := by kernel_rfl
theorem fr_14 : ((Rows.buildPlaysRow.ifaces == (Tryz.f4.params.toList ++ Rows.buildPlaysSpec.plain.varTypes Tryz.prog).any (Tryz.prog.ifacesRec ·))) = true := by kernel_rfl
theorem fr_15 : ((Rows.buildPlaysRow.mapsOut == Tryz.prog.mapsAmong Tryz.f4.resultTypes.toList)) = true := by kernel_rfl
theorem fr_16 : ((Rows.buildPlaysRow.loops == (Tryz.f4.params.toList ++ Rows.buildPlaysSpec.plain.varTypes Tryz.prog).any (Tryz.prog.loopsFrom ·))) = true := by kernel_rfl
theorem fr_17 : ((Rows.buildPlaysRow.wideKeys == (Tryz.f4.params.toList ++ Rows.buildPlaysSpec.plain.varTypes Tryz.prog ++ Tryz.f4.resultTypes.toList).any (Tryz.prog.wideKeysFrom ·))) = true := by kernel_rfl
theorem fr_18 : (Rows.buildPlaysSpec.vars.all (Tryz.prog.varReadable ·)) = true := by kernel_rfl
theorem fr_19 : (Tryz.f4.resultTypes.all (fun t => Tryz.prog.readableRec t && decide (t < Tryz.prog.types.size))) = true := by kernel_rfl
theorem fr_20 : ((Rows.buildPlaysRow.ifacesOut == Tryz.f4.resultTypes.toList.any (Tryz.prog.ifacesRec ·))) = true := by kernel_rfl
theorem fr_21 : ((Rows.buildPlaysRow.loopsOut == Tryz.f4.resultTypes.toList.any (Tryz.prog.loopsFrom ·))) = true := by kernel_rfl
theorem fr_22 : ((Rows.buildPlaysRow.plainKeys == Tryz.prog.plainKeys)) = true := by kernel_rfl
theorem fr_23 : (Rows.buildPlaysRow.shortTexts.isNone) = true := by kernel_rfl
theorem fr_24 : (Tryz.prog.stopsHeard) = true := by kernel_rfl
theorem fr_25 : (Tryz.prog.mayEnter) = true := by kernel_rfl
theorem fr_26 : ((Rows.buildPlaysRow.lifted == Tryz.prog.liftsFinal)) = true := by kernel_rfl
theorem fr_27 : ((Tryz.prog.make == some Rows.buildPlaysRow.make)) = true := by kernel_rfl
theorem fr_28 : ((Rows.buildPlaysRow.kinds == (if Rows.buildPlaysRow.domain.isEmpty then [] else Tryz.f4.params.toList.map fun t => match Tryz.prog.underlying t with | some (.int k) => some k | _ => none))) = true := by kernel_rfl
theorem fr_29 : ((Rows.buildPlaysRow.pinned == Rows.buildPlaysRow.pinnedBy)) = true := by kernel_rfl
theorem fr_30 : ((Rows.buildPlaysRow.veiled == (Tryz.f4.params.toList ++ Rows.buildPlaysSpec.plain.varTypes Tryz.prog ++ Tryz.f4.resultTypes.toList).any (Tryz.prog.veiledRec ·))) = true := by kernel_rfl
theorem fr_31 : (Rows.buildPlaysRow.veiledFits Tryz.prog Tryz.f4.params.toList (Tryz.f4.params.toList ++ Rows.buildPlaysSpec.plain.varTypes Tryz.prog ++ Tryz.f4.resultTypes.toList)) = true := by kernel_rfl
end Go.Proofs.YthmbgodcpgkkeaaGreat
end
