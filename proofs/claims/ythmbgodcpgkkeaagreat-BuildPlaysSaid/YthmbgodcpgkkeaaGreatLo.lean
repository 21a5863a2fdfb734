/-
  Package tumblerref11: Play. Package tumblerref14: program, Entries. Package tumblerref10: held, names.
-/
import Derived.Test.YthmbgodcpgkkeaaGreatMi
import Derived.Test.YthmbgodcpgkkeaaGreatLs
import Derived.Test.YthmbgodcpgkkeaaGreatLk
import Derived.Test.YthmbgodcpgkkeaaGreatMd
import Derived.Test.YthmbgodcpgkkeaaGreatKc
section
namespace Go.Proofs.YthmbgodcpgkkeaaGreat
set_option maxRecDepth 100000
theorem rgo_stop {c : Cfg} {os : List Out} {room : Nat} {code : List Ins} {args : List Nat} {r : Rr} {t : Tp} (h : r.s ≠ 0 ∨ t.need = true) (k : Nat) : rgo c os room code args k r t = (t, r) := by
  cases k with
  | zero => rfl
  | succ k =>
    unfold rgo
    rw [if_neg]
    rintro ⟨a, b⟩
    rcases h with h | h
    · exact h a
    · rw [h] at b; cases b
theorem InsR.gr {q q' : HProp} {v : Value} {code : List Ins} (h : InsR q v code) (g : Gr q q') : InsR q' v code := by
  obtain ⟨ad, cap, h1, h2 | ⟨b, o, l, rest, h3, h4, h5⟩⟩ := h
  · exact ⟨ad, cap, h1, .inl h2⟩
  · exact ⟨ad, cap, h1, .inr ⟨b, o, l, rest, h3, g.2 _ _ h4, h5⟩⟩
section
set_option maxHeartbeats 4000000 in
theorem rplay_t {q : HProp} {ov : Value} {os : List Out} (hov : ListR Out.v q ov os) (hos : os.length ≤ 100000) (hosv : ∀ o ∈ os, o.was.val < 18446744073709551616) {c : Cfg} (hc : Small c) (x : Px) (t : Tp) (ht : t.at_ ≤ 100000) (v : Rv) (puts : List (Int × Nat)) (hxs : x.sn = puts.length) (hl : ListR entV q (.slice x.sa x.sn x.sc) puts) (hroom : x.room ≤ 1000000) (hpl : puts.length ≤ 800000) (hpv : ∀ p ∈ puts, p.2 < 18446744073709551616) (hnt : 0 ≤ x.nt ∧ x.nt ≤ 1000) (hnl : 0 ≤ x.nl ∧ x.nl ≤ 1000) (hf0 : 0 ≤ c.fuel) (hfu : c.fuel ≤ 1000)
    (code : List Ins) (cv : Value) (hcv : InsR q cv code) (hci : ∀ i ∈ code, i.imm < 18446744073709551616) (args : List Nat) (ha4 : args.length = 4) (hav : ∀ a ∈ args, a < 18446744073709551616) :
    Tri Tryz.prog 28 #[.agg ⟨evV c v x⟩, .agg ⟨tpV ov t⟩, cv, .agg ⟨g4 args⟩] [q] (RunO c q ov x (rplay c os x.room code args v x.nt x.nl puts t).1 (rplay c os x.room code args v x.nt x.nl puts t).2 id) := by
  have hb1 := hc.b1
  have hri := right5_r q cv code hcv
  obtain ⟨who, seq, held, stale⟩ := v
  obtain ⟨ta, ⟨ak, oa, ⟨ova, osa⟩, ⟨nvb, nsb⟩⟩, tn⟩ := t
  obtain ⟨xna, xnn, xnc, xma, xmn, xmc, xwt, xwl, xnt, xnl, xroom, xsa, xsn, xsc⟩ := x
  dsimp only at hxs hl hroom hnt hnl ht ⊢
  subst hxs
  obtain ⟨oad, ocp, rfl, _⟩ := id hov
  obtain ⟨cad, ccp, rfl, hcr⟩ := id hcv
  have hn0 : ListR u1V q (.slice none 0 0) [] := ⟨none, 0, rfl, Nat.le_refl _, .inl rfl⟩
  unfold evV rvV plV tpV Cfg.v
  dsimp only [List.cons_append, List.nil_append]
  unfold rplay
  cases hr : rightB code with
  | false =>
    rw [hr] at hri
    rw [if_neg Bool.false_ne_true]
    have hf := rfails_r c oad os.length ocp ⟨xna, xnn, xnc, xma, xmn, xmc, xwt, xwl, xnt, xnl, xroom, xsa, puts.length, xsc⟩ none 0 0 ⟨ta, ⟨ak, oa, ⟨ova, osa⟩, ⟨nvb, nsb⟩⟩, tn⟩ (Rr.init ⟨who, seq, held, stale⟩ xnt xnl puts) 30
    refine Tri.of_body (vs := [_, _, _, _]) Tryz.func28 rfl rfl fun w0 F => ?_
    repeat' (first | refine Ga ?_ | (refine Gb ?_; intro b) | (refine Gd ?_; intro g cap rest hcap) | (refine Gc ?_; intro ad cap) | refine Gl hri ?_ | refine Gl hf ?_ | (refine StD.ok3 rfl (OpOk.ofW OpV.go) rfl ?_; rintro _ _ ⟨rfl, rfl⟩) | (refine Ge ?_ ?_ <;> (intro h; try (exfalso; omega))) | fail)
    all_goals first | (exfalso; omega) | skip
    all_goals exact St.d1 Tryz.func28 ⟨_, ⟨q, xsa, xsc, none, 0, Gr.refl q, hl, hn0, rfl, rfl⟩, Ent.go⟩
  | true =>
    rw [hr] at hri
    rw [if_pos rfl]
    obtain ⟨hcl0, hcl1, _⟩ := right_at hr
    have hinit := RI.init (c := c) (n := code.length) (nt0 := xnt) (nl0 := xnl) hosv hf0 hpv hcl0 ⟨who, seq, held, stale⟩ hnt.1
    generalize hR : rgo c os xroom code args (c.fuel.toNat + 1) (Rr.init ⟨who, seq, held, stale⟩ xnt xnl puts) ⟨ta, ⟨ak, oa, ⟨ova, osa⟩, ⟨nvb, nsb⟩⟩, tn⟩ = R
    refine Tri.of_body (vs := [_, _, _, _]) Tryz.func28 rfl rfl fun w0 F => ?_
    repeat' (first | refine Ga ?_ | (refine Gb ?_; intro b) | (refine Gd ?_; intro g cap rest hcap) | (refine Gc ?_; intro ad cap) | refine Gl hri ?_ | (refine StD.ok3 rfl (OpOk.ofW OpV.go) rfl ?_; rintro _ _ ⟨rfl, rfl⟩) | (refine Ge ?_ ?_ <;> (intro h; try (exfalso; omega))) | fail)
    all_goals first | (exfalso; omega) | skip
    revert b; intro RB
    refine St.loopY (Lr := ?Lr1) (ι := { x : (Nat × Rr × Tp) × HProp × (Option Addr × Nat) × (Option Addr × Nat) // Gr q x.2.1 ∧ ListR entV x.2.1 (.slice x.2.2.1.1 x.1.2.1.puts.length x.2.2.1.2) x.1.2.1.puts ∧ ListR u1V x.2.1 (.slice x.2.2.2.1 x.1.2.1.news.length x.2.2.2.2) x.1.2.1.news ∧ RI c code.length puts.length xnt xnl x.1.2.1 ∧ (x.1.2.1.s = 0 → (c.fuel - x.1.2.1.steps).toNat < x.1.1) ∧ x.1.2.2.at_ ≤ 100000 ∧ rgo c os xroom code args x.1.1 x.1.2.1 x.1.2.2 = R }) (fun x => x.1.1.1) (fun _ => [])
      (fun x => [x.1.2.1, bl RB 75 (rnV c (.slice oad os.length ocp) ⟨xna, xnn, xnc, xma, xmn, xmc, xwt, xwl, xnt, xnl, xroom, x.1.2.2.1.1, x.1.1.2.1.puts.length, x.1.2.2.1.2⟩ (.slice x.1.2.2.2.1 x.1.1.2.1.news.length x.1.2.2.2.2) x.1.1.2.2 x.1.1.2.1)]) ⟨((c.fuel.toNat + 1, Rr.init ⟨who, seq, held, stale⟩ xnt xnl puts, ⟨ta, ⟨ak, oa, ⟨ova, osa⟩, ⟨nvb, nsb⟩⟩, tn⟩), q, (xsa, xsc), (none, 0)), Gr.refl q, hl, hn0, hinit, fun _ => by show (c.fuel - 0).toNat < c.fuel.toNat + 1; omega, ht, hR⟩ ?hE1 ?hL1 ?round1
    case hE1 => exact Sub.go
    case hL1 => exact Takes.go
    case round1 =>
      rintro ⟨⟨⟨k, r, t9⟩, qk, ⟨sa, sc⟩, ⟨wa, wc⟩⟩, hg, hlk, hnk, hri9, hkk, ht9, hgo⟩ IH; dsimp only at hg hlk hnk hri9 hkk ht9 hgo IH ⊢
      have stop : r.s ≠ 0 ∨ t9.need = true → R = (t9, r) := fun h => by rw [← hgo]; exact rgo_stop h k
      obtain ⟨ta9, ask9, tn9⟩ := t9
      dsimp only at ht9 stop
      by_cases hs0 : r.s = 0
      · cases tn9 with
        | false =>
          cases k with
          | zero => exact absurd (hkk hs0) (Nat.not_lt_zero _)
          | succ m =>
            rw [rgo, if_pos ⟨hs0, rfl⟩] at hgo
            have hstep := rstep_t (hov.gr hg) hos hc ⟨xna, xnn, xnc, xma, xmn, xmc, xwt, xwl, xnt, xnl, xroom, sa, r.puts.length, sc⟩ wa wc ⟨ta9, ask9, false⟩ ht9 r rfl hlk hnk hroom puts.length hpl xnt xnl hnt.2 hnl hfu code (.slice cad code.length ccp) hr (hcv.gr hg) args ha4 hri9 hs0
            have hnx := hri9.step hosv xroom rfl hr hci args hav (by omega) hs0 ⟨ta9, ask9, false⟩
            have hst := rstep_steps (c := c) (os := os) (r := r) xroom code args ⟨ta9, ask9, false⟩
            have hat := rstep_at (t := ⟨ta9, ask9, false⟩) hos ht9 c xroom code args r
            have hst0 := hri9.st
            dsimp only at hstep
            generalize rstep c os xroom code args r ⟨ta9, ask9, false⟩ = y at hstep hnx hst hat hgo
            obtain ⟨t2, r2⟩ := y
            dsimp only at hstep hnx hst hat hgo
            repeat' (first | refine Ga ?_ | (refine Gb ?_; intro b) | (refine Gd ?_; intro g cap rest hcap) | (refine Gc ?_; intro ad cap)  | (refine Gt hstep ?_; rintro _ _ ⟨q', sa', sc', wa', wc', hgr, hl', hn', rfl, rfl⟩) | (refine StD.ok3 rfl (OpOk.ofW OpV.go) rfl ?_; rintro _ _ ⟨rfl, rfl⟩) | (refine Ge ?_ ?_ <;> (intro h; try (exfalso; omega))) | fail)
            all_goals first | (exfalso; omega) | skip
            all_goals refine IH ⟨((m, r2, t2), q', (sa', sc'), (wa', wc')), hg.trans hgr, hl', hn', hnx, fun h0 => by have := hst h0; have := hkk hs0; have := hnx.st; dsimp only at *; omega, hat, hgo⟩ (Nat.lt_succ_self m) ?_ ?_
            all_goals first | (exact Sub.go) | (exact Ent.go)
        | true =>
          have e := stop (.inr rfl)
          subst e
          clear IH
          unfold Rr.undo
          by_cases her : r.er ≠ 0
          · rw [if_pos her]
            repeat' (first | refine Ga ?_ | (refine Gb ?_; intro b) | (refine Gd ?_; intro g cap rest hcap) | (refine Gc ?_; intro ad cap)  | (refine StD.ok3 rfl (OpOk.ofW OpV.go) rfl ?_; rintro _ _ ⟨rfl, rfl⟩) | (refine Ge ?_ ?_ <;> (intro h; try (exfalso; omega))) | fail)
            all_goals first | (exfalso; omega) | skip
            all_goals exact St.d1 Tryz.func28 ⟨_, ⟨qk, xsa, xsc, wa, wc, hg, hl.gr hg, hnk, rfl, rfl⟩, Ent.go⟩
          · rw [if_neg her]
            repeat' (first | refine Ga ?_ | (refine Gb ?_; intro b) | (refine Gd ?_; intro g cap rest hcap) | (refine Gc ?_; intro ad cap)  | (refine StD.ok3 rfl (OpOk.ofW OpV.go) rfl ?_; rintro _ _ ⟨rfl, rfl⟩) | (refine Ge ?_ ?_ <;> (intro h; try (exfalso; omega))) | fail)
            all_goals first | (exfalso; omega) | skip
            all_goals exact St.d1 Tryz.func28 ⟨_, ⟨qk, sa, sc, wa, wc, hg, hlk, hnk, rfl, rfl⟩, Ent.go⟩
      · have e := stop (.inl hs0)
        subst e
        clear IH
        unfold Rr.undo
        by_cases her : r.er ≠ 0
        · rw [if_pos her]
          repeat' (first | refine Ga ?_ | (refine Gb ?_; intro b) | (refine Gd ?_; intro g cap rest hcap) | (refine Gc ?_; intro ad cap)  | (refine StD.ok3 rfl (OpOk.ofW OpV.go) rfl ?_; rintro _ _ ⟨rfl, rfl⟩) | (refine Ge ?_ ?_ <;> (intro h; try (exfalso; omega))) | fail)
          all_goals first | (exfalso; omega) | skip
          all_goals exact St.d1 Tryz.func28 ⟨_, ⟨qk, xsa, xsc, wa, wc, hg, hl.gr hg, hnk, rfl, rfl⟩, Ent.go⟩
        · rw [if_neg her]
          repeat' (first | refine Ga ?_ | (refine Gb ?_; intro b) | (refine Gd ?_; intro g cap rest hcap) | (refine Gc ?_; intro ad cap)  | (refine StD.ok3 rfl (OpOk.ofW OpV.go) rfl ?_; rintro _ _ ⟨rfl, rfl⟩) | (refine Ge ?_ ?_ <;> (intro h; try (exfalso; omega))) | fail)
          all_goals first | (exfalso; omega) | skip
          all_goals exact St.d1 Tryz.func28 ⟨_, ⟨qk, sa, sc, wa, wc, hg, hlk, hnk, rfl, rfl⟩, Ent.go⟩
end
end Go.Proofs.YthmbgodcpgkkeaaGreat
end
section
namespace Go.Proofs.YthmbgodcpgkkeaaGreat
set_option maxRecDepth 100000
theorem rprog_r {q : HProp} {pv : Value} {progs : Progs} (h : ProgsR q pv progs) (n : Nat) : ∃ ad cp, RTri Tryz.prog 127 #[pv, .int .u64 (n : Int)] [q] (.slice ad (progOf progs n).length cp) ∧ InsR q (.slice ad (progOf progs n).length cp) (progOf progs n) := by
  obtain ⟨pad, pcap, rfl, hl, h⟩ := h
  unfold progOf
  by_cases hn : n < progs.length
  · obtain ⟨b, o, l, cv, rfl, hrd, hnth, hi⟩ := h n hn
    have e : progs.getD n [] = progs[n] := by rw [List.getD_eq_getElem?_getD, List.getElem?_eq_getElem hn]; rfl
    rw [e]
    obtain ⟨cad, ccp, rfl, _⟩ := id hi
    refine ⟨cad, ccp, ?_, hi⟩
    refine RTri.of_reads fun p hp => ?_
    have hrd := RdC.of_sat hp (ReadsC.here hrd)
    generalize progs[n] = code at hnth
    refine Tri.of_body (vs := [_, _]) Tryz.func127 rfl rfl fun w0 F => ?_
    repeat' (first | refine Ga ?_ | (refine Gb ?_; intro b) | (refine Gd ?_; intro g cap rest hcap) | (refine Gc ?_; intro ad cap)  | (refine Ge ?_ ?_ <;> (intro h; try (exfalso; omega))) | fail)
    all_goals first | (exfalso; omega) | skip
    all_goals exact St.d1 Tryz.func127 ⟨_, ⟨rfl, rfl⟩, Ent.go⟩
  · have e : progs.getD n [] = [] := by rw [List.getD_eq_getElem?_getD, List.getElem?_eq_none (by omega)]; rfl
    rw [e]
    refine ⟨none, 0, ?_, none, 0, rfl, .inl rfl⟩
    refine RTri.of_reads fun p hp => ?_
    refine Tri.of_body (vs := [_, _]) Tryz.func127 rfl rfl fun w0 F => ?_
    repeat' (first | refine Ga ?_ | (refine Gb ?_; intro b) | (refine Gd ?_; intro g cap rest hcap) | (refine Gc ?_; intro ad cap)  | (refine Ge ?_ ?_ <;> (intro h; try (exfalso; omega))) | fail)
    all_goals first | (exfalso; omega) | skip
    all_goals exact St.d1 Tryz.func127 ⟨_, ⟨rfl, rfl⟩, Ent.go⟩
/-- what is kept of an entry -/
theorem entB_ref {c : Cfg} (hc : Small c) (P : List (Int × Nat)) (e : Int × Nat) (h17 : e.1 < c.f17) : entB c P e = if e.1 < c.f16 then true else !((mget (allP P) (c.at 11 ((e.1 - c.f16) / 8) 0)).isSome && ((((mget (allP P) (c.at 11 ((e.1 - c.f16) / 8) 0)).getD 0 : Nat) : Int) != 1)) := by
  by_cases h7 : c.f7 ≤ e.1
  · have hk := Cfg.kblock hc (p := e.1) (fun h => by have := (Cfg.kwhat7 hc e.1).1 h; omega)
    unfold entB
    unfold rblock at hk
    by_cases h : e.1 < c.f16
    · rw [if_pos h] at hk ⊢
      rw [if_neg (fun e => by have := hk.1.1 e; omega)]
    · rw [if_neg h] at hk ⊢
      have h16 : (c.what e.1).1 = 16 := hk.1.2 (Int.ediv_nonneg (by omega) (by decide))
      rw [if_pos h16, hk.2 h16]
  · have hw := (Cfg.kwhat7 hc e.1).2 (.inl (by omega))
    have hn := hc.nums.f7; have := hc.t0; have := hc.b0; have := hc.limit
    obtain ⟨hf7, hf10, hf11, hf12, hf13, hf14, hf15, hf16, hf17, hstr⟩ := c.froms
    unfold entB
    rw [if_neg (by omega), if_pos (by omega)]
theorem filter_snoc2 (g : Int × Nat → Bool) (l : List (Int × Nat)) (k : Nat) (hk : k < l.length) : (l.take (k + 1)).filter g = (l.take k).filter g ++ if g l[k] = true then [l[k]] else [] := by
  rw [List.take_succ_eq_append_getElem hk, List.filter_append]
  congr 1
  by_cases h : g l[k] = true
  · simp [h]
  · simp [h]
set_option maxHeartbeats 4000000 in
theorem rentries_t {q : HProp} {lv : Value} {puts : List (Int × Nat)} {c : Cfg} (hc : Small c) (hl : ListR entV q lv puts) (hll : puts.length ≤ 1000000) (hk : ∀ p ∈ allP puts, -1 ≤ p.1 ∧ p.1 < c.f17) (room : Int) : Tri Tryz.prog 48 #[.agg ⟨c.v⟩, .agg ⟨[.int .i64 room, lv]⟩] [q]
    fun r L => ∃ ad cap, r = .slice ad (entriesOf c puts).length cap ∧ L = [Row (.slice ad (entriesOf c puts).length cap) 225 2 (entriesOf c puts).length ((entriesOf c puts).flatMap entV), q] := by
  have hget := fun a => rget_r hl hll room a
  have hall := rall_t hl hll room
  have hal := allP_le puts
  have hat := fun b => rat_r c hc 11 b 0
  have h16 : RTri Tryz.prog 133 #[.agg ⟨c.v⟩, .int .i64 16] [] (.int .i64 c.f16) := rfrom_16 c hc
  have hent := fun e h17 => entB_ref hc puts e h17
  have hbd := hc.nums.f17
  have hbd7 := hc.nums.f7
  have hb16 : 0 ≤ c.f16 := by
    have := hc.limit; have := hc.t0; have := hc.b0
    unfold Cfg.f16 Cfg.f15 Cfg.f14 Cfg.f13 Cfg.f12 Cfg.f11 Cfg.f10
    omega
  unfold entriesOf
  generalize hA : allP puts = A at hall hal hk ⊢
  obtain ⟨lad, lcap, rfl, _⟩ := id hl
  unfold Cfg.v at hat h16 ⊢
  refine Tri.of_body (vs := [_, _]) Tryz.func48 rfl rfl fun w0 F => ?_
  repeat' (first | refine Ga ?_ | (refine Gb ?_; intro b) | (refine Gd ?_; intro g cap rest hcap) | (refine Gc ?_; intro ad cap) | (refine Gt hall ?_; rintro _ _ ⟨aad, acap, rfl, rfl⟩) | (refine Ge ?_ ?_ <;> (intro h; try (exfalso; omega))) | fail)
  all_goals first | (exfalso; omega) | skip
  refine St.conv ?_ (Sub.refl _) (Ent.of_take (p := Row (.slice aad A.length acap) 225 2 A.length (A.flatMap entV)) Take.go)
  refine St.rowL rfl fun R hR => ?_
  obtain ⟨aad2, acap2, e2, _⟩ := id hR
  injection e2 with e2a e2b e2c
  subst e2a e2c
  refine St.conv ?_ (Sub.refl _) (Ent.trans (Ent.of_take (p := bl b 225 []) Take.go) (Ent.row_bl (n := 0) (sz := 2) rfl (Nat.zero_le _)))
  refine St.loopY (Lr := ?Lr1) (ι := { x : Nat × Option Addr × Nat // x.1 ≤ A.length }) (fun x => A.length - x.1.1) (fun x => [(7, .int .i64 (x.1.1 : Int)), (5, .slice x.1.2.1 ((A.take x.1.1).filter (entB c puts)).length x.1.2.2)]) (fun x => [Row (.slice x.1.2.1 ((A.take x.1.1).filter (entB c puts)).length x.1.2.2) 225 2 ((A.take x.1.1).filter (entB c puts)).length (((A.take x.1.1).filter (entB c puts)).flatMap entV)]) ⟨(0, some ⟨b, 0, none⟩, 0), Nat.zero_le _⟩ ?hE1 ?hL1 ?round1
  case hE1 => exact Sub.go
  case hL1 => exact Takes.go
  case round1 =>
    rintro ⟨⟨k, wad, wcap⟩, hkl⟩ IH; dsimp only at hkl IH ⊢
    have hfl : ((A.take k).filter (entB c puts)).length ≤ k := Nat.le_trans (List.length_filter_le _ _) (by rw [List.length_take]; omega)
    by_cases hlt : k < A.length
    · obtain ⟨ab, ao, al, al1, rfl, hra9, hda, hta⟩ := hR.at' entV_len k hlt
      have hs := filter_snoc2 (entB c puts) A k hlt
      obtain ⟨k7, k17⟩ := hk A[k] (List.getElem_mem hlt)
      have hb := hent A[k] k17
      have hn0 : NthN (ao + (k : Int).toNat * 2) al (.int .i64 A[k].1) := NthN.part (j := 0) hda hta (NthN.of rfl)
      generalize A[k] = e at hta hs k7 k17 hb hn0
      obtain ⟨ek, ev⟩ := e
      unfold entV at hta
      dsimp only at k7 k17 hb hn0
      by_cases h1 : ek < c.f16
      · rw [if_pos h1] at hb
        rw [if_pos hb] at hs
        repeat' (first | refine Ga ?_ | (refine Gb ?_; intro b) | (refine Gd ?_; intro g cap rest hcap) | (refine Gc ?_; intro ad cap) | refine Gl h16 ?_ | (refine StD.ok3 rfl (OpOk.ofW OpV.go) rfl ?_; rintro _ _ ⟨rfl, rfl⟩) | (refine Ge ?_ ?_ <;> (intro h; try (exfalso; omega))) | fail)
        all_goals first | (exfalso; omega) | skip
        (refine IH ⟨(k + 1, ad, cap), hlt⟩ (by show _ - (k + 1) < _ - k; omega) ?_ ?_; (dsimp only; rw [hs, List.length_append]; exact Sub.go); (dsimp only; rw [hs, List.length_append, List.flatMap_append]; exact Ent.go))
      · rw [if_neg h1] at hb
        have hg := hget (c.at 11 ((ek - c.f16) / 8) 0)
        have ha := hat ((ek - c.f16) / 8)
        have hq0 : 0 ≤ (ek - c.f16) / 8 := Int.ediv_nonneg (by omega) (by decide)
        have hq1 : (ek - c.f16) / 8 ≤ ek - c.f16 := Int.ediv_le_self _ (by omega)
        rw [hA] at hb hg
        generalize mget A (c.at 11 ((ek - c.f16) / 8) 0) = gl at hb hg
        cases gl with
        | none =>
          rw [if_pos (by rw [hb]; rfl)] at hs
          dsimp only [Option.isSome, Option.getD] at hg
          repeat' (first | refine Ga ?_ | (refine Gb ?_; intro b) | (refine Gd ?_; intro g cap rest hcap) | (refine Gc ?_; intro ad cap) | (refine St.draw (id := 8) [(0, 1), (1, 1), (2, 0), (3, 0), (4, 0), (5, 0), (6, 1), (7, 0), (8, 0), (9, 0), (10, 1), (11, 1), (12, 0), (13, 0), (14, 0), (15, 0), (16, 0)] [] mixed (by kernel_rfl) ?_)| refine Gl h16 ?_ | refine Gl ha ?_ | refine Gl hg ?_ | (refine StD.ok3 rfl (OpOk.ofW OpV.go) rfl ?_; rintro _ _ ⟨rfl, rfl⟩) | (refine Ge ?_ ?_ <;> (intro h; try (exfalso; omega))) | fail)
          all_goals first | (exfalso; omega) | skip
          (refine IH ⟨(k + 1, ad, cap), hlt⟩ (by show _ - (k + 1) < _ - k; omega) ?_ ?_; (dsimp only; rw [hs, List.length_append]; exact Sub.go); (dsimp only; rw [hs, List.length_append, List.flatMap_append]; exact Ent.go))
        | some y =>
          dsimp only [Option.isSome, Option.getD] at hg
          by_cases hy : y = 1
          · subst hy
            rw [if_pos (by rw [hb]; rfl)] at hs
            repeat' (first | refine Ga ?_ | (refine Gb ?_; intro b) | (refine Gd ?_; intro g cap rest hcap) | (refine Gc ?_; intro ad cap) | (refine St.draw (id := 8) [(0, 1), (1, 1), (2, 0), (3, 0), (4, 0), (5, 0), (6, 1), (7, 0), (8, 0), (9, 0), (10, 1), (11, 1), (12, 0), (13, 0), (14, 0), (15, 0), (16, 0)] [] mixed (by kernel_rfl) ?_)| refine Gl h16 ?_ | refine Gl ha ?_ | refine Gl hg ?_ | (refine StD.ok3 rfl (OpOk.ofW OpV.go) rfl ?_; rintro _ _ ⟨rfl, rfl⟩) | (refine Ge ?_ ?_ <;> (intro h; try (exfalso; omega))) | fail)
            all_goals first | (exfalso; omega) | skip
            (refine IH ⟨(k + 1, ad, cap), hlt⟩ (by show _ - (k + 1) < _ - k; omega) ?_ ?_; (dsimp only; rw [hs, List.length_append]; exact Sub.go); (dsimp only; rw [hs, List.length_append, List.flatMap_append]; exact Ent.go))
          · have hy' : ¬ ((y : Nat) : Int) = 1 := by omega
            rw [if_neg (by rw [hb]; simp; omega), List.append_nil] at hs
            repeat' (first | refine Ga ?_ | (refine Gb ?_; intro b) | (refine Gd ?_; intro g cap rest hcap) | (refine Gc ?_; intro ad cap) | (refine St.draw (id := 8) [(0, 1), (1, 1), (2, 0), (3, 0), (4, 0), (5, 0), (6, 1), (7, 0), (8, 0), (9, 0), (10, 1), (11, 1), (12, 0), (13, 0), (14, 0), (15, 0), (16, 0)] [] mixed (by kernel_rfl) ?_)| refine Gl h16 ?_ | refine Gl ha ?_ | refine Gl hg ?_ | (refine StD.ok3 rfl (OpOk.ofW OpV.go) rfl ?_; rintro _ _ ⟨rfl, rfl⟩) | (refine Ge ?_ ?_ <;> (intro h; try (exfalso; omega))) | fail)
            all_goals first | (exfalso; omega) | skip
            (refine IH ⟨(k + 1, wad, wcap), hlt⟩ (by show _ - (k + 1) < _ - k; omega) ?_ ?_; (dsimp only; rw [hs]; exact Sub.go); (dsimp only; rw [hs]; exact Ent.go))
    · obtain rfl : k = A.length := by omega
      clear IH
      rw [List.take_length]
      repeat' (first | refine Ga ?_ | (refine Gb ?_; intro b) | (refine Gd ?_; intro g cap rest hcap) | (refine Gc ?_; intro ad cap) | (refine StD.ok3 rfl (OpOk.ofW OpV.go) rfl ?_; rintro _ _ ⟨rfl, rfl⟩) | (refine Ge ?_ ?_ <;> (intro h; try (exfalso; omega))) | fail)
      all_goals first | (exfalso; omega) | skip
      exact St.d1 Tryz.func48 ⟨_, ⟨wad, wcap, rfl, rfl⟩, Ent.go⟩
end Go.Proofs.YthmbgodcpgkkeaaGreat
end
section
namespace Go.Proofs.YthmbgodcpgkkeaaGreat
set_option maxRecDepth 100000
theorem rheld_r (n : Nat) (most : Int) (h0 : 0 ≤ most) (h1 : most ≤ 1000000) : RTri Tryz.prog 108 #[.int .u64 (n : Int), .int .i64 most] [] (.int .i64 (minI n most)) := by
  apply RTri.of_pure
  unfold minI
  by_cases h : most < (n : Int)
  · rw [if_pos h]
    refine Tri.of_body (vs := [_, _]) Tryz.func108 rfl rfl fun w0 F => ?_
    repeat' (first | refine Ga ?_ | (refine Gb ?_; intro b) | (refine Gd ?_; intro g cap rest hcap) | (refine Gc ?_; intro ad cap)  | (refine Ge ?_ ?_ <;> (intro h; try (exfalso; omega))) | fail)
    all_goals first | (exfalso; omega) | exact St.d1 Tryz.func108 ⟨_, ⟨rfl, rfl⟩, Ent.go⟩ | skip
  · rw [if_neg h]
    refine Tri.of_body (vs := [_, _]) Tryz.func108 rfl rfl fun w0 F => ?_
    repeat' (first | refine Ga ?_ | (refine Gb ?_; intro b) | (refine Gd ?_; intro g cap rest hcap) | (refine Gc ?_; intro ad cap)  | (refine Ge ?_ ?_ <;> (intro h; try (exfalso; omega))) | fail)
    all_goals first | (exfalso; omega) | exact St.d1 Tryz.func108 ⟨_, ⟨rfl, rfl⟩, Ent.go⟩ | skip
set_option maxHeartbeats 2000000 in
theorem rnames_r {q : HProp} {named : List Nat} (c : Cfg) (na : Option Addr) (nn nc : Nat) (ma : Option Addr) (mn mc : Nat) (wt wl nt nl : Int) (hn : ListR u1V q (.slice na nn nc) named) (hnl : named.length ≤ 1000000) (B : Nat) (hb : B ≤ 1000000) : RTri Tryz.prog 113 #[.agg ⟨plV c na nn nc ma mn mc wt wl nt nl⟩, .int .u64 (B : Int)] [q]
    (.bool (decide (B + 1 ∈ named))) := by
  refine RTri.of_reads fun p1 hp => ?_
  replace hn := hn.weak fun b l h => RdC.of_sat hp (ReadsC.here h)
  obtain ⟨_, _, hnn, _⟩ := id hn
  injection hnn with _ hnn _
  subst hnn
  unfold plV Cfg.v
  dsimp only [List.cons_append, List.nil_append]
  generalize hR : decide (B + 1 ∈ named) = R
  replace hR : decide (B + 1 ∈ named.drop 0) = R := hR
  refine Tri.of_body (vs := [_, _]) Tryz.func113 rfl rfl fun w0 F => ?_
  repeat' (first | refine Ga ?_ | (refine Gb ?_; intro b) | (refine Gd ?_; intro g cap rest hcap) | (refine Gc ?_; intro ad cap)  | (refine Ge ?_ ?_ <;> (intro h; try (exfalso; omega))) | fail)
  all_goals first | (exfalso; omega) | skip
  refine St.loopY (Lr := ?Lr1) (ι := { x : Nat // x ≤ named.length ∧ decide (B + 1 ∈ named.drop x) = R }) (fun x => named.length - x.1) (fun x => [(5, .int .i64 (x.1 : Int))]) (fun x => []) ⟨0, Nat.zero_le _, hR⟩ ?hE1 ?hL1 ?round1
  case hE1 => exact Sub.go
  case hL1 => exact Takes.go
  case round1 =>
    rintro ⟨k, hk, hgo⟩ IH; dsimp only at hk hgo IH ⊢
    by_cases hlt : k < named.length
    · obtain ⟨lb, lo, ll, l1, rfl, hrd, hdr, htk⟩ := hn.at' u1V_len k hlt
      rw [List.drop_eq_getElem_cons hlt] at hgo
      generalize named[k] = e at htk hgo
      unfold u1V at htk
      have hn0 : NthN (lo + (k : Int).toNat * 1) ll (.int .u64 (e : Int)) := NthN.part (j := 0) hdr htk (NthN.of rfl)
      by_cases he : e = B + 1
      · have hgo : R = true := by rw [← hgo]; subst he; exact decide_eq_true (List.mem_cons_self ..)
        subst hgo
        repeat' (first | refine Ga ?_ | (refine Gb ?_; intro b) | (refine Gd ?_; intro g cap rest hcap) | (refine Gc ?_; intro ad cap)  | (refine Ge ?_ ?_ <;> (intro h; try (exfalso; omega))) | fail)
        all_goals first | (exfalso; omega) | exact St.d1 Tryz.func113 ⟨_, ⟨rfl, rfl⟩, Ent.go⟩ | skip
      · have hgo : decide (B + 1 ∈ named.drop (k + 1)) = R := by
          rw [← hgo]
          refine decide_eq_decide.2 ⟨fun h => List.mem_cons_of_mem _ h, fun h => ?_⟩
          rcases List.mem_cons.1 h with h | h
          · exact absurd h.symm he
          · exact h
        repeat' (first | refine Ga ?_ | (refine Gb ?_; intro b) | (refine Gd ?_; intro g cap rest hcap) | (refine Gc ?_; intro ad cap)  | (refine Ge ?_ ?_ <;> (intro h; try (exfalso; omega))) | fail)
        all_goals first | (exfalso; omega) | skip
        refine IH ⟨k + 1, hlt, hgo⟩ (by show named.length - (k + 1) < named.length - k; omega) ?_ ?_
        · exact Sub.go
        · exact Ent.go
    · have hgo : R = false := by rw [← hgo, List.drop_of_length_le (by omega)]; exact decide_eq_false (fun h => by cases h)
      subst hgo
      repeat' (first | refine Ga ?_ | (refine Gb ?_; intro b) | (refine Gd ?_; intro g cap rest hcap) | (refine Gc ?_; intro ad cap)  | (refine Ge ?_ ?_ <;> (intro h; try (exfalso; omega))) | fail)
      all_goals first | (exfalso; omega) | exact St.d1 Tryz.func113 ⟨_, ⟨rfl, rfl⟩, Ent.go⟩ | skip
end Go.Proofs.YthmbgodcpgkkeaaGreat
end
