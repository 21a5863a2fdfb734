/-
  Package tumblerref11: Play. Package tumblerlaw11: sample, does; tumblerref07.Right; model.New. Package tumblerlaw11: settled, over the example's memory. Package tumblerlaw11: model.New, alive.
-/
import Derived.Test.YthmbgodcpgkkeaaGreatMi
import Derived.Test.YthmbgodcpgkkeaaGreatExi
section
namespace Go.Proofs.YthmbgodcpgkkeaaGreat
set_option maxRecDepth 100000
theorem rgo_stop {c : Cfg} {os : List Out} {room : Nat} {code : List Ins} {args : List Nat} {r : Rr} {t : Tp} (h : r.s ≠ 0 ∨ t.need = true) (k : Nat) : rgo c os room code args k r t = (t, r) := by
  cases k with
  | zero => rfl
  | succ k =>
    unfold rgo
    rw [if_neg]
    rintro ⟨a, b⟩
    rcases h with h | h
    · exact h a
    · rw [h] at b; cases b
theorem InsR.gr {q q' : HProp} {v : Value} {code : List Ins} (h : InsR q v code) (g : Gr q q') : InsR q' v code := by
  obtain ⟨ad, cap, h1, h2 | ⟨b, o, l, rest, h3, h4, h5⟩⟩ := h
  · exact ⟨ad, cap, h1, .inl h2⟩
  · exact ⟨ad, cap, h1, .inr ⟨b, o, l, rest, h3, g.2 _ _ h4, h5⟩⟩
section
set_option maxHeartbeats 4000000 in
theorem rplay_t {q : HProp} {ov : Value} {os : List Out} (hov : ListR Out.v q ov os) (hos : os.length ≤ 100000) (hosv : ∀ o ∈ os, o.was.val < 18446744073709551616) {c : Cfg} (hc : Small c) (x : Px) (t : Tp) (ht : t.at_ ≤ 100000) (v : Rv) (puts : List (Int × Nat)) (hxs : x.sn = puts.length) (hl : ListR entV q (.slice x.sa x.sn x.sc) puts) (hroom : x.room ≤ 1000000) (hpl : puts.length ≤ 800000) (hpv : ∀ p ∈ puts, p.2 < 18446744073709551616) (hnt : 0 ≤ x.nt ∧ x.nt ≤ 1000) (hnl : 0 ≤ x.nl ∧ x.nl ≤ 1000) (hf0 : 0 ≤ c.fuel) (hfu : c.fuel ≤ 1000)
    (code : List Ins) (cv : Value) (hcv : InsR q cv code) (hci : ∀ i ∈ code, i.imm < 18446744073709551616) (args : List Nat) (ha4 : args.length = 4) (hav : ∀ a ∈ args, a < 18446744073709551616) :
    Tri Tryz.prog 28 #[.agg ⟨evV c v x⟩, .agg ⟨tpV ov t⟩, cv, .agg ⟨g4 args⟩] [q] (RunO c q ov x (rplay c os x.room code args v x.nt x.nl puts t).1 (rplay c os x.room code args v x.nt x.nl puts t).2 id) := by
  have hb1 := hc.b1
  have hri := right5_r q cv code hcv
  obtain ⟨who, seq, held, stale⟩ := v
  obtain ⟨ta, ⟨ak, oa, ⟨ova, osa⟩, ⟨nvb, nsb⟩⟩, tn⟩ := t
  obtain ⟨xna, xnn, xnc, xma, xmn, xmc, xwt, xwl, xnt, xnl, xroom, xsa, xsn, xsc⟩ := x
  dsimp only at hxs hl hroom hnt hnl ht ⊢
  subst hxs
  obtain ⟨oad, ocp, rfl, _⟩ := id hov
  obtain ⟨cad, ccp, rfl, hcr⟩ := id hcv
  have hn0 : ListR u1V q (.slice none 0 0) [] := ⟨none, 0, rfl, Nat.le_refl _, .inl rfl⟩
  unfold evV rvV plV tpV Cfg.v
  dsimp only [List.cons_append, List.nil_append]
  unfold rplay
  cases hr : rightB code with
  | false =>
    rw [hr] at hri
    rw [if_neg Bool.false_ne_true]
    have hf := rfails_r c oad os.length ocp ⟨xna, xnn, xnc, xma, xmn, xmc, xwt, xwl, xnt, xnl, xroom, xsa, puts.length, xsc⟩ none 0 0 ⟨ta, ⟨ak, oa, ⟨ova, osa⟩, ⟨nvb, nsb⟩⟩, tn⟩ (Rr.init ⟨who, seq, held, stale⟩ xnt xnl puts) 30
    refine Tri.of_body (vs := [_, _, _, _]) Tryz.func28 rfl rfl fun w0 F => ?_
    repeat' (first | refine Ga ?_ | (refine Gb ?_; intro b) | (refine Gd ?_; intro g cap rest hcap) | (refine Gc ?_; intro ad cap) | refine Gl hri ?_ | refine Gl hf ?_ | (refine StD.ok3 rfl (OpOk.ofW OpV.go) rfl ?_; rintro _ _ ⟨rfl, rfl⟩) | (refine Ge ?_ ?_ <;> (intro h; try (exfalso; omega))) | fail)
    all_goals first | (exfalso; omega) | skip
    all_goals exact St.d1 Tryz.func28 ⟨_, ⟨q, xsa, xsc, none, 0, Gr.refl q, hl, hn0, rfl, rfl⟩, Ent.go⟩
  | true =>
    rw [hr] at hri
    rw [if_pos rfl]
    obtain ⟨hcl0, hcl1, _⟩ := right_at hr
    have hinit := RI.init (c := c) (n := code.length) (nt0 := xnt) (nl0 := xnl) hosv hf0 hpv hcl0 ⟨who, seq, held, stale⟩ hnt.1
    generalize hR : rgo c os xroom code args (c.fuel.toNat + 1) (Rr.init ⟨who, seq, held, stale⟩ xnt xnl puts) ⟨ta, ⟨ak, oa, ⟨ova, osa⟩, ⟨nvb, nsb⟩⟩, tn⟩ = R
    refine Tri.of_body (vs := [_, _, _, _]) Tryz.func28 rfl rfl fun w0 F => ?_
    repeat' (first | refine Ga ?_ | (refine Gb ?_; intro b) | (refine Gd ?_; intro g cap rest hcap) | (refine Gc ?_; intro ad cap) | refine Gl hri ?_ | (refine StD.ok3 rfl (OpOk.ofW OpV.go) rfl ?_; rintro _ _ ⟨rfl, rfl⟩) | (refine Ge ?_ ?_ <;> (intro h; try (exfalso; omega))) | fail)
    all_goals first | (exfalso; omega) | skip
    revert b; intro RB
    refine St.loopY (Lr := ?Lr1) (ι := { x : (Nat × Rr × Tp) × HProp × (Option Addr × Nat) × (Option Addr × Nat) // Gr q x.2.1 ∧ ListR entV x.2.1 (.slice x.2.2.1.1 x.1.2.1.puts.length x.2.2.1.2) x.1.2.1.puts ∧ ListR u1V x.2.1 (.slice x.2.2.2.1 x.1.2.1.news.length x.2.2.2.2) x.1.2.1.news ∧ RI c code.length puts.length xnt xnl x.1.2.1 ∧ (x.1.2.1.s = 0 → (c.fuel - x.1.2.1.steps).toNat < x.1.1) ∧ x.1.2.2.at_ ≤ 100000 ∧ rgo c os xroom code args x.1.1 x.1.2.1 x.1.2.2 = R }) (fun x => x.1.1.1) (fun _ => [])
      (fun x => [x.1.2.1, bl RB 75 (rnV c (.slice oad os.length ocp) ⟨xna, xnn, xnc, xma, xmn, xmc, xwt, xwl, xnt, xnl, xroom, x.1.2.2.1.1, x.1.1.2.1.puts.length, x.1.2.2.1.2⟩ (.slice x.1.2.2.2.1 x.1.1.2.1.news.length x.1.2.2.2.2) x.1.1.2.2 x.1.1.2.1)]) ⟨((c.fuel.toNat + 1, Rr.init ⟨who, seq, held, stale⟩ xnt xnl puts, ⟨ta, ⟨ak, oa, ⟨ova, osa⟩, ⟨nvb, nsb⟩⟩, tn⟩), q, (xsa, xsc), (none, 0)), Gr.refl q, hl, hn0, hinit, fun _ => by show (c.fuel - 0).toNat < c.fuel.toNat + 1; omega, ht, hR⟩ ?hE1 ?hL1 ?round1
    case hE1 => exact Sub.go
    case hL1 => exact Takes.go
    case round1 =>
      rintro ⟨⟨⟨k, r, t9⟩, qk, ⟨sa, sc⟩, ⟨wa, wc⟩⟩, hg, hlk, hnk, hri9, hkk, ht9, hgo⟩ IH; dsimp only at hg hlk hnk hri9 hkk ht9 hgo IH ⊢
      have stop : r.s ≠ 0 ∨ t9.need = true → R = (t9, r) := fun h => by rw [← hgo]; exact rgo_stop h k
      obtain ⟨ta9, ask9, tn9⟩ := t9
      dsimp only at ht9 stop
      by_cases hs0 : r.s = 0
      · cases tn9 with
        | false =>
          cases k with
          | zero => exact absurd (hkk hs0) (Nat.not_lt_zero _)
          | succ m =>
            rw [rgo, if_pos ⟨hs0, rfl⟩] at hgo
            have hstep := rstep_t (hov.gr hg) hos hc ⟨xna, xnn, xnc, xma, xmn, xmc, xwt, xwl, xnt, xnl, xroom, sa, r.puts.length, sc⟩ wa wc ⟨ta9, ask9, false⟩ ht9 r rfl hlk hnk hroom puts.length hpl xnt xnl hnt.2 hnl hfu code (.slice cad code.length ccp) hr (hcv.gr hg) args ha4 hri9 hs0
            have hnx := hri9.step hosv xroom rfl hr hci args hav (by omega) hs0 ⟨ta9, ask9, false⟩
            have hst := rstep_steps (c := c) (os := os) (r := r) xroom code args ⟨ta9, ask9, false⟩
            have hat := rstep_at (t := ⟨ta9, ask9, false⟩) hos ht9 c xroom code args r
            have hst0 := hri9.st
            dsimp only at hstep
            generalize rstep c os xroom code args r ⟨ta9, ask9, false⟩ = y at hstep hnx hst hat hgo
            obtain ⟨t2, r2⟩ := y
            dsimp only at hstep hnx hst hat hgo
            repeat' (first | refine Ga ?_ | (refine Gb ?_; intro b) | (refine Gd ?_; intro g cap rest hcap) | (refine Gc ?_; intro ad cap)  | (refine Gt hstep ?_; rintro _ _ ⟨q', sa', sc', wa', wc', hgr, hl', hn', rfl, rfl⟩) | (refine StD.ok3 rfl (OpOk.ofW OpV.go) rfl ?_; rintro _ _ ⟨rfl, rfl⟩) | (refine Ge ?_ ?_ <;> (intro h; try (exfalso; omega))) | fail)
            all_goals first | (exfalso; omega) | skip
            all_goals refine IH ⟨((m, r2, t2), q', (sa', sc'), (wa', wc')), hg.trans hgr, hl', hn', hnx, fun h0 => by have := hst h0; have := hkk hs0; have := hnx.st; dsimp only at *; omega, hat, hgo⟩ (Nat.lt_succ_self m) ?_ ?_
            all_goals first | (exact Sub.go) | (exact Ent.go)
        | true =>
          have e := stop (.inr rfl)
          subst e
          clear IH
          unfold Rr.undo
          by_cases her : r.er ≠ 0
          · rw [if_pos her]
            repeat' (first | refine Ga ?_ | (refine Gb ?_; intro b) | (refine Gd ?_; intro g cap rest hcap) | (refine Gc ?_; intro ad cap)  | (refine StD.ok3 rfl (OpOk.ofW OpV.go) rfl ?_; rintro _ _ ⟨rfl, rfl⟩) | (refine Ge ?_ ?_ <;> (intro h; try (exfalso; omega))) | fail)
            all_goals first | (exfalso; omega) | skip
            all_goals exact St.d1 Tryz.func28 ⟨_, ⟨qk, xsa, xsc, wa, wc, hg, hl.gr hg, hnk, rfl, rfl⟩, Ent.go⟩
          · rw [if_neg her]
            repeat' (first | refine Ga ?_ | (refine Gb ?_; intro b) | (refine Gd ?_; intro g cap rest hcap) | (refine Gc ?_; intro ad cap)  | (refine StD.ok3 rfl (OpOk.ofW OpV.go) rfl ?_; rintro _ _ ⟨rfl, rfl⟩) | (refine Ge ?_ ?_ <;> (intro h; try (exfalso; omega))) | fail)
            all_goals first | (exfalso; omega) | skip
            all_goals exact St.d1 Tryz.func28 ⟨_, ⟨qk, sa, sc, wa, wc, hg, hlk, hnk, rfl, rfl⟩, Ent.go⟩
      · have e := stop (.inl hs0)
        subst e
        clear IH
        unfold Rr.undo
        by_cases her : r.er ≠ 0
        · rw [if_pos her]
          repeat' (first | refine Ga ?_ | (refine Gb ?_; intro b) | (refine Gd ?_; intro g cap rest hcap) | (refine Gc ?_; intro ad cap)  | (refine StD.ok3 rfl (OpOk.ofW OpV.go) rfl ?_; rintro _ _ ⟨rfl, rfl⟩) | (refine Ge ?_ ?_ <;> (intro h; try (exfalso; omega))) | fail)
          all_goals first | (exfalso; omega) | skip
          all_goals exact St.d1 Tryz.func28 ⟨_, ⟨qk, xsa, xsc, wa, wc, hg, hl.gr hg, hnk, rfl, rfl⟩, Ent.go⟩
        · rw [if_neg her]
          repeat' (first | refine Ga ?_ | (refine Gb ?_; intro b) | (refine Gd ?_; intro g cap rest hcap) | (refine Gc ?_; intro ad cap)  | (refine StD.ok3 rfl (OpOk.ofW OpV.go) rfl ?_; rintro _ _ ⟨rfl, rfl⟩) | (refine Ge ?_ ?_ <;> (intro h; try (exfalso; omega))) | fail)
          all_goals first | (exfalso; omega) | skip
          all_goals exact St.d1 Tryz.func28 ⟨_, ⟨qk, sa, sc, wa, wc, hg, hlk, hnk, rfl, rfl⟩, Ent.go⟩
end
end Go.Proofs.YthmbgodcpgkkeaaGreat
end
section
namespace Go.Proofs.YthmbgodcpgkkeaaGreat
def cfg0 : Cfg := ⟨2, 3, 20, 50, 0, 99⟩
theorem sample_r : RTri Tryz.prog 102 #[] [] (.agg ⟨cfg0.v⟩) := by
  apply RTri.of_pure
  refine Tri.of_body (vs := []) Tryz.func102 rfl rfl fun w0 F => ?_
  repeat' (first | refine Ga ?_ | (refine Gb ?_; intro b) | (refine Gd ?_; intro g cap rest hcap) | (refine Gc ?_; intro ad cap)  | (refine Ge ?_ ?_ <;> (intro h; try (exfalso; omega))) | fail)
  (first | refine St.dn Tryz.func102 ⟨?_, rfl⟩ Ent.go | refine St.fl Tryz.func102 ⟨?_, rfl⟩ Ent.go)
  rfl
/-- a memory, with a trace of at most k steps -/
structure MemX (k : Nat) where
  C : Nat
  st : List Int
  hst : st.length = 8
  tv : Value
  tr : List Ev
  htr : tr.length ≤ k
def memL (M : Nat) (cs : List Cell) (k : Nat) (x : MemX k) : List HProp := [bl M 244 (memV x.C cs.length x.st x.tv), bl x.C 39 (cs.flatMap Cell.v), Row x.tv 285 10 x.tr.length (x.tr.flatMap Ev.v)]
def MemE (M : Nat) (cs : List Cell) (k : Nat) : HProp := ex (memL M cs k)
def doOut (cs : List Cell) (who : Int) (o : MOp) : Out := if checkOf cs.length who o = 0 then outOf (cs.getD o.at_.toNat ⟨0, 0⟩) o else ⟨⟨0, 0⟩, false⟩
def doMem (cs : List Cell) (who : Int) (o : MOp) : List Cell := if checkOf cs.length who o = 0 then cs.set o.at_.toNat (becomes (cs.getD o.at_.toNat ⟨0, 0⟩) o) else cs
theorem Tri.wk {P : Program} {f : FuncId} {args : Array Value} {L : List HProp} {Q Q' : Value → List HProp → Prop} (h : Tri P f args L Q) (hq : ∀ v L', Q v L' → ∃ M, Q' v M ∧ Ent L' M) : Tri P f args L Q' := by
  unfold Tri at *
  intro w F hs
  refine (h w F hs).mono ?_
  rintro e w' ⟨v, L', he, h1, hs', ho⟩
  obtain ⟨M, h2, h3⟩ := hq v L' h1
  have := h3.app (N := F)
  unfold Ent at this
  exact ⟨v, M, he, h2, this _ hs', ho⟩
theorem do_tE (M : Nat) (cs : List Cell) (k : Nat) (hk : k ≤ 1000000) (who : Int) (o : MOp) : Tri Tryz.prog 87 #[.pointer (some ⟨M, 0, none⟩), .int .i64 who, .agg ⟨o.v⟩] [MemE M cs k]
    fun r L => ∃ code, r = .tuple ⟨[.agg ⟨(doOut cs who o).v⟩, .int .i64 code]⟩ ∧ L = [MemE M (doMem cs who o) (k + 1)] := by
  refine Tri.ex_out ?_
  rintro ⟨C, st, hst, tv, tr, htr⟩
  refine (do_t M C cs st hst tv tr (by omega) who o).wk ?_
  rintro v L' (⟨hne, rfl, rfl⟩ | ⟨h0, hlt, hw, tv', rfl, rfl⟩)
  · unfold doOut doMem
    rw [if_neg hne, if_neg hne]
    exact ⟨_, ⟨_, rfl, rfl⟩, Ent.ex_in (Ls := memL M cs (k + 1)) (L := []) ⟨C, st, hst, tv, tr, by omega⟩⟩
  · unfold doOut doMem
    rw [if_pos h0, if_pos h0]
    have e : cs.getD o.at_.toNat ⟨0, 0⟩ = cs[o.at_.toNat] := by rw [List.getD_eq_getElem?_getD, List.getElem?_eq_getElem hlt]; rfl
    rw [e]
    refine ⟨_, ⟨_, rfl, rfl⟩, ?_⟩
    have := Ent.ex_in (Ls := memL M (cs.set o.at_.toNat (becomes cs[o.at_.toNat] o)) (k + 1)) (L := []) ⟨C, st.set who.toNat (IntKind.i64.wrap (st[who.toNat] + 1)), by rw [List.length_set]; exact hst, tv', tr ++ [Ev.mk who o (outOf cs[o.at_.toNat] o)], by rw [List.length_append]; simp; omega⟩
    have heq : ∀ x : MemX (k + 1), memL M (cs.set o.at_.toNat (becomes cs[o.at_.toNat] o)) (k + 1) x = [bl M 244 (memV x.C cs.length x.st x.tv), bl x.C 39 ((cs.set o.at_.toNat (becomes cs[o.at_.toNat] o)).flatMap Cell.v), Row x.tv 285 10 x.tr.length (x.tr.flatMap Ev.v)] := fun x => by unfold memL; rw [List.length_set]
    rw [heq] at this
    dsimp only at this
    rw [List.length_append] at this
    exact this
set_option maxRecDepth 100000 in
theorem does_tE (M : Nat) (cs : List Cell) (k : Nat) (hk : k ≤ 1000000) (who : Int) (o : MOp) : Tri Tryz.prog 73 #[.pointer (some ⟨M, 0, none⟩), .int .i64 who, .agg ⟨o.v⟩] [MemE M cs k]
    fun r L => r = .agg ⟨(doOut cs who o).v⟩ ∧ L = [MemE M (doMem cs who o) (k + 1)] := by
  have hd := do_tE M cs k hk who o
  refine Tri.of_body (vs := [_, _, _]) Tryz.func73 rfl rfl fun w0 F => ?_
  repeat' (first | refine Ga ?_ | (refine Gb ?_; intro b) | (refine Gd ?_; intro g cap rest hcap) | (refine Gc ?_; intro ad cap)  | (refine Gt hd ?_; rintro _ _ ⟨code, rfl, rfl⟩) | (refine Ge ?_ ?_ <;> (intro h; try (exfalso; omega))) | fail)
  refine St.d1 Tryz.func73 ⟨_, ⟨rfl, rfl⟩, ?_⟩
  exact Ent.go
/-- a memory, sealed -/
def Mm (M : Nat) (cs : List Cell) (k : Nat) : HProp := MemE M cs k
theorem does_t (M : Nat) (cs : List Cell) (k : Nat) (hk : k ≤ 1000000) (who : Int) (o : MOp) : Tri Tryz.prog 73 #[.pointer (some ⟨M, 0, none⟩), .int .i64 who, .agg ⟨o.v⟩] [Mm M cs k]
    fun r L => r = .agg ⟨(doOut cs who o).v⟩ ∧ L = [Mm M (doMem cs who o) (k + 1)] := does_tE M cs k hk who o
theorem bootm_t (c : Cfg) (hc : Small c) : Tri Tryz.prog 50 #[.agg ⟨c.m⟩] [] fun v L => ∃ M, v = .pointer (some ⟨M, 0, none⟩) ∧ L = [Mm M c.boot 0] := by
  refine (boot_t c hc).wk ?_
  rintro v L' ⟨M, C, rfl, rfl⟩
  refine ⟨_, ⟨M, rfl, rfl⟩, ?_⟩
  have hl : c.boot.length = c.size := c.bootN_len _
  have := Ent.ex_in (Ls := memL M c.boot 0) (L := []) ⟨C, zeros8, rfl, .slice none 0 0, [], Nat.le_refl _⟩
  have heq : ∀ x : MemX 0, memL M c.boot 0 x = [bl M 244 (memV x.C c.size x.st x.tv), bl x.C 39 (c.boot.flatMap Cell.v), Row x.tv 285 10 x.tr.length (x.tr.flatMap Ev.v)] := fun x => by unfold memL; rw [hl]
  rw [heq] at this
  refine Ent.trans ?_ this
  refine Ent.trans (Ent.row_nil 285 10) ?_
  exact Ent.go
attribute [irreducible] Mm
end Go.Proofs.YthmbgodcpgkkeaaGreat
end
section
namespace Go.Proofs.YthmbgodcpgkkeaaGreat
theorem small0 : Small cfg0 := Cfg.small (by decide +kernel)
def cs0 : List Cell := cfg0.boot
def po0 : Po := Po.new 0
def po1 : Po := ⟨0, 1, [0], 0, 0, 0, 0, [], 0⟩
def po2 : Po := ⟨0, 2, [0, 0], 0, 0, 0, 0, [], 0⟩
def po3 : Po := ⟨0, 3, [0, 0], 3, 0, 0, 0, [], 0⟩
def po4 : Po := ⟨0, 4, [0, 0], 3, 0, 3, 0, [], 1⟩
def oA : Out := ⟨⟨0, 0⟩, true⟩
def oB : Out := ⟨⟨3, 0⟩, true⟩
set_option maxRecDepth 100000
theorem ask0 : po0.ask cfg0 = (mop 0 6 0, true) := by kernel_rfl
theorem wout0 : doOut cs0 1 (mop 0 6 0) = oA := by kernel_rfl
theorem mem0 : doMem cs0 1 (mop 0 6 0) = cs0 := by kernel_rfl
theorem tell0 : po0.tell cfg0 oA = po1 := by kernel_rfl
theorem ask1 : po1.ask cfg0 = (mop 0 188 0, true) := by kernel_rfl
theorem wout1 : doOut cs0 1 (mop 0 188 0) = oA := by kernel_rfl
theorem mem1 : doMem cs0 1 (mop 0 188 0) = cs0 := by kernel_rfl
theorem tell1 : po1.tell cfg0 oA = po2 := by kernel_rfl
theorem ask2 : po2.ask cfg0 = (mop 0 390 0, true) := by kernel_rfl
theorem wout2 : doOut cs0 1 (mop 0 390 0) = oB := by kernel_rfl
theorem mem2 : doMem cs0 1 (mop 0 390 0) = cs0 := by kernel_rfl
theorem tell2 : po2.tell cfg0 oB = po3 := by kernel_rfl
theorem ask3 : po3.ask cfg0 = (mop 0 394 0, true) := by kernel_rfl
theorem wout3 : doOut cs0 1 (mop 0 394 0) = oA := by kernel_rfl
theorem mem3 : doMem cs0 1 (mop 0 394 0) = cs0 := by kernel_rfl
theorem tell3 : po3.tell cfg0 oA = po4 := by kernel_rfl
theorem ask4 : po4.ask cfg0 = (mop 0 0 0, false) := by kernel_rfl
theorem settled4 : po4.settled cfg0 100 [] = po4 := by kernel_rfl
theorem settled4w : (setGo cfg0 100 po4.names 0 po4.limbo ⟨0, po4.nt, []⟩).puts = [] := by kernel_rfl
set_option maxHeartbeats 1000000 in
theorem settled_t (M W : Nat) : Tri Tryz.prog 72 #[.agg ⟨cfg0.m⟩, .pointer (some ⟨M, 0, none⟩), .int .i64 1, .int .u64 0, .pointer (some ⟨W, 0, none⟩)] [Mm M cs0 0, Ws W 100 []]
    fun r L => ∃ Pb, r = .pointer (some ⟨Pb, 0, none⟩) ∧ L = [Pl Pb cfg0 po4, Mm M cs0 4, Ws W 100 []] := by
  have hn : Tri _ _ _ _ (fun r L => ∃ Pb, r = .pointer (some ⟨Pb, 0, none⟩) ∧ L = [Pl Pb cfg0 po0]) := pnew_t cfg0 0
  have ha0 := fun Pb => pask_r Pb cfg0 small0 po0 (by decide)
  rw [ask0] at ha0
  have hd0 := does_t M cs0 0 (by decide) 1 (mop 0 6 0)
  rw [wout0, mem0] at hd0
  have ht0 := fun Pb => ptell_t Pb cfg0 small0 po0 oA (by decide) (by decide) (by decide)
  rw [tell0] at ht0
  have ha1 := fun Pb => pask_r Pb cfg0 small0 po1 (by decide)
  rw [ask1] at ha1
  have hd1 := does_t M cs0 1 (by decide) 1 (mop 0 188 0)
  rw [wout1, mem1] at hd1
  have ht1 := fun Pb => ptell_t Pb cfg0 small0 po1 oA (by decide) (by decide) (by decide)
  rw [tell1] at ht1
  have ha2 := fun Pb => pask_r Pb cfg0 small0 po2 (by decide)
  rw [ask2] at ha2
  have hd2 := does_t M cs0 2 (by decide) 1 (mop 0 390 0)
  rw [wout2, mem2] at hd2
  have ht2 := fun Pb => ptell_t Pb cfg0 small0 po2 oB (by decide) (by decide) (by decide)
  rw [tell2] at ht2
  have ha3 := fun Pb => pask_r Pb cfg0 small0 po3 (by decide)
  rw [ask3] at ha3
  have hd3 := does_t M cs0 3 (by decide) 1 (mop 0 394 0)
  rw [wout3, mem3] at hd3
  have ht3 := fun Pb => ptell_t Pb cfg0 small0 po3 oA (by decide) (by decide) (by decide)
  rw [tell3] at ht3
  have ha4 := fun Pb => pask_r Pb cfg0 small0 po4 (by decide)
  rw [ask4] at ha4
  have hs := fun Pb => psettle_t Pb W 100 cfg0 small0 po4 [] (by decide) (by decide) (by decide)
  rw [settled4, settled4w] at hs
  refine Tri.of_body (vs := [_, _, _, _, _]) Tryz.func72 rfl rfl fun w0 F => ?_
  repeat' (first | (apply St.loop1) | (apply St.inLoop1) | refine Ga ?_ | (refine Gb ?_; intro b) | (refine Gd ?_; intro g cap rest hcap) | (refine Gc ?_; intro ad cap) | refine Gl (ha0 _) ?_ | refine Gl (ha1 _) ?_ | refine Gl (ha2 _) ?_ | refine Gl (ha3 _) ?_ | refine Gl (ha4 _) ?_ | (refine Gt hn ?_; rintro _ _ ⟨Pb, rfl, rfl⟩) | (refine Gt hd0 ?_; rintro _ _ ⟨rfl, rfl⟩) | (refine Gt hd1 ?_; rintro _ _ ⟨rfl, rfl⟩) | (refine Gt hd2 ?_; rintro _ _ ⟨rfl, rfl⟩) | (refine Gt hd3 ?_; rintro _ _ ⟨rfl, rfl⟩) | (refine Gt (ht0 _) ?_; rintro _ _ ⟨rfl, rfl⟩) | (refine Gt (ht1 _) ?_; rintro _ _ ⟨rfl, rfl⟩) | (refine Gt (ht2 _) ?_; rintro _ _ ⟨rfl, rfl⟩) | (refine Gt (ht3 _) ?_; rintro _ _ ⟨rfl, rfl⟩) | (refine Gt (hs _) ?_; rintro _ _ ⟨rfl, rfl⟩) | (refine Ge ?_ ?_ <;> (intro h; try (exfalso; omega))) | fail)
  refine St.d1 Tryz.func72 ⟨_, ⟨_, rfl, rfl⟩, ?_⟩
  exact Ent.go
end Go.Proofs.YthmbgodcpgkkeaaGreat
end
section
namespace Go.Proofs.YthmbgodcpgkkeaaGreat
set_option maxRecDepth 100000
def blkV (l : Value × Unit) : Value := l.1
instance : MapTy Tryz.prog 248 Int (Value × Unit) (Value.int .u64) blkV (.agg #[.int .u64 0, .int .u64 0, .int .u64 0, .int .u64 0, .int .u64 0, .int .u64 0, .int .u64 0, .int .u64 0], ()) :=
  MapTy.int Tryz.underlying248 Tryz.underlying22 (inferInstance : Zer Tryz.prog 257 _).h
theorem mnew_t : Tri Tryz.prog 55 #[] [] fun r L => (∃ S, r = .pointer (some ⟨S, 0, none⟩)) ∧ L = [] := by
  refine Tri.of_body (vs := []) Tryz.func55 rfl rfl fun w0 F => ?_
  repeat' (first | refine Ga ?_ | (refine Gb ?_; intro b) | (refine Gd ?_; intro g cap rest hcap) | (refine Gc ?_; intro ad cap)  | (refine Ge ?_ ?_ <;> (intro h; try (exfalso; omega))) | fail)
  refine St.d1 Tryz.func55 ⟨_, ⟨⟨_, rfl⟩, rfl⟩, ?_⟩
  exact Ent.go
def code0 : List Ins := [⟨15, 1, 0, 0, 0⟩, ⟨0, 2, 0, 0, 7⟩, ⟨13, 2, 1, 0, 3⟩, ⟨9, 4, 3, 0, 0⟩, ⟨11, 5, 1, 0, 3⟩, ⟨20, 5, 0, 0, 0⟩]
def code1 : List Ins := [⟨21, 0, 0, 0, 5⟩]
def args0 : List Nat := [0, 0, 0, 0]
def xm0 : Xm := ⟨⟨args0, 0, 3, 0, regs0, 1, 1, 9, true, ⟨15, 1, 0, 0, 0⟩, 0, 0, 0⟩, ⟨1, 0, -1, 3, 0, 393, 0, 0⟩, po4, [], []⟩
def puts1 : List (Int × Nat) := [(387, 1), (437, 0), (438, 0), (439, 0), (440, 0), (441, 0), (442, 0), (443, 0), (444, 0), (440, 7)]
def po5 : Po := ⟨0, 4, [0, 0], 3, 0, 2, 0, [], 1⟩
def xm1 : Xm := ⟨⟨args0, 0, 3, 0, [0, 1, 7, 0, 0, 0, 0, 0, 0, 0, 0, 0, 0, 0, 0, 0], 4, 4, 10, true, ⟨9, 4, 3, 0, 0⟩, 0, 0, 0⟩, ⟨1, 0, -1, 3, 0, 371, 0, 0⟩, po5, puts1, [1]⟩
def xm2 : Xm := ⟨⟨args0, 0, 3, 0, [0, 1, 7, 0, 0, 7, 0, 0, 0, 0, 0, 0, 0, 0, 0, 0], 6, 6, 10, false, ⟨20, 5, 0, 0, 0⟩, 1, 0, 7⟩, ⟨1, 0, -1, 0, 0, 371, 0, 1⟩, po5, puts1, [1]⟩
def xm3 : Xm := ⟨⟨args0, 10, 2, 0, regs0, 1, 1, 0, false, ⟨21, 0, 0, 0, 5⟩, 1, 40, 5⟩, ⟨1, 0, -1, 0, 0, 371, 0, 1⟩, po5, puts1, []⟩
theorem start0 : Xm.start cfg0 100 code0 (Vw.new 1 0) po4 [] args0 = xm0 := by kernel_rfl
theorem xask0 : xm0.ask cfg0 = (mop 0 393 0, true) := by kernel_rfl
theorem xout0 : doOut cs0 1 (mop 0 393 0) = oA := by kernel_rfl
theorem xmem0 : doMem cs0 1 (mop 0 393 0) = cs0 := by kernel_rfl
theorem xtell0 : xm0.tell cfg0 100 code0 oA = xm1 := by kernel_rfl
theorem xask1 : xm1.ask cfg0 = (mop 0 371 0, true) := by kernel_rfl
theorem xout1 : doOut cs0 1 (mop 0 371 0) = oA := by kernel_rfl
theorem xmem1 : doMem cs0 1 (mop 0 371 0) = cs0 := by kernel_rfl
theorem xtell1 : xm1.tell cfg0 100 code0 oA = xm2 := by kernel_rfl
theorem xask2 : xm2.ask cfg0 = (mop 0 0 0, false) := by kernel_rfl
theorem start1 : Xm.start cfg0 100 code1 xm2.v xm2.p xm2.puts args0 = xm3 := by kernel_rfl
theorem got2 : mget (allP xm2.puts) 440 = some 7 := by kernel_rfl
theorem right0 : rightB code0 = true := by kernel_rfl
theorem right1 : rightB code1 = true := by kernel_rfl
theorem InsR.bl (b t cap : Nat) (code : List Ins) : InsR (bl b t (code.flatMap Ins.v)) (.slice (some ⟨b, 0, none⟩) code.length cap) code :=
  ⟨_, _, rfl, .inr ⟨b, 0, _, [], rfl, RdC.bl, by rw [List.append_nil]; exact .zero⟩⟩
theorem begin0 : Start cfg0 [] 3 0 := ⟨small0, by decide, by decide, by decide, by decide⟩
theorem begin1 : Start cfg0 puts1 2 0 := ⟨small0, by decide, by decide, by decide, by decide⟩
theorem inv0 : Xinv cfg0 code0 [] 3 0 0 (Xm.init (Vw.new 1 0) po4 [] args0) := Xinv.init right0 begin0 (by decide) _ _ rfl rfl _ rfl (by decide)
theorem inv1 : Xinv cfg0 code1 puts1 2 0 0 (Xm.init xm2.v xm2.p xm2.puts args0) := Xinv.init right1 begin1 (by decide) _ _ rfl rfl _ rfl (by decide)
theorem stop0 : Xinv cfg0 code0 [] 3 0 0 xm0 ∧ xm0.stops := by
  have := run_inv (run_inv' begin0 100 right0 0) _ _ inv0 (Nat.le_refl _)
  have e : (Xm.init (Vw.new 1 0) po4 [] args0).run cfg0 100 code0 = xm0 := by have := start0; unfold Xm.start at this; rwa [if_pos right0] at this
  rwa [e] at this
theorem inv0t : Xinv cfg0 code0 [] 3 0 1 { xm0 with v := xm0.v.tell oA } := stop0.1.tell stop0.2 rfl (by kernel_rfl) oA
theorem stop1 : Xinv cfg0 code0 [] 3 0 1 xm1 ∧ xm1.stops := by
  have := run_inv (run_inv' begin0 100 right0 1) _ _ inv0t (Nat.le_refl _)
  have e : Xm.run cfg0 100 code0 { xm0 with v := xm0.v.tell oA } = xm1 := by have := xtell0; unfold Xm.tell at this; rwa [if_pos (by rfl)] at this
  rwa [e] at this
theorem inv1t : Xinv cfg0 code0 [] 3 0 2 { xm1 with v := xm1.v.tell oA } := stop1.1.tell stop1.2 rfl (by kernel_rfl) oA
end Go.Proofs.YthmbgodcpgkkeaaGreat
end
