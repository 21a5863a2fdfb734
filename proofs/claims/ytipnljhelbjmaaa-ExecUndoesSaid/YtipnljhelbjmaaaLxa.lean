/-
  Package tumblerlaw11: sample, does; tumblerref07.Right; model.New.
-/
import Derived.Test.YtipnljhelbjmaaaExk
namespace Go.Proofs.Ytipnljhelbjmaaa
theorem rright_r (c : Cfg) : RTri Try.prog 28 #[.agg ⟨c.v⟩] [] (.bool c.right) := by
  apply RTri.of_pure
  refine Tri.of_body (vs := [_]) Try.func28 rfl rfl fun w0 F => ?_
  repeat' (first |  (first | (apply StL.v; exact OpV.go; rfl) | (apply StL.ok; exact OpOk.gt; rfl; rintro _ _ ⟨rfl, rfl⟩) | (apply StL.ok; exact OpOk.gf; rfl; rintro _ _ ⟨b, rfl, rfl⟩) | (apply StL.ok; exact OpOk.gn; rfl; rintro _ _ ⟨g, cap, rest, rfl, hcap, rfl⟩) | (apply StL.ok; exact OpOk.ga; rfl; rintro _ _ ⟨ad, cap, rfl, rfl⟩) | (apply StL.g_yes; rfl; rfl) | (apply StL.g_no; rfl; rfl; rfl; rfl) | (apply StL.g_undef; rfl; rfl; rfl) | (apply StL.gsplit; rfl; rfl; all_goals (intro h; (first | replace h := of_decide_eq_true h | replace h := of_decide_eq_false h | replace h := beq_iff_eq.1 h | replace h := beq_eq_false_iff_ne.1 h | replace h := bne_iff_ne.1 h | replace h := bne_eq_false_iff_eq.1 h | skip); (try (exfalso; omega)))) | apply StL.nil | apply St.region | apply St.seq | apply St.block | apply St.inBlock | apply St.skip | (apply St.exit; rfl) | (apply St.cond_t; rfl) | (apply St.cond_f; rfl) | (apply St.cond; rfl; all_goals (intro h; (first | replace h := of_decide_eq_true h | replace h := of_decide_eq_false h | replace h := beq_iff_eq.1 h | replace h := beq_eq_false_iff_ne.1 h | replace h := bne_iff_ne.1 h | replace h := bne_eq_false_iff_eq.1 h | skip); (try (exfalso; omega))))) | (first | (apply StD.v0; rfl; exact OpV.go; rfl) | (apply StD.v1; rfl; exact OpV.go; exact Ent.go; rfl) | (apply StD.ok3; rfl; exact OpOk.gt; rfl; rintro _ _ ⟨rfl, rfl⟩) | (apply StD.ok2; rfl; exact OpOk.gf; rfl; rintro _ _ ⟨b, rfl, rfl⟩; refine ⟨Ent.go, ?_⟩) | (apply StD.ok3; rfl; exact OpOk.gf; rfl; rintro _ _ ⟨b, rfl, rfl⟩) | (apply StD.ok3; rfl; exact OpOk.gn; rfl; rintro _ _ ⟨g, cap, rest, rfl, hcap, rfl⟩) | (apply StD.ok3; rfl; exact OpOk.ga; rfl; rintro _ _ ⟨ad, cap, rfl, rfl⟩) | apply StD.nil | exact StD.nope | apply StD.pick | (apply StD.claim; rfl; intro b) | (apply StD.g0; rfl; rfl; rfl; exact OpV.go; rfl) | (apply StD.g1; rfl; rfl; rfl; exact OpV.go; exact Ent.go; rfl) | (apply StD.skip0; rfl; rfl; rfl; rfl; rfl) | (apply StD.skip1; rfl; rfl; rfl; rfl; exact Ent.go; rfl) | (apply StD.skipu; rfl; rfl; rfl; rfl) | (apply StD.skipu1; rfl; rfl; rfl; exact Ent.go; rfl))   | (apply StD.gsplit; rfl; rfl; rfl; all_goals (intro h; (first | replace h := of_decide_eq_true h | replace h := of_decide_eq_false h | replace h := beq_iff_eq.1 h | replace h := beq_eq_false_iff_ne.1 h | replace h := bne_iff_ne.1 h | replace h := bne_eq_false_iff_eq.1 h | skip); (try (exfalso; omega)))))
  all_goals (first | refine St.dn Try.func28 ⟨?_, rfl⟩ Ent.go | refine St.fl Try.func28 ⟨?_, rfl⟩ Ent.go)
  all_goals exact congrArg Value.bool (by first | (simp [Cfg.right]; omega) | (rw [Bool.eq_iff_iff]; simp [Cfg.right]; omega))
def cfg0 : Cfg := ⟨2, 3, 20, 50, 0, 99⟩
theorem sample_r : RTri Try.prog 21 #[] [] (.agg ⟨cfg0.v⟩) := by
  apply RTri.of_pure
  refine Tri.of_body (vs := []) Try.func21 rfl rfl fun w0 F => ?_
  repeat' (first |  (first | (apply StL.v; exact OpV.go; rfl) | (apply StL.ok; exact OpOk.gt; rfl; rintro _ _ ⟨rfl, rfl⟩) | (apply StL.ok; exact OpOk.gf; rfl; rintro _ _ ⟨b, rfl, rfl⟩) | (apply StL.ok; exact OpOk.gn; rfl; rintro _ _ ⟨g, cap, rest, rfl, hcap, rfl⟩) | (apply StL.ok; exact OpOk.ga; rfl; rintro _ _ ⟨ad, cap, rfl, rfl⟩) | (apply StL.g_yes; rfl; rfl) | (apply StL.g_no; rfl; rfl; rfl; rfl) | (apply StL.g_undef; rfl; rfl; rfl) | (apply StL.gsplit; rfl; rfl; all_goals (intro h; (first | replace h := of_decide_eq_true h | replace h := of_decide_eq_false h | replace h := beq_iff_eq.1 h | replace h := beq_eq_false_iff_ne.1 h | replace h := bne_iff_ne.1 h | replace h := bne_eq_false_iff_eq.1 h | skip); (try (exfalso; omega)))) | apply StL.nil | apply St.region | apply St.seq | apply St.block | apply St.inBlock | apply St.skip | (apply St.exit; rfl) | (apply St.cond_t; rfl) | (apply St.cond_f; rfl) | (apply St.cond; rfl; all_goals (intro h; (first | replace h := of_decide_eq_true h | replace h := of_decide_eq_false h | replace h := beq_iff_eq.1 h | replace h := beq_eq_false_iff_ne.1 h | replace h := bne_iff_ne.1 h | replace h := bne_eq_false_iff_eq.1 h | skip); (try (exfalso; omega))))) | (first | (apply StD.v0; rfl; exact OpV.go; rfl) | (apply StD.v1; rfl; exact OpV.go; exact Ent.go; rfl) | (apply StD.ok3; rfl; exact OpOk.gt; rfl; rintro _ _ ⟨rfl, rfl⟩) | (apply StD.ok2; rfl; exact OpOk.gf; rfl; rintro _ _ ⟨b, rfl, rfl⟩; refine ⟨Ent.go, ?_⟩) | (apply StD.ok3; rfl; exact OpOk.gf; rfl; rintro _ _ ⟨b, rfl, rfl⟩) | (apply StD.ok3; rfl; exact OpOk.gn; rfl; rintro _ _ ⟨g, cap, rest, rfl, hcap, rfl⟩) | (apply StD.ok3; rfl; exact OpOk.ga; rfl; rintro _ _ ⟨ad, cap, rfl, rfl⟩) | apply StD.nil | exact StD.nope | apply StD.pick | (apply StD.claim; rfl; intro b) | (apply StD.g0; rfl; rfl; rfl; exact OpV.go; rfl) | (apply StD.g1; rfl; rfl; rfl; exact OpV.go; exact Ent.go; rfl) | (apply StD.skip0; rfl; rfl; rfl; rfl; rfl) | (apply StD.skip1; rfl; rfl; rfl; rfl; exact Ent.go; rfl) | (apply StD.skipu; rfl; rfl; rfl; rfl) | (apply StD.skipu1; rfl; rfl; rfl; exact Ent.go; rfl))   | (apply StD.gsplit; rfl; rfl; rfl; all_goals (intro h; (first | replace h := of_decide_eq_true h | replace h := of_decide_eq_false h | replace h := beq_iff_eq.1 h | replace h := beq_eq_false_iff_ne.1 h | replace h := bne_iff_ne.1 h | replace h := bne_eq_false_iff_eq.1 h | skip); (try (exfalso; omega)))))
  (first | refine St.dn Try.func21 ⟨?_, rfl⟩ Ent.go | refine St.fl Try.func21 ⟨?_, rfl⟩ Ent.go)
  rfl
/-- a memory, with a trace of at most k steps -/
structure MemX (k : Nat) where
  C : Nat
  st : List Int
  hst : st.length = 8
  tv : Value
  tr : List Ev
  htr : tr.length ≤ k
def memL (M : Nat) (cs : List Cell) (k : Nat) (x : MemX k) : List HProp := [bl M 132 (memV x.C cs.length x.st x.tv), bl x.C 43 (cs.flatMap Cell.v), Row x.tv 136 10 x.tr.length (x.tr.flatMap Ev.v)]
def MemE (M : Nat) (cs : List Cell) (k : Nat) : HProp := ex (memL M cs k)
def doOut (cs : List Cell) (who : Int) (o : MOp) : Out := if checkOf cs.length who o = 0 then outOf (cs.getD o.at_.toNat ⟨0, 0⟩) o else ⟨⟨0, 0⟩, false⟩
def doMem (cs : List Cell) (who : Int) (o : MOp) : List Cell := if checkOf cs.length who o = 0 then cs.set o.at_.toNat (becomes (cs.getD o.at_.toNat ⟨0, 0⟩) o) else cs
theorem Tri.wk {P : Program} {f : FuncId} {args : Array Value} {L : List HProp} {Q Q' : Value → List HProp → Prop} (h : Tri P f args L Q) (hq : ∀ v L', Q v L' → ∃ M, Q' v M ∧ Ent L' M) : Tri P f args L Q' := by
  unfold Tri at *
  intro w F hs
  refine (h w F hs).mono ?_
  rintro e w' ⟨v, L', he, h1, hs', ho⟩
  obtain ⟨M, h2, h3⟩ := hq v L' h1
  have := h3.app (N := F)
  unfold Ent at this
  exact ⟨v, M, he, h2, this _ hs', ho⟩
theorem do_tE (M : Nat) (cs : List Cell) (k : Nat) (hk : k ≤ 1000000) (who : Int) (o : MOp) : Tri Try.prog 46 #[.pointer (some ⟨M, 0, none⟩), .int .i64 who, .agg ⟨o.v⟩] [MemE M cs k]
    fun r L => ∃ code, r = .tuple ⟨[.agg ⟨(doOut cs who o).v⟩, .int .i64 code]⟩ ∧ L = [MemE M (doMem cs who o) (k + 1)] := by
  refine Tri.ex_out ?_
  rintro ⟨C, st, hst, tv, tr, htr⟩
  refine (do_t M C cs st hst tv tr (by omega) who o).wk ?_
  rintro v L' (⟨hne, rfl, rfl⟩ | ⟨h0, hlt, hw, tv', rfl, rfl⟩)
  · unfold doOut doMem
    rw [if_neg hne, if_neg hne]
    exact ⟨_, ⟨_, rfl, rfl⟩, Ent.ex_in (Ls := memL M cs (k + 1)) (L := []) ⟨C, st, hst, tv, tr, by omega⟩⟩
  · unfold doOut doMem
    rw [if_pos h0, if_pos h0]
    have e : cs.getD o.at_.toNat ⟨0, 0⟩ = cs[o.at_.toNat] := by rw [List.getD_eq_getElem?_getD, List.getElem?_eq_getElem hlt]; rfl
    rw [e]
    refine ⟨_, ⟨_, rfl, rfl⟩, ?_⟩
    have := Ent.ex_in (Ls := memL M (cs.set o.at_.toNat (becomes cs[o.at_.toNat] o)) (k + 1)) (L := []) ⟨C, st.set who.toNat (IntKind.i64.wrap (st[who.toNat] + 1)), by rw [List.length_set]; exact hst, tv', tr ++ [Ev.mk who o (outOf cs[o.at_.toNat] o)], by rw [List.length_append]; simp; omega⟩
    have heq : ∀ x : MemX (k + 1), memL M (cs.set o.at_.toNat (becomes cs[o.at_.toNat] o)) (k + 1) x = [bl M 132 (memV x.C cs.length x.st x.tv), bl x.C 43 ((cs.set o.at_.toNat (becomes cs[o.at_.toNat] o)).flatMap Cell.v), Row x.tv 136 10 x.tr.length (x.tr.flatMap Ev.v)] := fun x => by unfold memL; rw [List.length_set]
    rw [heq] at this
    dsimp only at this
    rw [List.length_append] at this
    exact this
set_option maxRecDepth 100000 in
theorem does_tE (M : Nat) (cs : List Cell) (k : Nat) (hk : k ≤ 1000000) (who : Int) (o : MOp) : Tri Try.prog 25 #[.pointer (some ⟨M, 0, none⟩), .int .i64 who, .agg ⟨o.v⟩] [MemE M cs k]
    fun r L => r = .agg ⟨(doOut cs who o).v⟩ ∧ L = [MemE M (doMem cs who o) (k + 1)] := by
  have hd := do_tE M cs k hk who o
  refine Tri.of_body (vs := [_, _, _]) Try.func25 rfl rfl fun w0 F => ?_
  repeat' (first |  (first | (apply StL.v; exact OpV.go; rfl) | (apply StL.ok; exact OpOk.gt; rfl; rintro _ _ ⟨rfl, rfl⟩) | (apply StL.ok; exact OpOk.gf; rfl; rintro _ _ ⟨b, rfl, rfl⟩) | (apply StL.ok; exact OpOk.gn; rfl; rintro _ _ ⟨g, cap, rest, rfl, hcap, rfl⟩) | (apply StL.ok; exact OpOk.ga; rfl; rintro _ _ ⟨ad, cap, rfl, rfl⟩) | (apply StL.g_yes; rfl; rfl) | (apply StL.g_no; rfl; rfl; rfl; rfl) | (apply StL.g_undef; rfl; rfl; rfl) | (apply StL.gsplit; rfl; rfl; all_goals (intro h; (first | replace h := of_decide_eq_true h | replace h := of_decide_eq_false h | replace h := beq_iff_eq.1 h | replace h := beq_eq_false_iff_ne.1 h | replace h := bne_iff_ne.1 h | replace h := bne_eq_false_iff_eq.1 h | skip); (try (exfalso; omega)))) | apply StL.nil | apply St.region | apply St.seq | apply St.block | apply St.inBlock | apply St.skip | (apply St.exit; rfl) | (apply St.cond_t; rfl) | (apply St.cond_f; rfl) | (apply St.cond; rfl; all_goals (intro h; (first | replace h := of_decide_eq_true h | replace h := of_decide_eq_false h | replace h := beq_iff_eq.1 h | replace h := beq_eq_false_iff_ne.1 h | replace h := bne_iff_ne.1 h | replace h := bne_eq_false_iff_eq.1 h | skip); (try (exfalso; omega))))) | (first | (apply StD.v0; rfl; exact OpV.go; rfl) | (apply StD.v1; rfl; exact OpV.go; exact Ent.go; rfl) | (apply StD.ok3; rfl; exact OpOk.gt; rfl; rintro _ _ ⟨rfl, rfl⟩) | (apply StD.ok2; rfl; exact OpOk.gf; rfl; rintro _ _ ⟨b, rfl, rfl⟩; refine ⟨Ent.go, ?_⟩) | (apply StD.ok3; rfl; exact OpOk.gf; rfl; rintro _ _ ⟨b, rfl, rfl⟩) | (apply StD.ok3; rfl; exact OpOk.gn; rfl; rintro _ _ ⟨g, cap, rest, rfl, hcap, rfl⟩) | (apply StD.ok3; rfl; exact OpOk.ga; rfl; rintro _ _ ⟨ad, cap, rfl, rfl⟩) | apply StD.nil | exact StD.nope | apply StD.pick | (apply StD.claim; rfl; intro b) | (apply StD.g0; rfl; rfl; rfl; exact OpV.go; rfl) | (apply StD.g1; rfl; rfl; rfl; exact OpV.go; exact Ent.go; rfl) | (apply StD.skip0; rfl; rfl; rfl; rfl; rfl) | (apply StD.skip1; rfl; rfl; rfl; rfl; exact Ent.go; rfl) | (apply StD.skipu; rfl; rfl; rfl; rfl) | (apply StD.skipu1; rfl; rfl; rfl; exact Ent.go; rfl))   | (apply StL.callt; (apply OpC.func; exact Evs.go); exact hd; exact Ent.go; rfl; rintro _ _ ⟨code, rfl, rfl⟩) | (apply StD.callt; rfl; (apply OpC.func; exact Evs.go); exact hd; exact Ent.go; rfl; rintro _ _ ⟨code, rfl, rfl⟩) | (apply StD.callt2; rfl; (apply OpC.func; exact Evs.go); exact hd; exact Ent.go; rfl; rintro _ _ ⟨code, rfl, rfl⟩; refine ⟨Ent.go, ?_⟩) | (apply StD.gsplit; rfl; rfl; rfl; all_goals (intro h; (first | replace h := of_decide_eq_true h | replace h := of_decide_eq_false h | replace h := beq_iff_eq.1 h | replace h := beq_eq_false_iff_ne.1 h | replace h := bne_iff_ne.1 h | replace h := bne_eq_false_iff_eq.1 h | skip); (try (exfalso; omega)))))
  refine St.d1 Try.func25 ⟨_, ⟨rfl, rfl⟩, ?_⟩
  exact Ent.go
/-- a memory, sealed -/
def Mm (M : Nat) (cs : List Cell) (k : Nat) : HProp := MemE M cs k
theorem does_t (M : Nat) (cs : List Cell) (k : Nat) (hk : k ≤ 1000000) (who : Int) (o : MOp) : Tri Try.prog 25 #[.pointer (some ⟨M, 0, none⟩), .int .i64 who, .agg ⟨o.v⟩] [Mm M cs k]
    fun r L => r = .agg ⟨(doOut cs who o).v⟩ ∧ L = [Mm M (doMem cs who o) (k + 1)] := does_tE M cs k hk who o
theorem bootm_t (c : Cfg) (hc : Small c) : Tri Try.prog 22 #[.agg ⟨c.m⟩] [] fun v L => ∃ M, v = .pointer (some ⟨M, 0, none⟩) ∧ L = [Mm M c.boot 0] := by
  refine (boot_t c hc).wk ?_
  rintro v L' ⟨M, C, rfl, rfl⟩
  refine ⟨_, ⟨M, rfl, rfl⟩, ?_⟩
  have hl : c.boot.length = c.size := c.bootN_len _
  have := Ent.ex_in (Ls := memL M c.boot 0) (L := []) ⟨C, zeros8, rfl, .slice none 0 0, [], Nat.le_refl _⟩
  have heq : ∀ x : MemX 0, memL M c.boot 0 x = [bl M 132 (memV x.C c.size x.st x.tv), bl x.C 43 (c.boot.flatMap Cell.v), Row x.tv 136 10 x.tr.length (x.tr.flatMap Ev.v)] := fun x => by unfold memL; rw [hl]
  rw [heq] at this
  refine Ent.trans ?_ this
  refine Ent.trans (Ent.row_nil 136 10) ?_
  exact Ent.go
attribute [irreducible] Mm
end Go.Proofs.Ytipnljhelbjmaaa
