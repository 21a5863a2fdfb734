/-
  Package audit: step.
-/
import Derived.Test.YtmcadilggmlbfaaAudb
namespace Go.Proofs.Ytmcadilggmlbfaa
def Out.eqB (a b : Out) : Bool := (a.was.eqB b.was && ((a.ok == b.ok) && true))
theorem Out.eqB_iff {a b : Out} : a.eqB b = true ↔ a = b := by
  cases a; cases b; simp [Out.eqB, Cell.eqB_iff]
structure AudS where
  cs : List Cell
  life : List Nat
  r : Rep
/-- behind a step, or the error -/
def audStep (c : Cfg) (a : AudS) (ev : Ev) : Except Int AudS :=
  if checkOf a.cs.length ev.who ev.op ≠ 0 then .error (checkOf a.cs.length ev.who ev.op) else
  if (outOf (a.cs.getD ev.op.at_.toNat ⟨0, 0⟩) ev.op).eqB ev.out = false then .error 33 else
  if (c.what ev.op.at_).1 = 16 then
    (if a.life.getD (c.what ev.op.at_).2.1.toNat 0 = 0 then .error 52 else .ok ⟨a.cs.set ev.op.at_.toNat (becomes (a.cs.getD ev.op.at_.toNat ⟨0, 0⟩) ev.op), a.life, { a.r with words := a.r.words + 1 }⟩) else
  if (c.what ev.op.at_).1 = 0 ∧ ev.op.kind = 2 ∧ (outOf (a.cs.getD ev.op.at_.toNat ⟨0, 0⟩) ev.op).ok = true then
    (match swapOf c (a.cs.set ev.op.at_.toNat (becomes (a.cs.getD ev.op.at_.toNat ⟨0, 0⟩) ev.op)) a.life { a.r with swaps := a.r.swaps + 1 } (ev.op.new.val % c.threads) with
     | .error e => .error e
     | .ok x => .ok ⟨a.cs.set ev.op.at_.toNat (becomes (a.cs.getD ev.op.at_.toNat ⟨0, 0⟩) ev.op), x.1, x.2⟩) else
  .ok ⟨a.cs.set ev.op.at_.toNat (becomes (a.cs.getD ev.op.at_.toNat ⟨0, 0⟩) ev.op), a.life, a.r⟩
theorem do_err (M C n : Nat) (cs : List Cell) (hn : cs.length = n) (st : List Int) (hst : st.length = 8) (tv : Value) (tr : List Ev) (htr : tr.length ≤ 1000000) (who : Int) (o : MOp) (h : checkOf n who o ≠ 0) :
    Tri Try.prog 41 #[.pointer (some ⟨M, 0, none⟩), .int .i64 who, .agg ⟨o.v⟩] [bl M 87 (memV C n st tv), bl C 37 (cs.flatMap Cell.v), Row tv 43 10 tr.length (tr.flatMap Ev.v)]
      fun v L => v = .tuple ⟨[.agg ⟨Out.v (Out.mk (Cell.mk 0 0) false)⟩, .int .i64 (checkOf n who o)]⟩ ∧ L = [bl M 87 (memV C n st tv), bl C 37 (cs.flatMap Cell.v), Row tv 43 10 tr.length (tr.flatMap Ev.v)] := by
  subst hn
  refine (do_t M C cs st hst tv tr htr who o).mono ?_
  rintro v L (⟨_, h2⟩ | ⟨h1, _⟩)
  · exact h2
  · exact absurd h1 h
theorem do_ok (M C n : Nat) (cs : List Cell) (hn : cs.length = n) (st : List Int) (hst : st.length = 8) (tv : Value) (tr : List Ev) (htr : tr.length ≤ 1000000) (who : Int) (o : MOp) (h : checkOf n who o = 0) (c0 : Cell) (hc0 : cs.getD o.at_.toNat ⟨0, 0⟩ = c0) :
    Tri Try.prog 41 #[.pointer (some ⟨M, 0, none⟩), .int .i64 who, .agg ⟨o.v⟩] [bl M 87 (memV C n st tv), bl C 37 (cs.flatMap Cell.v), Row tv 43 10 tr.length (tr.flatMap Ev.v)]
      fun v L => ∃ st' tv', st'.length = 8 ∧ v = .tuple ⟨[.agg ⟨(outOf c0 o).v⟩, .int .i64 0]⟩ ∧
          L = [bl M 87 (memV C n st' tv'), bl C 37 ((cs.set o.at_.toNat (becomes c0 o)).flatMap Cell.v), Row tv' 43 10 (tr ++ [Ev.mk who o (outOf c0 o)]).length ((tr ++ [Ev.mk who o (outOf c0 o)]).flatMap Ev.v)] := by
  subst hn
  refine (do_t M C cs st hst tv tr htr who o).mono ?_
  rintro v L (⟨h1, _⟩ | ⟨_, hat, hw, tv', rfl, rfl⟩)
  · exact absurd h h1
  · have e : cs[o.at_.toNat] = c0 := by rw [← hc0, List.getD_eq_getElem?_getD, List.getElem?_eq_getElem hat]; rfl
    rw [e]
    refine ⟨_, tv', ?_, rfl, by rw [List.length_append]; rfl⟩
    first | exact hst | (rw [List.length_set]; exact hst) | (simp only [List.length_set]; exact hst)
theorem Cfg.what_word {c : Cfg} (hc : Small c) {p : Int} (h : (c.what p).1 = 16) : 0 ≤ (c.what p).2.1 ∧ (c.what p).2.1 < c.blocks := by
  have hf17 : c.f17 = c.f16 + c.blocks * 8 := rfl
  have hm := Int.emod_nonneg (p - c.f7) (show (3 : Int) ≠ 0 by decide)
  have hm2 := Int.emod_lt_of_pos (p - c.f7) (show (0 : Int) < 3 by decide)
  have hb := hc.b0
  clear hc
  revert h
  unfold Cfg.what
  generalize (p - 1) % c.stride = q
  generalize (p - 1) / c.stride = q2
  generalize (p - c.f16) % 8 = q4
  generalize (p - c.f7) / 3 = q5
  generalize (p - c.f7) % 3 = m at hm hm2 ⊢
  repeat' split
  all_goals (intro h; dsimp only at h ⊢)
  all_goals first | (exfalso; omega) | omega
def stepPost (c : Cfg) (A M C lf nb n : Nat) (tr : List Ev) (a : Except Int AudS) (v : Value) (L : List HProp) : Prop :=
  match a with
  | .error e => v = .int .i64 e
  | .ok a => v = .int .i64 0 ∧ ∃ (st : List Int) (tv : Value) (tr' : List Ev), st.length = 8 ∧ tr'.length = tr.length + 1 ∧ L = [bl A 71 (audV c M lf nb a.r), bl M 87 (memV C n st tv), bl C 37 (a.cs.flatMap Cell.v), bl lf 22 (lifeV a.life), Row tv 43 10 tr'.length (tr'.flatMap Ev.v)]
set_option maxRecDepth 100000 in
theorem step_t (c : Cfg) (hc : Small c) (A M C lf nb n : Nat) (a : AudS) (hn : a.cs.length = n) (st : List Int) (hst : st.length = 8) (tv : Value) (tr : List Ev) (htr : tr.length ≤ 1000000) (hl : a.life.length = nb) (hnb : (nb : Int) = c.blocks)
    (hw : 0 ≤ a.r.words ∧ a.r.words ≤ 1000000) (hs : 0 ≤ a.r.swaps ∧ a.r.swaps ≤ 1000000) (ev : Ev) :
    Tri Try.prog 18 #[.pointer (some ⟨A, 0, none⟩), .agg ⟨ev.v⟩] [bl A 71 (audV c M lf nb a.r), bl M 87 (memV C n st tv), bl C 37 (a.cs.flatMap Cell.v), bl lf 22 (lifeV a.life), Row tv 43 10 tr.length (tr.flatMap Ev.v)]
      (stepPost c A M C lf nb n tr (audStep c a ev)) := by
  have htk := take_m c M lf nb a.r
  by_cases h1 : checkOf n ev.who ev.op = 0
  · have hdo := do_ok M C n a.cs hn st hst tv tr htr ev.who ev.op h1 _ rfl
    unfold audStep
    rw [hn, if_neg (by simpa using h1)]
    generalize a.cs.getD ev.op.at_.toNat ⟨0, 0⟩ = c0 at hdo ⊢
    have hn' : (a.cs.set ev.op.at_.toNat (becomes c0 ev.op)).length = n := by rw [List.length_set]; exact hn
    generalize a.cs.set ev.op.at_.toNat (becomes c0 ev.op) = cs' at hdo hn' ⊢
    generalize outOf c0 ev.op = out at hdo ⊢
    have hla : (tr ++ [Ev.mk ev.who ev.op out]).length = tr.length + 1 := List.length_append
    have hcfg := cfg_r c
    have hwr := what_r c hc ev.op.at_
    have hww := fun h => Cfg.what_word (p := ev.op.at_) hc h
    generalize c.what ev.op.at_ = w at hwr hww ⊢
    obtain ⟨wk, wb, wi⟩ := w
    dsimp only at hwr hww ⊢
    have ht0 := hc.t0
    have ht1 := hc.t1
    cases h2 : out.eqB ev.out with
    | false =>
      rw [if_pos rfl]
      refine Tri.of_body (vs := [_, _]) Try.func18 rfl rfl fun w0 F => ?_
      repeat' (first | (apply Ya; exact Oa) | (apply Yb; exact Ob) | (apply Yc; exact Oc; intro b) | (apply Ye; exact Oe; intro g cap rest hcap) | (apply Yd; exact Od; intro ad cap) | (apply Yf; exact Oj) | (apply Yg; exact Oj; exact ⟨rfl, rfl⟩) | (apply Yh; exact Oj; rfl) | (apply Yi; exact Oj; exact On; all_goals (intro h; try (exfalso; omega))) | apply StL.nil | apply St.region | apply St.seq | apply St.block | apply St.inBlock | apply St.skip | (apply St.exit; rfl) | (apply St.cond_t; rfl) | (apply St.cond_f; rfl) | (apply Ud; rfl; exact On; all_goals (intro h; try (exfalso; omega))) | (apply Za; rfl; exact Oa) | (apply Zb; rfl; exact Oa; exact Ent.go) | (apply Zc; rfl; exact Ob) | (apply Zd; rfl; exact Oc; intro b; refine ⟨Ent.go, ?_⟩) | (apply Ze; rfl; exact Oc; intro b) | (apply Zf; rfl; exact Oe; intro g cap rest hcap) | (apply Zg; rfl; exact Od; intro ad cap) | apply StD.nil | exact StD.nope | apply StD.pick | (apply StD.claim; rfl; intro b) | (apply Zi; rfl; exact Oj; exact Oa) | (apply Zj; rfl; exact Oj; exact Oa; exact Ent.go) | (apply Zk; rfl; exact Oj; exact ⟨rfl, rfl⟩) | (apply Zl; rfl; exact Oj; exact ⟨rfl, rfl⟩; exact Ent.go) | (apply Zm; rfl; exact Oj; rfl) | (apply Zn; rfl; exact Oj; exact Ent.go; rfl) | (refine St.drawa (id := 1) [(0, 0), (1, 0), (2, 0), (3, 1), (4, 0), (5, 1), (6, 0), (7, 1), (8, 3), (9, 0), (10, 0), (11, 0)] [(13, 3), (14, 0)] [8, 13] 12 mixed rfl (by intro w; rfl) (by kernel_rfl) ?_) | (refine St.draw (id := 6) [(0, 0), (1, 0), (2, 0), (3, 1), (4, 0), (5, 0), (6, 1), (7, 1), (8, 0), (9, 0), (10, 0), (11, 0), (12, 0), (13, 0), (14, 0)] [] mixed (by kernel_rfl) ?_) | (refine St.draw (id := 13) [(0, 0), (1, 0), (2, 0), (3, 0), (4, 1), (5, 0), (6, 0), (7, 0), (8, 1), (9, 1), (10, 0), (11, 0), (12, 0), (13, 0), (14, 1), (15, 0)] [] mixed (by kernel_rfl) ?_)  | (apply Kd; exact Og; exact hdo; exact Oh; rintro _ _ ⟨st', tv', hst', rfl, rfl⟩) | (apply Ke; rfl; exact Og; exact hdo; exact Oh; rintro _ _ ⟨st', tv', hst', rfl, rfl⟩) | (apply Kf; rfl; exact Og; exact hdo; exact Oh; rintro _ _ ⟨st', tv', hst', rfl, rfl⟩; refine ⟨Ent.go, ?_⟩) | (apply Zo; rfl; exact Oj; exact On; all_goals (intro h; try (exfalso; omega))))
      · refine St.dn (L' := []) Try.func18 ?_ ?_; rfl; exact Ent.go
      · have : (!(out.eqB ev.out)) = false := h
        rw [h2] at this; cases this
    | true =>
      rw [if_neg (by decide)]
      have hbad : ∀ {q : Prop}, (!(out.eqB ev.out)) = true → q := fun h => by rw [h2] at h; cases h
      by_cases hk : wk = 16
      · rw [if_pos hk]
        have hb := hww hk
        have hbl : wb.toNat < a.life.length := by omega
        have hnl := NthN.life hbl
        rw [List.getD_eq_getElem?_getD, List.getElem?_eq_getElem hbl, Option.getD_some]
        by_cases hl0 : a.life[wb.toNat] = 0
        · rw [if_pos hl0]
          have hl0' : ((a.life[wb.toNat] : Nat) : Int) = 0 := by omega
          refine Tri.of_body (vs := [_, _]) Try.func18 rfl rfl fun w0 F => ?_
          repeat' (first | (apply Ya; exact Oa) | (apply Yb; exact Ob) | (apply Yc; exact Oc; intro b) | (apply Ye; exact Oe; intro g cap rest hcap) | (apply Yd; exact Od; intro ad cap) | (apply Yf; exact Oj) | (apply Yg; exact Oj; exact ⟨rfl, rfl⟩) | (apply Yh; exact Oj; rfl) | (apply Yi; exact Oj; exact On; all_goals (intro h; try (exfalso; omega))) | apply StL.nil | apply St.region | apply St.seq | apply St.block | apply St.inBlock | apply St.skip | (apply St.exit; rfl) | (apply St.cond_t; rfl) | (apply St.cond_f; rfl) | (apply Ud; rfl; exact On; all_goals (intro h; try (exfalso; omega))) | (apply Za; rfl; exact Oa) | (apply Zb; rfl; exact Oa; exact Ent.go) | (apply Zc; rfl; exact Ob) | (apply Zd; rfl; exact Oc; intro b; refine ⟨Ent.go, ?_⟩) | (apply Ze; rfl; exact Oc; intro b) | (apply Zf; rfl; exact Oe; intro g cap rest hcap) | (apply Zg; rfl; exact Od; intro ad cap) | apply StD.nil | exact StD.nope | apply StD.pick | (apply StD.claim; rfl; intro b) | (apply Zi; rfl; exact Oj; exact Oa) | (apply Zj; rfl; exact Oj; exact Oa; exact Ent.go) | (apply Zk; rfl; exact Oj; exact ⟨rfl, rfl⟩) | (apply Zl; rfl; exact Oj; exact ⟨rfl, rfl⟩; exact Ent.go) | (apply Zm; rfl; exact Oj; rfl) | (apply Zn; rfl; exact Oj; exact Ent.go; rfl) | (refine St.drawa (id := 1) [(0, 0), (1, 0), (2, 0), (3, 1), (4, 0), (5, 1), (6, 0), (7, 1), (8, 3), (9, 0), (10, 0), (11, 0)] [(13, 3), (14, 0)] [8, 13] 12 mixed rfl (by intro w; rfl) (by kernel_rfl) ?_) | (refine St.draw (id := 6) [(0, 0), (1, 0), (2, 0), (3, 1), (4, 0), (5, 0), (6, 1), (7, 1), (8, 0), (9, 0), (10, 0), (11, 0), (12, 0), (13, 0), (14, 0)] [] mixed (by kernel_rfl) ?_) | (refine St.draw (id := 13) [(0, 0), (1, 0), (2, 0), (3, 0), (4, 1), (5, 0), (6, 0), (7, 0), (8, 1), (9, 1), (10, 0), (11, 0), (12, 0), (13, 0), (14, 1), (15, 0)] [] mixed (by kernel_rfl) ?_) | (apply Ka; exact Og; exact hwr; exact Oh) | (apply Kb; rfl; exact Og; exact hwr; exact Oi) | (apply Kc; rfl; exact Oj; exact Og; exact hwr; exact Oi) | (apply Kd; exact Og; exact hdo; exact Oh; rintro _ _ ⟨st', tv', hst', rfl, rfl⟩) | (apply Ke; rfl; exact Og; exact hdo; exact Oh; rintro _ _ ⟨st', tv', hst', rfl, rfl⟩) | (apply Kf; rfl; exact Og; exact hdo; exact Oh; rintro _ _ ⟨st', tv', hst', rfl, rfl⟩; refine ⟨Ent.go, ?_⟩) | (apply Zo; rfl; exact Oj; exact On; all_goals (intro h; try (exfalso; omega))))
          · exact hbad h
          · refine St.dn (L' := []) Try.func18 ?_ ?_; rfl; exact Ent.go
        · rw [if_neg hl0]
          have hl0' : ¬ ((a.life[wb.toNat] : Nat) : Int) = 0 := by omega
          refine Tri.of_body (vs := [_, _]) Try.func18 rfl rfl fun w0 F => ?_
          repeat' (first | (apply Ya; exact Oa) | (apply Yb; exact Ob) | (apply Yc; exact Oc; intro b) | (apply Ye; exact Oe; intro g cap rest hcap) | (apply Yd; exact Od; intro ad cap) | (apply Yf; exact Oj) | (apply Yg; exact Oj; exact ⟨rfl, rfl⟩) | (apply Yh; exact Oj; rfl) | (apply Yi; exact Oj; exact On; all_goals (intro h; try (exfalso; omega))) | apply StL.nil | apply St.region | apply St.seq | apply St.block | apply St.inBlock | apply St.skip | (apply St.exit; rfl) | (apply St.cond_t; rfl) | (apply St.cond_f; rfl) | (apply Ud; rfl; exact On; all_goals (intro h; try (exfalso; omega))) | (apply Za; rfl; exact Oa) | (apply Zb; rfl; exact Oa; exact Ent.go) | (apply Zc; rfl; exact Ob) | (apply Zd; rfl; exact Oc; intro b; refine ⟨Ent.go, ?_⟩) | (apply Ze; rfl; exact Oc; intro b) | (apply Zf; rfl; exact Oe; intro g cap rest hcap) | (apply Zg; rfl; exact Od; intro ad cap) | apply StD.nil | exact StD.nope | apply StD.pick | (apply StD.claim; rfl; intro b) | (apply Zi; rfl; exact Oj; exact Oa) | (apply Zj; rfl; exact Oj; exact Oa; exact Ent.go) | (apply Zk; rfl; exact Oj; exact ⟨rfl, rfl⟩) | (apply Zl; rfl; exact Oj; exact ⟨rfl, rfl⟩; exact Ent.go) | (apply Zm; rfl; exact Oj; rfl) | (apply Zn; rfl; exact Oj; exact Ent.go; rfl) | (refine St.drawa (id := 1) [(0, 0), (1, 0), (2, 0), (3, 1), (4, 0), (5, 1), (6, 0), (7, 1), (8, 3), (9, 0), (10, 0), (11, 0)] [(13, 3), (14, 0)] [8, 13] 12 mixed rfl (by intro w; rfl) (by kernel_rfl) ?_) | (refine St.draw (id := 6) [(0, 0), (1, 0), (2, 0), (3, 1), (4, 0), (5, 0), (6, 1), (7, 1), (8, 0), (9, 0), (10, 0), (11, 0), (12, 0), (13, 0), (14, 0)] [] mixed (by kernel_rfl) ?_) | (refine St.draw (id := 13) [(0, 0), (1, 0), (2, 0), (3, 0), (4, 1), (5, 0), (6, 0), (7, 0), (8, 1), (9, 1), (10, 0), (11, 0), (12, 0), (13, 0), (14, 1), (15, 0)] [] mixed (by kernel_rfl) ?_) | (apply Ka; exact Og; exact hwr; exact Oh) | (apply Kb; rfl; exact Og; exact hwr; exact Oi) | (apply Kc; rfl; exact Oj; exact Og; exact hwr; exact Oi) | (apply Kd; exact Og; exact hdo; exact Oh; rintro _ _ ⟨st', tv', hst', rfl, rfl⟩) | (apply Ke; rfl; exact Og; exact hdo; exact Oh; rintro _ _ ⟨st', tv', hst', rfl, rfl⟩) | (apply Kf; rfl; exact Og; exact hdo; exact Oh; rintro _ _ ⟨st', tv', hst', rfl, rfl⟩; refine ⟨Ent.go, ?_⟩) | (apply Zo; rfl; exact Oj; exact On; all_goals (intro h; try (exfalso; omega))))
          · exact hbad h
          · refine St.d1 Try.func18 ?_; apply Exists.intro; apply And.intro; (exact ⟨rfl, st', tv', _, hst', hla, rfl⟩); exact Ent.go
      · rw [if_neg hk]
        by_cases hk2 : wk = 0 ∧ ev.op.kind = 2 ∧ out.ok = true
        · rw [if_pos hk2]
          obtain ⟨hk3, hk4, hk5⟩ := hk2
          have hm0 : 0 ≤ ((ev.op.new.val : Nat) : Int) % c.threads := Int.emod_nonneg _ (by omega)
          have hm1 : ((ev.op.new.val : Nat) : Int) % c.threads < c.threads := Int.emod_lt_of_pos _ (by omega)
          have hsw := fun st' tv' => swap_t c hc A M C lf nb n { a.r with swaps := a.r.swaps + 1 } cs' hn' st' tv' a.life hl hnb ((ev.op.new.val : Int) % c.threads)
          generalize swapOf c cs' a.life { a.r with swaps := a.r.swaps + 1 } ((ev.op.new.val : Int) % c.threads) = so at hsw ⊢
          cases so with
          | error e =>
            dsimp only at hsw ⊢
            refine Tri.of_body (vs := [_, _]) Try.func18 rfl rfl fun w0 F => ?_
            repeat' (first | (apply Ya; exact Oa) | (apply Yb; exact Ob) | (apply Yc; exact Oc; intro b) | (apply Ye; exact Oe; intro g cap rest hcap) | (apply Yd; exact Od; intro ad cap) | (apply Yf; exact Oj) | (apply Yg; exact Oj; exact ⟨rfl, rfl⟩) | (apply Yh; exact Oj; rfl) | (apply Yi; exact Oj; exact On; all_goals (intro h; try (exfalso; omega))) | apply StL.nil | apply St.region | apply St.seq | apply St.block | apply St.inBlock | apply St.skip | (apply St.exit; rfl) | (apply St.cond_t; rfl) | (apply St.cond_f; rfl) | (apply Ud; rfl; exact On; all_goals (intro h; try (exfalso; omega))) | (apply Za; rfl; exact Oa) | (apply Zb; rfl; exact Oa; exact Ent.go) | (apply Zc; rfl; exact Ob) | (apply Zd; rfl; exact Oc; intro b; refine ⟨Ent.go, ?_⟩) | (apply Ze; rfl; exact Oc; intro b) | (apply Zf; rfl; exact Oe; intro g cap rest hcap) | (apply Zg; rfl; exact Od; intro ad cap) | apply StD.nil | exact StD.nope | apply StD.pick | (apply StD.claim; rfl; intro b) | (apply Zi; rfl; exact Oj; exact Oa) | (apply Zj; rfl; exact Oj; exact Oa; exact Ent.go) | (apply Zk; rfl; exact Oj; exact ⟨rfl, rfl⟩) | (apply Zl; rfl; exact Oj; exact ⟨rfl, rfl⟩; exact Ent.go) | (apply Zm; rfl; exact Oj; rfl) | (apply Zn; rfl; exact Oj; exact Ent.go; rfl) | (refine St.drawa (id := 1) [(0, 0), (1, 0), (2, 0), (3, 1), (4, 0), (5, 1), (6, 0), (7, 1), (8, 3), (9, 0), (10, 0), (11, 0)] [(13, 3), (14, 0)] [8, 13] 12 mixed rfl (by intro w; rfl) (by kernel_rfl) ?_) | (refine St.draw (id := 6) [(0, 0), (1, 0), (2, 0), (3, 1), (4, 0), (5, 0), (6, 1), (7, 1), (8, 0), (9, 0), (10, 0), (11, 0), (12, 0), (13, 0), (14, 0)] [] mixed (by kernel_rfl) ?_) | (refine St.draw (id := 13) [(0, 0), (1, 0), (2, 0), (3, 0), (4, 1), (5, 0), (6, 0), (7, 0), (8, 1), (9, 1), (10, 0), (11, 0), (12, 0), (13, 0), (14, 3), (15, 0)] [14] mixed (by kernel_rfl) ?_) | (apply Ka; exact Og; exact hwr; exact Oh) | (apply Kb; rfl; exact Og; exact hwr; exact Oi) | (apply Kc; rfl; exact Oj; exact Og; exact hwr; exact Oi) | (apply Ka; exact Og; exact hcfg; exact Oh) | (apply Kb; rfl; exact Og; exact hcfg; exact Oi) | (apply Kc; rfl; exact Oj; exact Og; exact hcfg; exact Oi) | (apply Kd; exact Og; exact hdo; exact Oh; rintro _ _ ⟨st', tv', hst', rfl, rfl⟩) | (apply Ke; rfl; exact Og; exact hdo; exact Oh; rintro _ _ ⟨st', tv', hst', rfl, rfl⟩) | (apply Kf; rfl; exact Og; exact hdo; exact Oh; rintro _ _ ⟨st', tv', hst', rfl, rfl⟩; refine ⟨Ent.go, ?_⟩) | (apply Kd; exact Og; exact hsw st' tv'; exact Oh; rintro _ _ rfl) | (apply Ke; rfl; exact Og; exact hsw st' tv'; exact Oh; rintro _ _ rfl) | (apply Kf; rfl; exact Og; exact hsw st' tv'; exact Oh; rintro _ _ rfl; refine ⟨Ent.go, ?_⟩) | (apply Zo; rfl; exact Oj; exact On; all_goals (intro h; try (exfalso; omega))))
            · exact hbad h
            · refine St.dn (L' := []) Try.func18 ?_ ?_; rfl; apply Ent.skip; exact Ent.go
            · rw [hk5] at h; cases h
          | ok x =>
            dsimp only at hsw ⊢
            refine Tri.of_body (vs := [_, _]) Try.func18 rfl rfl fun w0 F => ?_
            repeat' (first | (apply Ya; exact Oa) | (apply Yb; exact Ob) | (apply Yc; exact Oc; intro b) | (apply Ye; exact Oe; intro g cap rest hcap) | (apply Yd; exact Od; intro ad cap) | (apply Yf; exact Oj) | (apply Yg; exact Oj; exact ⟨rfl, rfl⟩) | (apply Yh; exact Oj; rfl) | (apply Yi; exact Oj; exact On; all_goals (intro h; try (exfalso; omega))) | apply StL.nil | apply St.region | apply St.seq | apply St.block | apply St.inBlock | apply St.skip | (apply St.exit; rfl) | (apply St.cond_t; rfl) | (apply St.cond_f; rfl) | (apply Ud; rfl; exact On; all_goals (intro h; try (exfalso; omega))) | (apply Za; rfl; exact Oa) | (apply Zb; rfl; exact Oa; exact Ent.go) | (apply Zc; rfl; exact Ob) | (apply Zd; rfl; exact Oc; intro b; refine ⟨Ent.go, ?_⟩) | (apply Ze; rfl; exact Oc; intro b) | (apply Zf; rfl; exact Oe; intro g cap rest hcap) | (apply Zg; rfl; exact Od; intro ad cap) | apply StD.nil | exact StD.nope | apply StD.pick | (apply StD.claim; rfl; intro b) | (apply Zi; rfl; exact Oj; exact Oa) | (apply Zj; rfl; exact Oj; exact Oa; exact Ent.go) | (apply Zk; rfl; exact Oj; exact ⟨rfl, rfl⟩) | (apply Zl; rfl; exact Oj; exact ⟨rfl, rfl⟩; exact Ent.go) | (apply Zm; rfl; exact Oj; rfl) | (apply Zn; rfl; exact Oj; exact Ent.go; rfl) | (refine St.drawa (id := 1) [(0, 0), (1, 0), (2, 0), (3, 1), (4, 0), (5, 1), (6, 0), (7, 1), (8, 3), (9, 0), (10, 0), (11, 0)] [(13, 3), (14, 0)] [8, 13] 12 mixed rfl (by intro w; rfl) (by kernel_rfl) ?_) | (refine St.draw (id := 6) [(0, 0), (1, 0), (2, 0), (3, 1), (4, 0), (5, 0), (6, 1), (7, 1), (8, 0), (9, 0), (10, 0), (11, 0), (12, 0), (13, 0), (14, 0)] [] mixed (by kernel_rfl) ?_) | (refine St.draw (id := 13) [(0, 0), (1, 0), (2, 0), (3, 0), (4, 1), (5, 0), (6, 0), (7, 0), (8, 1), (9, 1), (10, 0), (11, 0), (12, 0), (13, 0), (14, 3), (15, 0)] [14] mixed (by kernel_rfl) ?_) | (apply Ka; exact Og; exact hwr; exact Oh) | (apply Kb; rfl; exact Og; exact hwr; exact Oi) | (apply Kc; rfl; exact Oj; exact Og; exact hwr; exact Oi) | (apply Ka; exact Og; exact hcfg; exact Oh) | (apply Kb; rfl; exact Og; exact hcfg; exact Oi) | (apply Kc; rfl; exact Oj; exact Og; exact hcfg; exact Oi) | (apply Kd; exact Og; exact hdo; exact Oh; rintro _ _ ⟨st', tv', hst', rfl, rfl⟩) | (apply Ke; rfl; exact Og; exact hdo; exact Oh; rintro _ _ ⟨st', tv', hst', rfl, rfl⟩) | (apply Kf; rfl; exact Og; exact hdo; exact Oh; rintro _ _ ⟨st', tv', hst', rfl, rfl⟩; refine ⟨Ent.go, ?_⟩) | (apply Kd; exact Og; exact hsw st' tv'; exact Oh; rintro _ _ ⟨rfl, rfl⟩) | (apply Ke; rfl; exact Og; exact hsw st' tv'; exact Oh; rintro _ _ ⟨rfl, rfl⟩) | (apply Kf; rfl; exact Og; exact hsw st' tv'; exact Oh; rintro _ _ ⟨rfl, rfl⟩; refine ⟨Ent.go, ?_⟩) | (apply Zo; rfl; exact Oj; exact On; all_goals (intro h; try (exfalso; omega))))
            · exact hbad h
            · refine St.d1 Try.func18 ?_; apply Exists.intro; apply And.intro; (exact ⟨rfl, st', tv', _, hst', hla, rfl⟩); exact Ent.go
            · rw [hk5] at h; cases h
        · rw [if_neg hk2]
          refine Tri.of_body (vs := [_, _]) Try.func18 rfl rfl fun w0 F => ?_
          repeat' (first | (apply Ya; exact Oa) | (apply Yb; exact Ob) | (apply Yc; exact Oc; intro b) | (apply Ye; exact Oe; intro g cap rest hcap) | (apply Yd; exact Od; intro ad cap) | (apply Yf; exact Oj) | (apply Yg; exact Oj; exact ⟨rfl, rfl⟩) | (apply Yh; exact Oj; rfl) | (apply Yi; exact Oj; exact On; all_goals (intro h; try (exfalso; omega))) | apply StL.nil | apply St.region | apply St.seq | apply St.block | apply St.inBlock | apply St.skip | (apply St.exit; rfl) | (apply St.cond_t; rfl) | (apply St.cond_f; rfl) | (apply Ud; rfl; exact On; all_goals (intro h; try (exfalso; omega))) | (apply Za; rfl; exact Oa) | (apply Zb; rfl; exact Oa; exact Ent.go) | (apply Zc; rfl; exact Ob) | (apply Zd; rfl; exact Oc; intro b; refine ⟨Ent.go, ?_⟩) | (apply Ze; rfl; exact Oc; intro b) | (apply Zf; rfl; exact Oe; intro g cap rest hcap) | (apply Zg; rfl; exact Od; intro ad cap) | apply StD.nil | exact StD.nope | apply StD.pick | (apply StD.claim; rfl; intro b) | (apply Zi; rfl; exact Oj; exact Oa) | (apply Zj; rfl; exact Oj; exact Oa; exact Ent.go) | (apply Zk; rfl; exact Oj; exact ⟨rfl, rfl⟩) | (apply Zl; rfl; exact Oj; exact ⟨rfl, rfl⟩; exact Ent.go) | (apply Zm; rfl; exact Oj; rfl) | (apply Zn; rfl; exact Oj; exact Ent.go; rfl) | (refine St.drawa (id := 1) [(0, 0), (1, 0), (2, 0), (3, 1), (4, 0), (5, 1), (6, 0), (7, 1), (8, 3), (9, 0), (10, 0), (11, 0)] [(13, 3), (14, 0)] [8, 13] 12 mixed rfl (by intro w; rfl) (by kernel_rfl) ?_) | (refine St.draw (id := 6) [(0, 0), (1, 0), (2, 0), (3, 1), (4, 0), (5, 0), (6, 1), (7, 1), (8, 0), (9, 0), (10, 0), (11, 0), (12, 0), (13, 0), (14, 0)] [] mixed (by kernel_rfl) ?_) | (refine St.draw (id := 13) [(0, 0), (1, 0), (2, 0), (3, 0), (4, 1), (5, 0), (6, 0), (7, 0), (8, 1), (9, 1), (10, 0), (11, 0), (12, 0), (13, 0), (14, 1), (15, 0)] [] mixed (by kernel_rfl) ?_) | (apply Ka; exact Og; exact hwr; exact Oh) | (apply Kb; rfl; exact Og; exact hwr; exact Oi) | (apply Kc; rfl; exact Oj; exact Og; exact hwr; exact Oi) | (apply Kd; exact Og; exact hdo; exact Oh; rintro _ _ ⟨st', tv', hst', rfl, rfl⟩) | (apply Ke; rfl; exact Og; exact hdo; exact Oh; rintro _ _ ⟨st', tv', hst', rfl, rfl⟩) | (apply Kf; rfl; exact Og; exact hdo; exact Oh; rintro _ _ ⟨st', tv', hst', rfl, rfl⟩; refine ⟨Ent.go, ?_⟩) | (apply Zo; rfl; exact Oj; exact On; all_goals (intro h; try (exfalso; omega))))
          · exact hbad h
          · exact absurd ⟨‹wk = 0›, ‹ev.op.kind = 2›, h⟩ hk2
          · refine St.d1 Try.func18 ?_; apply Exists.intro; apply And.intro; (exact ⟨rfl, st', tv', _, hst', hla, rfl⟩); exact Ent.go
          · refine St.d1 Try.func18 ?_; apply Exists.intro; apply And.intro; (exact ⟨rfl, st', tv', _, hst', hla, rfl⟩); exact Ent.go
          · refine St.d1 Try.func18 ?_; apply Exists.intro; apply And.intro; (exact ⟨rfl, st', tv', _, hst', hla, rfl⟩); exact Ent.go
  · have hdo := do_err M C n a.cs hn st hst tv tr htr ev.who ev.op h1
    have hso : audStep c a ev = .error (checkOf n ev.who ev.op) := by unfold audStep; rw [hn]; exact if_pos h1
    rw [hso]
    refine Tri.of_body (vs := [_, _]) Try.func18 rfl rfl fun w0 F => ?_
    repeat' (first | (apply Ya; exact Oa) | (apply Yb; exact Ob) | (apply Yc; exact Oc; intro b) | (apply Ye; exact Oe; intro g cap rest hcap) | (apply Yd; exact Od; intro ad cap) | (apply Yf; exact Oj) | (apply Yg; exact Oj; exact ⟨rfl, rfl⟩) | (apply Yh; exact Oj; rfl) | (apply Yi; exact Oj; exact On; all_goals (intro h; try (exfalso; omega))) | apply StL.nil | apply St.region | apply St.seq | apply St.block | apply St.inBlock | apply St.skip | (apply St.exit; rfl) | (apply St.cond_t; rfl) | (apply St.cond_f; rfl) | (apply Ud; rfl; exact On; all_goals (intro h; try (exfalso; omega))) | (apply Za; rfl; exact Oa) | (apply Zb; rfl; exact Oa; exact Ent.go) | (apply Zc; rfl; exact Ob) | (apply Zd; rfl; exact Oc; intro b; refine ⟨Ent.go, ?_⟩) | (apply Ze; rfl; exact Oc; intro b) | (apply Zf; rfl; exact Oe; intro g cap rest hcap) | (apply Zg; rfl; exact Od; intro ad cap) | apply StD.nil | exact StD.nope | apply StD.pick | (apply StD.claim; rfl; intro b) | (apply Zi; rfl; exact Oj; exact Oa) | (apply Zj; rfl; exact Oj; exact Oa; exact Ent.go) | (apply Zk; rfl; exact Oj; exact ⟨rfl, rfl⟩) | (apply Zl; rfl; exact Oj; exact ⟨rfl, rfl⟩; exact Ent.go) | (apply Zm; rfl; exact Oj; rfl) | (apply Zn; rfl; exact Oj; exact Ent.go; rfl) | (refine St.drawa (id := 1) [(0, 0), (1, 0), (2, 0), (3, 1), (4, 0), (5, 1), (6, 0), (7, 1), (8, 3), (9, 0), (10, 0), (11, 0)] [(13, 3), (14, 0)] [8, 13] 12 mixed rfl (by intro w; rfl) (by kernel_rfl) ?_) | (refine St.draw (id := 6) [(0, 0), (1, 0), (2, 0), (3, 1), (4, 0), (5, 0), (6, 1), (7, 1), (8, 0), (9, 0), (10, 0), (11, 0), (12, 0), (13, 0), (14, 0)] [] mixed (by kernel_rfl) ?_) | (refine St.draw (id := 13) [(0, 0), (1, 0), (2, 0), (3, 0), (4, 1), (5, 0), (6, 0), (7, 0), (8, 1), (9, 1), (10, 0), (11, 0), (12, 0), (13, 0), (14, 1), (15, 0)] [] mixed (by kernel_rfl) ?_)  | (apply Kd; exact Og; exact hdo; exact Oh; rintro _ _ ⟨rfl, rfl⟩) | (apply Ke; rfl; exact Og; exact hdo; exact Oh; rintro _ _ ⟨rfl, rfl⟩) | (apply Kf; rfl; exact Og; exact hdo; exact Oh; rintro _ _ ⟨rfl, rfl⟩; refine ⟨Ent.go, ?_⟩) | (apply Zo; rfl; exact Oj; exact On; all_goals (intro h; try (exfalso; omega))))
    refine St.dn (L' := []) Try.func18 ?_ ?_; rfl; exact Ent.go
end Go.Proofs.Ytmcadilggmlbfaa
