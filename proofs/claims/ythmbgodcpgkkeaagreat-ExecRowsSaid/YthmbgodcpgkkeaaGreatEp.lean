/-
  A contract that says less. Package tumblerlaw11: sample, does; tumblerref07.Right; model.New. Memories that hold what transactions have written: steps that pools and programs ask for.
-/
import Derived.Test.YthmbgodcpgkkeaaGreatMo
import Derived.Test.YthmbgodcpgkkeaaGreatExi
import Derived.Test.YthmbgodcpgkkeaaGreatEo
section
namespace Go.Proofs.YthmbgodcpgkkeaaGreat
theorem Tri.wk {P : Program} {f : FuncId} {args : Array Value} {L : List HProp} {Q Q' : Value → List HProp → Prop} (h : Tri P f args L Q) (hq : ∀ v L', Q v L' → ∃ M, Q' v M ∧ Ent L' M) : Tri P f args L Q' := by
  unfold Tri at *
  intro w F hs
  refine (h w F hs).mono ?_
  rintro e w' ⟨v, L', he, h1, hs', ho⟩
  obtain ⟨M, h2, h3⟩ := hq v L' h1
  have := h3.app (N := F)
  unfold Ent at this
  exact ⟨v, M, he, h2, this _ hs', ho⟩
end Go.Proofs.YthmbgodcpgkkeaaGreat
end
section
namespace Go.Proofs.YthmbgodcpgkkeaaGreat
theorem rright_r (c : Cfg) : RTri Tryz.prog 103 #[.agg ⟨c.v⟩] [] (.bool c.right) := by
  apply RTri.of_pure
  refine Tri.of_body (vs := [_]) Tryz.func103 rfl rfl fun w0 F => ?_
  repeat' (first | refine Ga ?_ | (refine Gb ?_; intro b) | (refine Gd ?_; intro g cap rest hcap) | (refine Gc ?_; intro ad cap)  | (refine Ge ?_ ?_ <;> (intro h; try (exfalso; omega))) | fail)
  all_goals (first | refine St.dn Tryz.func103 ⟨?_, rfl⟩ Ent.go | refine St.fl Tryz.func103 ⟨?_, rfl⟩ Ent.go)
  all_goals exact congrArg Value.bool (by first | (simp [Cfg.right]; omega) | (rw [Bool.eq_iff_iff]; simp [Cfg.right]; omega))
def cfg0 : Cfg := ⟨2, 3, 20, 50, 0, 99⟩
theorem sample_r : RTri Tryz.prog 102 #[] [] (.agg ⟨cfg0.v⟩) := by
  apply RTri.of_pure
  refine Tri.of_body (vs := []) Tryz.func102 rfl rfl fun w0 F => ?_
  repeat' (first | refine Ga ?_ | (refine Gb ?_; intro b) | (refine Gd ?_; intro g cap rest hcap) | (refine Gc ?_; intro ad cap)  | (refine Ge ?_ ?_ <;> (intro h; try (exfalso; omega))) | fail)
  (first | refine St.dn Tryz.func102 ⟨?_, rfl⟩ Ent.go | refine St.fl Tryz.func102 ⟨?_, rfl⟩ Ent.go)
  rfl
/-- a memory, with a trace of at most k steps -/
structure MemX (k : Nat) where
  C : Nat
  st : List Int
  hst : st.length = 8
  tv : Value
  tr : List Ev
  htr : tr.length ≤ k
def memL (M : Nat) (cs : List Cell) (k : Nat) (x : MemX k) : List HProp := [bl M 244 (memV x.C cs.length x.st x.tv), bl x.C 39 (cs.flatMap Cell.v), Row x.tv 285 10 x.tr.length (x.tr.flatMap Ev.v)]
def MemE (M : Nat) (cs : List Cell) (k : Nat) : HProp := ex (memL M cs k)
def doOut (cs : List Cell) (who : Int) (o : MOp) : Out := if checkOf cs.length who o = 0 then outOf (cs.getD o.at_.toNat ⟨0, 0⟩) o else ⟨⟨0, 0⟩, false⟩
def doMem (cs : List Cell) (who : Int) (o : MOp) : List Cell := if checkOf cs.length who o = 0 then cs.set o.at_.toNat (becomes (cs.getD o.at_.toNat ⟨0, 0⟩) o) else cs
theorem do_tE (M : Nat) (cs : List Cell) (k : Nat) (hk : k ≤ 1000000) (who : Int) (o : MOp) : Tri Tryz.prog 87 #[.pointer (some ⟨M, 0, none⟩), .int .i64 who, .agg ⟨o.v⟩] [MemE M cs k]
    fun r L => ∃ code, r = .tuple ⟨[.agg ⟨(doOut cs who o).v⟩, .int .i64 code]⟩ ∧ L = [MemE M (doMem cs who o) (k + 1)] := by
  refine Tri.ex_out ?_
  rintro ⟨C, st, hst, tv, tr, htr⟩
  refine (do_t M C cs st hst tv tr (by omega) who o).wk ?_
  rintro v L' (⟨hne, rfl, rfl⟩ | ⟨h0, hlt, hw, tv', rfl, rfl⟩)
  · unfold doOut doMem
    rw [if_neg hne, if_neg hne]
    exact ⟨_, ⟨_, rfl, rfl⟩, Ent.ex_in (Ls := memL M cs (k + 1)) (L := []) ⟨C, st, hst, tv, tr, by omega⟩⟩
  · unfold doOut doMem
    rw [if_pos h0, if_pos h0]
    have e : cs.getD o.at_.toNat ⟨0, 0⟩ = cs[o.at_.toNat] := by rw [List.getD_eq_getElem?_getD, List.getElem?_eq_getElem hlt]; rfl
    rw [e]
    refine ⟨_, ⟨_, rfl, rfl⟩, ?_⟩
    have := Ent.ex_in (Ls := memL M (cs.set o.at_.toNat (becomes cs[o.at_.toNat] o)) (k + 1)) (L := []) ⟨C, st.set who.toNat (IntKind.i64.wrap (st[who.toNat] + 1)), by rw [List.length_set]; exact hst, tv', tr ++ [Ev.mk who o (outOf cs[o.at_.toNat] o)], by rw [List.length_append]; simp; omega⟩
    have heq : ∀ x : MemX (k + 1), memL M (cs.set o.at_.toNat (becomes cs[o.at_.toNat] o)) (k + 1) x = [bl M 244 (memV x.C cs.length x.st x.tv), bl x.C 39 ((cs.set o.at_.toNat (becomes cs[o.at_.toNat] o)).flatMap Cell.v), Row x.tv 285 10 x.tr.length (x.tr.flatMap Ev.v)] := fun x => by unfold memL; rw [List.length_set]
    rw [heq] at this
    dsimp only at this
    rw [List.length_append] at this
    exact this
set_option maxRecDepth 100000 in
theorem does_tE (M : Nat) (cs : List Cell) (k : Nat) (hk : k ≤ 1000000) (who : Int) (o : MOp) : Tri Tryz.prog 73 #[.pointer (some ⟨M, 0, none⟩), .int .i64 who, .agg ⟨o.v⟩] [MemE M cs k]
    fun r L => r = .agg ⟨(doOut cs who o).v⟩ ∧ L = [MemE M (doMem cs who o) (k + 1)] := by
  have hd := do_tE M cs k hk who o
  refine Tri.of_body (vs := [_, _, _]) Tryz.func73 rfl rfl fun w0 F => ?_
  repeat' (first | refine Ga ?_ | (refine Gb ?_; intro b) | (refine Gd ?_; intro g cap rest hcap) | (refine Gc ?_; intro ad cap)  | (refine Gt hd ?_; rintro _ _ ⟨code, rfl, rfl⟩) | (refine Ge ?_ ?_ <;> (intro h; try (exfalso; omega))) | fail)
  refine St.d1 Tryz.func73 ⟨_, ⟨rfl, rfl⟩, ?_⟩
  exact Ent.go
/-- a memory, sealed -/
def Ml (M : Nat) (cs : List Cell) (k : Nat) : HProp := MemE M cs k
theorem does_t (M : Nat) (cs : List Cell) (k : Nat) (hk : k ≤ 1000000) (who : Int) (o : MOp) : Tri Tryz.prog 73 #[.pointer (some ⟨M, 0, none⟩), .int .i64 who, .agg ⟨o.v⟩] [Ml M cs k]
    fun r L => r = .agg ⟨(doOut cs who o).v⟩ ∧ L = [Ml M (doMem cs who o) (k + 1)] := does_tE M cs k hk who o
theorem bootl_t (c : Cfg) (hc : Small c) : Tri Tryz.prog 50 #[.agg ⟨c.m⟩] [] fun v L => ∃ M, v = .pointer (some ⟨M, 0, none⟩) ∧ L = [Ml M c.boot 0] := by
  refine (boot_t c hc).wk ?_
  rintro v L' ⟨M, C, rfl, rfl⟩
  refine ⟨_, ⟨M, rfl, rfl⟩, ?_⟩
  have hl : c.boot.length = c.size := c.bootN_len _
  have := Ent.ex_in (Ls := memL M c.boot 0) (L := []) ⟨C, zeros8, rfl, .slice none 0 0, [], Nat.le_refl _⟩
  have heq : ∀ x : MemX 0, memL M c.boot 0 x = [bl M 244 (memV x.C c.size x.st x.tv), bl x.C 39 (c.boot.flatMap Cell.v), Row x.tv 285 10 x.tr.length (x.tr.flatMap Ev.v)] := fun x => by unfold memL; rw [hl]
  rw [heq] at this
  refine Ent.trans ?_ this
  refine Ent.trans (Ent.row_nil 285 10) ?_
  exact Ent.go
attribute [irreducible] Ml
end Go.Proofs.YthmbgodcpgkkeaaGreat
end
section
namespace Go.Proofs.YthmbgodcpgkkeaaGreat
set_option maxRecDepth 100000
def cellI (cs : List Cell) (a : Int) : Cell := cs.getD a.toNat ⟨0, 0⟩
/-- what transactions have written stands there, with no number above n -/
structure MemV (c : Cfg) (cs : List Cell) (V : Int → Nat) (n : Nat) : Prop where
  len : cs.length = c.size
  v : ∀ a, Tx c a → (cellI cs a).val = V a
  q : ∀ a, Tx c a → (cellI cs a).seq ≤ n
theorem what_own {c : Cfg} {a : Int} (h : (c.what a).1 = 3) : 1 ≤ a ∧ a < c.f7 := by
  unfold Cfg.what at h
  repeat' split at h
  all_goals first | omega | (dsimp only at h; omega)
section
variable {c : Cfg} {cs : List Cell} {V : Int → Nat} {n : Nat}
theorem slot_in (hc : Small c) {u : Int} (h0 : 0 ≤ u) (h1 : u < c.threads) : 1 ≤ c.at 3 u 0 ∧ c.at 3 u 0 < c.f7 :=
  what_own (by rw [at_own hc (by decide) ⟨h0, h1⟩ (by unfold Cfg.cnt; simp)])
theorem MemV.sz (hc : Small c) (h : MemV c cs V n) : (cs.length : Int) = c.f17 := by
  have := hc.nums.f17
  have := hc.nums.f7
  have hb := hc.b0
  obtain ⟨hf7, hf10, hf11, hf12, hf13, hf14, hf15, hf16, hf17, hstr⟩ := c.froms
  have hl := hc.limit
  have ht := hc.t0
  rw [h.len]; unfold Cfg.size; omega
theorem f717 (hc : Small c) : 1 ≤ c.f7 ∧ c.f7 ≤ c.f17 := by
  have := hc.nums.f7
  have hb := hc.b0
  obtain ⟨hf7, hf10, hf11, hf12, hf13, hf14, hf15, hf16, hf17, hstr⟩ := c.froms
  have hl := hc.limit
  have ht := hc.t0
  have hcap := hc.cap
  have hts := hc.ts
  omega
theorem load_out {who : Int} (hw : 0 ≤ who ∧ who < 8) {a : Int} (h0 : 0 ≤ a) (h1 : a < cs.length) : doOut cs who (mop 0 a 0) = ⟨cellI cs a, true⟩ ∧ doMem cs who (mop 0 a 0) = cs := by
  have hk : checkOf cs.length who (mop 0 a 0) = 0 := by
    unfold checkOf
    rw [if_neg (by omega), if_neg (show ¬ ((mop 0 a 0).kind < 0 ∨ 3 < (mop 0 a 0).kind) from (by decide : ¬ ((0 : Int) < 0 ∨ (3 : Int) < 0))), if_neg (show ¬ ((mop 0 a 0).at_ < 0 ∨ (cs.length : Int) ≤ (mop 0 a 0).at_) by show ¬ (a < 0 ∨ (cs.length : Int) ≤ a); omega)]
  unfold doOut doMem
  rw [if_pos hk, if_pos hk]
  refine ⟨rfl, ?_⟩
  have e : becomes (cs.getD (mop 0 a 0).at_.toNat ⟨0, 0⟩) (mop 0 a 0) = cs.getD a.toNat ⟨0, 0⟩ := rfl
  rw [e]
  show cs.set a.toNat _ = cs
  have hl : a.toNat < cs.length := by omega
  rw [List.getD_eq_getElem?_getD, List.getElem?_eq_getElem hl]
  exact List.set_getElem_self hl
/-- a cell that transactions write is loaded -/
theorem MemV.load (hc : Small c) (h : MemV c cs V n) {who : Int} (hw : 0 ≤ who ∧ who < 8) {a : Int} (ha : Tx c a) : (doOut cs who (mop 0 a 0)).was.val = V a ∧ (doOut cs who (mop 0 a 0)).was.seq ≤ n ∧ doMem cs who (mop 0 a 0) = cs := by
  have hs := h.sz hc
  have hf := f717 hc
  have ha' := ha
  unfold Tx at ha'
  obtain ⟨h1, h2⟩ := load_out (cs := cs) hw (a := a) (by omega) (by omega)
  rw [h1]
  exact ⟨h.v a ha, h.q a ha, h2⟩
/-- a slot is written -/
theorem MemV.store (hc : Small c) (h : MemV c cs V n) {who : Int} (hw : 0 ≤ who ∧ who < c.threads) (x : Nat) : doMem cs who (mop 1 (c.at 3 who 0) x) = cs.set (c.at 3 who 0).toNat ⟨x, 0⟩ ∧ MemV c (doMem cs who (mop 1 (c.at 3 who 0) x)) V n := by
  have hs := h.sz hc
  have hf := f717 hc
  have hsl := slot_in hc hw.1 hw.2
  have ht := hc.t1
  have hk : checkOf cs.length who (mop 1 (c.at 3 who 0) x) = 0 := by
    unfold checkOf
    rw [if_neg (by omega), if_neg (show ¬ ((mop 1 (c.at 3 who 0) x).kind < 0 ∨ 3 < (mop 1 (c.at 3 who 0) x).kind) from (by decide : ¬ ((1 : Int) < 0 ∨ (3 : Int) < 1))), if_neg (show ¬ ((mop 1 (c.at 3 who 0) x).at_ < 0 ∨ (cs.length : Int) ≤ (mop 1 (c.at 3 who 0) x).at_) by show ¬ (c.at 3 who 0 < 0 ∨ (cs.length : Int) ≤ c.at 3 who 0); omega)]
  have e : doMem cs who (mop 1 (c.at 3 who 0) x) = cs.set (c.at 3 who 0).toNat ⟨x, 0⟩ := by
    unfold doMem
    rw [if_pos hk]
    rfl
  have hcell : ∀ a, Tx c a → cellI (cs.set (c.at 3 who 0).toNat ⟨x, 0⟩) a = cellI cs a := fun a ha => by
    unfold Tx at ha
    unfold cellI
    rw [List.getD_eq_getElem?_getD, List.getElem?_set_ne (by omega), ← List.getD_eq_getElem?_getD]
  refine ⟨e, ?_⟩
  rw [e]
  exact ⟨by rw [List.length_set]; exact h.len, fun a ha => by rw [hcell a ha]; exact h.v a ha, fun a ha => by rw [hcell a ha]; exact h.q a ha⟩
/-- a program's step is done in memory -/
theorem XI.step {g : Bg} {room : Nat} {code : List Ins} {ms : Ms} {args : List Nat} {P0 : List (Int × Nat)} {nt0 nl0 : Int} {k : Nat} {m : Xm} (hc : Small c) (h : XI c V g room code ms args P0 nt0 nl0 k m) (hst : m.stops) (hs : m.x.s = 0) (ho : (m.v.ask c).2 = true) (hm : MemV c cs V n) (hn : n ≤ g.sq) (hw : 0 ≤ g.who ∧ g.who < c.threads) :
    MemV c (doMem cs g.who (m.v.ask c).1) V n ∧ XI c V g room code ms args P0 nt0 nl0 (k + 1) { m with v := m.v.tell (doOut cs g.who (m.v.ask c).1) } := by
  have ht1 := hc.t1
  have hw8 : 0 ≤ g.who ∧ g.who < 8 := ⟨hw.1, by omega⟩
  cases hsim : h.sim with
  | run fs ls R B h1 h2 =>
    exfalso
    rcases hst with e | ⟨e, _⟩
    · exact e h1.s
    · rw [h1.waits] at e; cases e
  | fail n r h1 => omega
  | ret fs ls R B n r h1 => omega
  | stale h1 h2 => exact absurd h2 h.ns.ns
  | wait nw f h1 h2 =>
    have hv0 : m.v.s = 0 := by
      rcases hst with e | ⟨_, e⟩
      · exact absurd h1.s e
      · exact e
    obtain ⟨r, h3, _⟩ := h1.is
    by_cases e1 : m.v.step = 1
    · have ea : (m.v.ask c).1 = mop 1 (c.at 3 g.who 0) (m.v.block + 1).toNat := by
        unfold Vw.ask
        rw [if_pos e1, h.ns.who]
      refine ⟨by rw [ea]; exact (hm.store hc hw _).2, h.tell hst hs ho fun e => absurd e1 e⟩
    · obtain ⟨a, ea, hx⟩ : ∃ a, (m.v.ask c).1 = mop 0 a 0 ∧ Tx c a := by
        unfold Vw.ask
        rw [if_neg e1]
        rcases h3.is with e | ⟨e, _⟩ | ⟨e, _⟩ | ⟨_, e, hx, _⟩ | ⟨_, e, _, hb0, hb1, _⟩
        · omega
        · omega
        · omega
        · rw [if_neg (by omega), if_pos e]; exact ⟨_, rfl, hx⟩
        · rw [if_pos (by omega)]
          refine ⟨_, rfl, at_in hc (by decide) ?_⟩
          rw [cnt11]; dsimp only; omega
      obtain ⟨g1, g2, g3⟩ := hm.load hc hw8 hx
      rw [ea]
      refine ⟨by rw [g3]; exact hm, ?_⟩
      refine h.tell hst hs ho fun _ => ⟨by omega, ?_⟩
      rw [g1, ea]; rfl
end
end Go.Proofs.YthmbgodcpgkkeaaGreat
end
