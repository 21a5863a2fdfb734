/-
  A transaction over a memory that nobody else turns: the cells that it reads, and what it puts for a thread.
-/
import Derived.Test.YthmbgodcpgkkeaaGreatEya
import Derived.Test.YthmbgodcpgkkeaaGreatBk
namespace Go.Proofs.YthmbgodcpgkkeaaGreat
set_option maxRecDepth 100000
theorem Pm.do_eq (M : Pm) (who : Int) (o : MOp) : (M.do who o).1.cs = doMem M.cs who o ∧ (M.do who o).2 = doOut M.cs who o := by
  unfold Pm.do doMem doOut
  by_cases h : checkOf M.cs.length who o = 0
  · rw [if_neg (by omega), if_pos h, if_pos h]; exact ⟨rfl, rfl⟩
  · rw [if_pos h, if_neg h, if_neg h]; exact ⟨rfl, rfl⟩
theorem own_in {c : Cfg} {a : Int} (h : 1 ≤ (c.what a).1 ∧ (c.what a).1 ≤ 6) : 1 ≤ a ∧ a < c.f7 := by
  obtain ⟨h, h'⟩ := h
  unfold Cfg.what at h h'
  repeat' split at h
  all_goals first | omega | (dsimp only at h; omega) | skip
  all_goals first | (repeat' split at h') | skip
  all_goals first | omega | (dsimp only at h h'; omega)
theorem doMem_load (cs : List Cell) (who a : Int) : doMem cs who (mop 0 a 0) = cs := by
  unfold doMem
  by_cases h : checkOf cs.length who (mop 0 a 0) = 0
  · rw [if_pos h]
    have e : becomes (cs.getD (mop 0 a 0).at_.toNat ⟨0, 0⟩) (mop 0 a 0) = cs.getD a.toNat ⟨0, 0⟩ := rfl
    rw [e]
    show cs.set a.toNat _ = cs
    by_cases hl : a.toNat < cs.length
    · rw [List.getD_eq_getElem?_getD, List.getElem?_eq_getElem hl]
      exact List.set_getElem_self hl
    · rw [List.set_eq_of_length_le (by omega)]
  · rw [if_neg h]
/-- which thread asks for what, by which tag -/
def annC (c : Cfg) (cs : List Cell) (u : Int) : Cell := cellI cs (c.at 1 u 0)
def argsC (c : Cfg) (cs : List Cell) (u : Int) : List Nat := [(cellI cs (c.at 2 u 0)).val, (cellI cs (c.at 2 u 1)).val, (cellI cs (c.at 2 u 2)).val, (cellI cs (c.at 2 u 3)).val]
/-- a thread asks for what was not done -/
def pendB (c : Cfg) (cs : List Cell) (u : Int) : Bool := decide ((annC c cs u).seq ≠ 0) && decide ((cellI cs (c.at 7 u 0)).val ≠ (annC c cs u).seq)
/-- a memory in which only slots were written since -/
structure MemB (c : Cfg) (cs0 cs : List Cell) (n : Nat) : Prop where
  v : MemV c cs (fun a => (cellI cs0 a).val) n
  o : ∀ a : Int, (c.what a).1 = 1 ∨ (c.what a).1 = 2 → cellI cs a = cellI cs0 a
  same : (∀ i : Int, 0 ≤ i → i < c.threads → pendB c cs0 i = false) → cs = cs0
section
variable {c : Cfg} {cs0 cs : List Cell} {n : Nat} {who : Int}
theorem MemB.load (hc : Small c) (h : MemB c cs0 cs n) (hw : 0 ≤ who ∧ who < c.threads) {a : Int} (ha : (c.what a).1 = 1 ∨ (c.what a).1 = 2) : doOut cs who (mop 0 a 0) = ⟨cellI cs0 a, true⟩ := by
  have hs := h.v.sz hc
  have hf := f717 hc
  have ht := hc.t1
  have hi := own_in (c := c) (a := a) (by omega)
  rw [← h.o a ha]
  exact (load_out ⟨hw.1, by omega⟩ (by omega) (by omega)).1
theorem Vw.ask_op (v : Vw) (c : Cfg) : (∃ x, (v.ask c).1 = mop 1 (c.at 3 v.who 0) x) ∨ ∃ a, (v.ask c).1 = mop 0 a 0 := by
  unfold Vw.ask
  split
  · exact .inl ⟨_, rfl⟩
  split
  · exact .inr ⟨_, rfl⟩
  split
  · exact .inr ⟨_, rfl⟩
  · exact .inr ⟨_, rfl⟩
theorem MemB.ask (hc : Small c) (h : MemB c cs0 cs n) (hw : 0 ≤ who ∧ who < c.threads) {v : Vw} (hv : v.who = who) {u : Int} (hu : 0 ≤ u ∧ u < c.threads) (hp : pendB c cs0 u = true) : MemB c cs0 (doMem cs who (v.ask c).1) n := by
  rcases v.ask_op c with ⟨x, e⟩ | ⟨a, e⟩
  · rw [e, hv]
    obtain ⟨g1, g2⟩ := h.v.store hc hw x
    refine ⟨g2, fun a ha => ?_, fun hn => by rw [hn u hu.1 hu.2] at hp; cases hp⟩
    rw [g1, ← h.o a ha]
    have hsl := slot_in hc hw.1 hw.2
    have hi := own_in (c := c) (a := a) (by omega)
    have hne : c.at 3 who 0 ≠ a := fun e' => by
      have := at_own hc (kind := 3) (k := 0) (by decide) hw (by unfold Cfg.cnt; simp)
      rw [e'] at this
      rw [this] at ha
      dsimp only at ha
      omega
    unfold cellI
    rw [List.getD_eq_getElem?_getD, List.getElem?_set_ne (by omega), ← List.getD_eq_getElem?_getD]
  · rw [e, doMem_load]; exact h
/-- rows, one behind the other, come to what their programs come to -/
inductive Cf (c : Cfg) (progs : Progs) (cs : List Cell) : Ms → List BRow → Ms → Prop
  | nil (ms : Ms) : Cf c progs cs ms [] ms
  | cons {ms ms1 ms2 : Ms} {r : BRow} {rows : List BRow} : MsOk ms → RunTo c (progOf progs (annC c cs r.who).val) ms (argsC c cs r.who) r.rc r.rv r.news ms1 → Cf c progs cs ms1 rows ms2 → Cf c progs cs ms (r :: rows) ms2
theorem Cf.snoc {progs : Progs} {r : BRow} : ∀ {rows : List BRow} {ms ms1 ms2 : Ms}, Cf c progs cs ms rows ms1 → MsOk ms1 → RunTo c (progOf progs (annC c cs r.who).val) ms1 (argsC c cs r.who) r.rc r.rv r.news ms2 → Cf c progs cs ms (rows ++ [r]) ms2
  | [], ms, _, ms2, h, hm, hr => by
    cases h
    exact .cons hm hr (.nil ms2)
  | _ :: rows, ms, _, ms2, h, hm, hr => by
    cases h with
    | cons h0 h1 h2 => exact .cons h0 h1 (Cf.snoc h2 hm hr)
end
theorem cnt7 (c : Cfg) {kind : Int} (h : 7 ≤ kind ∧ kind ≤ 9) : c.cnt kind = (c.threads, 1) := by
  unfold Cfg.cnt
  rw [if_neg (by omega), if_pos (by omega)]
theorem in7 {c : Cfg} {kind u : Int} (h : 7 ≤ kind ∧ kind ≤ 9) (hu : 0 ≤ u ∧ u < c.threads) : 0 ≤ u ∧ u < (c.cnt kind).1 ∧ (0 : Int) ≤ 0 ∧ 0 < (c.cnt kind).2 := by
  rw [cnt7 c h]; dsimp only; omega
theorem at7_in {c : Cfg} (hc : Small c) {kind u : Int} (h : 7 ≤ kind ∧ kind ≤ 9) (hu : 0 ≤ u ∧ u < c.threads) : c.f7 ≤ c.at kind u 0 ∧ c.at kind u 0 < c.f10 := by
  have hi := in7 h hu
  have hw := at_rest hc (kind := kind) (i := u) (k := 0) (by omega) ⟨hi.1, hi.2.1⟩ ⟨hi.2.2.1, hi.2.2.2⟩
  have h1 : (c.what (c.at kind u 0)).1 = kind := by rw [hw]
  have hx := at_in hc (kind := kind) (i := u) (j := 0) (by omega) hi
  unfold Tx at hx
  refine ⟨hx.1, ?_⟩
  have hf := f717 hc
  have hnum := hc.nums.f7
  generalize c.at kind u 0 = a at h1 hx
  unfold Cfg.what at h1
  rw [if_neg (by omega), if_neg (by omega), if_neg (by omega)] at h1
  refine Decidable.by_contra fun hn => ?_
  rw [if_neg (by omega)] at h1
  repeat' split at h1
  all_goals (try dsimp only at h1)
  all_goals first | omega | skip
section
variable {c : Cfg} {V V' W : Int → Nat} {fs ls R : List Nat} {B : List (Int × List Nat)} {P l : List (Int × Nat)} {room : Nat}
/-- what is put at a thread's own tag, code or value makes no difference -/
theorem RepV.congr2 (h : RepV c W fs ls R B) (h1 : ∀ kind i : Int, 10 ≤ kind ∧ kind ≤ 15 → (0 ≤ i ∧ i < (c.cnt kind).1 ∧ (0 : Int) ≤ 0 ∧ 0 < (c.cnt kind).2) → V' (c.at kind i 0) = W (c.at kind i 0)) (h2 : ∀ b w : Nat, (b : Int) < c.blocks → w < 8 → V' (c.at 16 b w) = W (c.at 16 b w)) : RepV c V' fs ls R B := by
  have hfz := h.fsz
  have hlz := h.lsz
  refine ⟨h.rl, fun k hk => ?_, fun b hb => ?_, fun b hb l e w hw => ?_, h.len, h.keys, h.nod, fun b hb => ?_, fun b hb => ?_, fun i hi => ?_, fun i hi => ?_, h.fnod, h.lnod, fun b hb => ?_, h.cnt, h.lsz⟩
  · rw [h1 10 k (by decide) (in10 c hk)]; exact h.root k hk
  · rw [h1 11 b (by decide) (in11 hb)]; exact h.life b hb
  · rw [h2 b w hb hw]; exact h.word b hb l e w hw
  · obtain ⟨g1, g2⟩ := h.free b hb
    exact ⟨g1, by rw [h1 11 b (by decide) (in11 g1)]; exact g2⟩
  · obtain ⟨g1, g2⟩ := h.limbo b hb
    exact ⟨g1, by rw [h1 11 b (by decide) (in11 g1)]; exact g2⟩
  · rw [h1 13 i (by decide) (in13 (by omega))]; exact h.stack i hi
  · rw [h1 15 i (by decide) (in15 (by omega))]; exact h.lim i hi
  · rw [h1 11 b (by decide) (in11 hb)]; exact h.cov b hb
theorem RepV.own (hc : Small c) (h : RepV c (ovl P V) fs ls R B) {kind u : Int} (hk : 7 ≤ kind ∧ kind ≤ 9) (hu : 0 ≤ u ∧ u < c.threads) (hr : P.length < room) (v : Nat) : RepV c (ovl (putP room P (c.at kind u 0) v) V) fs ls R B := by
  have hi := in7 hk hu
  refine h.congr2 (fun k i hk' hi' => ?_) fun b w hb hw => ?_
  · rw [putP_ovl V hr, updV_ne]
    exact ne_kind hc (by omega) (by omega) hi' hi (by omega)
  · rw [putP_ovl V hr, updV_ne]
    exact ne_kind hc (by decide) (by omega) (in16 hb hw) hi (by omega)
theorem Pk.own (hc : Small c) (h : Pk c V P) {kind u : Int} (hk : 7 ≤ kind ∧ kind ≤ 9) (hu : 0 ≤ u ∧ u < c.threads) (hr : P.length < room) (v : Nat) : Pk c V (putP room P (c.at kind u 0) v) := by
  have hi := in7 hk hu
  exact h.put hr v (fun b hb => ne_kind hc (by omega) (by decide) hi (in11 hb) (by omega)) (fun b w hb hw e => absurd e (ne_kind hc (by omega) (by decide) hi (in16 hb hw) (by omega))) (ne_kind hc (by omega) (by decide) hi (in12 c) (by omega)) (ne_kind hc (by omega) (by decide) hi (in14 c) (by omega))
/-- what a program adds makes no difference there -/
theorem ovl_app {a : Int} : ∀ (l P : List (Int × Nat)), (∀ x ∈ l, x.1 ≠ a) → ovl (P ++ l) V a = ovl P V a
  | [], P, _ => by rw [List.append_nil]
  | (b, v) :: l, P, h => by
    have := ovl_app l (P ++ [(b, v)]) fun x hx => h x (List.mem_cons_of_mem _ hx)
    rw [List.append_assoc] at this
    rw [show P ++ (b, v) :: l = P ++ ([(b, v)] ++ l) from rfl, this, ovl_snoc, updV_ne]
    exact Ne.symm (h (b, v) (List.mem_cons_self ..))
theorem PA.ovl7 (hc : Small c) {n : Nat} {P' : List (Int × Nat)} (h : PA c P n P') {kind u : Int} (hk : 7 ≤ kind ∧ kind ≤ 9) (hu : 0 ≤ u ∧ u < c.threads) : ovl P' V (c.at kind u 0) = ovl P V (c.at kind u 0) := by
  obtain ⟨l, rfl, _, h3⟩ := h
  refine ovl_app l P fun x hx e => ?_
  have := h3 x hx
  rw [e] at this
  have h7 := at7_in hc hk hu
  have hf := f717 hc
  exact this ⟨by omega, h7.2⟩
/-- nothing is put at a thread's own cells -/
def KfR (c : Cfg) (P : List (Int × Nat)) : Prop := ∀ x ∈ P, x.1 < 0 ∨ c.f7 ≤ x.1
theorem KfR.put (h : KfR c P) {a : Int} (ha : c.f7 ≤ a) (v : Nat) : KfR c (putP room P a v) := by
  unfold putP
  split
  · exact h
  · intro x hx
    rcases List.mem_append.1 hx with hx | hx
    · exact h x hx
    · rw [List.mem_singleton.1 hx]; exact .inr ha
theorem KfR.adds (hc : Small c) (h : KfR c P) {n : Nat} {P' : List (Int × Nat)} (hp : PA c P n P') : KfR c P' := by
  obtain ⟨l, rfl, _, h3⟩ := hp
  intro x hx
  rcases List.mem_append.1 hx with hx | hx
  · exact h x hx
  · have := h3 x hx
    unfold Kex at this
    have hf10 : c.f10 = c.f7 + c.threads * 3 := rfl
    have ht := hc.t0
    have hn := hc.nums.f7
    omega
end
end Go.Proofs.YthmbgodcpgkkeaaGreat
