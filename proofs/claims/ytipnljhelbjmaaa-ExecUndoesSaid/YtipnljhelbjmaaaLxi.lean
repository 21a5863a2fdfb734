/-
  A program that is told replies, in plain terms: what ExecUndoes asks of it.
-/
import Derived.Test.YtipnljhelbjmaaaLxg
namespace Go.Proofs.Ytipnljhelbjmaaa
/-- the code from a region on -/
def fromR (id : Nat) : Code → Option Code
  | .seq (.region i ops d) y => match Nat.beq i id with
    | true => some (.seq (.region i ops d) y)
    | false => fromR id y
  | .seq x y => match fromR id x with
    | some c => some c
    | none => fromR id y
  | .block _ c => fromR id c
  | .loop c => fromR id c
  | .cond _ x y => match fromR id x with
    | some c => some c
    | none => fromR id y
  | _ => none
def codeAt (f : Func) (id : Nat) : Code := match f.body with
  | some c => match fromR id c with
    | some y => y
    | none => .skip
  | none => .skip
/-- a walk stands still here -/
def Halt (p : Prop) : Prop := p
theorem St.halt {P : Program} {C : Cx} {k : List Item} {E : Env} {L : List HProp} (id : Nat) {ops : Array Oper} {d : Bool} {y : Code} (h : Halt (St P C (.code (.seq (.region id ops d) y) :: k) E L)) : St P C (.code (.seq (.region id ops d) y) :: k) E L := h
theorem Halt.go {p : Prop} (h : p) : Halt p := h
attribute [irreducible] Halt
/-- told n replies -/
def Un (c : Cfg) (code : List Ins) (P0 : List (Int × Nat)) (nt0 nl0 : Int) (n : Nat) (m : Xm) : Prop :=
  (rightB code = true ∧ Xinv c code P0 nt0 nl0 n m ∧ m.stops) ∨ (m.x.s = 1 ∧ m.puts = P0 ∧ m.p.nt = nt0 ∧ m.p.nl = nl0 ∧ m.news = [] ∧ n = 0 ∧ 0 ≤ m.v.block ∧ m.v.block ≤ 1000)
section
variable {c : Cfg} {code : List Ins} {P0 : List (Int × Nat)} {nt0 nl0 : Int} {n : Nat} {m : Xm}
theorem Un.start (hS : Start c P0 nt0 nl0) (hf : 0 ≤ c.fuel) (room : Nat) (v : Vw) (p : Po) (hnt : p.nt = nt0) (hnl : p.nl = nl0) (args : List Nat) (ha : args.length = 4) (hvb : 0 ≤ v.block ∧ v.block ≤ 1000) :
    Un c code P0 nt0 nl0 0 (Xm.start c room code v p P0 args) := by
  unfold Xm.start
  cases hr : rightB code with
  | true =>
    rw [if_pos rfl]
    have h := run_inv (run_inv' hS room hr 0) _ _ (Xinv.init hr hS hf v p hnt hnl args ha hvb) (Nat.le_refl _)
    exact .inl ⟨hr, h.1, h.2⟩
  | false =>
    rw [if_neg (by decide)]
    refine .inr ⟨rfl, ?_, ?_, ?_, rfl, rfl, hvb⟩
    · show P0.take P0.length = P0
      exact List.take_length
    · exact hnt
    · exact hnl
theorem Un.block (h : Un c code P0 nt0 nl0 n m) : 0 ≤ m.v.block ∧ m.v.block ≤ 1000000 := by
  rcases h with ⟨_, h, _⟩ | ⟨_, _, _, _, _, _, h1, h2⟩
  · have := h.vb; omega
  · omega
theorem Un.asks (h : Un c code P0 nt0 nl0 n m) (hk : (m.ask c).2 = true) : rightB code = true ∧ Xinv c code P0 nt0 nl0 n m ∧ m.stops ∧ m.x.s = 0 ∧ (m.v.ask c).2 = true := by
  unfold Xm.ask at hk
  by_cases hs : m.x.s ≠ 0
  · rw [if_pos hs] at hk; cases hk
  · rw [if_neg hs] at hk
    rcases h with ⟨h0, h, h1⟩ | ⟨h1, _⟩
    · exact ⟨h0, h, h1, by omega, hk⟩
    · omega
theorem Un.tell (hS : Start c P0 nt0 nl0) (room : Nat) (h : Un c code P0 nt0 nl0 n m) (hk : (m.ask c).2 = true) (o : Out) : Un c code P0 nt0 nl0 (n + 1) (m.tell c room code o) := by
  obtain ⟨hr, hx, hst, hs, hv⟩ := h.asks hk
  unfold Xm.tell
  rw [if_pos hs]
  have h := run_inv (run_inv' hS room hr (n + 1)) _ _ (hx.tell hst hs hv o) (Nat.le_refl _)
  exact .inl ⟨hr, h.1, h.2⟩
theorem Un.steps (hf : 0 ≤ c.fuel) (h : Un c code P0 nt0 nl0 n m) : (n : Int) ≤ 3 * c.fuel := by
  rcases h with ⟨_, h, _⟩ | ⟨_, _, _, _, _, rfl, _⟩
  · have := h.asks; have := h.s1; have := h.s0; omega
  · omega
theorem Un.undone (h : Un c code P0 nt0 nl0 n m) (hs : m.x.s = 1) (hrc : m.x.rc ≠ 0) : m.puts = P0 ∧ m.p.nt = nt0 ∧ m.p.nl = nl0 := by
  rcases h with ⟨_, h, _⟩ | ⟨_, h1, h2, h3, _⟩
  · exact (h.rc hrc).2
  · exact ⟨h1, h2, h3⟩
theorem Un.news (hS : Start c P0 nt0 nl0) (h : Un c code P0 nt0 nl0 n m) : m.news.length ≤ 1000000 := by
  rcases h with ⟨_, h, _⟩ | ⟨_, _, _, _, h, _⟩
  · have := h.news; have := h.s1; have := h.s0; have := hS.f1; omega
  · rw [h]; decide
end
end Go.Proofs.Ytipnljhelbjmaaa
