/-
  Package sched: each pick is one operation of the memory.
-/
import Derived.Test.YtemaaenipjinaaaGreatWd
import Derived.Test.YtemaaenipjinaaaGreatFs
namespace Go.Proofs.YtemaaenipjinaaaGreat
set_option maxRecDepth 100000
theorem Pm.do_tr {M : Pm} {who : Int} {o : MOp} (h : checkOf M.cs.length who o = 0) : (M.do who o).1.tr.length = M.tr.length + 1 := by
  unfold Pm.do
  rw [if_neg (fun e => e h)]
  exact List.length_append
/-- each thread that is at a call does what a call does -/
structure TI (c : Cfg) (progs : Progs) (m : Sd) : Prop where
  cs : m.mem.cs.length = c.size
  n : (m.ths.length : Int) = c.threads
  th : ∀ t, t < m.ths.length → ∀ p cm, (m.ths.getD t th0).at_ = some (p, cm) → cm.s.next ≠ 13 ∧ ∃ n, Ct c p n cm
section
variable {c : Cfg} {progs : Progs} {m : Sd}
theorem TI.new {calls : List (List Jb)} (hn : (calls.length : Int) = c.threads) : TI c progs (Sd.new c calls) := by
  refine ⟨c.bootN_len _, by show (((calls.map _).length : Nat) : Int) = _; rw [List.length_map]; exact hn, fun t ht p cm he => ?_⟩
  have ht : t < (calls.map fun l => (⟨l, none, 0, 0, 0⟩ : Th)).length := ht
  have e : (Sd.new c calls).ths.getD t th0 = ⟨calls[t]'(by rw [List.length_map] at ht; exact ht), none, 0, 0, 0⟩ := by
    show (calls.map fun l => (⟨l, none, 0, 0, 0⟩ : Th)).getD t th0 = _
    rw [List.getD_eq_getElem?_getD, List.getElem?_eq_getElem ht, List.getElem_map]; rfl
  rw [e] at he
  cases he
theorem TI.begin (h : TI c progs m) (t : Nat) : TI c progs (Sd.begin progs m t) := by
  unfold Sd.begin
  split
  · exact h
  · refine ⟨h.cs, by dsimp only; rw [List.length_set]; exact h.n, fun s hs p cm he => ?_⟩
    dsimp only at hs he
    rw [List.length_set] at hs
    rw [gset] at he
    split at he
    · dsimp only at he
      injection he with he
      injection he with e1 e2
      subst e1 e2
      refine ⟨?_, 0, Ct.new⟩
      unfold Cm.new
      dsimp only
      split <;> decide
    · exact h.th s hs p cm he
theorem TI.step (hc : Small c) (hi : SdI c progs m) (h : TI c progs m) {t : Nat} (ht : t < m.ths.length) (hat : (m.ths.getD t th0).at_.isSome = true) : TI c progs (Sd.step c progs m t) ∧ (Sd.step c progs m t).mem.tr.length = m.mem.tr.length + 1 := by
  unfold Sd.step
  split
  · rename_i e; rw [e] at hat; cases hat
  · rename_i p cm e
    obtain ⟨h13, n, hct⟩ := h.th t ht p cm e
    obtain ⟨h1, h2, h3, _⟩ := (hi.th t ht).at_ p cm e
    have hn := h.n
    have hw : 0 ≤ p.who ∧ p.who < c.threads := by omega
    obtain ⟨g1, g2, g3, _⟩ := Ct.step hc hw h3 hct h13 (m.mem.do (t : Int) (cm.ask c p).1).2
    obtain ⟨a1, a2, a3, a4⟩ := g2.at_ hc
    have ht1 := hc.t1
    have hsz : c.size = c.f17.toNat := rfl
    have hck : checkOf m.mem.cs.length (t : Int) (cm.ask c p).1 = 0 := by
      unfold checkOf
      rw [h.cs, if_neg (by omega), if_neg (by omega), if_neg (by omega)]
    have htr := Pm.do_tr hck
    obtain ⟨l1, _, _⟩ := Pm.do_len m.mem (t : Int) (cm.ask c p).1
    refine ⟨⟨?_, ?_, fun s hs p' cm' he => ?_⟩, htr⟩
    · show (m.mem.do (t : Int) (cm.ask c p).1).1.cs.length = c.size
      rw [l1]; exact h.cs
    · unfold Sd.told; dsimp only; rw [List.length_set]; exact h.n
    · unfold Sd.told at hs he
      dsimp only at hs he
      rw [List.length_set] at hs
      rw [gset] at he
      split at he
      · dsimp only at he
        split at he
        · cases he
        · rename_i hn13
          injection he with he
          injection he with e1 e2
          subst e1 e2
          exact ⟨hn13, _, g3⟩
      · exact h.th s hs p' cm' he
theorem TI.pick (hc : Small c) (hi : SdI c progs m) (h : TI c progs m) (htr : m.mem.tr.length = m.picks) (t : Int) : TI c progs (m.pick c progs t).1 ∧ (m.pick c progs t).1.mem.tr.length = (m.pick c progs t).1.picks := by
  have hsp : ∀ (x : Sd) (k : Nat), (Sd.step c progs x k).picks = x.picks := fun x k => by unfold Sd.step; split <;> rfl
  unfold Sd.pick
  split
  · exact ⟨h, htr⟩
  rename_i hn
  have hidle : m.idle t = false := by
    cases e : m.idle t with
    | false => rfl
    | true => exact absurd (.inl e) hn
  obtain ⟨h0, h1, h2⟩ := Sd.not_idle hidle
  have ht : t.toNat < m.ths.length := by omega
  have hm := hi.mid (by omega)
  have hu := hi.th t.toNat ht
  have h' : TI c progs { m with picks := m.picks + 1 } := ⟨h.cs, h.n, h.th⟩
  cases e : (m.ths.getD t.toNat th0).at_ with
  | none =>
    dsimp only [Option.isNone]
    rw [if_pos rfl, hsp]
    cases ej : (m.ths.getD t.toNat th0).calls with
    | nil => exact absurd ej (h2 e)
    | cons j js =>
      obtain ⟨hb, hat⟩ := hm.begin (t := t.toNat) ht (by have := hi.recs; dsimp only; omega) (by have := hu.count; dsimp only; omega) ej
      have hb2 := h'.begin t.toNat
      have e1 := hb2.n
      have e2 := h.n
      obtain ⟨g1, g2⟩ := TI.step hc hb.i hb2 (t := t.toNat) (by omega) (by rw [hat]; rfl)
      refine ⟨g1, g2.trans ?_⟩
      have e3 : (Sd.begin progs { m with picks := m.picks + 1 } t.toNat).mem = m.mem ∧ (Sd.begin progs { m with picks := m.picks + 1 } t.toNat).picks = m.picks + 1 := by
        unfold Sd.begin; split <;> exact ⟨rfl, rfl⟩
      rw [e3.1, e3.2, htr]
  | some x =>
    dsimp only [Option.isNone]
    rw [if_neg (by decide), hsp]
    obtain ⟨g1, g2⟩ := TI.step hc hm.i h' (t := t.toNat) ht (by dsimp only; rw [e]; rfl)
    exact ⟨g1, g2.trans (by dsimp only; rw [htr])⟩
theorem TI.run (hc : Small c) (hf : 0 ≤ c.fuel ∧ c.fuel ≤ 1000) (hi : SdI c progs m) (h : TI c progs m) (htr : m.mem.tr.length = m.picks) (ts : List Int) : (runP c progs m ts).mem.tr.length = (runP c progs m ts).picks := by
  unfold runP
  induction ts generalizing m with
  | nil => exact htr
  | cons t ts ih =>
    obtain ⟨h1, h2⟩ := h.pick hc hi htr t
    exact ih (hi.pick hc hf t) h1 h2
/-- a pick that is taken is counted, another one makes no difference -/
theorem pick_cases (c : Cfg) (progs : Progs) (m : Sd) (t : Int) : (m.pick c progs t).1.picks = m.picks + (if (m.pick c progs t).2 = true then 1 else 0) := by
  have hsp : ∀ (x : Sd) (k : Nat), (Sd.step c progs x k).picks = x.picks := fun x k => by unfold Sd.step; split <;> rfl
  have hb : ∀ (x : Sd) (k : Nat), (Sd.begin progs x k).picks = x.picks := fun x k => by unfold Sd.begin; split <;> rfl
  unfold Sd.pick
  split
  · rfl
  · dsimp only
    rw [if_pos rfl, hsp]
    split
    · rw [hb]
    · rfl
end
end Go.Proofs.YtemaaenipjinaaaGreat
