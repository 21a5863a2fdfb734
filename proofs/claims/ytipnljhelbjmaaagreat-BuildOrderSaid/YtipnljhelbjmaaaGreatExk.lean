/-
  A program that runs, in plain terms: its rounds keep Xinv.
-/
import Derived.Test.YtipnljhelbjmaaaGreatExj
namespace Go.Proofs.YtipnljhelbjmaaaGreat
section
variable {c : Cfg} {code : List Ins} {P0 : List (Int × Nat)} {nt0 nl0 : Int} {n : Nat} {m : Xm}
theorem Xinv.setpc (h : Xinv c code P0 nt0 nl0 n m) (k : Int) (hk : m.x.s = 0 → ∃ k' : Nat, k = (k' : Int) ∧ k' < code.length) : Xinv c code P0 nt0 nl0 n { m with x := { m.x with pc := k } } :=
  ⟨h.mark, h.pre, h.st, h.sl, h.len, h.news, h.nt, h.nl, h.w, h.regs, h.args, h.i, h.s0, h.s1, hk, h.rc, h.rc0, h.vb, h.asks⟩
theorem Xinv.setregs (h : Xinv c code P0 nt0 nl0 n m) (a : Nat) (v : Nat) : Xinv c code P0 nt0 nl0 n { m with x := { m.x with regs := m.x.regs.set a v } } :=
  ⟨h.mark, h.pre, h.st, h.sl, h.len, h.news, h.nt, h.nl, h.w, List.length_set.trans h.regs, h.args, h.i, h.s0, h.s1, h.pc, h.rc, h.rc0, h.vb, h.asks⟩
theorem Xinv.ends (h : Xinv c code P0 nt0 nl0 n m) (s : Int) (hs : s ≠ 0) (v : Nat) : Xinv c code P0 nt0 nl0 n { m with x := { m.x with s := s, rc := 0, rv := v } } :=
  ⟨h.mark, h.pre, h.st, h.sl, h.len, h.news, h.nt, h.nl, h.w, h.regs, h.args, h.i, h.s0, h.s1, fun e => absurd e hs, fun e => absurd rfl e, fun e => absurd e hs, h.vb, h.asks⟩
/-- an instruction begun, its place left as it was -/
def Xm.begun' (m : Xm) (i : Ins) : Xm := { m with x := { m.x with steps := m.x.steps + 1, i := i } }
theorem Xinv.begun' (h : Xinv c code P0 nt0 nl0 n m) (hw : m.x.waits = false) (hs : m.x.s = 0) (hf : m.x.steps < c.fuel) {i : Ins} (hi : InsOk i) :
    Xmid c code P0 nt0 nl0 n (m.begun' i) ∧ n + 3 ≤ 3 * (m.begun' i).x.steps.toNat := by
  have h0 := h.s0
  have hl := h.len; have hn := h.news; have ha := h.asks
  rw [hw, if_neg (by decide)] at hl hn
  have hrem : remOf (m.begun' i) = 0 := by unfold remOf; rw [if_neg]; show ¬ (m.x.waits = true ∧ _); rw [hw]; simp
  have e : (m.begun' i).x.steps.toNat = m.x.steps.toNat + 1 := by show (m.x.steps + 1).toNat = _; omega
  have el : (m.begun' i).puts.length = m.puts.length := rfl
  have en : (m.begun' i).news.length = m.news.length := rfl
  have ew : (m.begun' i).x.waits = false := hw
  refine ⟨⟨⟨h.mark, h.pre, h.st, h.sl, ?_, ?_, h.nt, h.nl, h.w, h.regs, h.args, hi, ?_, ?_, h.pc, h.rc, h.rc0, h.vb, ?_⟩, ?_, ?_, hw, hs⟩, ?_⟩
  · rw [ew, if_neg (by decide), e, el]; omega
  · rw [ew, if_neg (by decide), e, en]; omega
  · show 0 ≤ m.x.steps + 1; omega
  · show m.x.steps + 1 ≤ c.fuel; omega
  · rw [hrem, e]; omega
  · rw [e, el]; omega
  · rw [e, en]; omega
  · rw [e]; omega
/-- what comes of a round: it ends, or one step more is made -/
def Goes (st : Int) (m' : Xm) : Prop := m'.x.s ≠ 0 ∨ m'.x.steps = st
theorem Comes'.goes {d : Nat} {m' : Xm} (h : Comes' c d m m') : Goes m.x.steps m' := by
  rcases h with k | ⟨m1, e, v, _, _, rfl⟩
  · exact .inr k.steps
  · exact .inl (by show (1 : Int) ≠ 0; decide)
theorem Waits.goes {m' : Xm} (h : Waits c m m') : Goes m.x.steps m' := .inr h.keep.steps
theorem Xmid.either (hS : Start c P0 nt0 nl0) (h : Xmid c code P0 nt0 nl0 n m) (hn : n + 3 ≤ 3 * m.x.steps.toNat) {m' : Xm} (k : Comes' c 9 m m' ∨ Waits c m m') : Xinv c code P0 nt0 nl0 n m' ∧ Goes m.x.steps m' :=
  k.elim (fun k => ⟨h.comes hS k, k.goes⟩) (fun k => ⟨h.waits' hS hn k, k.goes⟩)
theorem Xinv.does (hS : Start c P0 nt0 nl0) (room : Nat) (h : Xinv c code P0 nt0 nl0 n m) (hw : m.x.waits = false) (hs : m.x.s = 0) (hf : m.x.steps < c.fuel) {i : Ins} {k : Nat} (hk : m.x.pc = (k : Int)) (hkl : k < code.length) (hi : InsAt code.length k i) :
    Xinv c code P0 nt0 nl0 n ((m.begun i).does c room) ∧ Goes (m.x.steps + 1) ((m.begun i).does c room) := by
  obtain ⟨hm, hn⟩ := h.begun' hw hs hf hi.ok
  have ei : (m.begun i).x.i = i := rfl
  unfold Xm.does
  rw [ei]
  by_cases h17 : i.op = 17
  · rw [if_pos h17]
    exact ⟨hm.inv.setpc _ fun _ => ⟨_, rfl, hi.go (.inl h17)⟩, .inr rfl⟩
  rw [if_neg h17]
  by_cases h18 : i.op = 18 ∨ i.op = 19
  · rw [if_pos h18]
    split
    · exact ⟨hm.inv.setpc _ fun _ => ⟨_, rfl, h18.elim (fun e => hi.go (.inr e)) hi.back⟩, .inr rfl⟩
    · have := hi.next (by omega) (by omega)
      exact ⟨hm.inv.setpc (m.x.pc + 1) fun _ => ⟨k + 1, by omega, this⟩, .inr rfl⟩
  rw [if_neg h18]
  by_cases h20 : i.op = 20
  · rw [if_pos h20]
    exact ⟨(hm.inv.ends 1 (by decide) _).setpc (m.x.pc + 1) fun e => absurd e (by show (1 : Int) ≠ 0; decide), .inl (by show (1 : Int) ≠ 0; decide)⟩
  rw [if_neg h20]
  by_cases h21 : i.op = 21
  · rw [if_pos h21]
    refine ⟨(hm.inv.fail hS (e := 40) (by decide) (v := i.imm) ?_ ?_).setpc (m.x.pc + 1) fun e => absurd e (by show (1 : Int) ≠ 0; decide), .inl (by show (1 : Int) ≠ 0; decide)⟩
    · omega
    · rw [hm.waits, if_neg (by decide)]; omega
  rw [if_neg h21]
  have hnx := hi.next h20 h21
  have hb : Xmid c code P0 nt0 nl0 n (m.begun i) := ⟨hm.inv.setpc (m.x.pc + 1) fun _ => ⟨k + 1, by omega, hnx⟩, hm.len, hm.news, hm.waits, hm.s⟩
  split
  · exact hb.either hS hn (comes_root hS.small)
  split
  · exact hb.either hS hn (comes_touch hS.small)
  split
  · exact hb.either hS hn (comes_fresh hS.small)
  · exact ⟨hb.inv.setregs _ _, .inr rfl⟩
theorem Xinv.once (hS : Start c P0 nt0 nl0) (room : Nat) (hr : rightB code = true) (h : Xinv c code P0 nt0 nl0 n m) (hst : ¬ m.stops) :
    Xinv c code P0 nt0 nl0 n (m.once c room code) ∧ ((m.once c room code).x.s ≠ 0 ∨ (m.x.waits = false ∧ m.x.steps < c.fuel ∧ (m.once c room code).x.steps = m.x.steps + 1) ∨ (m.x.waits = true ∧ (m.once c room code).x.waits = false ∧ (m.once c room code).x.steps = m.x.steps)) := by
  obtain ⟨hpos, h256, hat⟩ := right_at hr
  have hs : m.x.s = 0 := Decidable.by_contra fun e => hst (.inl e)
  unfold Xm.once
  cases hw : m.x.waits with
  | false =>
    rw [if_pos rfl]
    unfold Xm.step
    split
    · refine ⟨h.fail hS (by decide) ?_ ?_, .inl (by show (1 : Int) ≠ 0; decide)⟩
      · have := h.asks; omega
      · rw [hw, if_neg (by decide)]; omega
    · rename_i hf
      obtain ⟨k, hk, hkl⟩ := h.pc hs
      have hc' : code.getD m.x.pc.toNat ins0 = code[k] := by
        rw [hk, Int.toNat_natCast, List.getD_eq_getElem?_getD, List.getElem?_eq_getElem hkl]; rfl
      rw [hc']
      have := h.does hS room hw hs (by omega) hk hkl (hat k hkl)
      refine ⟨this.1, this.2.elim .inl fun e => .inr (.inl ⟨rfl, by omega, e⟩)⟩
  | true =>
    rw [if_neg (by decide)]
    have hv : m.v.s ≠ 0 := fun e => hst (.inr ⟨hw, e⟩)
    have hl := h.len; have hn := h.news; have ha := h.asks
    rw [hw, if_pos rfl] at hl hn
    split
    · refine ⟨⟨h.mark, h.pre, h.st, h.sl, h.len, h.news, h.nt, h.nl, h.w, h.regs, h.args, h.i, h.s0, h.s1, ?_, ?_, ?_, h.vb, h.asks⟩, .inl (by show (2 : Int) ≠ 0; decide)⟩
      · intro e; exact absurd e (by show (2 : Int) ≠ 0; decide)
      · intro e; exact absurd (h.rc0 hs) e
      · intro e; exact absurd e (by show (2 : Int) ≠ 0; decide)
    split
    · refine ⟨h.fail hS (by decide) ?_ ?_, .inl (by show (1 : Int) ≠ 0; decide)⟩
      · omega
      · have := h.pre.length_le
        rw [hw, if_pos rfl]; omega
    · have hmid : Xmid c code P0 nt0 nl0 n { m with x := { m.x with waits := false } } := by
        refine ⟨⟨h.mark, h.pre, h.st, h.sl, ?_, ?_, h.nt, h.nl, h.w, h.regs, h.args, h.i, h.s0, h.s1, h.pc, h.rc, h.rc0, h.vb, ?_⟩, ?_, ?_, rfl, hs⟩
        · dsimp only; rw [if_neg (by decide)]; omega
        · dsimp only; rw [if_neg (by decide)]; omega
        · have : remOf { m with x := { m.x with waits := false } } = 0 := by unfold remOf; rw [if_neg]; simp
          rw [this]; dsimp only; omega
        · exact hl
        · exact hn
      have hk := comes_goOn hS.small (room := room) (m := { m with x := { m.x with waits := false } }) (val := m.v.val)
      refine ⟨hmid.comes hS hk, ?_⟩
      rcases hk with k | ⟨m1, e, v, _, _, he⟩
      · exact .inr (.inr ⟨rfl, k.waits, k.steps⟩)
      · left; rw [he]; show (1 : Int) ≠ 0; decide
theorem run_inv' (hS : Start c P0 nt0 nl0) (room : Nat) (hr : rightB code = true) (n : Nat) : RunInv c room code (Xinv c code P0 nt0 nl0 n) where
  ok := fun m h => by
    have h1 := hS.f1; have h2 := hS.len; have h3 := hS.small.w1; have h4 := h.s1; have h5 := h.s0
    have hl : m.puts.length ≤ P0.length + 9 * m.x.steps.toNat := by have := h.len; omega
    have hn : m.news.length ≤ m.x.steps.toNat := by have := h.news; omega
    have := h.w; have := h.nt; have := h.nl
    exact ⟨⟨by rw [h.mark]; exact h.pre.length_le, by omega, by omega, by omega, by omega, by omega, by omega, by omega, by omega, h.regs, h.args, h.i⟩, by omega, fun e _ => h.pc e, h.s0, by omega⟩
  next := fun m h hst => (h.once hS room hr hst).1
  less := fun m h hst => by
    have hs : m.x.s = 0 := Decidable.by_contra fun e => hst (.inl e)
    obtain ⟨_, ho⟩ := h.once hS room hr hst
    have h0 := h.s0
    unfold Xm.meas
    rw [if_neg (show ¬ m.x.s ≠ 0 by omega)]
    split
    · omega
    · rename_i hns
      rcases ho with e | ⟨hw, hf, e⟩ | ⟨hw, hw', e⟩
      · exact absurd e hns
      · rw [e, hw]
        split <;> simp <;> omega
      · rw [e, hw, hw']; simp
theorem Xinv.init (hr : rightB code = true) (hS : Start c P0 nt0 nl0) (hf : 0 ≤ c.fuel) (v : Vw) (p : Po) (hnt : p.nt = nt0) (hnl : p.nl = nl0) (args : List Nat) (ha : args.length = 4) (hvb : 0 ≤ v.block ∧ v.block ≤ 1000) : Xinv c code P0 nt0 nl0 0 (Xm.init v p P0 args) := by
  obtain ⟨hpos, _, _⟩ := right_at hr
  have hw := hS.small.w0
  refine ⟨rfl, List.prefix_refl _, hnt, hnl, ?_, ?_, ?_, ?_, ⟨Int.le_refl _, hw⟩, rfl, ha, (⟨by decide, by decide, by decide, by decide, by decide, by decide⟩ : InsOk ins0), Int.le_refl _, hf, fun _ => ⟨0, rfl, hpos⟩, fun e => absurd rfl e, fun _ => rfl, hvb, ?_⟩
  · exact Nat.le_refl _
  · exact Nat.le_refl _
  · show 0 ≤ p.nt ∧ p.nt ≤ 1000; rw [hnt]; exact hS.nt
  · show 0 ≤ p.nl ∧ p.nl ≤ 1000; rw [hnl]; exact hS.nl
  · exact Nat.le_refl _
theorem Vw.loaded_block (v : Vw) (cl : Cell) : (v.loaded cl).block = v.block := by
  unfold Vw.loaded
  split
  · rfl
  split
  · rfl
  split
  · rfl
  · rw [Vw.lives_block]
theorem Vw.tell_block (v : Vw) (o : Out) : (v.tell o).block = v.block := by
  unfold Vw.tell
  split
  · rfl
  split
  · exact Vw.loaded_block ..
  · rfl
theorem Vw.loaded_s (v : Vw) (cl : Cell) : (v.loaded cl).s ≠ 0 ∨ (v.step ≠ 3 ∧ (v.loaded cl).step = 3) := by
  unfold Vw.loaded
  split
  · exact .inl (by show (2 : Int) ≠ 0; decide)
  split
  · exact .inl (by show (1 : Int) ≠ 0; decide)
  split
  · exact .inl (by show (3 : Int) ≠ 0; decide)
  · unfold Vw.lives
    split
    · exact .inl (by show (1 : Int) ≠ 0; decide)
    · exact .inr ⟨by assumption, rfl⟩
theorem remOf_tell {m : Xm} (hw : m.x.waits = true) (hv : m.v.s = 0) (ho : (m.v.ask c).2 = true) (o : Out) : remOf { m with v := m.v.tell o } + 1 ≤ remOf m := by
  have hstep : m.v.step = 1 ∨ m.v.step = 2 ∨ m.v.step = 3 := by
    refine Decidable.by_contra fun e => ?_
    unfold Vw.ask at ho
    rw [if_neg (by omega), if_neg (by omega), if_neg (by omega)] at ho
    cases ho
  have e0 : remOf m = if m.v.step = 1 then 3 else if m.v.step = 2 then 2 else 1 := by unfold remOf; rw [if_pos ⟨hw, hv⟩]
  have hm : ∀ m' : Xm, remOf m' = 0 ∨ (m'.v.s = 0 ∧ remOf m' = if m'.v.step = 1 then 3 else if m'.v.step = 2 then 2 else 1) := fun m' => by
    unfold remOf; by_cases h : m'.x.waits = true ∧ m'.v.s = 0
    · rw [if_pos h]; exact .inr ⟨h.2, rfl⟩
    · rw [if_neg h]; exact .inl rfl
  have hpos : 1 ≤ remOf m := by rw [e0]; repeat' split
                                all_goals omega
  rcases hm { m with v := m.v.tell o } with e | ⟨hs, e⟩
  · omega
  · rw [e, e0]
    dsimp only at hs ⊢
    rcases hstep with h | h | h
    · have : (m.v.tell o).step = 2 := by unfold Vw.tell; rw [if_pos h]
      rw [this, h]; decide
    · have ht : m.v.tell o = m.v.loaded o.was := by unfold Vw.tell; rw [if_neg (by omega), if_pos (.inl h)]
      rw [ht] at hs ⊢
      rcases Vw.loaded_s m.v o.was with hl | ⟨_, hl⟩
      · exact absurd hs hl
      · rw [hl, h]; decide
    · have ht : m.v.tell o = m.v.loaded o.was := by unfold Vw.tell; rw [if_neg (by omega), if_pos (.inr h)]
      rw [ht] at hs ⊢
      rcases Vw.loaded_s m.v o.was with hl | ⟨hl, _⟩
      · exact absurd hs hl
      · exact absurd h hl
theorem Xinv.tell (h : Xinv c code P0 nt0 nl0 n m) (hst : m.stops) (hs : m.x.s = 0) (ho : (m.v.ask c).2 = true) (o : Out) : Xinv c code P0 nt0 nl0 (n + 1) { m with v := m.v.tell o } := by
  obtain ⟨hw, hv⟩ : m.x.waits = true ∧ m.v.s = 0 := hst.elim (fun e => absurd hs e) id
  refine ⟨h.mark, h.pre, h.st, h.sl, h.len, h.news, h.nt, h.nl, h.w, h.regs, h.args, h.i, h.s0, h.s1, h.pc, h.rc, h.rc0, ?_, ?_⟩
  · show 0 ≤ (m.v.tell o).block ∧ (m.v.tell o).block ≤ 1000
    rw [Vw.tell_block]; exact h.vb
  · have := remOf_tell hw hv ho o
    have := h.asks
    show n + 1 + remOf { m with v := m.v.tell o } ≤ 3 * m.x.steps.toNat
    omega
end
end Go.Proofs.YtipnljhelbjmaaaGreat
