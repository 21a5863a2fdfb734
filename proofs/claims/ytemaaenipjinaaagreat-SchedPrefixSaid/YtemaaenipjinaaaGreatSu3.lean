/-
  Package sched: what picks behind others leave.
-/
import Derived.Test.YtemaaenipjinaaaGreatSu2
namespace Go.Proofs.YtemaaenipjinaaaGreat
set_option maxRecDepth 100000
/-- a thread at a call has a record that is not answered -/
def RI (m : Sd) : Prop := ∀ t, t < m.ths.length → (m.ths.getD t th0).at_.isSome = true → (m.ths.getD t th0).record < m.recs.length ∧ (m.recs.getD (m.ths.getD t th0).record rec0).done = false ∧ (m.recs.getD (m.ths.getD t th0).record rec0).who = (t : Int)
def sumR (l : List Rec) : Nat := (l.map (·.steps)).sum
/-- what stays -/
structure Lat (m m' : Sd) : Prop where
  len : m.recs.length ≤ m'.recs.length
  done : ∀ k, k < m.recs.length → (m.recs.getD k rec0).done = true → m'.recs.getD k rec0 = m.recs.getD k rec0
  who : ∀ k, k < m.recs.length → (m'.recs.getD k rec0).who = (m.recs.getD k rec0).who
  tag : ∀ k, k < m.recs.length → (m'.recs.getD k rec0).tag = (m.recs.getD k rec0).tag
  frm : ∀ k, k < m.recs.length → (m'.recs.getD k rec0).from_ = (m.recs.getD k rec0).from_
  steps : ∀ k, k < m.recs.length → (m.recs.getD k rec0).steps ≤ (m'.recs.getD k rec0).steps
  rows : ∃ l, m'.rows = m.rows ++ l
theorem Lat.refl (m : Sd) : Lat m m := ⟨Nat.le_refl _, fun _ _ _ => rfl, fun _ _ => rfl, fun _ _ => rfl, fun _ _ => rfl, fun _ _ => Nat.le_refl _, [], (List.append_nil _).symm⟩
theorem Lat.trans {a b c : Sd} (h : Lat a b) (h' : Lat b c) : Lat a c := by
  refine ⟨Nat.le_trans h.len h'.len, fun k hk hd => ?_, fun k hk => ?_, fun k hk => ?_, fun k hk => ?_, fun k hk => ?_, ?_⟩
  · rw [h'.done k (Nat.lt_of_lt_of_le hk h.len) (by rw [h.done k hk hd]; exact hd), h.done k hk hd]
  · rw [h'.who k (Nat.lt_of_lt_of_le hk h.len), h.who k hk]
  · rw [h'.tag k (Nat.lt_of_lt_of_le hk h.len), h.tag k hk]
  · rw [h'.frm k (Nat.lt_of_lt_of_le hk h.len), h.frm k hk]
  · exact Nat.le_trans (h.steps k hk) (h'.steps k (Nat.lt_of_lt_of_le hk h.len))
  · obtain ⟨l, e⟩ := h.rows
    obtain ⟨l', e'⟩ := h'.rows
    exact ⟨l ++ l', by rw [e', e, List.append_assoc]⟩
theorem getD_app {α : Type} (l l' : List α) (d : α) {k : Nat} (hk : k < l.length) : (l ++ l').getD k d = l.getD k d := by
  rw [List.getD_eq_getElem?_getD, List.getElem?_append_left hk, ← List.getD_eq_getElem?_getD]
theorem getD_end {α : Type} (l : List α) (x d : α) : (l ++ [x]).getD l.length d = x := by
  rw [List.getD_eq_getElem?_getD, List.getElem?_append_right (Nat.le_refl _), Nat.sub_self]; rfl
theorem sum_set {α : Type} (f : α → Nat) (x d : α) : ∀ (l : List α) (k : Nat), k < l.length → ((l.set k x).map f).sum + f (l.getD k d) = (l.map f).sum + f x
  | [], _, h => absurd h (Nat.not_lt_zero _)
  | a :: l, 0, _ => by simp only [List.set_cons_zero, List.map_cons, List.sum_cons, List.getD_cons_zero]; omega
  | a :: l, k + 1, h => by
    have ih := sum_set f x d l k (by simpa using h)
    simp only [List.set_cons_succ, List.map_cons, List.sum_cons, List.getD_cons_succ]
    omega
section
variable {c : Cfg} {progs : Progs} {m : Sd}
theorem begin_at {t : Nat} (ht : t < m.ths.length) (hc : (m.ths.getD t th0).calls ≠ []) : ((Sd.begin progs m t).ths.getD t th0).at_.isSome = true := by
  unfold Sd.begin
  split
  · rename_i e; exact absurd e hc
  · dsimp only; rw [gset, if_pos ⟨rfl, ht⟩]; rfl
theorem begin_len (t : Nat) : (Sd.begin progs m t).ths.length = m.ths.length := by
  unfold Sd.begin
  split
  · rfl
  · dsimp only; rw [List.length_set]
theorem begin_picks (t : Nat) : (Sd.begin progs m t).picks = m.picks := by unfold Sd.begin; split <;> rfl
theorem begin_sum (t : Nat) : sumR (Sd.begin progs m t).recs = sumR m.recs := by
  unfold Sd.begin
  split
  · rfl
  · unfold sumR
    dsimp only
    rw [List.map_append, List.sum_append]; rfl
theorem Lat.begin (t : Nat) : Lat m (Sd.begin progs m t) := by
  unfold Sd.begin
  split
  · exact Lat.refl m
  · refine ⟨by dsimp only; rw [List.length_append]; omega, fun k hk _ => ?_, fun k hk => ?_, fun k hk => ?_, fun k hk => ?_, fun k hk => ?_, [], (List.append_nil _).symm⟩
    all_goals (dsimp only; rw [getD_app _ _ _ hk])
    exact Nat.le_refl _
theorem RI.begin (h : RI m) {t : Nat} (_hn : (m.ths.getD t th0).at_.isNone = true) : RI (Sd.begin progs m t) := by
  unfold Sd.begin
  split
  · exact h
  · intro s hs he
    dsimp only at hs he ⊢
    rw [List.length_set] at hs
    rw [gset] at he ⊢
    split
    · rename_i e
      obtain ⟨rfl, _⟩ := e
      dsimp only
      rw [getD_end, List.length_append]
      exact ⟨by simp, rfl, rfl⟩
    · rename_i e
      rw [if_neg e] at he
      obtain ⟨h1, h2, h3⟩ := h s hs he
      rw [getD_app _ _ _ h1, List.length_append]
      exact ⟨by omega, h2, h3⟩
theorem Lat.told {t : Nat} (h : RI m) (ht : t < m.ths.length) (hat : (m.ths.getD t th0).at_.isSome = true) (p : Cp) (cm : Cm) : Lat m (m.told t (m.ths.getD t th0) p cm) := by
  obtain ⟨h1, h2, _⟩ := h t ht hat
  unfold Sd.told
  refine ⟨by dsimp only; rw [List.length_set]; exact Nat.le_refl _, fun k hk hd => ?_, fun k hk => ?_, fun k hk => ?_, fun k hk => ?_, fun k hk => ?_, _, List.append_assoc _ _ _⟩
  · dsimp only
    rw [gset]
    split
    · rename_i e
      rw [← e.1, h2] at hd; cases hd
    · rfl
  all_goals
    dsimp only
    rw [gset]
    split
    · rename_i e
      rw [← e.1]
      split <;> first | rfl | (dsimp only; omega)
    · first | rfl | exact Nat.le_refl _
theorem told_sum {t : Nat} (h : RI m) (ht : t < m.ths.length) (hat : (m.ths.getD t th0).at_.isSome = true) (p : Cp) (cm : Cm) : sumR (m.told t (m.ths.getD t th0) p cm).recs = sumR m.recs + 1 := by
  obtain ⟨h1, _, _⟩ := h t ht hat
  unfold Sd.told sumR
  dsimp only
  have hs := fun x => sum_set (fun r : Rec => r.steps) x rec0 m.recs (m.ths.getD t th0).record h1
  split
  · have := hs { m.recs.getD (m.ths.getD t th0).record rec0 with steps := (m.recs.getD (m.ths.getD t th0).record rec0).steps + 1, to_ := m.picks, done := true, rc := cm.s.rc, rv := cm.s.rv }
    dsimp only at this
    omega
  · have := hs { m.recs.getD (m.ths.getD t th0).record rec0 with steps := (m.recs.getD (m.ths.getD t th0).record rec0).steps + 1 }
    dsimp only at this
    omega
theorem RI.told {t : Nat} (h : RI m) (ht : t < m.ths.length) (hat : (m.ths.getD t th0).at_.isSome = true) (p : Cp) (cm : Cm) : RI (m.told t (m.ths.getD t th0) p cm) := by
  obtain ⟨h1, h2, h3⟩ := h t ht hat
  unfold Sd.told
  intro s hs he
  dsimp only at hs he ⊢
  rw [List.length_set] at hs
  rw [gset] at he ⊢
  rw [List.length_set]
  split
  · rename_i e
    obtain ⟨rfl, _⟩ := e
    rw [if_pos ⟨rfl, ht⟩] at he
    dsimp only at he ⊢
    rw [gset, if_pos ⟨rfl, h1⟩]
    by_cases h13 : cm.s.next = 13
    · rw [if_pos h13] at he; cases he
    · rw [if_neg h13]
      exact ⟨h1, h2, h3⟩
  · rename_i e
    rw [if_neg e] at he
    obtain ⟨g1, g2, g3⟩ := h s hs he
    have hne : ¬ ((m.ths.getD t th0).record = (m.ths.getD s th0).record ∧ (m.ths.getD s th0).record < m.recs.length) := fun hh => by
      rw [← hh.1, h3] at g3
      exact e ⟨by omega, by have : t = s := by omega
                            omega⟩
    rw [gset, if_neg hne]
    exact ⟨g1, g2, g3⟩
end
/-- all of it -/
structure PI (m : Sd) : Prop where
  ri : RI m
  sum : sumR m.recs = m.picks
  ki : ∃ sw, KI m m.picks sw
theorem PI.new (c : Cfg) (calls : List (List Jb)) : PI (Sd.new c calls) := by
  have hat : ∀ t, ((Sd.new c calls).ths.getD t th0).at_ = none ∧ ((Sd.new c calls).ths.getD t th0).looked = 0 := fun t => by
    show ((calls.map fun l => (⟨l, none, 0, 0, 0⟩ : Th)).getD t th0).at_ = none ∧ ((calls.map fun l => (⟨l, none, 0, 0, 0⟩ : Th)).getD t th0).looked = 0
    rw [List.getD_eq_getElem?_getD, List.getElem?_map]
    cases calls[t]? with
    | none => exact ⟨rfl, rfl⟩
    | some l => exact ⟨rfl, rfl⟩
  refine ⟨fun t _ h => ?_, rfl, fun _ => False, fun _ h => h.elim, fun _ _ h => h, fun t _ => ?_, fun r hr => (by cases hr), List.nodup_nil, fun t _ p cm h => ?_⟩
  · rw [(hat t).1] at h; cases h
  · rw [(hat t).2]; exact Nat.zero_le _
  · rw [(hat t).1] at h; cases h
section
variable {c : Cfg} {progs : Progs} {m : Sd}
theorem pi_step {B : Nat} {sw : Nat → Prop} {t : Nat} (hr : RI m) (hk : KI m B sw) (hs : sumR m.recs = B) (hP : m.picks = B + 1) (ht : t < m.ths.length) (hat : (m.ths.getD t th0).at_.isSome = true) : PI (Sd.step c progs m t) ∧ Lat m (Sd.step c progs m t) := by
  unfold Sd.step
  split
  · rename_i e; rw [e] at hat; cases hat
  · rename_i p cm e
    have hcw := (hk.cw t ht p cm e).tell (c := c) (p := p) (progs := progs) (m.mem.do (t : Int) (cm.ask c p).1).2
    have hr' : RI { m with mem := (m.mem.do (t : Int) (cm.ask c p).1).1 } := hr
    have hk' : KI { m with mem := (m.mem.do (t : Int) (cm.ask c p).1).1 } B sw := ⟨hk.le, hk.look, hk.lk, hk.row, hk.nd, hk.cw⟩
    have h1 := hr'.told ht hat p (cm.tell c p progs (m.mem.do (t : Int) (cm.ask c p).1).2)
    have h2 := told_sum hr' ht hat p (cm.tell c p progs (m.mem.do (t : Int) (cm.ask c p).1).2)
    have h3 := hk'.told hP ht hat (p := p) hcw
    have h4 := Lat.told hr' ht hat p (cm.tell c p progs (m.mem.do (t : Int) (cm.ask c p).1).2)
    have h5 : (Sd.told { m with mem := (m.mem.do (t : Int) (cm.ask c p).1).1 } t (m.ths.getD t th0) p (cm.tell c p progs (m.mem.do (t : Int) (cm.ask c p).1).2)).picks = B + 1 := hP
    refine ⟨⟨h1, ?_, ?_⟩, ⟨h4.len, h4.done, h4.who, h4.tag, h4.frm, h4.steps, h4.rows⟩⟩
    · rw [h5]
      refine Eq.trans h2 ?_
      show sumR m.recs + 1 = B + 1
      rw [hs]
    · rw [h5]
      exact ⟨_, h3⟩
theorem PI.pick (h : PI m) (t : Int) : PI (m.pick c progs t).1 ∧ Lat m (m.pick c progs t).1 := by
  unfold Sd.pick
  split
  · exact ⟨h, Lat.refl m⟩
  · rename_i hn
    dsimp only
    obtain ⟨sw, hk⟩ := h.ki
    have hid : m.idle t = false := by
      cases e : m.idle t with
      | true => exact absurd (.inl e) hn
      | false => rfl
    unfold Sd.idle at hid
    simp only [Bool.or_eq_false_iff, decide_eq_false_iff_not] at hid
    obtain ⟨⟨h0, h1⟩, h2⟩ := hid
    have ht : t.toNat < m.ths.length := by omega
    have hr0 : RI { m with picks := m.picks + 1 } := h.ri
    have hk0 : KI { m with picks := m.picks + 1 } m.picks sw := ⟨hk.le, hk.look, hk.lk, hk.row, hk.nd, hk.cw⟩
    split
    · rename_i hnone
      have hcl : (m.ths.getD t.toNat th0).calls ≠ [] := fun e => by
        unfold Th.idle at h2
        rw [hnone, e] at h2; cases h2
      obtain ⟨g1, g2⟩ := pi_step (c := c) (progs := progs) (hr0.begin (progs := progs) hnone) (hk0.begin (progs := progs) hnone) (by rw [begin_sum]; exact h.sum) (by rw [begin_picks]) (by rw [begin_len]; exact ht) (begin_at (progs := progs) (m := { m with picks := m.picks + 1 }) ht hcl)
      refine ⟨g1, Lat.trans ?_ g2⟩
      have hb := Lat.begin (progs := progs) (m := { m with picks := m.picks + 1 }) t.toNat
      exact ⟨hb.len, hb.done, hb.who, hb.tag, hb.frm, hb.steps, hb.rows⟩
    · rename_i hsome
      have hat : (m.ths.getD t.toNat th0).at_.isSome = true := by
        cases e : (m.ths.getD t.toNat th0).at_ with
        | none => rw [e] at hsome; exact absurd rfl hsome
        | some x => rfl
      obtain ⟨g1, g2⟩ := pi_step (c := c) (progs := progs) hr0 hk0 h.sum rfl ht hat
      exact ⟨g1, ⟨g2.len, g2.done, g2.who, g2.tag, g2.frm, g2.steps, g2.rows⟩⟩
theorem PI.run (h : PI m) (ts : List Int) : PI (runP c progs m ts) ∧ Lat m (runP c progs m ts) := by
  unfold runP
  induction ts generalizing m with
  | nil => exact ⟨h, Lat.refl m⟩
  | cons t ts ih =>
    obtain ⟨h1, h2⟩ := h.pick (c := c) (progs := progs) t
    obtain ⟨h3, h4⟩ := ih h1
    exact ⟨h3, h2.trans h4⟩
theorem runP_app (a b : List Int) : runP c progs m (a ++ b) = runP c progs (runP c progs m a) b := by
  unfold runP; rw [List.foldl_append]
end
end Go.Proofs.YtemaaenipjinaaaGreat
