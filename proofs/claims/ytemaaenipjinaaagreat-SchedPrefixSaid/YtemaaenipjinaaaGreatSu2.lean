/-
  Package sched: each row's key (its pick, its thread, its tag) is its own; records that are answered stay; steps add up to picks.
-/
import Derived.Test.YtemaaenipjinaaaGreatSup
namespace Go.Proofs.YtemaaenipjinaaaGreat
set_option maxRecDepth 100000
/-! the threads in a transaction's rows -/
def WhB (b : Bm) : Prop := (b.rows.map (·.who)).Nodup ∧ ∀ r ∈ b.rows, r.who < b.b.u
section
variable {c : Cfg} {room : Nat} {progs : Progs} {b : Bm}
theorem WhB.of {b b' : Bm} (h : WhB b) (h1 : b'.rows = b.rows) (h2 : b'.b.u = b.b.u) : WhB b' := by
  unfold WhB at *
  rw [h1, h2]; exact h
theorem WhB.passL (h1 : (b.rows.map (·.who)).Nodup) (h2 : ∀ r ∈ b.rows, r.who < b.b.u + 1) : WhB (b.pass c room) := by
  unfold Bm.pass
  split <;> exact ⟨h1, h2⟩
theorem WhB.pass (h : WhB b) : WhB (b.pass c room) := WhB.passL h.1 fun r hr => by have := h.2 r hr; omega
theorem WhB.ran (h : WhB b) : WhB (b.ran c room) := by
  unfold Bm.ran
  split
  · exact h.of rfl rfl
  split
  · have hr : (b.told c room).rows = b.rows ++ [⟨b.b.u, b.b.ann.seq, b.e.x.rc, b.e.x.rv, b.e.news⟩] := rfl
    have hu : (b.told c room).b.u = b.b.u := rfl
    refine WhB.passL ?_ fun r hr' => ?_
    · rw [hr, List.map_append, List.nodup_append]
      refine ⟨h.1, by simp, fun x hx y hy => ?_⟩
      obtain ⟨r, hr, rfl⟩ := List.mem_map.1 hx
      simp only [List.map_cons, List.map_nil, List.mem_singleton] at hy
      subst hy
      have := h.2 r hr
      omega
    · rw [hr] at hr'
      rw [hu]
      rcases List.mem_append.1 hr' with hr' | hr'
      · have := h.2 r hr'; omega
      · obtain rfl := List.mem_singleton.1 hr'
        dsimp only; omega
  · exact h
theorem WhB.tell (h : WhB b) (o : Out) : WhB (b.tell c room progs o) := by
  unfold Bm.tell
  split
  · exact h
  split
  · unfold Bm.pooled
    split
    · exact h.of rfl rfl
    split
    · exact h.of rfl rfl
    · exact h.of rfl rfl
  split
  · unfold Bm.announce
    split
    · exact WhB.pass (h.of rfl rfl)
    · exact h.of rfl rfl
  split
  · unfold Bm.tag
    split
    · exact h.of rfl rfl
    split
    · exact WhB.pass (h.of rfl rfl)
    · exact h.of rfl rfl
  split
  · split
    · unfold Bm.begin
      exact WhB.ran (h.of rfl rfl)
    · exact h.of rfl rfl
  · exact WhB.ran (h.of rfl rfl)
theorem WhB.new (who : Int) (seq : Nat) : WhB (Bm.new who seq) := ⟨List.nodup_nil, fun r hr => (by cases hr)⟩
end
/-! a call's rows -/
structure CwI (m : Cm) : Prop where
  wk : ∀ b, m.work = .bd b → WhB b
  b : ∀ b, m.b = some b → (b.rows.map (·.who)).Nodup
  fd : m.s.did = true → m.s.fresh = false
section
variable {c : Cfg} {p : Cp} {progs : Progs} {m : Cm}
theorem CwI.of {m m' : Cm} (h : CwI m) (h1 : ∀ b, m'.work = .bd b → m.work = .bd b) (h2 : m'.b = m.b) (h3 : m'.s.did = m.s.did) (h4 : m'.s.fresh = m.s.fresh) : CwI m' :=
  ⟨fun b hb => h.wk b (h1 b hb), fun b hb => h.b b (by rw [← h2]; exact hb), fun hd => by rw [h4]; exact h.fd (by rw [← h3]; exact hd)⟩
theorem read_fd (s : Cs) (e : Xs) : (s.read e).did = s.did ∧ (s.read e).fresh = s.fresh := by
  unfold Cs.read
  split
  · exact ⟨rfl, rfl⟩
  split
  · unfold Cs.stale
    split <;> exact ⟨rfl, rfl⟩
  · exact ⟨rfl, rfl⟩
theorem looks_fd (s : Cs) (r : Bool) : (s.looks r).did = s.did ∧ (s.looks r).fresh = s.fresh := by
  unfold Cs.looks
  split <;> exact ⟨rfl, rfl⟩
theorem CwI.run (h : CwI m) : CwI (m.run c p progs) :=
  h.of (fun b hb => (by cases hb)) rfl (read_fd _ _).1 (read_fd _ _).2
theorem CwI.try_ (h : CwI m) : CwI (m.try_ c p progs) := by
  unfold Cm.try_
  split
  · exact h.of (fun b hb => hb) rfl rfl rfl
  · exact h.run
theorem CwI.opened (h : CwI m) (x : Cell) : CwI (m.opened c p progs x) := by
  unfold Cm.opened
  split
  · exact h.of (fun b hb => (by cases hb)) rfl rfl rfl
  · exact h.try_
theorem CwI.answer (h : CwI m) (val : Nat) : CwI (m.answer c p progs val) := by
  unfold Cm.answer
  split
  · exact h.of (fun b hb => hb) rfl rfl rfl
  split
  · exact h.of (fun b hb => hb) rfl rfl rfl
  split
  · exact h.of (fun b hb => hb) rfl rfl rfl
  split
  · split
    · exact h.run
    · exact h.of (fun b hb => hb) rfl rfl rfl
  · refine ⟨fun b hb => ?_, h.b, h.fd⟩
    dsimp only at hb
    injection hb with hb
    subst hb
    exact WhB.new _ _
theorem CwI.row {b : Bm} (hb : (b.rows.map (·.who)).Nodup) (h : CwI m) (r : BRow) : CwI (Cm.row c p b m r) := by
  unfold Cm.row
  split
  · refine ⟨fun x hx => (by cases hx), fun x hx => ?_, h.fd⟩
    dsimp only at hx
    injection hx with hx
    subst hx
    exact hb
  · exact h
theorem CwI.foldr {b : Bm} (hb : (b.rows.map (·.who)).Nodup) : ∀ (l : List BRow) {m : Cm}, CwI m → CwI (l.foldl (Cm.row c p b) m)
  | [], _, h => h
  | r :: l, _, h => CwI.foldr hb l (h.row hb r)
theorem CwI.built (h : CwI m) {b : Bm} (hb : (b.rows.map (·.who)).Nodup) : CwI (Cm.built c p m b) := by
  unfold Cm.built
  split
  · exact h
  split
  · exact h.of (fun b hb => hb) rfl rfl rfl
  · exact CwI.foldr hb b.rows (h.of (fun b hb => hb) rfl rfl rfl)
theorem CwI.helped (h : CwI m) (x : Hm) : CwI (Cm.helped c p progs m x) := by
  unfold Cm.helped
  split
  · exact h
  split
  · exact h.of (fun b hb => hb) rfl rfl rfl
  · exact h.try_
theorem CwI.swapped (h : CwI m) (hf : m.s.fresh = false) (ok : Bool) : CwI (m.swapped c p ok) := by
  unfold Cm.swapped
  split
  · split
    · exact ⟨fun b hb => (by cases hb), h.b, fun _ => hf⟩
    · exact h.of (fun b hb => hb) rfl rfl rfl
  · exact h.of (fun b hb => hb) rfl rfl rfl
theorem CwI.after (h : CwI m) : CwI (m.after c p progs) := by
  unfold Cm.after
  split
  · exact h
  · exact h.of (fun b hb => hb) rfl (read_fd _ _).1 (read_fd _ _).2
  · rename_i b hb
    exact h.built (h.wk b hb).1
  · exact h.helped _
  · split
    · exact h.of (fun b hb => hb) rfl rfl rfl
    · exact h
theorem CwI.worked (h : CwI m) (o : Out) : CwI (m.worked c p progs o) := by
  unfold Cm.worked
  refine CwI.after ⟨fun b hb => ?_, h.b, h.fd⟩
  dsimp only at hb
  unfold Wk.tell at hb
  split at hb
  · cases hb
  · cases hb
  · rename_i b' hb'
    injection hb with hb
    subst hb
    exact (h.wk b' hb').tell o
  · cases hb
  · cases hb
theorem CwI.go (h : CwI m) (hf : m.s.next = 11 → m.s.fresh = false) (o : Out) : CwI (m.go c p progs o) := by
  unfold Cm.go
  split
  · split <;> exact h.of (fun b hb => hb) rfl rfl rfl
  split
  · exact h.of (fun b hb => hb) rfl rfl rfl
  split
  · exact h.of (fun b hb => hb) rfl (looks_fd _ _).1 (looks_fd _ _).2
  split
  · exact h.opened _
  split
  · exact h.answer _
  split
  · rename_i h11
    exact h.swapped (hf h11) _
  · exact h.worked o
theorem CwI.tell (h : CwI m) (o : Out) : CwI (m.tell c p progs o) := by
  unfold Cm.tell
  split
  · exact h
  · refine CwI.go (m := { m with s := m.s.touch }) ⟨h.wk, h.b, fun hd => absurd (show false = true from hd) (by decide)⟩ (fun h11 => ?_) o
    have h11 : m.s.next = 11 := h11
    show (m.s.next == 2) = false
    rw [h11]; rfl
theorem CwI.new : CwI (Cm.new p progs) := ⟨fun b hb => (by cases hb), fun b hb => (by cases hb), fun hd => (by cases hd)⟩
theorem CwI.rows (h : CwI m) : (m.rows.map (·.who)).Nodup := by
  unfold Cm.rows
  split
  · split
    · rename_i b hb
      exact h.b b hb
    · exact List.nodup_nil
  · exact List.nodup_nil
theorem crows_did {m : Cm} (h : m.s.did ≠ true) : m.rows = [] := by unfold Cm.rows; rw [if_neg h]
end
/-! the rows' keys -/
def keyR (r : SRow) : Int × Int × Int := (r.at_, r.who, r.tag)
structure KI (m : Sd) (B : Nat) (sw : Nat → Prop) : Prop where
  le : ∀ q, sw q → q ≤ B
  look : ∀ t, t < m.ths.length → ¬ sw (m.ths.getD t th0).looked
  lk : ∀ t, t < m.ths.length → (m.ths.getD t th0).looked ≤ B
  row : ∀ r ∈ m.rows, ∃ q : Nat, r.at_ = (q : Int) ∧ q ≤ B ∧ (sw q ∨ ∃ t k : Nat, r.who = (t : Int) ∧ r.tag = (k : Int) ∧ t < m.ths.length ∧ k ≤ (m.ths.getD t th0).count ∧ ((m.ths.getD t th0).at_.isSome = true → k < (m.ths.getD t th0).count))
  nd : (m.rows.map keyR).Nodup
  cw : ∀ t, t < m.ths.length → ∀ p cm, (m.ths.getD t th0).at_ = some (p, cm) → CwI cm
section
variable {c : Cfg} {progs : Progs} {m : Sd} {B : Nat} {sw : Nat → Prop}
theorem KI.begin (h : KI m B sw) {t : Nat} (_hn : (m.ths.getD t th0).at_.isNone = true) : KI (Sd.begin progs m t) B sw := by
  unfold Sd.begin
  split
  · exact h
  · rename_i j js hj
    refine ⟨h.le, fun s hs => ?_, fun s hs => ?_, fun r hr => ?_, h.nd, fun s hs p cm he => ?_⟩
    · dsimp only at hs ⊢
      rw [List.length_set] at hs
      rw [gset]
      split
      · rename_i e
        obtain ⟨rfl, _⟩ := e
        exact h.look t hs
      · exact h.look s hs
    · dsimp only at hs ⊢
      rw [List.length_set] at hs
      rw [gset]
      split
      · rename_i e
        obtain ⟨rfl, _⟩ := e
        exact h.lk t hs
      · exact h.lk s hs
    · obtain ⟨q, h1, h2, h3⟩ := h.row r hr
      refine ⟨q, h1, h2, ?_⟩
      rcases h3 with h3 | ⟨s, k, h3, h4, h5, h6, h7⟩
      · exact .inl h3
      · refine .inr ⟨s, k, h3, h4, by dsimp only; rw [List.length_set]; exact h5, ?_, ?_⟩
        · dsimp only
          rw [gset]
          split
          · rename_i e
            obtain ⟨rfl, _⟩ := e
            dsimp only; omega
          · exact h6
        · dsimp only
          rw [gset]
          split
          · rename_i e
            obtain ⟨rfl, _⟩ := e
            intro _; dsimp only; omega
          · exact h7
    · dsimp only at hs he
      rw [List.length_set] at hs
      rw [gset] at he
      split at he
      · dsimp only at he
        injection he with he
        injection he with _ he
        subst he
        exact CwI.new
      · exact h.cw s hs p cm he
theorem KI.told (h : KI m B sw) (hP : m.picks = B + 1) {t : Nat} (ht : t < m.ths.length) (hat : (m.ths.getD t th0).at_.isSome = true) {p : Cp} {cm : Cm} (hw : CwI cm) : KI (m.told t (m.ths.getD t th0) p cm) (B + 1) (fun q => sw q ∨ (q = B + 1 ∧ cm.s.did = true)) := by
  have hlk := h.lk t ht
  have hcr : ∀ r ∈ cm.rows.map (rowOf m.picks), cm.s.did = true ∧ r.at_ = ((B + 1 : Nat) : Int) := fun r hr => by
    obtain ⟨x, hx, rfl⟩ := List.mem_map.1 hr
    refine ⟨?_, by show (m.picks : Int) = _; rw [hP]⟩
    cases hd : cm.s.did with
    | true => rfl
    | false => rw [crows_did (by rw [hd]; decide)] at hx; cases hx
  unfold Sd.told
  refine ⟨fun q hq => ?_, fun s hs => ?_, fun s hs => ?_, fun r hr => ?_, ?_, fun s hs p' cm' he => ?_⟩
  · rcases hq with hq | ⟨rfl, _⟩
    · have := h.le q hq; omega
    · exact Nat.le_refl _
  · dsimp only at hs ⊢
    rw [List.length_set] at hs
    rw [gset]
    split
    · dsimp only
      rw [hP]
      split
      · rename_i hf
        rintro (hq | ⟨_, hd⟩)
        · have := h.le _ hq; omega
        · rw [hw.fd hd] at hf; cases hf
      · rintro (hq | ⟨e, _⟩)
        · exact h.look t ht hq
        · omega
    · rintro (hq | ⟨e, _⟩)
      · exact h.look s hs hq
      · have := h.lk s hs; omega
  · dsimp only at hs ⊢
    rw [List.length_set] at hs
    rw [gset]
    split
    · dsimp only
      rw [hP]
      split <;> omega
    · have := h.lk s hs; omega
  · dsimp only at hr
    rcases List.mem_append.1 hr with hr | hr
    · rcases List.mem_append.1 hr with hr | hr
      · obtain ⟨q, h1, h2, h3⟩ := h.row r hr
        refine ⟨q, h1, by omega, ?_⟩
        rcases h3 with h3 | ⟨s, k, h3, h4, h5, h6, h7⟩
        · exact .inl (.inl h3)
        · refine .inr ⟨s, k, h3, h4, by dsimp only; rw [List.length_set]; exact h5, ?_, ?_⟩
          · dsimp only
            rw [gset]
            split
            · rename_i e
              obtain ⟨rfl, _⟩ := e
              exact h6
            · exact h6
          · dsimp only
            rw [gset]
            split
            · rename_i e
              obtain ⟨rfl, _⟩ := e
              exact fun _ => h7 hat
            · exact h7
      · obtain ⟨hd, e⟩ := hcr r hr
        exact ⟨B + 1, e, Nat.le_refl _, .inl (.inr ⟨rfl, hd⟩)⟩
    · split at hr
      · rename_i h13
        obtain rfl := List.mem_singleton.1 hr
        refine ⟨_, rfl, by rw [hP]; split <;> omega, .inr ⟨t, (m.ths.getD t th0).count, rfl, rfl, by dsimp only; rw [List.length_set]; exact ht, ?_, ?_⟩⟩
        · dsimp only; rw [gset, if_pos ⟨rfl, ht⟩]; exact Nat.le_refl _
        · dsimp only; rw [gset, if_pos ⟨rfl, ht⟩]; dsimp only
          rw [if_pos h13.1]
          intro hh; cases hh
      · cases hr
  · dsimp only
    rw [List.map_append, List.map_append, List.nodup_append, List.nodup_append]
    refine ⟨⟨h.nd, ?_, fun x hx y hy => ?_⟩, ?_, fun x hx y hy => ?_⟩
    · have hnd := hw.rows
      rw [List.map_map]
      refine List.Pairwise.of_map (S := (· ≠ ·)) (fun k : Int × Int × Int => k.2.1) (fun a b hab e => hab (by rw [e])) ?_
      rw [List.map_map]
      exact hnd
    · obtain ⟨r, hr, rfl⟩ := List.mem_map.1 hx
      obtain ⟨r', hr', rfl⟩ := List.mem_map.1 hy
      obtain ⟨q, h1, h2, _⟩ := h.row r hr
      obtain ⟨_, e⟩ := hcr r' hr'
      intro ek
      have ek : r.at_ = r'.at_ := congrArg (fun k : Int × Int × Int => k.1) ek
      rw [h1, e] at ek
      omega
    · split
      · simp
      · exact List.nodup_nil
    · split at hy
      · obtain rfl : y = _ := List.mem_singleton.1 hy
        intro ek
        subst ek
        rcases List.mem_append.1 hx with hx | hx
        · obtain ⟨r, hr, ek⟩ := List.mem_map.1 hx
          have e1 : r.at_ = ((if cm.s.fresh = true then m.picks else (m.ths.getD t th0).looked : Nat) : Int) := congrArg (fun k : Int × Int × Int => k.1) ek
          have e2 : r.who = (t : Int) := congrArg (fun k : Int × Int × Int => k.2.1) ek
          have e3 : r.tag = ((m.ths.getD t th0).count : Int) := congrArg (fun k : Int × Int × Int => k.2.2) ek
          obtain ⟨q, h1, h2, h3⟩ := h.row r hr
          rw [h1, hP] at e1
          split at e1
          · omega
          · have e1 : q = (m.ths.getD t th0).looked := by omega
            subst e1
            rcases h3 with h3 | ⟨s, k, h3, h4, h5, h6, h7⟩
            · exact h.look t ht h3
            · rw [e2] at h3
              rw [e3] at h4
              have h3 : t = s := by omega
              subst h3
              have := h7 hat
              omega
        · obtain ⟨r, hr, ek⟩ := List.mem_map.1 hx
          obtain ⟨hd, e⟩ := hcr r hr
          have e1 : r.at_ = ((if cm.s.fresh = true then m.picks else (m.ths.getD t th0).looked : Nat) : Int) := congrArg (fun k : Int × Int × Int => k.1) ek
          rw [e, hw.fd hd, if_neg (by decide)] at e1
          omega
      · cases hy
  · dsimp only at hs he
    rw [List.length_set] at hs
    rw [gset] at he
    split at he
    · dsimp only at he
      split at he
      · cases he
      · injection he with he
        injection he with _ he
        subst he
        exact hw
    · exact h.cw s hs p' cm' he
end
end Go.Proofs.YtemaaenipjinaaaGreat
