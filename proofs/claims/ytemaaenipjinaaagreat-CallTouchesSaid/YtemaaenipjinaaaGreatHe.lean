/-
  Package help: a transaction that is begun is done; package scribe: a log is written: their numbers, in plain terms.
-/
import Derived.Test.YtemaaenipjinaaaGreatBk
namespace Go.Proofs.YtemaaenipjinaaaGreat
set_option maxRecDepth 100000
theorem OpOk.ofW {P : Program} {n' : Fi} {op : Op} {ty : TypeId} {E : Env} {L : List HProp} {v : Value} (h : OpV P n' op ty E L v) : OpOk P n' op ty E L (fun v' L' => v' = v ∧ L' = L) := by
  unfold OpV at h
  unfold OpOk
  exact fun d ps af g a w ha X hs => ⟨v, w, L, .inl (h d ps af g a w ha hs.head_of), ⟨rfl, rfl⟩, hs, Old.refl w⟩
theorem beq_dec {a b : Int} : (a == b) = decide (a = b) := by rw [Bool.eq_iff_iff]; simp
/-- a Help's own numbers -/
structure Hm where
  who : Int
  owner : Int
  seq : Nat
  list : List (Int × Nat)
  n : Int
  k : Int
  held : Int
  cell : Cell
  next : Int
/-- the first entry of a cell that transactions write -/
def Hm.entryL (c : Cfg) (h : Hm) : List (Int × Nat) → Nat → Hm
  | [], _ => { h with next := 7 }
  | e :: r, k => if (c.what e.1).1 < 7 then Hm.entryL c h r (k + 1) else { h with k := (k : Int), next := if (c.what e.1).1 = 16 ∧ (c.what e.1).2.1 ≠ h.held then 3 else 5 }
def Hm.entry (c : Cfg) (h : Hm) (k : Nat) : Hm := h.entryL c (h.list.drop k) k
def Hm.read (h : Hm) : Hm := if (h.list.length : Int) = h.n then { h with next := 2 } else { h with next := 1 }
def Hm.unless (h : Hm) (is : Bool) : Hm := if is then h else { h with next := 8 }
def placeOf (seq : Nat) : Int := if 65536 ≤ seq then -1 else seq
def Hm.at_ (h : Hm) : Int × Nat := h.list.getD h.k.toNat (0, 0)
def Hm.tell (c : Cfg) (h : Hm) (o : Out) : Hm :=
  if h.next = 0 then Hm.read { h with n := if c.cap < (o.was.val : Int) then c.cap else (o.was.val : Int) } else
  if h.next = 1 then Hm.read { h with list := h.list ++ [(placeOf o.was.seq, o.was.val)] } else
  if h.next = 2 then (h.entry c 0).unless (decide (o.was = ⟨1, h.seq⟩)) else
  if h.next = 3 then { h with held := -1, next := 4 } else
  if h.next = 4 then Hm.unless { h with held := (c.what h.at_.1).2.1, next := 5 } (decide (o.was = ⟨1, h.seq⟩)) else
  if h.next = 5 then (if h.seq ≤ o.was.seq then Hm.entry c { h with cell := o.was, next := 6 } (h.k + 1).toNat else { h with cell := o.was, next := 6 }) else
  if h.next = 6 then h.entry c (h.k + 1).toNat else
  if h.next = 7 then { h with next := 8 } else h
def Hm.ask (c : Cfg) (h : Hm) : MOp × Bool :=
  if h.next = 0 then (mop 0 (c.at 5 h.owner 0) 0, true) else
  if h.next = 1 then (mop 0 (c.at 6 h.owner h.list.length) 0, true) else
  if h.next = 2 ∨ h.next = 4 then (mop 0 (c.at 4 h.owner 0) 0, true) else
  if h.next = 3 then (mop 1 (c.at 3 h.who 0) ((c.what h.at_.1).2.1 + 1).toNat, true) else
  if h.next = 5 then (mop 0 h.at_.1 0, true) else
  if h.next = 6 then (⟨2, h.at_.1, h.cell, ⟨h.at_.2, h.seq⟩⟩, true) else
  if h.next = 7 then (⟨2, c.at 4 h.owner 0, ⟨1, h.seq⟩, ⟨0, h.seq⟩⟩, true) else (mop 0 0 0, false)
def Hm.new (who owner : Int) (seq : Nat) : Hm := ⟨who, owner, seq, [], 0, 0, -1, ⟨0, 0⟩, 0⟩
def Hm.own (c : Cfg) (who : Int) (seq : Nat) (list : List (Int × Nat)) : Hm := Hm.entry c ⟨who, who, seq, list, 0, 0, -1, ⟨0, 0⟩, 0⟩ 0
/-- what holds of a Help -/
structure Hinv (c : Cfg) (h : Hm) : Prop where
  n0 : 0 ≤ h.n
  n1 : h.n ≤ 1000000
  l : h.list.length ≤ 1000000
  ln : h.next = 1 → (h.list.length : Int) < h.n
  nx : 0 ≤ h.next ∧ h.next ≤ 8
  k : 3 ≤ h.next ∧ h.next ≤ 6 → 0 ≤ h.k ∧ h.k < h.list.length
  w : h.next = 3 ∨ h.next = 4 → (c.what h.at_.1).1 = 16
theorem entryL_inv {c : Cfg} {h : Hm} (h0 : 0 ≤ h.n) (h1 : h.n ≤ 1000000) (hl : h.list.length ≤ 1000000) : ∀ (l : List (Int × Nat)) (k : Nat), h.list.drop k = l → Hinv c (h.entryL c l k)
  | [], k, _ => ⟨h0, h1, hl, fun h => (by cases h), ⟨by show (0 : Int) ≤ 7; decide, by show (7 : Int) ≤ 8; decide⟩, fun h => (by have h : (3 : Int) ≤ 7 ∧ (7 : Int) ≤ 6 := h; omega), fun h => (by have h : (7 : Int) = 3 ∨ (7 : Int) = 4 := h; omega)⟩
  | e :: r, k, hd => by
    have hk : k < h.list.length := by
      rcases Nat.lt_or_ge k h.list.length with hk | hk
      · exact hk
      · rw [List.drop_eq_nil_of_le hk] at hd; cases hd
    rw [List.drop_eq_getElem_cons hk] at hd
    injection hd with he hr
    unfold Hm.entryL
    split
    · exact entryL_inv h0 h1 hl r (k + 1) hr
    · have hx : ∀ x : Int, x = (if (c.what e.1).1 = 16 ∧ (c.what e.1).2.1 ≠ h.held then 3 else 5) → x = 3 ∧ (c.what e.1).1 = 16 ∨ x = 5 := by
        intro x e1
        split at e1
        · exact .inl ⟨e1, (by next h => exact h.1)⟩
        · exact .inr e1
      generalize (if (c.what e.1).1 = 16 ∧ (c.what e.1).2.1 ≠ h.held then (3 : Int) else 5) = x at hx
      have hx := hx x rfl
      refine ⟨h0, h1, hl, fun h => ?_, ⟨?_, ?_⟩, fun _ => ⟨?_, ?_⟩, fun hw => ?_⟩
      · have h : x = 1 := h
        omega
      · show 0 ≤ x; omega
      · show x ≤ 8; omega
      · show (0 : Int) ≤ (k : Int); omega
      · show (k : Int) < (h.list.length : Int); omega
      · have hw : x = 3 ∨ x = 4 := hw
        show (c.what (h.list.getD (k : Int).toNat (0, 0)).1).1 = 16
        rw [Int.toNat_natCast, List.getD_eq_getElem?_getD, List.getElem?_eq_getElem hk, he]
        show (c.what e.1).1 = 16
        omega
theorem entry_inv {c : Cfg} {h : Hm} (h0 : 0 ≤ h.n) (h1 : h.n ≤ 1000000) (hl : h.list.length ≤ 1000000) (k : Nat) : Hinv c (h.entry c k) := entryL_inv h0 h1 hl _ k rfl
theorem Hinv.unless {c : Cfg} {h : Hm} (hi : Hinv c h) (is : Bool) : Hinv c (h.unless is) := by
  unfold Hm.unless
  split
  · exact hi
  · exact ⟨hi.n0, hi.n1, hi.l, fun h => (by cases h), ⟨by show (0 : Int) ≤ 8; decide, by show (8 : Int) ≤ 8; decide⟩, fun h => (by have h : (3 : Int) ≤ 8 ∧ (8 : Int) ≤ 6 := h; omega), fun h => (by have h : (8 : Int) = 3 ∨ (8 : Int) = 4 := h; omega)⟩
theorem read_inv {c : Cfg} {h : Hm} (h0 : 0 ≤ h.n) (h1 : h.n ≤ 1000000) (hl : (h.list.length : Int) ≤ h.n) : Hinv c h.read := by
  unfold Hm.read
  split
  · exact ⟨h0, h1, by show h.list.length ≤ _; omega, fun h => (by cases h), ⟨by show (0 : Int) ≤ 2; decide, by show (2 : Int) ≤ 8; decide⟩, fun h => (by have h : (3 : Int) ≤ 2 ∧ (2 : Int) ≤ 6 := h; omega), fun h => (by have h : (2 : Int) = 3 ∨ (2 : Int) = 4 := h; omega)⟩
  · exact ⟨h0, h1, by show h.list.length ≤ _; omega, fun _ => (by show (h.list.length : Int) < h.n; omega), ⟨by show (0 : Int) ≤ 1; decide, by show (1 : Int) ≤ 8; decide⟩, fun h => (by have h : (3 : Int) ≤ 1 ∧ (1 : Int) ≤ 6 := h; omega), fun h => (by have h : (1 : Int) = 3 ∨ (1 : Int) = 4 := h; omega)⟩
/-- a log that is read is no longer than was told -/
theorem Hinv.tell {c : Cfg} (hc0 : 0 ≤ c.cap) (hc1 : c.cap ≤ 1000000) {h : Hm} (hi : Hinv c h) (h00 : h.next = 0 → h.list = []) (o : Out) : Hinv c (h.tell c o) := by
  unfold Hm.tell
  split
  · next e =>
    refine read_inv ?_ ?_ ?_
    · show (0 : Int) ≤ if _ then _ else _; split <;> omega
    · show (if _ then _ else _ : Int) ≤ 1000000; split <;> omega
    · show ((h.list.length : Nat) : Int) ≤ if _ then _ else _; rw [h00 e]; show (0 : Int) ≤ _; split <;> omega
  split
  · next e =>
    have := hi.ln e
    refine read_inv hi.n0 hi.n1 ?_
    show ((List.length (_ ++ [_]) : Nat) : Int) ≤ h.n
    rw [List.length_append, List.length_singleton]; omega
  split
  · exact (entry_inv hi.n0 hi.n1 hi.l 0).unless _
  split
  · next e =>
    have hk := hi.k (by omega)
    have hw := hi.w (.inl e)
    exact ⟨hi.n0, hi.n1, hi.l, fun h => (by cases h), ⟨by show (0 : Int) ≤ 4; decide, by show (4 : Int) ≤ 8; decide⟩, fun _ => hk, fun _ => hw⟩
  split
  · next e =>
    have hk := hi.k (by omega)
    refine Hinv.unless (h := { h with held := (c.what h.at_.1).2.1, next := 5 }) ⟨hi.n0, hi.n1, hi.l, fun h => (by cases h), ⟨by show (0 : Int) ≤ 5; decide, by show (5 : Int) ≤ 8; decide⟩, fun _ => hk, fun h => (by have h : (5 : Int) = 3 ∨ (5 : Int) = 4 := h; omega)⟩ _
  split
  · next e =>
    have hk := hi.k (by omega)
    split
    · exact entry_inv (h := { h with cell := o.was, next := 6 }) hi.n0 hi.n1 hi.l _
    · exact ⟨hi.n0, hi.n1, hi.l, fun h => (by cases h), ⟨by show (0 : Int) ≤ 6; decide, by show (6 : Int) ≤ 8; decide⟩, fun _ => hk, fun h => (by have h : (6 : Int) = 3 ∨ (6 : Int) = 4 := h; omega)⟩
  split
  · exact entry_inv hi.n0 hi.n1 hi.l _
  split
  · exact ⟨hi.n0, hi.n1, hi.l, fun h => (by cases h), ⟨by show (0 : Int) ≤ 8; decide, by show (8 : Int) ≤ 8; decide⟩, fun h => (by have h : (3 : Int) ≤ 8 ∧ (8 : Int) ≤ 6 := h; omega), fun h => (by have h : (8 : Int) = 3 ∨ (8 : Int) = 4 := h; omega)⟩
  · exact hi
/-- a Scribe's own numbers -/
structure Sm where
  who : Int
  seq : Nat
  list : List (Int × Nat)
  done : Nat
def Sm.over (s : Sm) : Bool := decide (s.list.length + 1 < s.done)
def Sm.ask (c : Cfg) (s : Sm) : MOp × Bool :=
  if s.list.length + 1 < s.done then (mop 0 0 0, false) else
  if s.done < s.list.length then (⟨1, c.at 6 s.who s.done, ⟨0, 0⟩, ⟨(s.list.getD s.done (0, 0)).2, (IntKind.u64.wrap (s.list.getD s.done (0, 0)).1).toNat⟩⟩, true) else
  if s.done = s.list.length then (⟨1, c.at 5 s.who 0, ⟨0, 0⟩, ⟨s.list.length, 0⟩⟩, true) else (⟨1, c.at 4 s.who 0, ⟨0, 0⟩, ⟨1, s.seq⟩⟩, true)
def Sm.tell (s : Sm) : Sm := if s.list.length + 1 < s.done then s else { s with done := s.done + 1 }
def Sm.new (c : Cfg) (who : Int) (seq : Nat) (list : List (Int × Nat)) : Sm := ⟨who, seq, list.take (min list.length c.cap.toNat), 0⟩
end Go.Proofs.YtemaaenipjinaaaGreat
