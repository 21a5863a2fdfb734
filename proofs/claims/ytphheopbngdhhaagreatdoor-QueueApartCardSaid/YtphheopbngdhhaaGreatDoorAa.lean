/-
  Rules: append of made zeros, with room and without; append of an empty slice.
-/
import Derived.Lib.SliceRun
import Derived.Laws.CopyRow
import Derived.Laws.AppendOwn
import Derived.Lib.AppendZerosOnto
import Derived.Test.YtphheopbngdhhaaGreatDoorJc
namespace Go.Proofs.YtphheopbngdhhaaGreatDoor
set_option maxRecDepth 100000
section rules
variable {P : Program} {n' : Fi} {E : Env} {L : List HProp} {ty : TypeId}
theorem psat_setRow {w : World} {g e : Nat} {l l' : List Value} {X : List HProp} (hs : Sat (bl g e l :: X) (hpOf w)) : w.heap[g]? = some (.cells ⟨l⟩ e (0, 0)) ∧ Sat (bl g e l' :: X) (hpOf (w.setRow g ⟨l'⟩)) := by
  rw [sat_cons] at hs
  obtain ⟨h1, h2, hd, hor, hp, hX⟩ := hs
  have hp : ∀ x, h1 x = if x = g then some (.cells ⟨l⟩ e (0, 0)) else none := hp
  have hg : w.heap[g]? = some (.cells ⟨l⟩ e (0, 0)) := by
    have := hor g
    rw [hp g, if_pos rfl] at this
    exact this
  refine ⟨hg, ?_⟩
  rw [sat_cons]
  refine ⟨fun x => if x = g then some (.cells ⟨l'⟩ e (0, 0)) else none, h2, ?_, ?_, fun _ => rfl, hX⟩
  · intro b
    rcases hd b with h | h
    · rw [hp b] at h
      by_cases hbg : b = g
      · rw [if_pos hbg] at h; cases h
      · exact .inl (if_neg hbg)
    · exact .inr h
  · intro b
    by_cases hbg : b = g
    · subst hbg
      have := setRow_heap w b ⟨l⟩ ⟨l'⟩ _ (0, 0) hg
      show (w.setRow b ⟨l'⟩).heap[b]? = _
      rw [this]; simp
    · show (w.setRow g ⟨l'⟩).heap[b]? = _
      rw [setRow_other w g b _ hbg]
      have h3 := hor b
      rw [hp b, if_neg hbg] at h3
      exact h3.trans (congrArg (fun o : Option Obj => o.or (h2 b)) (if_neg hbg).symm)
theorem psetRow_old (w : World) (g : Nat) (cs : Array Value) : Old w (w.setRow g cs) := ⟨rfl, rfl, rfl⟩
/-- append(x[:n], make([]T, m)...) where there is no room: new memory -/
theorem OpOk.pmk {t tn e g n m cap : Nat} {kn kq : IntKind} {s x : Operand} {l : List Value} {L1 : List HProp} [hu : Und P t (.slice e)] [hun : Und P tn (.int kn)] {z : Value} {by_ : Nat} [hz : Zer P e z] [hs : Siz P e 1] [hb : Byt P e by_]
    (hv : ev E s = some (.slice (some ⟨g, 0, none⟩) n cap)) (hx : ev E x = some (.int kq (m : Int))) (ht : Take (bl g e l) L L1) (hzc : z.cells = #[z]) (h0 : 0 < m) (hroom : cap < n + m) (hfit : n ≤ l.length) (h63 : n + m ≤ 1000000) (hby : by_ ≤ 1000) :
    OpOk P n' (.call { callee := .builtin .append, args := ⟨[s, x]⟩, argTypes := ⟨[t, tn]⟩ }) ty E L (fun v' L' => ∃ g' cap' rest, v' = .slice (some ⟨g', 0, none⟩) (n + m) cap' ∧ RowF (n + m) cap' 1 (l.take n ++ List.replicate m z) rest ∧ L' = bl g' e (l.take n ++ List.replicate m z ++ rest) :: L) := by
  unfold OpOk
  intro d ps af gd a w ha X hsat
  obtain ⟨i, hi, hiz, his, hib⟩ := info_of (P := P) (e := e) (sz := 1) (by_ := by_) (z := z)
  have hs1 := (ht.app X).sat hsat
  have hg := (psat_setRow (l' := l) hs1).1
  have hzr : ∀ k, (Builtin.zeroCells z.cells k).toList = List.replicate k z := fun k => by
    rw [hzc]
    simp [Builtin.zeroCells]
    apply List.ext_getElem
    · simp
    · intro i h1 h2
      simp [Nat.mod_one]
  have hcells : ∀ (w' : World), w'.heap = w.heap → (Builtin.firstCells i.size n (.slice (some ⟨g, 0, none⟩) n cap)).run P w' = .ok (l.take n).toArray w' := fun w' hw => by
    have := run_firstCells_some (P := P) w' i.size n ⟨g, 0, none⟩ n cap (l.take n) (by rw [his, List.length_take]; omega) (fun j u hj => by
      simp only [addr_add, World.cell?, hw, hg]
      rw [List.getElem?_take] at hj
      split at hj
      · simpa using hj
      · cases hj)
    exact this
  have hrun := Lib.run_append_grow_zeros (P := P) w t tn ty e i z kq kn hu.h hun.h hi hiz (some ⟨g, 0, none⟩) n cap (l.take n) (hcells w.drew rfl) m h0 (by rw [his]; decide) hroom (by omega)
    (by rw [hib]; exact Nat.le_trans (Nat.mul_le_mul (by omega : m ≤ 1000000) hby) (by decide))
    (growslice_fits hroom (by rw [hib]; exact Nat.le_trans (Nat.mul_le_mul h63 hby) (by decide)))
  have hge := grownCap_ge w (n + m) cap e
  have hcm : grownCap w (n + m) cap e ≤ maxLen := grownCap_le_maxLen w (n + m) cap e (by simp only [maxLen]; omega)
  have hlt : (l.take n).length = n := by rw [List.length_take]; omega
  have harr : ((l.take n).toArray ++ Builtin.zeroCells z.cells m ++ Builtin.zeroCells z.cells (grownCap w (n + m) cap e - (n + m))) = ⟨l.take n ++ List.replicate m z ++ List.replicate (grownCap w (n + m) cap e - (n + m)) z⟩ := by
    apply Array.ext'
    simp [hzr]
  rw [harr] at hrun
  have hdr : Sat (L ++ X) (hpOf w.drew) := hsat
  refine ⟨_, _, bl w.heap.size e (l.take n ++ List.replicate m z ++ List.replicate (grownCap w (n + m) cap e - (n + m)) z) :: L, .inl ?_, ⟨w.heap.size, grownCap w (n + m) cap e, List.replicate (grownCap w (n + m) cap e - (n + m)) z, rfl, ⟨hge, hcm, ?_, ?_⟩, rfl⟩, sat_alloc hdr _, ⟨rfl, rfl, rfl⟩⟩
  · simp [execOp, resolve, invoke, builtin, ha.ev hv, ha.ev hx, hrun]
  · rw [List.length_append, hlt, List.length_replicate, Nat.mul_one]
  · rw [List.length_append, hlt, List.length_replicate, List.length_replicate, Nat.mul_one]; omega
/-- append(x, make([]T, m)...) where there is room -/
theorem OpOk.pmkIn {t tn e g n m cap : Nat} {kn kq : IntKind} {s x : Operand} {l : List Value} {L1 : List HProp} [hu : Und P t (.slice e)] [hun : Und P tn (.int kn)] {z : Value} {by_ : Nat} [hz : Zer P e z] [hs : Siz P e 1] [hb : Byt P e by_]
    (hv : ev E s = some (.slice (some ⟨g, 0, none⟩) n cap)) (hx : ev E x = some (.int kq (m : Int))) (ht : Take (bl g e l) L L1) (hzc : z.cells = #[z]) (hz1 : z.oneCell' = true) (h0 : 0 < m) (hroom : n + m ≤ cap) (hfit : n + m ≤ l.length) (h63 : n + m ≤ 1000000) (hby : by_ ≤ 1000) :
    OpOk P n' (.call { callee := .builtin .append, args := ⟨[s, x]⟩, argTypes := ⟨[t, tn]⟩ }) ty E L (fun v' L' => v' = .slice (some ⟨g, 0, none⟩) (n + m) cap ∧ L' = bl g e (l.take n ++ List.replicate m z ++ l.drop (n + m)) :: L1) := by
  unfold OpOk
  intro d ps af gd a w ha X hsat
  obtain ⟨i, hi, hiz, his, hib⟩ := info_of (P := P) (e := e) (sz := 1) (by_ := by_) (z := z)
  have hs1 := (ht.app X).sat hsat
  obtain ⟨hg, hs2⟩ := psat_setRow (l' := l.take n ++ List.replicate m z ++ l.drop (n + m)) hs1
  have hzr : (Builtin.zeroCells z.cells m).toList = List.replicate m z := by
    rw [hzc]
    simp [Builtin.zeroCells]
    apply List.ext_getElem
    · simp
    · intro i h1 h2
      simp [Nat.mod_one]
  have hst := run_storeCells_at P g n e (List.replicate m z) 0 ⟨l⟩ w hg (by simpa using hfit) (by intro v hv'; rw [List.eq_of_mem_replicate hv']; exact hz1)
  simp only [Nat.add_zero, List.length_replicate] at hst
  have hk : m ≠ 0 := by omega
  have hw : IntKind.i64.wrap (m : Int) = m := by rw [IntKind.wrap_i64]; omega
  have hneg : ¬ ((m : Int) < 0) := by omega
  have h48 : m * i.bytes ≤ 281474976710656 := by rw [hib]; exact Nat.le_trans (Nat.mul_le_mul (by omega : m ≤ 1000000) hby) (by decide)
  have h48i : ¬ (281474976710656 < (m : Int) * (i.bytes : Int)) := by
    rw [← Int.natCast_mul]
    omega
  have hns : ¬ (m * i.size = 0) := Nat.mul_ne_zero hk (by omega)
  have hrun : (Builtin.append_ #[t, tn] ty #[.slice (some ⟨g, 0, none⟩) n cap, .int kq m]).run P w = .ok (.slice (some ⟨g, 0, none⟩) (n + m) cap) (w.setRow g ⟨l.take n ++ List.replicate m z ++ l.drop (n + m)⟩) := by
    simp [Builtin.append_, run_underlying hu.h, run_underlying hun.h, sizeOf, typeInfo, zeroValue, hi, hiz, asInt, asIntOf, hw, hneg, h48i, hroom, hzr, his, hk, Addr.add_lit, hst]
  exact ⟨_, _, _, .inl (by simp [execOp, resolve, invoke, builtin, ha.ev hv, ha.ev hx, hrun]), ⟨rfl, rfl⟩, hs2, psetRow_old w g _⟩
/-- append of an empty slice -/
theorem OpV.pempty {t e sz g c n : Nat} {ad : Option Addr} {s x : Operand} [hu : Und P t (.slice e)] [hs : Siz P e sz] (hn : n = 0) (hv : ev E s = some (.slice (some ⟨g, 0, none⟩) 0 0)) (hx : ev E x = some (.slice ad n c)) :
    OpV P n' (.call { callee := .builtin .append, args := ⟨[s, x]⟩, argTypes := ⟨[t, t]⟩ }) ty E L (.slice (some ⟨g, 0, none⟩) 0 0) := by
  subst hn
  unfold OpV
  intro d ps af gd a w ha _
  cases ad with
  | none => simp [execOp, resolve, invoke, builtin, ha.ev hv, ha.ev hx, Builtin.append_, run_underlying hu.h, hs.h, Builtin.lenOf, Builtin.firstCells, storeCells]
  | some b => simp [execOp, resolve, invoke, builtin, ha.ev hv, ha.ev hx, Builtin.append_, run_underlying hu.h, hs.h, Builtin.lenOf, Builtin.firstCells, storeCells, loadCells, loadCellsFrom]
end rules
theorem StL.rowF {P : Program} {C : Cx} {ops : Array Oper} {l : List Oper} {k : List Item} {E : Env} {v : Value} {e sz n : Nat} {xs : List Value} {L : List HProp} (hn : 0 < n)
    (h : ∀ g cap rest, v = .slice (some ⟨g, 0, none⟩) n cap → RowF n cap sz xs rest → StL P C ops l k E (bl g e (xs ++ rest) :: L)) : StL P C ops l k E (Row v e sz n xs :: L) := by
  unfold StL at *
  intro a w ha hs ho
  rw [sat_cons] at hs
  obtain ⟨h1, h2, hd, hor, ⟨hl, hr⟩, hL⟩ := hs
  rcases hr with ⟨_, h0⟩ | ⟨g, cap, cur, rfl, hc, hm, hcs, htk, hp⟩
  · omega
  · refine h g cap (cur.toList.drop (n * sz)) rfl ⟨hc, hm, hl, ?_⟩ a w ha ?_ ho
    · rw [← hcs, ← htk, ← List.length_append, List.take_append_drop]; simp
    · rw [sat_cons]
      refine ⟨h1, h2, hd, hor, ?_, hL⟩
      rw [← htk, List.take_append_drop]
      exact hp
end Go.Proofs.YtphheopbngdhhaaGreatDoor
