/-
  Package slices: Insert of one number.
-/
import Derived.Lib.Overlaps
import Derived.Test.YtalgmlhcbilicaaDoorDc
namespace Go.Proofs.YtalgmlhcbilicaaDoor
set_option maxRecDepth 100000
section rules
variable {P : Program} {n' : Fi} {E : Env} {L : List HProp} {ty : TypeId}
/-- slices.overlaps of two blocks: they don't -/
theorem OpOk.overl {g : FuncId} {fn : Func} {tS tR e va oa la ca vb ob lb cb t1 t2 : Nat} {x y : Operand} {ats : Array TypeId} {l1 l2 : List Value} {L1 L2 : List HProp} [hu : Und P tS (.slice e)] [hsz : Siz P e 1] (hf : P.funcs[g]? = some fn) (h1 : (fn.name == "runtime.NumGoroutine") = false) (h2 : fn.body.isNone = true) (h3 : Extern.findNext fn = none)
    (h4 : Extern.find fn = some (Extern.SlicesOverlaps.overlaps #[tS, tS] #[tR])) (hx : ev E x = some (.slice (some ⟨va, oa, none⟩) la ca)) (hy : ev E y = some (.slice (some ⟨vb, ob, none⟩) lb cb)) (ht1 : Take (bl va t1 l1) L L1) (ht2 : Take (bl vb t2 l2) L1 L2) (hl2 : l2 ≠ []) :
    OpOk P n' (.call { callee := .value (.func g), args := ⟨[x, y]⟩, argTypes := ats }) ty E L (fun v L' => v = .bool false ∧ L' = L) := by
  unfold OpOk
  intro d ps af gd a w ha X hs
  have hs1 := (ht1.app X).sat hs
  have hg1 := (sat_setRow (l' := l1) hs1).1
  rw [sat_cons] at hs1
  obtain ⟨k1, k2, hd, hor, hp, hX⟩ := hs1
  have hX2 := (ht2.app X).sat hX
  rw [sat_cons] at hX2
  obtain ⟨m1, m2, hd2, hor2, hp2, _⟩ := hX2
  have hp : ∀ x, k1 x = if x = va then some (.cells ⟨l1⟩ t1 (0, 0)) else none := hp
  have hp2 : ∀ x, m1 x = if x = vb then some (.cells ⟨l2⟩ t2 (0, 0)) else none := hp2
  have hk2 : k2 vb = some (.cells ⟨l2⟩ t2 (0, 0)) := by rw [hor2 vb, hp2 vb, if_pos rfl]; rfl
  have hne : va ≠ vb := fun e => by
    rcases hd vb with h | h
    · rw [hp vb, if_pos e.symm] at h; cases h
    · rw [hk2] at h; cases h
  have hg2 : w.heap[vb]? = some (.cells ⟨l2⟩ t2 (0, 0)) := by
    have := hor vb
    rw [hp vb, if_neg (fun e => hne e.symm), hk2] at this
    exact this
  have e1 := run_callFunc_extern (P := P) hf h1 h2 h3 (e := Extern.SlicesOverlaps.overlaps #[tS, tS] #[tR]) h4
  have e2 := Lib.run_overlaps_apart (P := P) w tS tR e hu.h 1 hsz.h ⟨va, oa, none⟩ ⟨vb, ob, none⟩ la ca lb cb hne t1 t2 l1.length l2.length (by simp [World.shape?, hg1]) (by simp [World.shape?, hg2]) (by intro h; exact hl2 (List.eq_nil_of_length_eq_zero h)) (by simp [World.frozen?, hg1]) (by simp [World.frozen?, hg1])
  have e3 := e1 #[.slice (some ⟨va, oa, none⟩) la ca, .slice (some ⟨vb, ob, none⟩) lb cb] w
  rw [e2] at e3
  refine ⟨.bool false, w, L, .inl ?_, ⟨rfl, rfl⟩, hs, Old.refl w⟩
  have e4 : a.eval x = .slice (some ⟨va, oa, none⟩) la ca := ha.ev hx
  have e6 : a.eval y = .slice (some ⟨vb, ob, none⟩) lb cb := ha.ev hy
  have e5 : a.eval (.func g) = .func (.func g) #[] #[] := rfl
  simp [execOp, resolve, invoke, Deferred.ofValue, e4, e5, e6, e3]
/-- append(x[:n], make([]T, m)...) where there is no room: new memory -/
theorem OpOk.appendMk {t tn e g n m cap : Nat} {kn kq : IntKind} {s x : Operand} {l : List Value} {L1 : List HProp} [hu : Und P t (.slice e)] [hun : Und P tn (.int kn)] {z : Value} {by_ : Nat} [hz : Zer P e z] [hs : Siz P e 1] [hb : Byt P e by_]
    (hv : ev E s = some (.slice (some ⟨g, 0, none⟩) n cap)) (hx : ev E x = some (.int kq (m : Int))) (ht : Take (bl g e l) L L1) (hzc : z.cells = #[z]) (h0 : 0 < m) (hroom : cap < n + m) (hfit : n ≤ l.length) (h63 : n + m ≤ 1000000) (hby : by_ ≤ 1000) :
    OpOk P n' (.call { callee := .builtin .append, args := ⟨[s, x]⟩, argTypes := ⟨[t, tn]⟩ }) ty E L (fun v' L' => ∃ g' cap' rest, v' = .slice (some ⟨g', 0, none⟩) (n + m) cap' ∧ RowF (n + m) cap' 1 (l.take n ++ List.replicate m z) rest ∧ L' = bl g' e (l.take n ++ List.replicate m z ++ rest) :: L) := by
  unfold OpOk
  intro d ps af gd a w ha X hsat
  obtain ⟨i, hi, hiz, his, hib⟩ := info_of (P := P) (e := e) (sz := 1) (by_ := by_) (z := z)
  have hs1 := (ht.app X).sat hsat
  have hg := (sat_setRow (l' := l) hs1).1
  have hzr : ∀ k, (Builtin.zeroCells z.cells k).toList = List.replicate k z := fun k => by
    rw [hzc]
    simp [Builtin.zeroCells]
    apply List.ext_getElem
    · simp
    · intro i h1 h2
      simp [Nat.mod_one]
  have hcells : ∀ (w' : World), w'.heap = w.heap → (Builtin.firstCells i.size n (.slice (some ⟨g, 0, none⟩) n cap)).run P w' = .ok (l.take n).toArray w' := fun w' hw => by
    have := run_firstCells_some (P := P) w' i.size n ⟨g, 0, none⟩ n cap (l.take n) (by rw [his, List.length_take]; omega) (fun j u hj => by
      simp only [addr_add, World.cell?, hw, hg]
      rw [List.getElem?_take] at hj
      split at hj
      · simpa using hj
      · cases hj)
    exact this
  have hrun := Lib.run_append_grow_zeros (P := P) w t tn ty e i z kq kn hu.h hun.h hi hiz (some ⟨g, 0, none⟩) n cap (l.take n) (hcells w.drew rfl) m h0 (by rw [his]; decide) hroom (by omega)
    (by rw [hib]; exact Nat.le_trans (Nat.mul_le_mul (by omega : m ≤ 1000000) hby) (by decide))
    (growslice_fits hroom (by rw [hib]; exact Nat.le_trans (Nat.mul_le_mul h63 hby) (by decide)))
  have hge := grownCap_ge w (n + m) cap e
  have hcm : grownCap w (n + m) cap e ≤ maxLen := grownCap_le_maxLen w (n + m) cap e (by simp only [maxLen]; omega)
  have hlt : (l.take n).length = n := by rw [List.length_take]; omega
  have harr : ((l.take n).toArray ++ Builtin.zeroCells z.cells m ++ Builtin.zeroCells z.cells (grownCap w (n + m) cap e - (n + m))) = ⟨l.take n ++ List.replicate m z ++ List.replicate (grownCap w (n + m) cap e - (n + m)) z⟩ := by
    apply Array.ext'
    simp [hzr]
  rw [harr] at hrun
  have hdr : Sat (L ++ X) (hpOf w.drew) := hsat
  refine ⟨_, _, bl w.heap.size e (l.take n ++ List.replicate m z ++ List.replicate (grownCap w (n + m) cap e - (n + m)) z) :: L, .inl ?_, ⟨w.heap.size, grownCap w (n + m) cap e, List.replicate (grownCap w (n + m) cap e - (n + m)) z, rfl, ⟨hge, hcm, ?_, ?_⟩, rfl⟩, sat_alloc hdr _, ⟨rfl, rfl, rfl⟩⟩
  · simp [execOp, resolve, invoke, builtin, ha.ev hv, ha.ev hx, hrun]
  · rw [List.length_append, hlt, List.length_replicate, Nat.mul_one]
  · rw [List.length_append, hlt, List.length_replicate, List.length_replicate, Nat.mul_one]; omega
end rules
end Go.Proofs.YtalgmlhcbilicaaDoor
