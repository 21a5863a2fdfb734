/-
  Rules for slices of two cells an element within their own block: append in place, copy, clear, x[i:j:k], append of made zeros.
-/
import Derived.Lib.SliceRun
import Derived.Laws.CopyRow
import Derived.Laws.AppendOwn
import Derived.Lib.AppendZerosOnto
import Derived.Lib.Overlaps
import Derived.Test.YthbignifgljphaaGreatDoorTs4
namespace Go.Proofs.YthbignifgljphaaGreatDoor
set_option maxRecDepth 100000
section rules
variable {P : Program} {n' : Fi} {E : Env} {L : List HProp} {ty : TypeId}
theorem sat_setRow {w : World} {g e : Nat} {l l' : List Value} {X : List HProp} (hs : Sat (bl g e l :: X) (hpOf w)) : w.heap[g]? = some (.cells ⟨l⟩ e (0, 0)) ∧ Sat (bl g e l' :: X) (hpOf (w.setRow g ⟨l'⟩)) := by
  rw [sat_cons] at hs
  obtain ⟨h1, h2, hd, hor, hp, hX⟩ := hs
  have hp : ∀ x, h1 x = if x = g then some (.cells ⟨l⟩ e (0, 0)) else none := hp
  have hg : w.heap[g]? = some (.cells ⟨l⟩ e (0, 0)) := by
    have := hor g
    rw [hp g, if_pos rfl] at this
    exact this
  refine ⟨hg, ?_⟩
  rw [sat_cons]
  refine ⟨fun x => if x = g then some (.cells ⟨l'⟩ e (0, 0)) else none, h2, ?_, ?_, fun _ => rfl, hX⟩
  · intro b
    rcases hd b with h | h
    · rw [hp b] at h
      by_cases hbg : b = g
      · rw [if_pos hbg] at h; cases h
      · exact .inl (if_neg hbg)
    · exact .inr h
  · intro b
    by_cases hbg : b = g
    · subst hbg
      have := setRow_heap w b ⟨l⟩ ⟨l'⟩ _ (0, 0) hg
      show (w.setRow b ⟨l'⟩).heap[b]? = _
      rw [this]; simp
    · show (w.setRow g ⟨l'⟩).heap[b]? = _
      rw [setRow_other w g b _ hbg]
      have h3 := hor b
      rw [hp b, if_neg hbg] at h3
      exact h3.trans (congrArg (fun o : Option Obj => o.or (h2 b)) (if_neg hbg).symm)
theorem setRow_old (w : World) (g : Nat) (cs : Array Value) : Old w (w.setRow g cs) := ⟨rfl, rfl, rfl⟩
theorem cells_at {w : World} {bx ox m : Nat} {blk r cs : List Value} (hc : ∀ o, w.cell? ⟨bx, o, none⟩ = blk[o]?) (hdr : DropN ox blk r) (htk : TakeN m r cs) : ∀ j u, cs[j]? = some u → w.cell? ((⟨bx, ox, none⟩ : Addr).add j) = some u := by
  obtain ⟨d1, _⟩ := hdr.eq
  obtain ⟨k1, _⟩ := htk.eq
  intro j u hj
  rw [addr_add, hc, ← hj, ← k1, List.getElem?_take, ← d1]
  have hjl : j < cs.length := (List.getElem?_eq_some_iff.1 hj).1
  have hml : cs.length ≤ m := by rw [← k1, List.length_take]; omega
  rw [if_pos (by omega), List.getElem?_drop]
theorem takeN_len {α : Type} {m : Nat} {r cs : List α} (h : TakeN m r cs) : cs.length = m := by
  obtain ⟨k1, k2⟩ := h.eq
  rw [← k1, List.length_take]; omega
/-- append(x[:n], y...) where there is room -/
theorem OpOk.appendIn2 {t e g n m cap c bx ox : Nat} {s x : Operand} {l blk r news : List Value} {L1 : List HProp} [hu : Und P t (.slice e)] {z : Value} {by_ : Nat} [hz : Zer P e z] [hs : Siz P e 2] [hb : Byt P e by_]
    (hv : ev E s = some (.slice (some ⟨g, 0, none⟩) n cap)) (hx : ev E x = some (.slice (some ⟨bx, ox, none⟩) m c)) (ht : Take (bl g e l) L L1) (hr : ReadsC L bx blk) (hdr : DropN ox blk r) (htk : TakeN (m * 2) r news) (h1 : news.all one = true) (hroom : n + m ≤ cap) (hfit : n * 2 + m * 2 ≤ l.length) :
    OpOk P n' (.call { callee := .builtin .append, args := ⟨[s, x]⟩, argTypes := ⟨[t, t]⟩ }) ty E L (fun v' L' => v' = .slice (some ⟨g, 0, none⟩) (n + m) cap ∧ L' = bl g e (l.take (n * 2) ++ news ++ l.drop (n * 2 + m * 2)) :: L1) := by
  unfold OpOk
  intro d ps af gd a w ha X hsat
  obtain ⟨i, hi, hiz, his, hib⟩ := info_of (P := P) (e := e) (sz := 2) (by_ := by_) (z := z)
  have hnl := takeN_len htk
  have hs1 := (ht.app X).sat hsat
  obtain ⟨hg, hs2⟩ := sat_setRow (l' := l.take (n * 2) ++ news ++ l.drop (n * 2 + m * 2)) hs1
  have hrun := run_append_room (P := P) w t ty e i hu.h hi g n cap ⟨l⟩ hg ⟨bx, ox, none⟩ m c news (by rw [his, hnl]) (cells_at (hr.sat hsat.head_of) hdr htk) (by simpa using h1) hroom (by rw [his, hnl]; simpa using hfit)
  rw [his, hnl] at hrun
  exact ⟨_, _, _, .inl (by simp [execOp, resolve, invoke, builtin, ha.ev hv, ha.ev hx, hrun]), ⟨rfl, rfl⟩, hs2, setRow_old w g _⟩
theorem run_copy_row2 (w : World) (dT sT ty elem : TypeId) (g o dLen dCap : Nat) (a : Addr) (sLen sCap : Nat) (cur : Array Value) (t : TypeId) (cs : List Value)
    (hu : P.underlying dT = some (.slice elem)) (i : TypeInfo) (hq : P.info? elem = some i) (hi : i.size = 2)
    (hg : w.heap[g]? = some (.cells cur t (0, 0))) (m : Nat) (hm : m = Nat.min sLen dLen) (hn : cs.length = m * 2)
    (hsrc : ∀ j v, cs[j]? = some v → w.cell? (a.add j) = some v) (hfit : o + cs.length ≤ cur.size) (h1 : ∀ v ∈ cs, v.oneCell' = true) :
    (Builtin.copy_ #[dT, sT] ty #[.slice (some ⟨g, o, none⟩) dLen dCap, .slice (some a) sLen sCap]).run P w =
      .ok (goInt m) (w.setRow g (cur.toList.take o ++ cs ++ cur.toList.drop (o + cs.length)).toArray) := by
  have hl := run_loadCells_list (P := P) w a cs hsrc
  have hst := run_storeCells_at P g o t cs 0 cur w hg (by simpa using hfit) h1
  rw [hn] at hl
  have hm' : min sLen dLen = m := hm.symm
  simp [Builtin.copy_, run_underlying hu, Builtin.lenOf, Builtin.firstCells, sizeOf, typeInfo, hq, hi, hm', hl, hst]
/-- copy(d, y) within a block, or from another -/
theorem OpOk.copyB2 {t e g o dLen dCap sLen sCap bx ox m : Nat} {dd x : Operand} {l blk r cs : List Value} {L1 : List HProp} [hu : Und P t (.slice e)] {z : Value} {by_ : Nat} [hz : Zer P e z] [hs : Siz P e 2] [hb : Byt P e by_]
    (hv : ev E dd = some (.slice (some ⟨g, o, none⟩) dLen dCap)) (hx : ev E x = some (.slice (some ⟨bx, ox, none⟩) sLen sCap)) (ht : Take (bl g e l) L L1) (hr : ReadsC L bx blk) (hdr : DropN ox blk r) (htk : TakeN (m * 2) r cs) (h1 : cs.all one = true) (hm : m = Nat.min sLen dLen) (hfit : o + m * 2 ≤ l.length) :
    OpOk P n' (.call { callee := .builtin .copy, args := ⟨[dd, x]⟩, argTypes := ⟨[t, t]⟩ }) ty E L (fun v' L' => v' = .int .i64 (m : Int) ∧ L' = bl g e (l.take o ++ cs ++ l.drop (o + m * 2)) :: L1) := by
  unfold OpOk
  intro d ps af gd a w ha X hsat
  obtain ⟨i, hi, hiz, his, hib⟩ := info_of (P := P) (e := e) (sz := 2) (by_ := by_) (z := z)
  have hnl := takeN_len htk
  have hs1 := (ht.app X).sat hsat
  obtain ⟨hg, hs2⟩ := sat_setRow (l' := l.take o ++ cs ++ l.drop (o + m * 2)) hs1
  have hrun := run_copy_row2 (P := P) w t t ty e g o dLen dCap ⟨bx, ox, none⟩ sLen sCap ⟨l⟩ e cs hu.h i hi his hg m hm hnl (cells_at (hr.sat hsat.head_of) hdr htk) (by rw [hnl]; simpa using hfit) (by simpa using h1)
  rw [hnl] at hrun
  exact ⟨_, _, _, .inl (by simp [execOp, resolve, invoke, builtin, ha.ev hv, ha.ev hx, hrun]; rfl), ⟨rfl, rfl⟩, hs2, setRow_old w g _⟩
theorem zeros2 {z c : Value} (hzc : z.cells = #[c, c]) (k : Nat) : (Builtin.zeroCells z.cells k).toList = List.replicate (k * 2) c := by
  rw [hzc]
  simp [Builtin.zeroCells]
  apply List.ext_getElem
  · simp
  · intro i h1 h2
    simp
    rcases (by omega : i % 2 = 0 ∨ i % 2 = 1) with h | h <;> simp [h]
/-- clear(x) -/
theorem OpOk.clearB2 {t e g o n c : Nat} {x : Operand} {l : List Value} {L1 : List HProp} [hu : Und P t (.slice e)] {z c0 : Value} [hz : Zer P e z]
    (hx : ev E x = some (.slice (some ⟨g, o, none⟩) n c)) (ht : Take (bl g e l) L L1) (hzc : z.cells = #[c0, c0]) (h1 : c0.oneCell' = true) (hn : 0 < n) (hfit : o + n * 2 ≤ l.length) :
    OpOk P n' (.call { callee := .builtin .clear, args := ⟨[x]⟩, argTypes := ⟨[t]⟩ }) ty E L (fun v' L' => L' = bl g e (l.take o ++ List.replicate (n * 2) c0 ++ l.drop (o + n * 2)) :: L1) := by
  unfold OpOk
  intro d ps af gd a w ha X hsat
  have hs1 := (ht.app X).sat hsat
  obtain ⟨hg, hs2⟩ := sat_setRow (l' := l.take o ++ List.replicate (n * 2) c0 ++ l.drop (o + n * 2)) hs1
  have hzr := zeros2 hzc n
  have hst := run_storeCells_at P g o e (List.replicate (n * 2) c0) 0 ⟨l⟩ w hg (by simpa using hfit) (by intro v hv'; rw [List.eq_of_mem_replicate hv']; exact h1)
  simp only [Nat.add_zero, List.length_replicate] at hst
  have hzv := hz.h
  obtain ⟨m, rfl⟩ : ∃ m, n = m + 1 := ⟨n - 1, by omega⟩
  have hrun : (Builtin.clear_ #[t] ty #[.slice (some ⟨g, o, none⟩) (m + 1) c]).run P w = .ok (.tuple #[]) (w.setRow g ⟨l.take o ++ List.replicate ((m + 1) * 2) c0 ++ l.drop (o + (m + 1) * 2)⟩) := by
    simp [Builtin.clear_, run_underlying hu.h, hzv, hzr, hst]
  exact ⟨_, _, _, .inl (by simp [execOp, resolve, invoke, builtin, ha.ev hx, hrun]; rfl), rfl, hs2, setRow_old w g _⟩
/-- x[i:j:k] -/
theorem OpV.sl3 {t e sz : Nat} {x lo hi mx : Operand} {ad : Option Addr} {len cap i j k : Nat} {k1 k2 k3 : IntKind} [hu : Und P t (.slice e)] [hs : Siz P e sz] (hx : ev E x = some (.slice ad len cap)) (hl : ev E lo = some (.int k1 (i : Int))) (hh : ev E hi = some (.int k2 (j : Int))) (hm : ev E mx = some (.int k3 (k : Int)))
    (h1 : i ≤ j) (h2 : j ≤ k) (h3 : k ≤ cap) : ∃ v, OpV P n' (.slice t x (some lo) (some hi) (some mx)) ty E L v := by
  refine ⟨.slice (if k = i then ad else ad.map (·.add (i * sz))) (j - i) (k - i), ?_⟩
  unfold OpV
  intro d ps af gd a w ha _
  have hb : ∀ (kd : IntKind) (x y : Nat) (c : BoundsCode), x ≤ y → (Instr.sliceBound (.int kd (x : Int)) y c).run P w = .ok x w := fun kd x y c hxy => by
    unfold Instr.sliceBound
    simp only [asIntOf, Sem.run_bind, Sem.run_pure, Result.andThen_ok]
    rw [if_pos ⟨by omega, by omega⟩]
    rfl
  simp [execOp, ha.ev hx, ha.ev hl, ha.ev hh, ha.ev hm, Instr.sliceAt, Instr.slice, run_underlying hu.h, Instr.sliceBounds, hs.h, hb k3 k cap _ h3, hb k2 j k _ h2, hb k1 i j _ h1]
/-- x[i:j] -/
theorem OpV.slLH {t e sz : Nat} {x lo hi : Operand} {ad : Option Addr} {len cap i j : Nat} {k1 k2 : IntKind} [hu : Und P t (.slice e)] [hs : Siz P e sz] (hx : ev E x = some (.slice ad len cap)) (hl : ev E lo = some (.int k1 (i : Int))) (hh : ev E hi = some (.int k2 (j : Int)))
    (h1 : i ≤ j) (h2 : j ≤ cap) : OpV P n' (.slice t x (some lo) (some hi) none) ty E L (.slice (tlN ad cap i sz) (j - i) (cap - i)) := by
  unfold OpV
  intro d ps af gd a w ha _
  have hb : ∀ (kd : IntKind) (x y : Nat) (c : BoundsCode), x ≤ y → (Instr.sliceBound (.int kd (x : Int)) y c).run P w = .ok x w := fun kd x y c hxy => by
    unfold Instr.sliceBound
    simp only [asIntOf, Sem.run_bind, Sem.run_pure, Result.andThen_ok]
    rw [if_pos ⟨by omega, by omega⟩]
    rfl
  simp [execOp, ha.ev hx, ha.ev hl, ha.ev hh, Instr.sliceAt, Instr.slice, run_underlying hu.h, Instr.sliceBounds, hs.h, hb k2 j cap _ h2, hb k1 i j _ h1, tlN]
theorem OpV.cap_sl {t e : TypeId} {x : Operand} {ad : Option Addr} {n c : Nat} [hu : Und P t (.slice e)] (hx : ev E x = some (.slice ad n c)) :
    OpV P n' (.call { callee := .builtin .cap, args := ⟨[x]⟩, argTypes := ⟨[t]⟩ }) ty E L (.int .i64 (c : Int)) := by
  unfold OpV
  intro d ps af gd a w ha _
  simp [execOp, resolve, invoke, builtin, ha.ev hx, Builtin.cap_, goInt, run_underlying hu.h]
/-- slices.overlaps of two blocks: they don't -/
theorem OpOk.overl2 {g : FuncId} {fn : Func} {tS tR e va oa la ca vb ob lb cb t1 t2 : Nat} {x y : Operand} {ats : Array TypeId} {l1 l2 : List Value} {L1 L2 : List HProp} [hu : Und P tS (.slice e)] [hsz : Siz P e 2] (hf : P.funcs[g]? = some fn) (h1 : (fn.name == "runtime.NumGoroutine") = false) (h2 : fn.body.isNone = true) (h3 : Extern.findNext fn = none)
    (h4 : Extern.find fn = some (Extern.SlicesOverlaps.overlaps #[tS, tS] #[tR])) (hx : ev E x = some (.slice (some ⟨va, oa, none⟩) la ca)) (hy : ev E y = some (.slice (some ⟨vb, ob, none⟩) lb cb)) (ht1 : Take (bl va t1 l1) L L1) (ht2 : Take (bl vb t2 l2) L1 L2) (hl2 : l2 ≠ []) :
    OpOk P n' (.call { callee := .value (.func g), args := ⟨[x, y]⟩, argTypes := ats }) ty E L (fun v L' => v = .bool false ∧ L' = L) := by
  unfold OpOk
  intro d ps af gd a w ha X hs
  have hs1 := (ht1.app X).sat hs
  have hg1 := (sat_setRow (l' := l1) hs1).1
  rw [sat_cons] at hs1
  obtain ⟨k1, k2, hd, hor, hp, hX⟩ := hs1
  have hX2 := (ht2.app X).sat hX
  rw [sat_cons] at hX2
  obtain ⟨m1, m2, hd2, hor2, hp2, _⟩ := hX2
  have hp : ∀ x, k1 x = if x = va then some (.cells ⟨l1⟩ t1 (0, 0)) else none := hp
  have hp2 : ∀ x, m1 x = if x = vb then some (.cells ⟨l2⟩ t2 (0, 0)) else none := hp2
  have hk2 : k2 vb = some (.cells ⟨l2⟩ t2 (0, 0)) := by rw [hor2 vb, hp2 vb, if_pos rfl]; rfl
  have hne : va ≠ vb := fun e => by
    rcases hd vb with h | h
    · rw [hp vb, if_pos e.symm] at h; cases h
    · rw [hk2] at h; cases h
  have hg2 : w.heap[vb]? = some (.cells ⟨l2⟩ t2 (0, 0)) := by
    have := hor vb
    rw [hp vb, if_neg (fun e => hne e.symm), hk2] at this
    exact this
  have e1 := run_callFunc_extern (P := P) hf h1 h2 h3 (e := Extern.SlicesOverlaps.overlaps #[tS, tS] #[tR]) h4
  have e2 := Lib.run_overlaps_apart (P := P) w tS tR e hu.h 2 hsz.h ⟨va, oa, none⟩ ⟨vb, ob, none⟩ la ca lb cb hne t1 t2 l1.length l2.length (by simp [World.shape?, hg1]) (by simp [World.shape?, hg2]) (by intro h; exact hl2 (List.eq_nil_of_length_eq_zero h)) (by simp [World.frozen?, hg1]) (by simp [World.frozen?, hg1])
  have e3 := e1 #[.slice (some ⟨va, oa, none⟩) la ca, .slice (some ⟨vb, ob, none⟩) lb cb] w
  rw [e2] at e3
  refine ⟨.bool false, w, L, .inl ?_, ⟨rfl, rfl⟩, hs, Old.refl w⟩
  have e4 : a.eval x = .slice (some ⟨va, oa, none⟩) la ca := ha.ev hx
  have e6 : a.eval y = .slice (some ⟨vb, ob, none⟩) lb cb := ha.ev hy
  have e5 : a.eval (.func g) = .func (.func g) #[] #[] := rfl
  simp [execOp, resolve, invoke, Deferred.ofValue, e4, e5, e6, e3]
/-- append(x[:n], make([]T, m)...) where there is no room: new memory -/
theorem OpOk.appendMk2 {t tn e g n m cap : Nat} {kn kq : IntKind} {s x : Operand} {l : List Value} {L1 : List HProp} [hu : Und P t (.slice e)] [hun : Und P tn (.int kn)] {z c0 : Value} {by_ : Nat} [hz : Zer P e z] [hs : Siz P e 2] [hb : Byt P e by_]
    (hv : ev E s = some (.slice (some ⟨g, 0, none⟩) n cap)) (hx : ev E x = some (.int kq (m : Int))) (ht : Take (bl g e l) L L1) (hzc : z.cells = #[c0, c0]) (h0 : 0 < m) (hroom : cap < n + m) (hfit : n * 2 ≤ l.length) (h63 : n + m ≤ 1000000) (hby : by_ ≤ 1000) :
    OpOk P n' (.call { callee := .builtin .append, args := ⟨[s, x]⟩, argTypes := ⟨[t, tn]⟩ }) ty E L (fun v' L' => ∃ g' cap' rest, v' = .slice (some ⟨g', 0, none⟩) (n + m) cap' ∧ RowF (n + m) cap' 2 (l.take (n * 2) ++ List.replicate (m * 2) c0) rest ∧ L' = bl g' e (l.take (n * 2) ++ List.replicate (m * 2) c0 ++ rest) :: L) := by
  unfold OpOk
  intro d ps af gd a w ha X hsat
  obtain ⟨i, hi, hiz, his, hib⟩ := info_of (P := P) (e := e) (sz := 2) (by_ := by_) (z := z)
  have hs1 := (ht.app X).sat hsat
  have hg := (sat_setRow (l' := l) hs1).1
  have hzr : ∀ k, (Builtin.zeroCells z.cells k).toList = List.replicate (k * 2) c0 := zeros2 hzc
  have hcells : ∀ (w' : World), w'.heap = w.heap → (Builtin.firstCells i.size n (.slice (some ⟨g, 0, none⟩) n cap)).run P w' = .ok (l.take (n * 2)).toArray w' := fun w' hw => by
    have := run_firstCells_some (P := P) w' i.size n ⟨g, 0, none⟩ n cap (l.take (n * 2)) (by rw [his, List.length_take]; omega) (fun j u hj => by
      simp only [addr_add, World.cell?, hw, hg]
      rw [List.getElem?_take] at hj
      split at hj
      · simpa using hj
      · cases hj)
    exact this
  have hrun := Lib.run_append_grow_zeros (P := P) w t tn ty e i z kq kn hu.h hun.h hi hiz (some ⟨g, 0, none⟩) n cap (l.take (n * 2)) (hcells w.drew rfl) m h0 (by rw [his]; decide) hroom (by omega)
    (by rw [hib]; exact Nat.le_trans (Nat.mul_le_mul (by omega : m ≤ 1000000) hby) (by decide))
    (growslice_fits hroom (by rw [hib]; exact Nat.le_trans (Nat.mul_le_mul h63 hby) (by decide)))
  have hge := grownCap_ge w (n + m) cap e
  have hcm : grownCap w (n + m) cap e ≤ maxLen := grownCap_le_maxLen w (n + m) cap e (by simp only [maxLen]; omega)
  have hlt : (l.take (n * 2)).length = n * 2 := by rw [List.length_take]; omega
  have harr : ((l.take (n * 2)).toArray ++ Builtin.zeroCells z.cells m ++ Builtin.zeroCells z.cells (grownCap w (n + m) cap e - (n + m))) = ⟨l.take (n * 2) ++ List.replicate (m * 2) c0 ++ List.replicate ((grownCap w (n + m) cap e - (n + m)) * 2) c0⟩ := by
    apply Array.ext'
    simp [hzr]
  rw [harr] at hrun
  have hdr : Sat (L ++ X) (hpOf w.drew) := hsat
  refine ⟨_, _, bl w.heap.size e (l.take (n * 2) ++ List.replicate (m * 2) c0 ++ List.replicate ((grownCap w (n + m) cap e - (n + m)) * 2) c0) :: L, .inl ?_, ⟨w.heap.size, grownCap w (n + m) cap e, List.replicate ((grownCap w (n + m) cap e - (n + m)) * 2) c0, rfl, ⟨hge, hcm, ?_, ?_⟩, rfl⟩, sat_alloc hdr _, ⟨rfl, rfl, rfl⟩⟩
  · simp [execOp, resolve, invoke, builtin, ha.ev hv, ha.ev hx, hrun]
  · rw [List.length_append, hlt, List.length_replicate]; omega
  · rw [List.length_append, hlt, List.length_replicate, List.length_replicate]; omega
end rules
end Go.Proofs.YthbignifgljphaaGreatDoor
