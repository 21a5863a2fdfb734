/-
  Rules for slices within their own block: append in place, copy, clear, x[i:j:k], append of made zeros.
-/
import Derived.Lib.SliceRun
import Derived.Laws.CopyRow
import Derived.Laws.AppendOwn
import Derived.Lib.AppendZerosOnto
import Derived.Test.YtalgmlhcbilicaaDoorDa
namespace Go.Proofs.YtalgmlhcbilicaaDoor
set_option maxRecDepth 100000
section rules
variable {P : Program} {n' : Fi} {E : Env} {L : List HProp} {ty : TypeId}
theorem sat_setRow {w : World} {g e : Nat} {l l' : List Value} {X : List HProp} (hs : Sat (bl g e l :: X) (hpOf w)) : w.heap[g]? = some (.cells ⟨l⟩ e (0, 0)) ∧ Sat (bl g e l' :: X) (hpOf (w.setRow g ⟨l'⟩)) := by
  rw [sat_cons] at hs
  obtain ⟨h1, h2, hd, hor, hp, hX⟩ := hs
  have hp : ∀ x, h1 x = if x = g then some (.cells ⟨l⟩ e (0, 0)) else none := hp
  have hg : w.heap[g]? = some (.cells ⟨l⟩ e (0, 0)) := by
    have := hor g
    rw [hp g, if_pos rfl] at this
    exact this
  refine ⟨hg, ?_⟩
  rw [sat_cons]
  refine ⟨fun x => if x = g then some (.cells ⟨l'⟩ e (0, 0)) else none, h2, ?_, ?_, fun _ => rfl, hX⟩
  · intro b
    rcases hd b with h | h
    · rw [hp b] at h
      by_cases hbg : b = g
      · rw [if_pos hbg] at h; cases h
      · exact .inl (if_neg hbg)
    · exact .inr h
  · intro b
    by_cases hbg : b = g
    · subst hbg
      have := setRow_heap w b ⟨l⟩ ⟨l'⟩ _ (0, 0) hg
      show (w.setRow b ⟨l'⟩).heap[b]? = _
      rw [this]; simp
    · show (w.setRow g ⟨l'⟩).heap[b]? = _
      rw [setRow_other w g b _ hbg]
      have h3 := hor b
      rw [hp b, if_neg hbg] at h3
      exact h3.trans (congrArg (fun o : Option Obj => o.or (h2 b)) (if_neg hbg).symm)
theorem setRow_old (w : World) (g : Nat) (cs : Array Value) : Old w (w.setRow g cs) := ⟨rfl, rfl, rfl⟩
theorem cells_at {w : World} {bx ox m : Nat} {blk r cs : List Value} (hc : ∀ o, w.cell? ⟨bx, o, none⟩ = blk[o]?) (hdr : DropN ox blk r) (htk : TakeN m r cs) : ∀ j u, cs[j]? = some u → w.cell? ((⟨bx, ox, none⟩ : Addr).add j) = some u := by
  obtain ⟨d1, _⟩ := hdr.eq
  obtain ⟨k1, _⟩ := htk.eq
  intro j u hj
  rw [addr_add, hc, ← hj, ← k1, List.getElem?_take, ← d1]
  have hjl : j < cs.length := (List.getElem?_eq_some_iff.1 hj).1
  have hml : cs.length ≤ m := by rw [← k1, List.length_take]; omega
  rw [if_pos (by omega), List.getElem?_drop]
theorem takeN_len {α : Type} {m : Nat} {r cs : List α} (h : TakeN m r cs) : cs.length = m := by
  obtain ⟨k1, k2⟩ := h.eq
  rw [← k1, List.length_take]; omega
/-- append(x[:n], y...) where there is room -/
theorem OpOk.appendIn {t e g n m cap c bx ox : Nat} {s x : Operand} {l blk r news : List Value} {L1 : List HProp} [hu : Und P t (.slice e)] {z : Value} {by_ : Nat} [hz : Zer P e z] [hs : Siz P e 1] [hb : Byt P e by_]
    (hv : ev E s = some (.slice (some ⟨g, 0, none⟩) n cap)) (hx : ev E x = some (.slice (some ⟨bx, ox, none⟩) m c)) (ht : Take (bl g e l) L L1) (hr : ReadsC L bx blk) (hdr : DropN ox blk r) (htk : TakeN m r news) (h1 : news.all one = true) (hroom : n + m ≤ cap) (hfit : n + m ≤ l.length) :
    OpOk P n' (.call { callee := .builtin .append, args := ⟨[s, x]⟩, argTypes := ⟨[t, t]⟩ }) ty E L (fun v' L' => v' = .slice (some ⟨g, 0, none⟩) (n + m) cap ∧ L' = bl g e (l.take n ++ news ++ l.drop (n + m)) :: L1) := by
  unfold OpOk
  intro d ps af gd a w ha X hsat
  obtain ⟨i, hi, hiz, his, hib⟩ := info_of (P := P) (e := e) (sz := 1) (by_ := by_) (z := z)
  have hnl := takeN_len htk
  have hs1 := (ht.app X).sat hsat
  obtain ⟨hg, hs2⟩ := sat_setRow (l' := l.take n ++ news ++ l.drop (n + m)) hs1
  have hrun := run_append_room (P := P) w t ty e i hu.h hi g n cap ⟨l⟩ hg ⟨bx, ox, none⟩ m c news (by rw [his, hnl, Nat.mul_one]) (cells_at (hr.sat hsat.head_of) hdr htk) (by simpa using h1) hroom (by rw [his, hnl]; simpa using hfit)
  rw [his, Nat.mul_one, hnl] at hrun
  exact ⟨_, _, _, .inl (by simp [execOp, resolve, invoke, builtin, ha.ev hv, ha.ev hx, hrun]), ⟨rfl, rfl⟩, hs2, setRow_old w g _⟩
/-- copy(d, y) within a block, or from another -/
theorem OpOk.copyB {t e g o dLen dCap sLen sCap bx ox m : Nat} {dd x : Operand} {l blk r cs : List Value} {L1 : List HProp} [hu : Und P t (.slice e)] {z : Value} {by_ : Nat} [hz : Zer P e z] [hs : Siz P e 1] [hb : Byt P e by_]
    (hv : ev E dd = some (.slice (some ⟨g, o, none⟩) dLen dCap)) (hx : ev E x = some (.slice (some ⟨bx, ox, none⟩) sLen sCap)) (ht : Take (bl g e l) L L1) (hr : ReadsC L bx blk) (hdr : DropN ox blk r) (htk : TakeN m r cs) (h1 : cs.all one = true) (hm : m = Nat.min sLen dLen) (hfit : o + m ≤ l.length) :
    OpOk P n' (.call { callee := .builtin .copy, args := ⟨[dd, x]⟩, argTypes := ⟨[t, t]⟩ }) ty E L (fun v' L' => v' = .int .i64 (m : Int) ∧ L' = bl g e (l.take o ++ cs ++ l.drop (o + m)) :: L1) := by
  unfold OpOk
  intro d ps af gd a w ha X hsat
  obtain ⟨i, hi, hiz, his, hib⟩ := info_of (P := P) (e := e) (sz := 1) (by_ := by_) (z := z)
  have hnl := takeN_len htk
  have hs1 := (ht.app X).sat hsat
  obtain ⟨hg, hs2⟩ := sat_setRow (l' := l.take o ++ cs ++ l.drop (o + m)) hs1
  have hrun := run_copy_row (P := P) w t t ty e g o dLen dCap ⟨bx, ox, none⟩ sLen sCap ⟨l⟩ e cs hu.h (by rw [hi]; simp [his]) hg (by rw [hnl, hm]) (cells_at (hr.sat hsat.head_of) hdr htk) (by rw [hnl]; simpa using hfit) (by simpa using h1)
  rw [hnl] at hrun
  exact ⟨_, _, _, .inl (by simp [execOp, resolve, invoke, builtin, ha.ev hv, ha.ev hx, hrun]; rfl), ⟨rfl, rfl⟩, hs2, setRow_old w g _⟩
/-- clear(x) -/
theorem OpOk.clearB {t e g o n c : Nat} {x : Operand} {l : List Value} {L1 : List HProp} [hu : Und P t (.slice e)] {z : Value} [hz : Zer P e z]
    (hx : ev E x = some (.slice (some ⟨g, o, none⟩) n c)) (ht : Take (bl g e l) L L1) (hzc : z.cells = #[z]) (h1 : z.oneCell' = true) (hn : 0 < n) (hfit : o + n ≤ l.length) :
    OpOk P n' (.call { callee := .builtin .clear, args := ⟨[x]⟩, argTypes := ⟨[t]⟩ }) ty E L (fun v' L' => L' = bl g e (l.take o ++ List.replicate n z ++ l.drop (o + n)) :: L1) := by
  unfold OpOk
  intro d ps af gd a w ha X hsat
  have hs1 := (ht.app X).sat hsat
  obtain ⟨hg, hs2⟩ := sat_setRow (l' := l.take o ++ List.replicate n z ++ l.drop (o + n)) hs1
  have hzr : (Builtin.zeroCells z.cells n).toList = List.replicate n z := by
    rw [hzc]
    simp [Builtin.zeroCells]
    apply List.ext_getElem
    · simp
    · intro i h1 h2
      simp [Nat.mod_one]
  have hst := run_storeCells_at P g o e (List.replicate n z) 0 ⟨l⟩ w hg (by simpa using hfit) (by intro v hv'; rw [List.eq_of_mem_replicate hv']; exact h1)
  simp only [Nat.add_zero, List.length_replicate] at hst
  have hzv := hz.h
  obtain ⟨m, rfl⟩ : ∃ m, n = m + 1 := ⟨n - 1, by omega⟩
  have hrun : (Builtin.clear_ #[t] ty #[.slice (some ⟨g, o, none⟩) (m + 1) c]).run P w = .ok (.tuple #[]) (w.setRow g ⟨l.take o ++ List.replicate (m + 1) z ++ l.drop (o + (m + 1))⟩) := by
    simp [Builtin.clear_, run_underlying hu.h, hzv, hzr, hst]
  exact ⟨_, _, _, .inl (by simp [execOp, resolve, invoke, builtin, ha.ev hx, hrun]; rfl), rfl, hs2, setRow_old w g _⟩
/-- x[i:j:k] -/
theorem OpV.sl3 {t e sz : Nat} {x lo hi mx : Operand} {ad : Option Addr} {len cap i j k : Nat} {k1 k2 k3 : IntKind} [hu : Und P t (.slice e)] [hs : Siz P e sz] (hx : ev E x = some (.slice ad len cap)) (hl : ev E lo = some (.int k1 (i : Int))) (hh : ev E hi = some (.int k2 (j : Int))) (hm : ev E mx = some (.int k3 (k : Int)))
    (h1 : i ≤ j) (h2 : j ≤ k) (h3 : k ≤ cap) : ∃ v, OpV P n' (.slice t x (some lo) (some hi) (some mx)) ty E L v := by
  refine ⟨.slice (if k = i then ad else ad.map (·.add (i * sz))) (j - i) (k - i), ?_⟩
  unfold OpV
  intro d ps af gd a w ha _
  have hb : ∀ (kd : IntKind) (x y : Nat) (c : BoundsCode), x ≤ y → (Instr.sliceBound (.int kd (x : Int)) y c).run P w = .ok x w := fun kd x y c hxy => by
    unfold Instr.sliceBound
    simp only [asIntOf, Sem.run_bind, Sem.run_pure, Result.andThen_ok]
    rw [if_pos ⟨by omega, by omega⟩]
    rfl
  simp [execOp, ha.ev hx, ha.ev hl, ha.ev hh, ha.ev hm, Instr.sliceAt, Instr.slice, run_underlying hu.h, Instr.sliceBounds, hs.h, hb k3 k cap _ h3, hb k2 j k _ h2, hb k1 i j _ h1]
end rules
end Go.Proofs.YtalgmlhcbilicaaDoor
