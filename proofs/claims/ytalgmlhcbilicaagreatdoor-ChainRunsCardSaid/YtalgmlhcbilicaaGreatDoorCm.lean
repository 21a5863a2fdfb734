/-
  Rules for guarded calls that make memory.
-/
import Derived.Test.YtalgmlhcbilicaaGreatDoorCk
namespace Go.Proofs.YtalgmlhcbilicaaGreatDoor
set_option maxRecDepth 100000
section guarded
variable {P : Program} {C : Cx} {ops : Array Oper} {L0 : List HProp} {T : Then} {r : List (Nat × Nat)} {k : List Item} {E : Env} {L : List HProp} {i : Nat}
/-- a call that makes memory, guarded, and wanted -/
theorem StD.gcallt2 {op : Op} {ty : TypeId} {ps : String} {af : Array Edge} {d : Option Tmp} {j t : Nat} {b : Bool} {g : FuncId} {vs : Array Value} {L1 F1 : List HProp} {Φ : Value → List HProp → Prop} (hi : ops[i]? = some ⟨d, op, ty, ps, af, some (j, b)⟩) (hj : (ops[j]?).bind (·.dst) = some t) (hb : get E t = some (.bool b))
    (hop : OpC P C.nt op ty E g vs) (ht : Tri P g vs L1 Φ) (qL : Ent L (L1 ++ F1) ∧ inF C.nt d = true)
    (h : ∀ v L', Φ v L' → Ent (L' ++ F1) L0 ∧ StD P C ops L0 T r k (putE E d v) (L' ++ F1)) : StD P C ops L0 T ((i, 2) :: r) k E L := by
  obtain ⟨hL, hd⟩ := qL
  unfold Ent at hL h
  unfold StD at h ⊢
  intro a hp ha hs
  have hy : yielded ops a.tmps j = some b := by
    simp only [yielded, hj, Option.bind_some]
    rw [ha.at_ t _ hb]
  simp only [runA, hi]
  intro w hk hold
  simp only [wpOp, hi, Region.wanted, hy, beq_self_eq_true, if_true]
  refine .inl ?_
  unfold Oper.wp
  unfold OpC at hop
  rw [hop _ _ _ _ a w ha, Oper.upon_enter]
  have hs1 := sat_beside (hL _ hs) hk
  rw [List.append_assoc] at hs1
  unfold Tri at ht
  refine (ht w _ hs1).mono fun e w' ⟨v, L', he, hq, hs', ho'⟩ => ?_
  subst he
  rw [← List.append_assoc] at hs'
  obtain ⟨h', hf, hs2⟩ := frame_beside ho' hs'
  exact ⟨h', hf, ((h v L' hq).1 _ hs2).known hf.known, (h v L' hq).2 _ h' (ha.put hd _) hs2⟩
/-- left out, by its guard -/
theorem StD.skip2 {op : Op} {ty : TypeId} {ps : String} {af : Array Edge} {d : Option Tmp} {j t : Nat} {b want : Bool} (hi : ops[i]? = some ⟨d, op, ty, ps, af, some (j, want)⟩) (hj : (ops[j]?).bind (·.dst) = some t) (hb : get E t = some (.bool b)) (hne : (b == want) = false) (hL : Ent L L0) (hd : inF C.nt d = true)
    (h : StD P C ops L0 T r k (putE E d undef) L) : StD P C ops L0 T ((i, 2) :: r) k E L := by
  unfold Ent at hL
  unfold StD at h ⊢
  intro a hp ha hs
  have hy : yielded ops a.tmps j = some b := by
    simp only [yielded, hj, Option.bind_some]
    rw [ha.at_ t _ hb]
  simp only [runA, hi]
  intro w hk hold
  have hw : Region.wanted ⟨d, op, ty, ps, af, some (j, want)⟩ (yielded ops a.tmps) = false := by
    simp only [Region.wanted, hy]
    cases b <;> cases want <;> simp_all
  simp only [wpOp, hi, hw]
  exact ⟨hp, ⟨hk, Old.refl w, fun b o h1 h2 => ⟨h1, h2⟩⟩, (hL _ hs).known hk, h _ hp (ha.put hd undef) hs⟩
theorem StD.skipu2 {op : Op} {ty : TypeId} {ps : String} {af : Array Edge} {d : Option Tmp} {j t : Nat} {want : Bool} (hi : ops[i]? = some ⟨d, op, ty, ps, af, some (j, want)⟩) (hj : (ops[j]?).bind (·.dst) = some t) (hb : get E t = some undef) (hL : Ent L L0) (hd : inF C.nt d = true)
    (h : StD P C ops L0 T r k (putE E d undef) L) : StD P C ops L0 T ((i, 2) :: r) k E L := by
  unfold Ent at hL
  unfold StD at h ⊢
  intro a hp ha hs
  have hy : yielded ops a.tmps j = none := by
    simp only [yielded, hj, Option.bind_some]
    rw [ha.at_ t _ hb]
    rfl
  simp only [runA, hi]
  intro w hk hold
  have hw : Region.wanted ⟨d, op, ty, ps, af, some (j, want)⟩ (yielded ops a.tmps) = false := by
    simp [Region.wanted, hy]
  simp only [wpOp, hi, hw]
  exact ⟨hp, ⟨hk, Old.refl w, fun b o h1 h2 => ⟨h1, h2⟩⟩, (hL _ hs).known hk, h _ hp (ha.put hd undef) hs⟩
end guarded
end Go.Proofs.YtalgmlhcbilicaaGreatDoor
