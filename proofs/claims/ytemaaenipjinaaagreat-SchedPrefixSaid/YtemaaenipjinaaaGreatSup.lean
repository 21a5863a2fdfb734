/-
  Rules.
-/
import Derived.Test.YtemaaenipjinaaaGreatFs
section
namespace Go.Proofs.YtemaaenipjinaaaGreat

section control
variable {P : Program} {C : Cx} {k : List Item} {E : Env} {L : List HProp}

end control

section region
variable {P : Program} {C : Cx} {k : List Item} {E : Env} {L : List HProp} {ops : Array Oper}

end region

section draw
variable {P : Program} {ops : Array Oper} {Q : Exit → Act → World → Prop} {S : World → Prop} {bs : List Nat}

end draw

section picks
variable {P : Program} {ops : Array Oper} {Q : Exit → Act → World → Prop} {S : World → Prop} {bs : List Nat}
end picks

section drawn
variable {P : Program} {C : Cx} {k : List Item} {E : Env} {L L0 : List HProp} {T : Then} {ops : Array Oper} {r : List (Nat × Nat)} {i : Nat}

end drawn

section rules
variable {P : Program} {n' : Fi} {E : Env} {L : List HProp} {ty : TypeId}

end rules

section slices
variable {P : Program} {n' : Fi} {E : Env} {L : List HProp} {ty : TypeId}

end slices

section assoc
variable {κ β : Type} [DecidableEq κ]
end assoc
section maps
variable {P : Program} {n' : Fi} {E : Env} {L : List HProp} {ty : TypeId} {κ β : Type} [DecidableEq κ] {enc : κ → Value} {f : β → Value} {z : β}
/-- the map at b holds k by an entry of stamp st -/
def MpS (b : Nat) (enc : κ → Value) (f : β → Value) (m : List (κ × β)) (k : κ) (st : Int) : HProp := fun h => ∃ es ck j x e, MapIs enc f m es ck ∧ es[j]? = some e ∧ (e.born : Int) = st ∧ mget m k = some x ∧
  (∀ y, (es.modify j fun e => { e with val := f y }).map (fun e => (e.key, e.val)) = (mput m k y).map (fun p => (enc p.1, f p.2))) ∧ pt b (.map ⟨es⟩ ck) h
theorem modify_same {es : List MapEntry} {j : Nat} {e : MapEntry} {k : Value} (h : es[j]? = some e) (hk : e.key = k) : (es.modify j fun e => { e with key := k }) = es := by
  induction es generalizing j with
  | nil => simp at h
  | cons x es ih =>
    cases j with
    | zero => simp at h; subst h; subst hk; simp
    | succ j => simp at h; simp [ih h]
theorem modify_two {es : List MapEntry} {j : Nat} {e : MapEntry} {k v : Value} (h : es[j]? = some e) (hk : e.key = k) : (es.modify j fun e => { e with key := k, val := v }) = es.modify j fun e => { e with val := v } := by
  induction es generalizing j with
  | nil => simp at h
  | cons x es ih =>
    cases j with
    | zero => simp at h; subst h; subst hk; simp
    | succ j => simp at h; simp [ih h]
theorem modify_last (g : MapEntry → MapEntry) (x : MapEntry) : ∀ es : List MapEntry, (es ++ [x]).modify es.length g = es ++ [g x]
  | [] => by simp
  | e :: es => by simp [modify_last g x es]
theorem mget_app {m : List (κ × β)} {k : κ} {x : β} (h : mget m k = none) : mget (m ++ [(k, x)]) k = some x := by
  induction m with
  | nil => simp [mget]
  | cons p m ih =>
    obtain ⟨a, y⟩ := p
    by_cases hak : a = k
    · simp [mget, hak] at h
    · simp only [mget, hak, if_false] at h
      simp [mget, hak, ih h]
theorem OpOk.mapEntry {t : TypeId} {x y : Operand} {b : Nat} {k : κ} {m : List (κ × β)} {L1 : List HProp} [hm : MapTy P t κ β enc f z] (hx : ev E x = some (.map (some b))) (hy : ev E y = some (enc k)) (ht : Take (Mp b enc f m) L L1) :
    OpOk P n' (.mapEntry t x y) ty E L (fun v' L' => ∃ st, v' = .tuple ⟨[f ((mget m k).getD z), .int .i64 st]⟩ ∧ L' = MpS b enc f (if (mget m k).isSome then m else mput m k z) k st :: L1) := by
  unfold OpOk
  intro d ps af g a w ha X hs
  obtain ⟨kt, et, h1, h3, h4, h5, h6⟩ := hm.h
  obtain ⟨es, ck, hmi, hs1⟩ := Mp.open ((ht.app X).sat hs)
  have hb : hpOf w b = some (.map ⟨es⟩ ck) := (Reads.here Rd.pt).sat hs1
  have hb' : w.heap[b]? = some (.map ⟨es⟩ ck) := hb
  have hck := h4 false 9998 k w
  have shut : ∀ {m' : List (κ × β)} {es' : List MapEntry} {ck' j : Nat} {x' : β} {e' : MapEntry} {h : Hp}, MapIs enc f m' es' ck' → es'[j]? = some e' → mget m' k = some x' →
      (∀ y, (es'.modify j fun e => { e with val := f y }).map (fun e => (e.key, e.val)) = (mput m' k y).map (fun p => (enc p.1, f p.2))) → Sat (pt b (.map ⟨es'⟩ ck') :: (L1 ++ X)) h → Sat (MpS b enc f m' k (e'.born : Int) :: (L1 ++ X)) h := by
    intro m' es' ck' j x' e' h a1 a2 a3 a4 hs
    rw [sat_cons] at hs ⊢
    obtain ⟨p1, p2, hd, hu, hp, hX⟩ := hs
    exact ⟨p1, p2, hd, hu, ⟨es', ck', j, x', e', a1, a2, rfl, a3, a4, hp⟩, hX⟩
  rcases find_spec (f := f) h3 k m es hmi.kv with ⟨g1, hf⟩ | ⟨j, x', e', g1, hf, g3, g4, g5, g6, g7⟩
  · have hf := hf w
    have hrun : (Instr.mapEntry t (.map (some b)) (enc k)).run P w = .ok (.tuple #[f z, goInt ck]) { w with heap := w.heap.setIfInBounds b (.map ⟨es ++ [{ key := enc k, val := f z, born := ck }]⟩ (ck + 1)) } := by
      simp only [Instr.mapEntry, Sem.run_bind, run_underlying h1, Result.andThen_ok, getObj, Sem.run, hb', Sem.run_pure, hck, hf, setObj, h6]
      simp
    have hpu := hmi.push g1 z
    refine ⟨.tuple ⟨[f z, .int .i64 (ck : Int)]⟩, _, MpS b enc f (mput m k z) k (ck : Int) :: L1, .inl ?_, ⟨(ck : Int), by rw [g1]; rfl, by rw [g1]; rfl⟩,
      shut (j := es.length) (e' := { key := enc k, val := f z, born := ck }) hpu (by simp) (by rw [mput_new m k z g1]; exact mget_app g1) (fun y => ?_) (sat_setObj hs1).2, ⟨rfl, rfl, rfl⟩⟩
    · simp [execOp, ha.ev hx, ha.ev hy, hrun, goInt]
    · have hk2 := hmi.kv
      have hput : mput (mput m k z) k y = m ++ [(k, y)] := by
        rw [mput_new m k z g1]
        clear hpu hk2 hf hmi ht shut
        induction m with
        | nil => simp [mput]
        | cons p m ih =>
          obtain ⟨a, u⟩ := p
          by_cases hak : a = k
          · simp [mget, hak] at g1
          · simp only [mget, hak, if_false] at g1
            simp [mput, hak, ih g1]
      rw [hput, List.map_append, ← hk2]
      simp [modify_last]
  · have hf := hf w
    have hj : (⟨es⟩ : Array MapEntry)[0 + j]? = some e' := by simpa using g3
    have hkt : (Instr.keyThatStays (enc k) (enc k)).run P w = .ok (enc k) w := by simp [Instr.keyThatStays, h5]
    have hms := modify_same g3 g4
    have hrun : (Instr.mapEntry t (.map (some b)) (enc k)).run P w = .ok (.tuple #[f x', goInt e'.born]) { w with heap := w.heap.setIfInBounds b (.map ⟨es⟩ ck) } := by
      simp only [Instr.mapEntry, Sem.run_bind, run_underlying h1, Result.andThen_ok, getObj, Sem.run, hb', Sem.run_pure, hck, hf, setObj, hj, Option.map_some, Option.getD_some, g4, hkt]
      simp [hms]
    refine ⟨.tuple ⟨[f x', .int .i64 (e'.born : Int)]⟩, _, MpS b enc f m k (e'.born : Int) :: L1, .inl ?_, ⟨(e'.born : Int), by rw [g1]; rfl, by rw [g1]; rfl⟩,
      shut hmi g3 g1 (fun y => ?_) (sat_setObj hs1).2, ⟨rfl, rfl, rfl⟩⟩
    · simp [execOp, ha.ev hx, ha.ev hy, hrun, goInt]
    · rw [← modify_two g3 g4]; exact g6 y
theorem find_born {es : List MapEntry} {j : Nat} {e : MapEntry} (hb : (es.map (·.born)).Pairwise (· < ·)) (h : es[j]? = some e) : es.findIdx? (fun x => (x.born : Int) == (e.born : Int)) = some j := by
  induction es generalizing j with
  | nil => simp at h
  | cons x es ih =>
    simp only [List.map_cons, List.pairwise_cons] at hb
    cases j with
    | zero => simp at h; subst h; rw [List.findIdx?_cons]; simp
    | succ j =>
      simp at h
      have hlt := hb.1 e.born (List.mem_map_of_mem (List.mem_of_getElem? h))
      have hne : ((x.born : Int) == (e.born : Int)) = false := by simp; omega
      rw [List.findIdx?_cons, hne]
      simp [ih hb.2 h]
theorem OpOk.entryStore {t : TypeId} {x s v : Operand} {b : Nat} {k : κ} {u : β} {st : Int} {m : List (κ × β)} {L1 : List HProp} [_hm : MapTy P t κ β enc f z] (hx : ev E x = some (.map (some b))) (hst : ev E s = some (.int .i64 st)) (hv : ev E v = some (f u)) (ht : Take (MpS b enc f m k st) L L1) :
    OpOk P n' (.entryStore t x s v) ty E L (fun v' L' => v' = undef ∧ L' = Mp b enc f (mput m k u) :: L1) := by
  unfold OpOk
  intro d ps af g a w ha X hs
  have hs0 := (ht.app X).sat hs
  have hs1 : ∃ es ck j x e, MapIs enc f m es ck ∧ es[j]? = some e ∧ (e.born : Int) = st ∧ mget m k = some x ∧ (∀ y, (es.modify j fun e => { e with val := f y }).map (fun e => (e.key, e.val)) = (mput m k y).map (fun p => (enc p.1, f p.2))) ∧ Sat (pt b (.map ⟨es⟩ ck) :: (L1 ++ X)) (hpOf w) := by
    rw [sat_cons] at hs0
    obtain ⟨p1, p2, hd, hu, ⟨es, ck, j, x', e', a1, a2, a3, a4, a5, hp⟩, hX⟩ := hs0
    exact ⟨es, ck, j, x', e', a1, a2, a3, a4, a5, sat_cons.2 ⟨p1, p2, hd, hu, hp, hX⟩⟩
  obtain ⟨es, ck, j, x', e', hmi, g3, rfl, g1, g6, hs1⟩ := hs1
  have hb : hpOf w b = some (.map ⟨es⟩ ck) := (Reads.here Rd.pt).sat hs1
  have hb' : w.heap[b]? = some (.map ⟨es⟩ ck) := hb
  have hfi := find_born hmi.born g3
  have hfi' : (⟨es⟩ : Array MapEntry).findIdx? (fun x => (x.born : Int) == (e'.born : Int)) = some j := by rw [← hfi]; simp
  have hrun : (Instr.entryStore t (.map (some b)) (.int .i64 (e'.born : Int)) (f u)).run P w = .ok () { w with heap := w.heap.setIfInBounds b (.map ⟨es.modify j fun e => { e with val := f u }⟩ ck) } := by
    simp only [Instr.entryStore, Sem.run_bind, Result.andThen_ok, getObj, Sem.run, hb', Sem.run_pure, asInt, asIntOf, setObj, hfi']
    simp
  refine ⟨undef, _, _, .inr ⟨?_, rfl⟩, ⟨rfl, rfl⟩, Mp.shut (hmi.turn (g := fun e => { e with val := f u }) (fun _ => rfl) (g6 u) (mput_keys m k u x' g1)) (sat_setObj hs1).2, ⟨rfl, rfl, rfl⟩⟩
  simp [execOp, ha.ev hx, ha.ev hst, ha.ev hv, hrun]
end maps
section mapRange
variable {P : Program} {n' : Fi} {E : Env} {L : List HProp} {ty : TypeId} {κ β : Type} {enc : κ → Value} {f : β → Value} {z : β}
end mapRange
section strs
variable {P : Program} {n' : Fi} {E : Env} {L : List HProp} {ty : TypeId}
end strs

section idx
variable {P : Program} {n' : Fi} {E : Env} {L : List HProp} {ty : TypeId}
end idx

section rounds
variable {P : Program} {ro : Option Nat} {nt : Fi} {w0 : World} {ops : Array Oper} {Q : Exit → Act → World → Prop} {E : Env} {L : List HProp} {rest : List Oper} {ps : String} {af : Array Edge} {op : Op} {ty : TypeId}
end rounds
section clos
variable {P : Program} {n' : Fi} {E : Env} {L : List HProp} {ty : TypeId}
end clos

section auto
variable {P : Program} {C : Cx} {E : Env} {L : List HProp} {n : Fi} {op : Op} {ty : TypeId} {v : Value} {Φ : Value → List HProp → Prop}
section rules
variable {k : List Item} {ops : Array Oper} {rest : List Oper} {ps : String} {af : Array Edge} {L0 L1 : List HProp} {T : Then} {r : List (Nat × Nat)} {i j t : Nat} {ι : Sort _} {d : Tmp} {e : Option Tmp} {g : FuncId} {vs : Array Value} {M F1 : List HProp} {vf : ι → Value} {Lf : ι → List HProp} {m te : Nat} {La : Option Addr → Nat → List HProp} {news : List Value} {u want : Bool} {p q : Prop}
end rules
end auto

section walks
variable {X Y A B : Prop}
variable {P : Program} {g : FuncId} {vs : Array Value} {M : List HProp} {v : Value} {Φ : Value → List HProp → Prop}
end walks

end Go.Proofs.YtemaaenipjinaaaGreat
end
section
namespace Go.Proofs.YtemaaenipjinaaaGreat
instance : Und Tryz.prog 121 (.array 3 3) := ⟨Tryz.underlying121⟩
instance : Zer Tryz.prog 121 (.agg #[.int .i64 0, .int .i64 0, .int .i64 0]) := ⟨Tryz.zeroValue121⟩
end Go.Proofs.YtemaaenipjinaaaGreat
end
