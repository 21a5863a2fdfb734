/-
  Package tumblerlaw20: QueueRuns.
-/
import Derived.Test.YtphheopbngdhhaaGreatDoorQx
import Derived.Test.YtphheopbngdhhaaGreatDoorQh
import Derived.Test.YtphheopbngdhhaaGreatDoorSr
namespace Go.Proofs.YtphheopbngdhhaaGreatDoor
set_option maxRecDepth 100000
/-- a queue is decoded as it lies -/
theorem decGo_chn {B : Bks} {b : List Nat} : ∀ (ns : Nds) (k last : Nat) (out : List Nat), Chn B ns → 0 ∉ ns.map (·.1) → ns.length < k → b.getD 3 0 = out.length + ns.length → out.length + ns.length ≤ 64 →
    decGo B b k (headH ns) last out = some (out ++ ns.map (·.2), if ns = [] then last else lastH ns)
  | [], k + 1, last, out, _, _, _, _, _ => by
    unfold decGo
    simp [headH]
  | x :: xs, k + 1, last, out, h, h0, hk, hb, hl => by
    have hx : x.1 ≠ 0 := fun e => h0 (by rw [List.map_cons, e]; exact List.mem_cons_self ..)
    have hlen : (x :: xs).length = xs.length + 1 := rfl
    unfold decGo
    rw [show headH (x :: xs) = x.1 from rfl, if_neg hx, h.1]
    dsimp only
    rw [if_neg (by omega)]
    have e1 : ([x.2, headH xs, 0, 0, 0, 0, 0, 0] : List Nat).getD 1 0 = headH xs := rfl
    have e0 : ([x.2, headH xs, 0, 0, 0, 0, 0, 0] : List Nat).getD 0 0 = x.2 := rfl
    rw [e1, e0]
    have ih := decGo_chn (b := b) xs k x.1 (out ++ [x.2]) h.2 (fun h => h0 (by rw [List.map_cons]; exact List.mem_cons_of_mem _ h)) (by omega) (by rw [List.length_append, List.length_singleton]; omega) (by rw [List.length_append, List.length_singleton]; omega)
    rw [ih]
    cases xs with
    | nil => simp [lastH]
    | cons y ys => simp [lastH]
theorem decM_rep {m : Ms} {root : Nat} {own : List Nat} {q : Option Qu} (h : Rep m.roots m.blocks root own q) (hr : root < 16) (hs : qSize q ≤ 60) : decM m (root : Int) = (q, if q.isSome then 0 else 4) := by
  unfold decM
  have e : rootOf m.roots (root : Int) = m.roots.getD root 0 := by
    unfold rootOf
    rw [if_neg (by omega), Int.toNat_natCast]
  rw [e]
  cases q with
  | none =>
    rw [h.1, if_pos rfl]
    rfl
  | some q =>
    obtain ⟨hh, ns, _, e2, hq⟩ := h
    have hl : ns.length ≤ 60 := by
      have hs : q.list.length ≤ 60 := hs
      rw [e2, List.length_map] at hs
      exact hs
    have hz : hh ≠ 0 := fun e => hq.nz (by rw [e]; exact List.mem_cons_self ..)
    have hn0 : 0 ∉ ns.map (·.1) := fun e => hq.nz (List.mem_cons_of_mem _ e)
    rw [hq.r, if_neg hz, hq.hb]
    dsimp only
    rw [if_pos (show ([1, headH ns, lastH ns, ns.length, q.cap, 0, 0, 0] : List Nat).getD 0 0 = 1 from rfl)]
    unfold decE
    rw [show ([1, headH ns, lastH ns, ns.length, q.cap, 0, 0, 0] : List Nat).getD 1 0 = headH ns from rfl]
    rw [decGo_chn ns 66 0 [] hq.ch hn0 (by omega) (by show ns.length = _; simp) (by simp; omega)]
    dsimp only
    have hlast : (if ns = [] then 0 else lastH ns) = lastH ns := by
      split
      · next h => rw [h]; rfl
      · rfl
    rw [hlast]
    rw [if_pos ⟨rfl, by simp, hq.lc⟩]
    have : q = ⟨q.cap, ns.map (·.2)⟩ := by
      cases q
      simp at e2
      rw [e2]
    rw [this]
    simp
theorem Rep.own_eq {R : List Nat} {B : Bks} {root : Nat} {own : List Nat} {q : Option Qu} (h : Rep R B root own q) : own.length = match q with
    | none => 0
    | some x => x.list.length + 1 := by
  cases q with
  | none => obtain ⟨_, rfl⟩ := h; rfl
  | some q =>
    obtain ⟨h, ns, rfl, e2, _⟩ := h
    show _ = q.list.length + 1
    rw [e2, List.length_cons, List.length_map, List.length_map]
/-- paths that come together: what they have written over what stood at the fork -/
theorem St.joinE {P : Program} {C : Cx} {k k' : List Item} {E : Env} {L : List HProp} {κ : Type} (mx : κ → Env) (p0 : List HProp) (px : κ → List HProp) {Lr : List HProp} (_ : Takes p0 L Lr)
    (round : (∀ (x : κ) {E' : Env} {L' : List HProp}, Sub E' (mx x ++ E) → Ent L' (px x ++ Lr) → St P C k' E' L') → St P C k E L)
    (after : ∀ x : κ, St P C k' (mx x ++ E) (px x ++ Lr)) : St P C k E L :=
  round fun x _ _ h1 h2 => (after x).conv h1 h2
section guarded
variable {P : Program} {C : Cx} {ops : Array Oper} {L0 : List HProp} {T : Then} {r : List (Nat × Nat)} {k : List Item} {E : Env} {L : List HProp} {i : Nat}
/-- a call that makes memory, guarded, and wanted -/
theorem StD.gcallt2 {op : Op} {ty : TypeId} {ps : String} {af : Array Edge} {d : Option Tmp} {j t : Nat} {b : Bool} {g : FuncId} {vs : Array Value} {L1 F1 : List HProp} {Φ : Value → List HProp → Prop} (hi : ops[i]? = some ⟨d, op, ty, ps, af, some (j, b)⟩) (hj : (ops[j]?).bind (·.dst) = some t) (hb : get E t = some (.bool b))
    (hop : OpC P C.nt op ty E g vs) (ht : Tri P g vs L1 Φ) (qL : Ent L (L1 ++ F1) ∧ inF C.nt d = true)
    (h : ∀ v L', Φ v L' → Ent (L' ++ F1) L0 ∧ StD P C ops L0 T r k (putE E d v) (L' ++ F1)) : StD P C ops L0 T ((i, 2) :: r) k E L := by
  obtain ⟨hL, hd⟩ := qL
  unfold Ent at hL h
  unfold StD at h ⊢
  intro a hp ha hs
  have hy : yielded ops a.tmps j = some b := by
    simp only [yielded, hj, Option.bind_some]
    rw [ha.at_ t _ hb]
  simp only [runA, hi]
  intro w hk hold
  simp only [wpOp, hi, Region.wanted, hy, beq_self_eq_true, if_true]
  refine .inl ?_
  unfold Oper.wp
  unfold OpC at hop
  rw [hop _ _ _ _ a w ha, Oper.upon_enter]
  have hs1 := sat_beside (hL _ hs) hk
  rw [List.append_assoc] at hs1
  unfold Tri at ht
  refine (ht w _ hs1).mono fun e w' ⟨v, L', he, hq, hs', ho'⟩ => ?_
  subst he
  rw [← List.append_assoc] at hs'
  obtain ⟨h', hf, hs2⟩ := frame_beside ho' hs'
  exact ⟨h', hf, ((h v L' hq).1 _ hs2).known hf.known, (h v L' hq).2 _ h' (ha.put hd _) hs2⟩
/-- left out, by its guard -/
theorem StD.skip2 {op : Op} {ty : TypeId} {ps : String} {af : Array Edge} {d : Option Tmp} {j t : Nat} {b want : Bool} (hi : ops[i]? = some ⟨d, op, ty, ps, af, some (j, want)⟩) (hj : (ops[j]?).bind (·.dst) = some t) (hb : get E t = some (.bool b)) (hne : (b == want) = false) (hL : Ent L L0) (hd : inF C.nt d = true)
    (h : StD P C ops L0 T r k (putE E d undef) L) : StD P C ops L0 T ((i, 2) :: r) k E L := by
  unfold Ent at hL
  unfold StD at h ⊢
  intro a hp ha hs
  have hy : yielded ops a.tmps j = some b := by
    simp only [yielded, hj, Option.bind_some]
    rw [ha.at_ t _ hb]
  simp only [runA, hi]
  intro w hk hold
  have hw : Region.wanted ⟨d, op, ty, ps, af, some (j, want)⟩ (yielded ops a.tmps) = false := by
    simp only [Region.wanted, hy]
    cases b <;> cases want <;> simp_all
  simp only [wpOp, hi, hw]
  exact ⟨hp, ⟨hk, Old.refl w, fun b o h1 h2 => ⟨h1, h2⟩⟩, (hL _ hs).known hk, h _ hp (ha.put hd undef) hs⟩
theorem StD.skipu2 {op : Op} {ty : TypeId} {ps : String} {af : Array Edge} {d : Option Tmp} {j t : Nat} {want : Bool} (hi : ops[i]? = some ⟨d, op, ty, ps, af, some (j, want)⟩) (hj : (ops[j]?).bind (·.dst) = some t) (hb : get E t = some undef) (hL : Ent L L0) (hd : inF C.nt d = true)
    (h : StD P C ops L0 T r k (putE E d undef) L) : StD P C ops L0 T ((i, 2) :: r) k E L := by
  unfold Ent at hL
  unfold StD at h ⊢
  intro a hp ha hs
  have hy : yielded ops a.tmps j = none := by
    simp only [yielded, hj, Option.bind_some]
    rw [ha.at_ t _ hb]
    rfl
  simp only [runA, hi]
  intro w hk hold
  have hw : Region.wanted ⟨d, op, ty, ps, af, some (j, want)⟩ (yielded ops a.tmps) = false := by
    simp [Region.wanted, hy]
  simp only [wpOp, hi, hw]
  exact ⟨hp, ⟨hk, Old.refl w, fun b o h1 h2 => ⟨h1, h2⟩⟩, (hL _ hs).known hk, h _ hp (ha.put hd undef) hs⟩
end guarded
structure Opq where
  name : Int
  arg : Nat
abbrev OpB := { o : Opq // o.arg < 18446744073709551616 }
def opbV (o : OpB) : List Value := [.int .i64 o.1.name, .int .u64 (o.1.arg : Int)]
theorem nameM_in {n : Int} (h0 : 0 ≤ n) (h6 : n < 6) : nameM n = nmB n.toNat ∧ n.toNat < 6 := by
  refine ⟨?_, by omega⟩
  unfold nameM
  rw [if_neg (by omega)]
theorem QInv.more {m : Ms} {root : Nat} {q : Option Qu} {own : List Nat} {n : Nat} (h : QInv m root q own n) : QInv m root q own (n + 1) :=
  ⟨h.wf, h.rl, h.rep, h.len, Nat.le_succ_of_le h.n⟩
theorem XuR.cells {q : HProp} {v : Value} {x : Option Qu} (h : XuR q v x) : ∃ (p : Bool) (n : Nat) (ad : Option Addr) (m cap : Nat), v = .agg ⟨[.bool p, .int .u64 (n : Int), .slice ad m cap]⟩ := by
  cases x with
  | none => exact ⟨false, 0, none, 0, 0, h⟩
  | some x =>
    obtain ⟨lv, rfl, hsl⟩ := h
    obtain ⟨ad, cap, rfl⟩ := hsl.val
    exact ⟨true, _, _, _, _, rfl⟩
def rdoesV (H : HProp) (m : Option Qu × Int × Nat) (v : Value) (L : List HProp) : Prop :=
  ∃ (p : Bool) (n : Nat) (ad : Option Addr) (l cap : Nat) (H' : HProp), v = .tuple ⟨[.agg ⟨[.bool p, .int .u64 (n : Int), .slice ad l cap]⟩, .agg ⟨[.int .i64 m.2.1, .int .u64 (m.2.2 : Int)]⟩]⟩ ∧ XuR H' (.agg ⟨[.bool p, .int .u64 (n : Int), .slice ad l cap]⟩) m.1 ∧ (∀ b l, RdC H b l → RdC H' b l) ∧ L = [H']
theorem rdoesQ.v {H : HProp} {m : Option Qu × Int × Nat} {v : Value} {L : List HProp} (h : rdoesQ H m v L) : rdoesV H m v L := by
  obtain ⟨xv', H', rfl, h2, h3, rfl⟩ := h
  obtain ⟨p, n, ad, l, cap, rfl⟩ := h2.cells
  exact ⟨p, n, ad, l, cap, H', rfl, h2, h3, rfl⟩
theorem lsame2_r (H1 H2 : HProp) (pv xv : Value) (q x : Option Qu) (hq : QuR H1 pv q) (hx : XuR H2 xv x) (hln : ∀ y, q = some y → y.list.length ≤ 1000000) : RTri Tryz.prog 19 #[pv, xv] [H1, H2] (.bool (qEq q x)) :=
  (lsame_r (star [H1, H2]) pv xv q x (hq.weak fun b l h => RdC.star (p := H1) (.head _) h) (hx.weak fun b l h => RdC.star (p := H2) (.tail _ (.head _)) h) hln).ent (Ent.star_in [H1, H2] (M := []))
/-- as St.drawT; what is looked at and made lies in L0 -/
theorem St.drawT0 {P : Program} {C : Cx} {k : List Item} {E : Env} {L L0 : List HProp} {id : Nat} {l : List Oper} (acts : List (Nat × Nat)) (T : Then) (bs : List Nat) (hm : P.follows .mixedOrders = true)
    (hok : (Region.noSelect l.toArray && okA l.toArray bs (okT l.toArray bs T true) acts l.toArray.size (Array.replicate l.toArray.size false)) = true)
    (h : StD P C l.toArray L0 T acts k E L) : St P C (.code (.region id l.toArray true) :: k) E L := by
  unfold St
  unfold StD at h
  intro a w ha hs ho
  simp only [Bool.and_eq_true] at hok
  refine fin_of_wp (wp_region_any hm (wpAny_of_anyP (bs := bs) (S := fun w => Sat L0 (hpOf w)) _ _ _ _ ?_))
  exact anyP_of_runK (P := P) (w0 := C.w0) (S := fun w => Sat L0 (hpOf w)) qk_noOut hok.1 (fun w w' hg hs => hg.sat hs) (fun n l a h w hb hd hk ho hr => (anyP_of_runT (w0 := C.w0) qk_noOut hok.1 (fun w w' hg hs => hg.sat hs) T).1 n l a h w hb hd hk ho hr) acts _ _ a (hpOf w) { w with drawn := w.drawn + 1 } hok.2 (Dn.none _) (fun _ _ h => h) ⟨ho.os, ho.tape, ho.output⟩ (h a (hpOf w) ha hs)
end Go.Proofs.YtphheopbngdhhaaGreatDoor
