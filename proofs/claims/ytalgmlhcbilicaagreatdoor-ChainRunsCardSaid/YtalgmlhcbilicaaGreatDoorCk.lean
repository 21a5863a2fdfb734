/-
  What the laws of sets have in common: things that are done, runs of the programs.
-/
import Derived.Test.YtalgmlhcbilicaaGreatDoorCx
import Derived.Test.YtalgmlhcbilicaaGreatDoorCh
import Derived.Test.YtalgmlhcbilicaaGreatDoorSr
namespace Go.Proofs.YtalgmlhcbilicaaGreatDoor
set_option maxRecDepth 100000
/-- as St.drawT; what is looked at and made lies in L0 -/
theorem St.drawT0 {P : Program} {C : Cx} {k : List Item} {E : Env} {L L0 : List HProp} {id : Nat} {l : List Oper} (acts : List (Nat × Nat)) (T : Then) (bs : List Nat) (hm : P.follows .mixedOrders = true)
    (hok : (Region.noSelect l.toArray && okA l.toArray bs (okT l.toArray bs T true) acts l.toArray.size (Array.replicate l.toArray.size false)) = true)
    (h : StD P C l.toArray L0 T acts k E L) : St P C (.code (.region id l.toArray true) :: k) E L := by
  unfold St
  unfold StD at h
  intro a w ha hs ho
  simp only [Bool.and_eq_true] at hok
  refine fin_of_wp (wp_region_any hm (wpAny_of_anyP (bs := bs) (S := fun w => Sat L0 (hpOf w)) _ _ _ _ ?_))
  exact anyP_of_runK (P := P) (w0 := C.w0) (S := fun w => Sat L0 (hpOf w)) qk_noOut hok.1 (fun w w' hg hs => hg.sat hs) (fun n l a h w hb hd hk ho hr => (anyP_of_runT (w0 := C.w0) qk_noOut hok.1 (fun w w' hg hs => hg.sat hs) T).1 n l a h w hb hd hk ho hr) acts _ _ a (hpOf w) { w with drawn := w.drawn + 1 } hok.2 (Dn.none _) (fun _ _ h => h) ⟨ho.os, ho.tape, ho.output⟩ (h a (hpOf w) ha hs)
/-- paths that come together: what they have written over what stood at the fork -/
theorem St.joinE {P : Program} {C : Cx} {k k' : List Item} {E : Env} {L : List HProp} {κ : Type} (mx : κ → Env) (p0 : List HProp) (px : κ → List HProp) {Lr : List HProp} (_ : Takes p0 L Lr)
    (round : (∀ (x : κ) {E' : Env} {L' : List HProp}, Sub E' (mx x ++ E) → Ent L' (px x ++ Lr) → St P C k' E' L') → St P C k E L)
    (after : ∀ x : κ, St P C k' (mx x ++ E) (px x ++ Lr)) : St P C k E L :=
  round fun x _ _ h1 h2 => (after x).conv h1 h2
structure Opq where
  name : Int
  arg : Nat
abbrev OpB := { o : Opq // o.arg < 18446744073709551616 }
def opbV (o : OpB) : List Value := [.int .i64 o.1.name, .int .u64 (o.1.arg : Int)]
theorem nameM_in {n : Int} (h0 : 0 ≤ n) (h7 : n < 7) : nameM n = nmB n.toNat ∧ n.toNat < 7 := by
  refine ⟨?_, by omega⟩
  unfold nameM
  rw [if_neg (by omega)]
theorem QInv.more {m : Ms} {root : Nat} {q : Option Qu} {own : List Nat} {n : Nat} (h : QInv m root q own n) : QInv m root q own (n + 1) :=
  ⟨h.wf, h.rl, h.rep, h.len, Nat.le_succ_of_le h.n⟩
theorem QInv.at {m : Ms} {root : Nat} {q : Option Qu} {own : List Nat} {n n' : Nat} (h : QInv m root q own n) (hn : qSize q ≤ n') : QInv m root q own n' := ⟨h.wf, h.rl, h.rep, h.len, hn⟩
theorem Rep.own_eq {R : List Nat} {B : Bks} {root : Nat} {own : List Nat} {q : Option Qu} (h : Rep R B root own q) : own.length = match q with
    | none => 0
    | some x => x.list.length + 1 := by
  cases q with
  | none => obtain ⟨_, rfl⟩ := h; rfl
  | some q =>
    obtain ⟨h, ns, rfl, e2, _⟩ := h
    show _ = q.list.length + 1
    rw [e2, List.length_cons, List.length_map, List.length_map]
theorem Rep.rising {R : List Nat} {B : Bks} {root : Nat} {own : List Nat} {q : Qu} (h : Rep R B root own (some q)) : q.list.Pairwise (· < ·) := by
  obtain ⟨h, ns, _, e2, hp⟩ := h
  rw [e2]
  exact List.pairwise_map.mpr hp.up
/-- a set is decoded as it lies -/
theorem decGo_chn {B : Bks} : ∀ (ns : Nds) (k : Nat) (out : List Nat), Chn B ns → 0 ∉ ns.map (·.1) → ns.length < k → out.length + ns.length ≤ 64 → (out ++ ns.map (·.2)).Pairwise (· < ·) → decGo B k (headH ns) out = some (out ++ ns.map (·.2))
  | [], k + 1, out, _, _, _, _, _ => by
    unfold decGo
    simp [headH]
  | x :: xs, k + 1, out, h, h0, hk, hl, hp => by
    have hx : x.1 ≠ 0 := fun e => h0 (by rw [List.map_cons, e]; exact List.mem_cons_self ..)
    have hlen : (x :: xs).length = xs.length + 1 := rfl
    unfold decGo
    rw [show headH (x :: xs) = x.1 from rfl, if_neg hx, h.1]
    dsimp only
    have e1 : ([x.2, headH xs, 0, 0, 0, 0, 0, 0] : List Nat).getD 1 0 = headH xs := rfl
    have e0 : ([x.2, headH xs, 0, 0, 0, 0, 0, 0] : List Nat).getD 0 0 = x.2 := rfl
    rw [e1, e0]
    have hlast : ∀ (l : List Nat) (y : Nat), l ≠ [] → (∀ z ∈ l, z < y) → l.getLastD 0 < y := fun l y hne hz => by
      rw [List.getLastD_eq_getLast?, List.getLast?_eq_some_getLast hne]
      exact hz _ (List.getLast_mem hne)
    have hlt : out ≠ [] → out.getLastD 0 < x.2 := fun hne => hlast out x.2 hne fun z hz => (List.pairwise_append.mp hp).2.2 z hz x.2 (by simp)
    rw [if_neg (fun h => h.elim (fun h => by omega) fun h => by have := hlt h.1; omega)]
    have ih := decGo_chn (B := B) xs k (out ++ [x.2]) h.2 (fun h => h0 (by rw [List.map_cons]; exact List.mem_cons_of_mem _ h)) (by omega) (by rw [List.length_append, List.length_singleton]; omega) (by rw [List.append_assoc]; exact hp)
    rw [ih]
    simp
theorem decM_rep {m : Ms} {root : Nat} {own : List Nat} {q : Option Qu} (h : Rep m.roots m.blocks root own q) (hr : root < 16) (hs : qSize q ≤ 60) : decM m (root : Int) = (q, if q.isSome then 0 else 4) := by
  unfold decM
  have e : rootOf m.roots (root : Int) = m.roots.getD root 0 := by
    unfold rootOf
    rw [if_neg (by omega), Int.toNat_natCast]
  rw [e]
  cases q with
  | none =>
    rw [h.1, if_pos rfl]
    rfl
  | some q =>
    obtain ⟨hh, ns, _, e2, hq⟩ := h
    have hl : ns.length ≤ 60 := by
      have hs : q.list.length ≤ 60 := hs
      rw [e2, List.length_map] at hs
      exact hs
    have hz : hh ≠ 0 := fun e => hq.nz (by rw [e]; exact List.mem_cons_self ..)
    have hn0 : 0 ∉ ns.map (·.1) := fun e => hq.nz (List.mem_cons_of_mem _ e)
    rw [hq.r, if_neg hz, hq.hb]
    dsimp only
    rw [if_pos (show ([2, headH ns, ns.length, q.cap, 0, 0, 0, 0] : List Nat).getD 0 0 = 2 from rfl)]
    unfold decE
    rw [show ([2, headH ns, ns.length, q.cap, 0, 0, 0, 0] : List Nat).getD 1 0 = headH ns from rfl]
    rw [decGo_chn ns 66 [] hq.ch hn0 (by omega) (by simp; omega) (by rw [List.nil_append]; exact List.pairwise_map.mpr hq.up)]
    dsimp only
    rw [if_pos ⟨by simp, hq.lc⟩]
    have : q = ⟨q.cap, ns.map (·.2)⟩ := by
      cases q
      simp at e2
      rw [e2]
    rw [this]
    simp
/-- a run of a program, in a state that holds the set -/
theorem run_of (S : Nat) {m : Ms} {root : Nat} {q : Option Qu} {own : List Nat} {n : Nat} (h : QInv m root q own n) (hn : n < 50) (k arg : Nat) (hk : k < 7) (hr : root < 16) (ha : arg < 18446744073709551616) {q' : Option Qu} {c : Int} {v : Nat} (hd : doesM k q arg = (q', c, v)) :
    ∃ (m' : Ms) (own' : List Nat) (st dw : Int) (nl : Nat), QInv m' root q' own' (n + 1) ∧ Tri Tryz.prog 14 #[.pointer (some ⟨S, 0, none⟩), bs (nmB k), .int .u64 (root : Int), .int .u64 (arg : Int)] [MsE S m]
      fun val L => ∃ nad ncap, val = .agg ⟨[.int .i64 c, .int .u64 (v : Int), .int .i64 st, .int .i64 dw, .slice nad nl ncap]⟩ ∧ L = [MsE S m'] := by
  obtain ⟨r, e, hran, own', hi⟩ := h.step hn k arg hk hr ha
  rw [hd] at hi
  obtain ⟨h1, h2⟩ := hran.res
  rw [hd] at h1 h2
  have hrun := lrun_t S m h.ok k hk root arg r e
  unfold doneV at hrun
  rw [h1, h2] at hrun
  exact ⟨_, own', _, _, _, hi, hrun⟩
end Go.Proofs.YtalgmlhcbilicaaGreatDoor
