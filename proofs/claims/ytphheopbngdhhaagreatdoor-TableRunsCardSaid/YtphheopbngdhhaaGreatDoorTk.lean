/-
  What the laws of maps have in common: things that are done.
-/
import Derived.Test.YtphheopbngdhhaaGreatDoorTi
import Derived.Test.YtphheopbngdhhaaGreatDoorTh
namespace Go.Proofs.YtphheopbngdhhaaGreatDoor
set_option maxRecDepth 100000
/-- as St.drawT; what is looked at and made lies in L0 -/
theorem St.drawT0 {P : Program} {C : Cx} {k : List Item} {E : Env} {L L0 : List HProp} {id : Nat} {l : List Oper} (acts : List (Nat × Nat)) (T : Then) (bs : List Nat) (hm : P.follows .mixedOrders = true)
    (hok : (Region.noSelect l.toArray && okA l.toArray bs (okT l.toArray bs T true) acts l.toArray.size (Array.replicate l.toArray.size false)) = true)
    (h : StD P C l.toArray L0 T acts k E L) : St P C (.code (.region id l.toArray true) :: k) E L := by
  unfold St
  unfold StD at h
  intro a w ha hs ho
  simp only [Bool.and_eq_true] at hok
  refine fin_of_wp (wp_region_any hm (wpAny_of_anyP (bs := bs) (S := fun w => Sat L0 (hpOf w)) _ _ _ _ ?_))
  exact anyP_of_runK (P := P) (w0 := C.w0) (S := fun w => Sat L0 (hpOf w)) qk_noOut hok.1 (fun w w' hg hs => hg.sat hs) (fun n l a h w hb hd hk ho hr => (anyP_of_runT (w0 := C.w0) qk_noOut hok.1 (fun w w' hg hs => hg.sat hs) T).1 n l a h w hb hd hk ho hr) acts _ _ a (hpOf w) { w with drawn := w.drawn + 1 } hok.2 (Dn.none _) (fun _ _ h => h) ⟨ho.os, ho.tape, ho.output⟩ (h a (hpOf w) ha hs)
/-- paths that come together: what they have written over what stood at the fork -/
theorem St.joinE {P : Program} {C : Cx} {k k' : List Item} {E : Env} {L : List HProp} {κ : Type} (mx : κ → Env) (p0 : List HProp) (px : κ → List HProp) {Lr : List HProp} (_ : Takes p0 L Lr)
    (round : (∀ (x : κ) {E' : Env} {L' : List HProp}, Sub E' (mx x ++ E) → Ent L' (px x ++ Lr) → St P C k' E' L') → St P C k E L)
    (after : ∀ x : κ, St P C k' (mx x ++ E) (px x ++ Lr)) : St P C k E L :=
  round fun x _ _ h1 h2 => (after x).conv h1 h2
structure Opq where
  name : Int
  key : Nat
  val : Nat
abbrev OpB := { o : Opq // o.key < 18446744073709551616 ∧ o.val < 18446744073709551616 }
def opbV (o : OpB) : List Value := [.int .i64 o.1.name, .int .u64 (o.1.key : Int), .int .u64 (o.1.val : Int)]
theorem nameM_in {n : Int} (h0 : 0 ≤ n) (h6 : n < 6) : nameM n = nmB n.toNat ∧ n.toNat < 6 := by
  refine ⟨?_, by omega⟩
  unfold nameM
  rw [if_neg (by omega)]
end Go.Proofs.YtphheopbngdhhaaGreatDoor
