/-
  Package table: the reader's rows, by what a key is asked.
-/
import Derived.Test.YtphheopbngdhhaaGreatDoorMo
namespace Go.Proofs.YtphheopbngdhhaaGreatDoor
set_option maxRecDepth 100000
section callv
variable {P : Program} {n' : Fi} {E : Env} {ty : TypeId}
theorem OpC.callv {g : FuncId} {x : Operand} {xs : List Operand} {ats : Array TypeId} {vs caps : List Value} [he : Enters P g] (hx0 : ev E x = some (.func (.func g) ⟨[]⟩ ⟨caps⟩)) (hx : Evs E xs vs) :
    OpC P n' (.call { callee := .value x, args := ⟨xs⟩, argTypes := ats }) ty E g ⟨vs ++ caps⟩ := by
  unfold OpC
  exact (fun _ _ _ _ a w ha => by
    have e := hx.eq ha
    have e3 : ∀ args : Array Value, (callFunc g args).run P w = .ok (.enter g args) w := fun args => he.h args w
    simp [execOp, resolve, invoke, ha.ev hx0, Deferred.ofValue, e3]
    exact e)
end callv
abbrev u64N (n : Nat) : Value := .int .u64 (n : Int)
instance mapSeen : MapTy Tryz.prog 109 Int Nat u64K u64N 0 := MapTy.int (kt := 22) (et := 22) (by kernel_rfl) (by kernel_rfl) (fun w => by rfl)
/-- what is seen: keys and numbers -/
abbrev Seen := List (Int × Nat)
set_option maxHeartbeats 1000000 in
theorem b64_r (Bn Bi Br n i g key : Nat) (caps : List Value) (q : HProp) [Enters Tryz.prog g] (hn : 0 < n) (hk : key % n = i) (hq : RTri Tryz.prog g ⟨.int .u64 (key : Int) :: caps⟩ [q] (.bool true)) :
    RTri Tryz.prog 70 #[.int .u64 (key : Int), .pointer (some ⟨Bn, 0, none⟩), .pointer (some ⟨Bi, 0, none⟩), .pointer (some ⟨Br, 0, none⟩)] [bl Bn 22 [.int .u64 (n : Int)], bl Bi 22 [.int .u64 (i : Int)], bl Br 113 [.func (.func g) ⟨[]⟩ ⟨caps⟩], q] (.bool true) := by
  refine RTri.of_reads fun p hp => ?_
  have hk' : (key : Int) % (n : Int) = (i : Int) := by rw [← hk]; rfl
  have hn' : (0 : Int) < (n : Int) := by omega
  have r1 : RdC p Bn [.int .u64 (n : Int)] := RdC.of_sat hp (.here RdC.bl)
  have r2 : RdC p Bi [.int .u64 (i : Int)] := RdC.of_sat hp (.there (.here RdC.bl))
  have r3 : RdC p Br [.func (.func g) ⟨[]⟩ ⟨caps⟩] := RdC.of_sat hp (.there (.there (.here RdC.bl)))
  refine Tri.of_body (vs := [_, _, _, _]) Tryz.func70 rfl rfl fun w0 F => ?_
  apply St.seq
  iterate 14 (first | refine Ga ?_ | (refine Gb ?_; intro b) | (refine Gd ?_; intro g cap rest hcap) | (refine Gc ?_; intro ad cap) | (refine St.draw (id := 1) [(0, 0), (1, 1), (2, 0), (3, 1), (4, 0), (5, 0), (6, 1), (7, 0), (8, 1), (9, 0), (10, 0)] [] mixed (by kernel_rfl) ?_) | (refine Ge ?_ ?_ <;> (intro h; try (exfalso; omega))) | fail)
  refine Kc rfl Oj (OpC.callv (by rfl) Evs.go) (hq.of_read (p := p) fun k h => (hp k h).tail.tail.tail) Oi ?_
  repeat' (first | refine Ga ?_ | (refine Gb ?_; intro b) | (refine Gd ?_; intro g cap rest hcap) | (refine Gc ?_; intro ad cap) | (refine St.draw (id := 1) [(0, 0), (1, 1), (2, 0), (3, 1), (4, 0), (5, 0), (6, 1), (7, 0), (8, 1), (9, 0), (10, 0)] [] mixed (by kernel_rfl) ?_) | (refine Ge ?_ ?_ <;> (intro h; try (exfalso; omega))) | fail)
  all_goals first | (exfalso; omega) | skip
  refine St.d1 Tryz.func70 ⟨_, ⟨rfl, rfl⟩, Ent.go⟩
end Go.Proofs.YtphheopbngdhhaaGreatDoor
