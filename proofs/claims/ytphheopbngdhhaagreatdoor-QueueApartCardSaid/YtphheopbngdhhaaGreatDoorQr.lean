/-
  Runs, step by step, over values that are not known.
-/
import Derived.Test.YtphheopbngdhhaaGreatDoorMt
namespace Go.Proofs.YtphheopbngdhhaaGreatDoor
set_option maxRecDepth 100000
section steps
variable {code : List Ins} {fuel : Int} {k : Nat} {m m' : Rm} {i : Ins}
theorem run_step (he : m.ended = false) (hf : m.steps < fuel) (hi : getIns code m.pc = some i) (hs : m.go i = (m', 0)) : runGo code fuel (k + 1) m = runGo code fuel k m' := by
  show (match m.ended with | true => some (m, true) | false => if fuel ≤ m.steps then some ({ m with code := 41, val := 0 }, false) else match getIns code m.pc with | none => none | some i => if (m.go i).2 = 0 then runGo code fuel k (m.go i).1 else some ({ (m.go i).1 with code := (m.go i).2 }, false)) = _
  rw [he]
  dsimp only
  rw [if_neg (by omega), hi]
  dsimp only
  rw [hs, if_pos rfl]
theorem run_fin (he : m.ended = true) : runGo code fuel (k + 1) m = some (m, true) := by
  show (match m.ended with | true => some (m, true) | false => if fuel ≤ m.steps then some ({ m with code := 41, val := 0 }, false) else match getIns code m.pc with | none => none | some i => if (m.go i).2 = 0 then runGo code fuel k (m.go i).1 else some ({ (m.go i).1 with code := (m.go i).2 }, false)) = _
  rw [he]
theorem run_err {e : Int} (he : m.ended = false) (hf : m.steps < fuel) (hi : getIns code m.pc = some i) (hs : m.go i = (m', e)) (h0 : e ≠ 0) : runGo code fuel (k + 1) m = some ({ m' with code := e }, false) := by
  show (match m.ended with | true => some (m, true) | false => if fuel ≤ m.steps then some ({ m with code := 41, val := 0 }, false) else match getIns code m.pc with | none => none | some i => if (m.go i).2 = 0 then runGo code fuel k (m.go i).1 else some ({ (m.go i).1 with code := (m.go i).2 }, false)) = _
  rw [he]
  dsimp only
  rw [if_neg (by omega), hi]
  dsimp only
  rw [hs, if_neg h0]
/-- an instruction that is begun, and counted -/
def Rm.up (m : Rm) : Rm := { m with steps := m.steps + 1, pc := m.pc + 1 }
theorem go_op (m : Rm) (i : Ins) : m.go i = Rm.step i { m with steps := m.steps + 1 } := rfl
theorem go_root (ho : i.op = 9) (hk : m.reg i.b < 16) : m.go i = ({ m.up with regs := m.regs.set i.a.toNat (m.roots.getD (m.reg i.b) 0) }, 0) := by
  rw [go_op]
  unfold Rm.step
  rw [if_neg (by omega), if_neg (by omega), if_neg (by omega), if_neg (by omega), if_neg (by omega), if_pos (by omega)]
  unfold Rm.root
  rw [if_neg (by show ¬16 ≤ m.reg i.b; omega), if_pos ho]
  rfl
theorem go_putroot (ho : i.op = 10) (hk : m.reg i.b < 16) (hp : m.dw + 1 ≤ m.wr) : m.go i = ({ m.up with dw := m.dw + 1, roots := m.roots.set (m.reg i.b) (m.reg i.a) }, 0) := by
  rw [go_op]
  unfold Rm.step
  rw [if_neg (by omega), if_neg (by omega), if_neg (by omega), if_neg (by omega), if_neg (by omega), if_pos (by omega)]
  unfold Rm.root
  have hc : costs i.op = 1 := by unfold costs; rw [if_pos (by omega)]
  have hpay : Rm.pay i.op ({ m with steps := m.steps + 1 } : Rm).tick = ({ m.up with dw := m.dw + 1 }, 0) := by
    unfold Rm.pay
    rw [hc, if_neg (by show ¬ m.wr - m.dw < 1; omega)]
    rfl
  rw [if_neg (by show ¬16 ≤ m.reg i.b; omega), if_neg (by omega), hpay, if_neg (by simp)]
  rfl
theorem go_read {bk : List Nat} (ho : i.op = 11) (hg : mget m.blocks ((m.reg i.b : Nat) : Int) = some bk) (hw : i.imm < 8) : m.go i = ({ m.up with regs := m.regs.set i.a.toNat (bk.getD i.imm 0) }, 0) := by
  rw [go_op]
  unfold Rm.step
  rw [if_neg (by omega), if_neg (by omega), if_neg (by omega), if_neg (by omega), if_neg (by omega), if_neg (by omega), if_pos (by omega)]
  unfold Rm.word Rm.word2
  rw [if_neg (by omega)]
  rw [show mget ({ m with steps := m.steps + 1 } : Rm).tick.blocks ((({ m with steps := m.steps + 1 } : Rm).tick.reg i.b : Nat) : Int) = some bk from hg]
  dsimp only
  rw [if_neg (by omega), if_pos (by omega)]
  rfl
theorem go_write {bk : List Nat} (ho : i.op = 13) (hg : mget m.blocks ((m.reg i.b : Nat) : Int) = some bk) (hw : i.imm < 8) (hp : m.dw + 1 ≤ m.wr) : m.go i = ({ m.up with dw := m.dw + 1, blocks := mput m.blocks ((m.reg i.b : Nat) : Int) (bk.set i.imm (m.reg i.a)) }, 0) := by
  rw [go_op]
  unfold Rm.step
  rw [if_neg (by omega), if_neg (by omega), if_neg (by omega), if_neg (by omega), if_neg (by omega), if_neg (by omega), if_pos (by omega)]
  unfold Rm.word Rm.word2
  rw [if_neg (by omega)]
  rw [show mget ({ m with steps := m.steps + 1 } : Rm).tick.blocks ((({ m with steps := m.steps + 1 } : Rm).tick.reg i.b : Nat) : Int) = some bk from hg]
  dsimp only
  have hc : costs i.op = 1 := by unfold costs; rw [if_pos (by omega)]
  have hpay : Rm.pay i.op ({ m with steps := m.steps + 1 } : Rm).tick = ({ m.up with dw := m.dw + 1 }, 0) := by
    unfold Rm.pay
    rw [hc, if_neg (by show ¬ m.wr - m.dw < 1; omega)]
    rfl
  rw [if_neg (by omega), if_neg (by omega), hpay, if_neg (by simp)]
  rfl
theorem go_new {sp : Nat} {rest : List Nat} (ho : i.op = 15) (hk : m.pick = sp :: rest) (hg : mget m.blocks (sp : Int) = none) (h0 : sp ≠ 0) (h1 : sp ≤ 64) (hp : m.dw + 9 ≤ m.wr) :
    m.go i = ({ m.up with dw := m.dw + 9, pick := rest, blocks := mput m.blocks (sp : Int) zero8, news := m.news ++ [sp], regs := m.regs.set i.a.toNat sp }, 0) := by
  rw [go_op]
  unfold Rm.step
  rw [if_neg (by omega), if_neg (by omega), if_neg (by omega), if_neg (by omega), if_neg (by omega), if_neg (by omega), if_neg (by omega), if_pos ho]
  have hc : costs i.op = 9 := by unfold costs; rw [if_neg (by omega), if_neg (by omega), if_pos ho]
  have hpay : Rm.pay i.op ({ m with steps := m.steps + 1 } : Rm).tick = ({ m.up with dw := m.dw + 9 }, 0) := by
    unfold Rm.pay
    rw [hc, if_neg (by show ¬ m.wr - m.dw < 9; omega)]
    rfl
  unfold Rm.fresh
  rw [hpay, if_neg (by simp)]
  rw [show ({ m.up with dw := m.dw + 9 } : Rm).pick = sp :: rest from hk]
  dsimp only
  rw [show mget m.up.blocks (sp : Int) = none from hg]
  rw [if_neg (by simp), if_neg (by omega)]
  rfl
theorem go_free {bk : List Nat} (ho : i.op = 16) (hg : mget m.blocks ((m.reg i.a : Nat) : Int) = some bk) (hp : m.dw + 2 ≤ m.wr) : m.go i = ({ m.up with dw := m.dw + 2, blocks := mdel m.blocks ((m.reg i.a : Nat) : Int) }, 0) := by
  rw [go_op]
  unfold Rm.step
  rw [if_neg (by omega), if_neg (by omega), if_neg (by omega), if_neg (by omega), if_neg (by omega), if_neg (by omega), if_neg (by omega), if_neg (by omega), if_pos ho]
  have hc : costs i.op = 2 := by unfold costs; rw [if_neg (by omega), if_pos ho]
  have hpay : Rm.pay i.op ({ m with steps := m.steps + 1 } : Rm).tick = ({ m.up with dw := m.dw + 2 }, 0) := by
    unfold Rm.pay
    rw [hc, if_neg (by show ¬ m.wr - m.dw < 2; omega)]
    rfl
  unfold Rm.free
  rw [show mget ({ m with steps := m.steps + 1 } : Rm).tick.blocks ((({ m with steps := m.steps + 1 } : Rm).tick.reg i.a : Nat) : Int) = some bk from hg]
  dsimp only
  rw [hpay, if_neg (by simp)]
  rfl
theorem go_zero (ho : i.op = 18) (hz : m.reg i.a = 0) : m.go i = ({ m.up with pc := i.imm }, 0) := by
  rw [go_op]
  unfold Rm.step
  rw [if_neg (by omega), if_pos ho, if_pos (show ({ m with steps := m.steps + 1 } : Rm).reg i.a = 0 from hz)]
  rfl
theorem go_nonzero (ho : i.op = 18) (hz : m.reg i.a ≠ 0) : m.go i = (m.up, 0) := by
  rw [go_op]
  unfold Rm.step
  rw [if_neg (by omega), if_pos ho, if_neg (show ¬ ({ m with steps := m.steps + 1 } : Rm).reg i.a = 0 from hz)]
  rfl
theorem go_reck {v : Nat} (h0 : 0 ≤ i.op) (ho : i.op ≤ 8) (hv : reckon i m.regs m.args = v) : m.go i = ({ m.up with regs := m.regs.set i.a.toNat v }, 0) := by
  rw [go_op]
  unfold Rm.step
  rw [if_neg (by omega), if_neg (by omega), if_neg (by omega), if_neg (by omega), if_neg (by omega), if_neg (by omega), if_neg (by omega), if_neg (by omega), if_neg (by omega), ← hv]
  rfl
end steps
theorem mget_mput {κ β : Type} [DecidableEq κ] (k k' : κ) (x : β) : ∀ m : List (κ × β), mget (mput m k x) k' = if k = k' then some x else mget m k'
  | [] => by
    unfold mput mget
    split <;> simp [mget]
  | (a, y) :: m => by
    unfold mput
    by_cases h : a = k
    · rw [if_pos h]
      subst h
      unfold mget
      split <;> rfl
    · rw [if_neg h]
      unfold mget
      rw [mget_mput k k' x m]
      by_cases h2 : a = k'
      · rw [if_pos h2, if_pos h2, if_neg (fun e => h (h2.trans e.symm))]
      · rw [if_neg h2, if_neg h2]
theorem mget_mdel_ne {κ β : Type} [DecidableEq κ] {k k' : κ} (h : k ≠ k') : ∀ {m : List (κ × β)}, mget (mdel m k) k' = mget m k'
  | [] => rfl
  | (a, y) :: m => by
    unfold mdel
    by_cases h1 : a = k
    · rw [if_pos h1]
      subst h1
      show mget m k' = if a = k' then some y else mget m k'
      rw [if_neg h]
    · rw [if_neg h1]
      show (if a = k' then some y else mget (mdel m k) k') = if a = k' then some y else mget m k'
      rw [mget_mdel_ne h]
theorem mget_none_of {κ β : Type} [DecidableEq κ] {k : κ} : ∀ {m : List (κ × β)}, k ∉ m.map (·.1) → mget m k = none
  | [], _ => rfl
  | (a, y) :: m, h => by
    show (if a = k then some y else mget m k) = none
    rw [List.map_cons, List.mem_cons] at h
    rw [if_neg (fun e => h (.inl e.symm)), mget_none_of (fun e => h (.inr e))]
theorem mget_mdel_same {κ β : Type} [DecidableEq κ] {k : κ} : ∀ {m : List (κ × β)}, (m.map (·.1)).Nodup → mget (mdel m k) k = none
  | [], _ => rfl
  | (a, y) :: m, h => by
    rw [List.map_cons, List.nodup_cons] at h
    unfold mdel
    by_cases h1 : a = k
    · rw [if_pos h1]
      subst h1
      exact mget_none_of h.1
    · rw [if_neg h1]
      show (if a = k then some y else mget (mdel m k) k) = none
      rw [if_neg h1, mget_mdel_same h.2]
theorem nat64_nat {n : Nat} (h : n < 18446744073709551616) : nat64 (n : Int) = n := by
  unfold nat64; omega
end Go.Proofs.YtphheopbngdhhaaGreatDoor
