/-
  Runs of the map's programs: more steps, and how runs follow on each other.
-/
import Derived.Test.YtphheopbngdhhaaGreatDoorTt
import Derived.Test.YtphheopbngdhhaaGreatDoorQr
namespace Go.Proofs.YtphheopbngdhhaaGreatDoor
set_option maxRecDepth 100000
abbrev Bks := List (Int × List Nat)
abbrev rT (ar rg : List Nat) (st dw : Nat) (pc : Int) (ro : List Nat) (bl : Bks) (pk nw : List Nat) : Rm := ⟨ar, rg, 200, 0, 0, (st : Int), (dw : Int), pc, false, ro, bl, pk, nw⟩
/-- so many steps lead from one to the other -/
def RGo (code : List Ins) (m m' : Rm) (n : Nat) : Prop := ∀ k, runGo code 1500 (k + n) m = runGo code 1500 k m'
def REnd (code : List Ins) (m : Rm) (r : Rm × Bool) (n : Nat) : Prop := ∀ k, runGo code 1500 (k + n) m = some r
theorem RGo.refl (code : List Ins) (m : Rm) : RGo code m m 0 := fun _ => rfl
theorem RGo.trans {code : List Ins} {m m1 m2 : Rm} {a b : Nat} (h1 : RGo code m m1 a) (h2 : RGo code m1 m2 b) : RGo code m m2 (b + a) := fun k => by
  rw [← Nat.add_assoc, h1, h2]
theorem RGo.fin {code : List Ins} {m m1 : Rm} {r : Rm × Bool} {a b : Nat} (h1 : RGo code m m1 a) (h2 : REnd code m1 r b) : REnd code m r (b + a) := fun k => by
  rw [← Nat.add_assoc, h1, h2]
theorem REnd.run {code : List Ins} {m : Rm} {r : Rm × Bool} {a : Nat} (h : REnd code m r a) (ha : a ≤ 1501) : runGo code 1500 1501 m = some r := by
  have := h (1501 - a)
  rw [Nat.sub_add_cancel ha] at this
  exact this
theorem go_readr {m : Rm} {i : Ins} {bk : List Nat} (ho : i.op = 12) (hg : mget m.blocks ((m.reg i.b : Nat) : Int) = some bk) (hw : m.reg i.c < 8) : m.go i = ({ m.up with regs := m.regs.set i.a.toNat (bk.getD (m.reg i.c) 0) }, 0) := by
  rw [go_op]
  unfold Rm.step
  rw [if_neg (by omega), if_neg (by omega), if_neg (by omega), if_neg (by omega), if_neg (by omega), if_neg (by omega), if_pos (by omega)]
  unfold Rm.word Rm.word2
  rw [if_pos (by omega)]
  rw [show mget ({ m with steps := m.steps + 1 } : Rm).tick.blocks ((({ m with steps := m.steps + 1 } : Rm).tick.reg i.b : Nat) : Int) = some bk from hg]
  dsimp only
  rw [if_neg (by show ¬ 8 ≤ m.reg i.c; omega), if_pos (by omega)]
  rfl
theorem go_writer {m : Rm} {i : Ins} {bk : List Nat} (ho : i.op = 14) (hg : mget m.blocks ((m.reg i.b : Nat) : Int) = some bk) (hw : m.reg i.c < 8) (hp : m.dw + 1 ≤ m.wr) : m.go i = ({ m.up with dw := m.dw + 1, blocks := mput m.blocks ((m.reg i.b : Nat) : Int) (bk.set (m.reg i.c) (m.reg i.a)) }, 0) := by
  rw [go_op]
  unfold Rm.step
  rw [if_neg (by omega), if_neg (by omega), if_neg (by omega), if_neg (by omega), if_neg (by omega), if_neg (by omega), if_pos (by omega)]
  unfold Rm.word Rm.word2
  rw [if_pos (by omega)]
  rw [show mget ({ m with steps := m.steps + 1 } : Rm).tick.blocks ((({ m with steps := m.steps + 1 } : Rm).tick.reg i.b : Nat) : Int) = some bk from hg]
  dsimp only
  have hc : costs i.op = 1 := by unfold costs; rw [if_pos (by omega)]
  have hpay : Rm.pay i.op ({ m with steps := m.steps + 1 } : Rm).tick = ({ m.up with dw := m.dw + 1 }, 0) := by
    unfold Rm.pay
    rw [hc, if_neg (by show ¬ m.wr - m.dw < 1; omega)]
    rfl
  rw [if_neg (by show ¬ 8 ≤ m.reg i.c; omega), if_neg (by omega), hpay, if_neg (by simp)]
  rfl
theorem go_back {m : Rm} {i : Ins} (ho : i.op = 19) (hz : m.reg i.a ≠ 0) : m.go i = ({ m.up with pc := i.imm }, 0) := by
  rw [go_op]
  unfold Rm.step
  rw [if_neg (by omega), if_neg (by omega), if_pos ho, if_neg (show ¬ ({ m with steps := m.steps + 1 } : Rm).reg i.a = 0 from hz)]
  rfl
end Go.Proofs.YtphheopbngdhhaaGreatDoor
