/-
  Runs of the set's programs: what they begin with, a step back.
-/
import Derived.Test.YtalgmlhcbilicaaGreatDoorCb
import Derived.Test.YtalgmlhcbilicaaGreatDoorQr
namespace Go.Proofs.YtalgmlhcbilicaaGreatDoor
set_option maxRecDepth 100000
abbrev rS (ar rg : List Nat) (st dw pc : Int) (ro : List Nat) (bl : List (Int × List Nat)) (pk nw : List Nat) : Rm := ⟨ar, rg, 64, 0, 0, st, dw, pc, false, ro, bl, pk, nw⟩
theorem go_back {m : Rm} {i : Ins} (ho : i.op = 19) (hz : m.reg i.a ≠ 0) : m.go i = ({ m.up with pc := i.imm }, 0) := by
  rw [go_op]
  unfold Rm.step
  rw [if_neg (by omega), if_neg (by omega), if_pos ho, if_neg (show ¬ ({ m with steps := m.steps + 1 } : Rm).reg i.a = 0 from hz)]
  rfl
end Go.Proofs.YtalgmlhcbilicaaGreatDoor
