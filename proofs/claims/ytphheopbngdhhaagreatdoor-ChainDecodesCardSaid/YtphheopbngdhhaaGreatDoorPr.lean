/-
  The three programs of tumblerlaw20.Made over a state: what they come to.
-/
import Derived.Test.YtphheopbngdhhaaGreatDoorQr
namespace Go.Proofs.YtphheopbngdhhaaGreatDoor
set_option maxRecDepth 100000
section steps
variable {m : Rm} {i : Ins}
theorem go_writeat {bk : List Nat} {wd : Nat} (ho : i.op = 14) (hg : mget m.blocks ((m.reg i.b : Nat) : Int) = some bk) (hwd : m.reg i.c = wd) (hw : wd < 8) (hp : m.dw + 1 ≤ m.wr) : m.go i = ({ m.up with dw := m.dw + 1, blocks := mput m.blocks ((m.reg i.b : Nat) : Int) (bk.set wd (m.reg i.a)) }, 0) := by
  subst hwd
  rw [go_op]
  unfold Rm.step
  rw [if_neg (by omega), if_neg (by omega), if_neg (by omega), if_neg (by omega), if_neg (by omega), if_neg (by omega), if_pos (by omega)]
  unfold Rm.word Rm.word2
  have hc : costs i.op = 1 := by unfold costs; rw [if_pos (by omega)]
  have hpay : Rm.pay i.op ({ m with steps := m.steps + 1 } : Rm).tick = ({ m.up with dw := m.dw + 1 }, 0) := by
    unfold Rm.pay
    rw [hc, if_neg (by show ¬ m.wr - m.dw < 1; omega)]
    rfl
  rw [if_pos (by omega)]
  rw [show mget ({ m with steps := m.steps + 1 } : Rm).tick.blocks ((({ m with steps := m.steps + 1 } : Rm).tick.reg i.b : Nat) : Int) = some bk from hg]
  dsimp only
  rw [show ({ m with steps := m.steps + 1 } : Rm).tick.reg i.c = m.reg i.c from rfl, if_neg (by omega), if_neg (by omega), hpay, if_neg (by simp)]
  rfl
end steps
def cdF : List Ins := [⟨15, 1, 0, 0, 0⟩, ⟨20, 1, 0, 0, 0⟩]
def cdR : List Ins := [⟨8, 1, 0, 0, 0⟩, ⟨8, 2, 0, 0, 1⟩, ⟨8, 3, 0, 0, 2⟩, ⟨10, 3, 2, 0, 0⟩, ⟨20, 1, 0, 0, 0⟩]
def cdW : List Ins := [⟨8, 1, 0, 0, 0⟩, ⟨8, 2, 0, 0, 1⟩, ⟨8, 3, 0, 0, 2⟩, ⟨14, 3, 1, 2, 0⟩, ⟨20, 1, 0, 0, 0⟩]
abbrev r9 (ar rg : List Nat) (st dw pc : Int) (en : Bool) (val : Nat) (ro : List Nat) (bl : List (Int × List Nat)) (pk nw : List Nat) : Rm := ⟨ar, rg, 9, 0, val, st, dw, pc, en, ro, bl, pk, nw⟩
abbrev rg3 (a b c : Nat) : List Nat := [0, a, b, c, 0, 0, 0, 0, 0, 0, 0, 0, 0, 0, 0, 0]
theorem run_F (R : List Nat) (B : List (Int × List Nat)) (h w v : Nat) (h0 : h ≠ 0) (h1 : h ≤ 64) (hg : mget B (h : Int) = none) :
    runGo cdF 9 10 (r9 [h, w, v, 0] (rg3 0 0 0) 0 0 0 false 0 R B [h] []) = some (r9 [h, w, v, 0] (rg3 h 0 0) 2 9 2 true h R (mput B (h : Int) zero8) [] [h], true) := by
  refine Eq.trans (run_step (i := ⟨15, 1, 0, 0, 0⟩) (m' := r9 [h, w, v, 0] (rg3 h 0 0) 1 9 1 false 0 R (mput B (h : Int) zero8) [] [h]) rfl (by show (0 : Int) < 9; decide) rfl (Eq.trans (go_new rfl rfl hg h0 h1 (by show (0 : Int) + 9 ≤ 9; decide)) rfl)) ?_
  refine Eq.trans (run_step (i := ⟨20, 1, 0, 0, 0⟩) (m' := r9 [h, w, v, 0] (rg3 h 0 0) 2 9 2 true h R (mput B (h : Int) zero8) [] [h]) rfl (by show (1 : Int) < 9; decide) rfl rfl) ?_
  exact run_fin rfl
theorem run_R (R : List Nat) (B : List (Int × List Nat)) (h w v : Nat) (hw : w < 16) :
    runGo cdR 9 10 (r9 [h, w, v, 0] (rg3 0 0 0) 0 0 0 false 0 R B [] []) = some (r9 [h, w, v, 0] (rg3 h w v) 5 1 5 true h (R.set w v) B [] [], true) := by
  refine Eq.trans (run_step (i := ⟨8, 1, 0, 0, 0⟩) (m' := r9 [h, w, v, 0] (rg3 h 0 0) 1 0 1 false 0 R B [] []) rfl (by show (0 : Int) < 9; decide) rfl (Eq.trans (go_reck (v := h) (by decide) (by decide) rfl) rfl)) ?_
  refine Eq.trans (run_step (i := ⟨8, 2, 0, 0, 1⟩) (m' := r9 [h, w, v, 0] (rg3 h w 0) 2 0 2 false 0 R B [] []) rfl (by show (1 : Int) < 9; decide) rfl (Eq.trans (go_reck (v := w) (by decide) (by decide) rfl) rfl)) ?_
  refine Eq.trans (run_step (i := ⟨8, 3, 0, 0, 2⟩) (m' := r9 [h, w, v, 0] (rg3 h w v) 3 0 3 false 0 R B [] []) rfl (by show (2 : Int) < 9; decide) rfl (Eq.trans (go_reck (v := v) (by decide) (by decide) rfl) rfl)) ?_
  refine Eq.trans (run_step (i := ⟨10, 3, 2, 0, 0⟩) (m' := r9 [h, w, v, 0] (rg3 h w v) 4 1 4 false 0 (R.set w v) B [] []) rfl (by show (3 : Int) < 9; decide) rfl (Eq.trans (go_putroot rfl hw (by show (0 : Int) + 1 ≤ 9; decide)) rfl)) ?_
  refine Eq.trans (run_step (i := ⟨20, 1, 0, 0, 0⟩) (m' := r9 [h, w, v, 0] (rg3 h w v) 5 1 5 true h (R.set w v) B [] []) rfl (by show (4 : Int) < 9; decide) rfl rfl) ?_
  exact run_fin rfl
theorem run_W (R : List Nat) (B : List (Int × List Nat)) (h w v : Nat) (bk : List Nat) (hw : w < 8) (hg : mget B (h : Int) = some bk) :
    runGo cdW 9 10 (r9 [h, w, v, 0] (rg3 0 0 0) 0 0 0 false 0 R B [] []) = some (r9 [h, w, v, 0] (rg3 h w v) 5 1 5 true h R (mput B (h : Int) (bk.set w v)) [] [], true) := by
  refine Eq.trans (run_step (i := ⟨8, 1, 0, 0, 0⟩) (m' := r9 [h, w, v, 0] (rg3 h 0 0) 1 0 1 false 0 R B [] []) rfl (by show (0 : Int) < 9; decide) rfl (Eq.trans (go_reck (v := h) (by decide) (by decide) rfl) rfl)) ?_
  refine Eq.trans (run_step (i := ⟨8, 2, 0, 0, 1⟩) (m' := r9 [h, w, v, 0] (rg3 h w 0) 2 0 2 false 0 R B [] []) rfl (by show (1 : Int) < 9; decide) rfl (Eq.trans (go_reck (v := w) (by decide) (by decide) rfl) rfl)) ?_
  refine Eq.trans (run_step (i := ⟨8, 3, 0, 0, 2⟩) (m' := r9 [h, w, v, 0] (rg3 h w v) 3 0 3 false 0 R B [] []) rfl (by show (2 : Int) < 9; decide) rfl (Eq.trans (go_reck (v := v) (by decide) (by decide) rfl) rfl)) ?_
  refine Eq.trans (run_step (i := ⟨14, 3, 1, 2, 0⟩) (m' := r9 [h, w, v, 0] (rg3 h w v) 4 1 4 false 0 R (mput B (h : Int) (bk.set w v)) [] []) rfl (by show (3 : Int) < 9; decide) rfl (Eq.trans (go_writeat (wd := w) rfl hg rfl hw (by show (0 : Int) + 1 ≤ 9; decide)) rfl)) ?_
  refine Eq.trans (run_step (i := ⟨20, 1, 0, 0, 0⟩) (m' := r9 [h, w, v, 0] (rg3 h w v) 5 1 5 true h R (mput B (h : Int) (bk.set w v)) [] []) rfl (by show (4 : Int) < 9; decide) rfl rfl) ?_
  exact run_fin rfl
theorem cd3_ok : codeB cdF = true ∧ rightB cdF = true ∧ codeB cdR = true ∧ rightB cdR = true ∧ codeB cdW = true ∧ rightB cdW = true := ⟨by kernel_rfl, by kernel_rfl, by kernel_rfl, by kernel_rfl, by kernel_rfl, by kernel_rfl⟩
end Go.Proofs.YtphheopbngdhhaaGreatDoor
