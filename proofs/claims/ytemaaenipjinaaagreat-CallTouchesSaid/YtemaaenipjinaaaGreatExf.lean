/-
  Package exec: run.
-/
import Derived.Test.YtemaaenipjinaaaGreatExe
namespace Go.Proofs.YtemaaenipjinaaaGreat
def Xm.stops (m : Xm) : Prop := m.x.s ≠ 0 ∨ (m.x.waits = true ∧ m.v.s = 0)
instance (m : Xm) : Decidable m.stops := inferInstanceAs (Decidable (_ ∨ _))
def Xm.once (c : Cfg) (room : Nat) (code : List Ins) (m : Xm) : Xm :=
  if m.x.waits = false then m.step c room code else if m.v.s = 2 then { m with x := { m.x with s := 2 } } else if m.v.s = 3 then m.fail 44 0 else Xm.goOn c room { m with x := { m.x with waits := false } } m.v.val
def Xm.runN (c : Cfg) (room : Nat) (code : List Ins) : Nat → Xm → Xm
  | 0, m => m
  | n + 1, m => if m.stops then m else Xm.runN c room code n (m.once c room code)
def Xm.meas (c : Cfg) (m : Xm) : Nat := if m.x.s ≠ 0 then 0 else 2 * (c.fuel - m.x.steps).toNat + (if m.x.waits then 1 else 0) + 1
def Xm.run (c : Cfg) (room : Nat) (code : List Ins) (m : Xm) : Xm := Xm.runN c room code (m.meas c) m
/-- what a round asks of the numbers -/
structure RunOk (code : List Ins) (m : Xm) : Prop where
  ok : Xok m
  w : m.x.writes ≤ 999000
  pc : m.x.s = 0 → m.x.waits = false → ∃ k : Nat, m.x.pc = (k : Int) ∧ k < code.length
  s0 : 0 ≤ m.x.steps
  s1 : m.x.steps ≤ 1000000
/-- an invariant of the rounds -/
structure RunInv (c : Cfg) (room : Nat) (code : List Ins) (I : Xm → Prop) : Prop where
  ok : ∀ m, I m → RunOk code m
  next : ∀ m, I m → ¬ m.stops → I (m.once c room code)
  less : ∀ m, I m → ¬ m.stops → (m.once c room code).meas c < m.meas c
theorem Xm.stops_of_meas {c : Cfg} {m : Xm} (h : m.meas c = 0) : m.stops := by
  unfold Xm.meas at h
  split at h
  · exact .inl (by assumption)
  · omega
theorem runN_stable {c : Cfg} {room : Nat} {code : List Ins} {I : Xm → Prop} (hI : RunInv c room code I) : ∀ (n n' : Nat) (m : Xm), I m → m.meas c ≤ n → m.meas c ≤ n' → Xm.runN c room code n m = Xm.runN c room code n' m
  | 0, 0, m, _, _, _ => rfl
  | 0, n' + 1, m, _, h, _ => by rw [Xm.runN, Xm.runN, if_pos (Xm.stops_of_meas (c := c) (by omega))]
  | n + 1, 0, m, _, _, h => by rw [Xm.runN, Xm.runN, if_pos (Xm.stops_of_meas (c := c) (by omega))]
  | n + 1, n' + 1, m, hm, h, h' => by
    rw [Xm.runN, Xm.runN]
    by_cases hs : m.stops
    · rw [if_pos hs, if_pos hs]
    · rw [if_neg hs, if_neg hs]
      have := hI.less m hm hs
      exact runN_stable hI n n' _ (hI.next m hm hs) (by omega) (by omega)
theorem run_once {c : Cfg} {room : Nat} {code : List Ins} {I : Xm → Prop} (hI : RunInv c room code I) {m : Xm} (hm : I m) (hs : ¬ m.stops) : m.run c room code = (m.once c room code).run c room code := by
  have hl := hI.less m hm hs
  obtain ⟨n, hn⟩ : ∃ n, m.meas c = n + 1 := ⟨m.meas c - 1, by omega⟩
  unfold Xm.run
  rw [hn, Xm.runN, if_neg hs]
  exact runN_stable hI _ _ _ (hI.next m hm hs) (by omega) (Nat.le_refl _)
theorem run_stop {c : Cfg} {room : Nat} {code : List Ins} {m : Xm} (hs : m.stops) : m.run c room code = m := by
  unfold Xm.run
  cases m.meas c with
  | zero => rfl
  | succ n => rw [Xm.runN, if_pos hs]
theorem run_inv {c : Cfg} {room : Nat} {code : List Ins} {I : Xm → Prop} (hI : RunInv c room code I) : ∀ (n : Nat) (m : Xm), I m → m.meas c ≤ n → I (m.run c room code) ∧ (m.run c room code).stops
  | n, m, hm, hn => by
    by_cases hs : m.stops
    · rw [run_stop hs]; exact ⟨hm, hs⟩
    · rw [run_once hI hm hs]
      have hl := hI.less m hm hs
      match n with
      | 0 => omega
      | n + 1 => exact run_inv hI n _ (hI.next m hm hs) (by omega)
set_option maxHeartbeats 2000000 in
set_option maxRecDepth 100000 in
theorem xrun_t (X V Pb W room : Nat) (c : Cfg) (hc : Small c) (cv : Value) (q : HProp) (code : List Ins) (hcode : rightB code = true) (hv : InsR q cv code) (I : Xm → Prop) (hI : RunInv c room code I) (m : Xm) (hm : I m) :
    Tri Tryz.prog 216 #[.pointer (some ⟨X, 0, none⟩)] (xmL X V Pb W room c cv m ++ [q]) fun r L => r = .tuple ⟨[]⟩ ∧ L = xmL X V Pb W room c cv (m.run c room code) ++ [q] := by
  refine Tri.of_body (vs := [_]) Tryz.func216 rfl rfl fun w0 F => ?_
  repeat' (first | refine Ga ?_ | (refine Gb ?_; intro b) | (refine Gd ?_; intro g cap rest hcap) | (refine Gc ?_; intro ad cap)  | (refine Ge ?_ ?_ <;> (intro h; try (exfalso; omega))) | fail)
  refine St.loopX (Lr := ?Lr) (ι := { m' : Xm // I m' ∧ m.run c room code = m'.run c room code }) (fun m' => m'.1.meas c)
    (fun m' => []) (fun m' => xmL X V Pb W room c cv m'.1 ++ [q]) ⟨m, hm, rfl⟩ ?hE ?hL ?round
  case hE => exact Sub.go
  case hL => exact Ent.refl _
  case round =>
    rintro ⟨m', hm', hrun⟩ IH; dsimp only at hm' hrun ⊢
    have hok := hI.ok m' hm'
    have hlen := hok.ok.len
    have IH' := fun hs E' L' => IH ⟨m'.once c room code, hI.next m' hm' hs, hrun.trans (run_once hI hm' hs)⟩ (E' := E') (L' := L') (hI.less m' hm' hs)
    clear IH
    dsimp only at IH'
    refine St.ex_out ?_
    rintro ⟨nad, ncap⟩
    by_cases hs : m'.x.s = 0
    · cases hwt : m'.x.waits with
      | false =>
        have hns : ¬ m'.stops := by unfold Xm.stops; rw [hwt]; simp [hs]
        obtain ⟨k, hk1, hk2⟩ := hok.pc hs hwt
        have hstep := xstep_o X V Pb W room c hc cv q code hcode hv m' hok.ok hok.w k hk1 hk2 ⟨hok.s0, hok.s1⟩ nad ncap
        have IH2 := IH' hns
        have eo : m'.once c room code = m'.step c room code := if_pos hwt
        rw [eo] at IH2
        repeat' (first | refine Ga ?_ | (refine Gb ?_; intro b) | (refine Gd ?_; intro g cap rest hcap) | (refine Gc ?_; intro ad cap)  | (refine Gt hstep ?_; rintro _ _ ⟨rfl, rfl⟩) | (refine Ge ?_ ?_ <;> (intro h; try (exfalso; omega))) | fail)
        · refine IH2 _ _ ?_ ?_
          · exact Sub.go
          · exact Ent.go
        all_goals (exfalso; rw [hwt] at h; simp at h; done)
      | true =>
        have hend := vend_r c V m'.v
        by_cases hv0 : m'.v.s = 0
        · have hst : m'.stops := .inr ⟨hwt, hv0⟩
          rw [run_stop hst] at hrun
          rw [hrun]
          clear IH'
          repeat' (first | refine Ga ?_ | (refine Gb ?_; intro b) | (refine Gd ?_; intro g cap rest hcap) | (refine Gc ?_; intro ad cap) | refine Gl hend ?_ | (refine Ge ?_ ?_ <;> (intro h; try (exfalso; omega))) | fail)
          · (exfalso; rw [hwt] at h; simp at h; done)
          · refine St.d1 Tryz.func216 ⟨_, ⟨rfl, rfl⟩, ?_⟩
            refine Ent.trans ?_ (xmO_in (nad := nad) (ncap := ncap))
            exact Ent.go
        · have hns : ¬ m'.stops := by unfold Xm.stops; rw [hwt]; simp [hs, hv0]
          have IH2 := IH' hns
          by_cases hv2 : m'.v.s = 2
          · have eo : m'.once c room code = { m' with x := { m'.x with s := 2 } } := by unfold Xm.once; rw [if_neg (by rw [hwt]; decide), if_pos hv2]
            rw [eo] at IH2
            repeat' (first | refine Ga ?_ | (refine Gb ?_; intro b) | (refine Gd ?_; intro g cap rest hcap) | (refine Gc ?_; intro ad cap) | refine Gl hend ?_ | (refine Ge ?_ ?_ <;> (intro h; try (exfalso; omega))) | fail)
            · (exfalso; rw [hwt] at h; simp at h; done)
            · refine IH2 _ _ ?_ ?_
              · exact Sub.go
              · refine Ent.trans ?_ (xmO_in (nad := nad) (ncap := ncap))
                exact Ent.go
          · by_cases hv3 : m'.v.s = 3
            · have eo : m'.once c room code = m'.fail 44 0 := by unfold Xm.once; rw [if_neg (by rw [hwt]; decide), if_neg hv2, if_pos hv3]
              rw [eo] at IH2
              have hf := xfail_t X V Pb W room c cv (.slice nad m'.news.length ncap) m'.x m'.p m'.puts 44 0 hok.ok.mark (by omega)
              repeat' (first | refine Ga ?_ | (refine Gb ?_; intro b) | (refine Gd ?_; intro g cap rest hcap) | (refine Gc ?_; intro ad cap) | refine Gl hend ?_ | (refine Gt hf ?_; rintro _ _ ⟨rfl, rfl⟩) | (refine Ge ?_ ?_ <;> (intro h; try (exfalso; omega))) | fail)
              · (exfalso; rw [hwt] at h; simp at h; done)
              · refine IH2 _ _ ?_ ?_
                · exact Sub.go
                · refine Ent.trans ?_ (xmO_in (nad := nad) (ncap := ncap))
                  exact Ent.go
            · have eo : m'.once c room code = Xm.goOn c room { m' with x := { m'.x with waits := false } } m'.v.val := by unfold Xm.once; rw [if_neg (by rw [hwt]; decide), if_neg hv2, if_neg hv3]
              rw [eo] at IH2
              have hok1 : Xok { m' with x := { m'.x with waits := false } } := ⟨hok.ok.mark, hok.ok.len, hok.ok.w0, hok.ok.w1, hok.ok.nt0, hok.ok.nt1, hok.ok.nl0, hok.ok.nl1, hok.ok.news, hok.ok.regs, hok.ok.args, hok.ok.i⟩
              have hgo := xgoOn_o X V Pb W room c hc cv { m' with x := { m'.x with waits := false } } hok1 m'.v.val nad ncap
              have hgv := Xm.goOn_v c room { m' with x := { m'.x with waits := false } } m'.v.val
              repeat' (first | refine Ga ?_ | (refine Gb ?_; intro b) | (refine Gd ?_; intro g cap rest hcap) | (refine Gc ?_; intro ad cap) | refine Gl hend ?_ | (refine Gt hgo ?_; rintro _ _ ⟨rfl, rfl⟩) | (refine Ge ?_ ?_ <;> (intro h; try (exfalso; omega))) | fail)
              · (exfalso; rw [hwt] at h; simp at h; done)
              · refine IH2 _ _ ?_ ?_
                · exact Sub.go
                · unfold xmL
                  rw [hgv]
                  exact Ent.go
    · have hst : m'.stops := .inl hs
      rw [run_stop hst] at hrun
      rw [hrun]
      clear IH'
      repeat' (first | refine Ga ?_ | (refine Gb ?_; intro b) | (refine Gd ?_; intro g cap rest hcap) | (refine Gc ?_; intro ad cap)  | (refine Ge ?_ ?_ <;> (intro h; try (exfalso; omega))) | fail)
      refine St.f1 Tryz.func216 ⟨_, ⟨rfl, rfl⟩, ?_⟩
      refine Ent.trans ?_ (xmO_in (nad := nad) (ncap := ncap))
      exact Ent.go
end Go.Proofs.YtemaaenipjinaaaGreat
