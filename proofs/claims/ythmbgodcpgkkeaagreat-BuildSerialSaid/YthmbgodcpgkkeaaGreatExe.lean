/-
  Package exec: step.
-/
import Derived.Test.YthmbgodcpgkkeaaGreatExd
namespace Go.Proofs.YthmbgodcpgkkeaaGreat
/-- what is known of an instruction of a right program -/
structure InsAt (n k : Nat) (i : Ins) : Prop where
  ok : InsOk i
  op0 : 0 ≤ i.op
  op1 : i.op ≤ 21
  go : i.op = 17 ∨ i.op = 18 → i.imm < n
  back : i.op = 19 → i.imm < n
  arg : i.op = 8 → i.imm < 4
  next : i.op ≠ 20 → i.op ≠ 21 → k + 1 < n
theorem fieldOk_in {n : Int} {u : Bool} (h : fieldOk n u = true) : 0 ≤ n ∧ n < 16 := by
  unfold fieldOk at h
  simp only [Bool.or_eq_true, beq_iff_eq, Bool.and_eq_true, decide_eq_true_eq] at h
  omega
theorem plain_in {i : Ins} (h : i.plain = true) : InsOk i ∧ 0 ≤ i.op ∧ i.op ≤ 21 := by
  unfold Ins.plain at h
  simp only [Bool.and_eq_true, decide_eq_true_eq] at h
  obtain ⟨h0, ha, hb, hc, _⟩ := h
  have := fieldOk_in ha; have := fieldOk_in hb; have := fieldOk_in hc
  exact ⟨⟨by omega, by omega, by omega, by omega, by omega, by omega⟩, h0.1, h0.2⟩
theorem faultGo_none {n : Nat} : ∀ {l : List Ins} {k j : Nat} (hj : j < l.length), faultGo n k l = none → oneOf n (k + j) l[j] = 0
  | [], k, j, hj, h => by simp at hj
  | i :: l, k, 0, hj, h => by
    unfold faultGo at h
    split at h
    · rename_i h0; simpa using h0
    · cases h
  | i :: l, k, j + 1, hj, h => by
    unfold faultGo at h
    split at h
    · have := faultGo_none (j := j) (by simpa using hj) h
      rw [show k + (j + 1) = k + 1 + j by omega]
      simpa using this
    · cases h
theorem right_at {code : List Ins} (h : rightB code = true) : 0 < code.length ∧ code.length ≤ 256 ∧ ∀ k (hk : k < code.length), InsAt code.length k code[k] := by
  unfold rightB faultOf at h
  by_cases h0 : code.length = 0
  · rw [if_pos h0] at h; simp at h
  rw [if_neg h0] at h
  by_cases h1 : 256 < code.length
  · rw [if_pos h1] at h; simp at h
  rw [if_neg h1] at h
  cases hg : faultGo code.length 0 code with
  | some x =>
    rw [hg] at h
    dsimp only at h
    exfalso
    have key : ∀ {l : List Ins} {k : Nat} {x : Int × Int}, faultGo code.length k l = some x → x.2 ≠ 0 := by
      intro l
      induction l with
      | nil => intro k x hx; simp [faultGo] at hx
      | cons i l ih =>
        intro k x hx
        unfold faultGo at hx
        split at hx
        · exact ih hx
        · rename_i hne; injection hx with hx; subst hx; exact hne
    exact key hg (by simpa using h)
  | none =>
    rw [hg] at h
    dsimp only at h
    have hends : endsB code = true := by
      cases he : endsB code with
      | true => rfl
      | false => rw [he] at h; simp at h
    refine ⟨by omega, by omega, fun k hk => ?_⟩
    have h2 := faultGo_none hk hg
    rw [Nat.zero_add] at h2
    have hpl : code[k].plain = true := by
      cases hb : code[k].plain with
      | true => rfl
      | false => unfold oneOf at h2; rw [if_pos hb] at h2; cases h2
    obtain ⟨hok, hop0, hop1⟩ := plain_in hpl
    unfold oneOf at h2
    rw [if_neg (by rw [hpl]; decide)] at h2
    have hlast : code[k].op ≠ 20 → code[k].op ≠ 21 → k + 1 < code.length := by
      intro a b
      refine Decidable.by_contra fun hno => ?_
      have hk1 : k = code.length - 1 := by omega
      subst hk1
      unfold endsB at hends
      rw [List.getLast?_eq_getElem?, List.getElem?_eq_getElem hk] at hends
      simp only [Bool.or_eq_true, beq_iff_eq] at hends
      omega
    refine ⟨hok, hop0, hop1, fun h17 => ?_, fun h19 => ?_, fun h8 => ?_, hlast⟩
    · repeat' split at h2
      all_goals omega
    · repeat' split at h2
      all_goals omega
    · repeat' split at h2
      all_goals omega
def ins0 : Ins := ⟨0, 0, 0, 0, 0⟩
/-- an instruction begun -/
def Xm.begun (m : Xm) (i : Ins) : Xm := { m with x := { m.x with steps := m.x.steps + 1, i := i, pc := m.x.pc + 1 } }
def Xm.jump (m : Xm) (n : Nat) : Xm := { m with x := { m.x with pc := (n : Int) } }
def Xm.does (c : Cfg) (room : Nat) (m : Xm) : Xm :=
  if m.x.i.op = 17 then m.jump m.x.i.imm else
  if m.x.i.op = 18 ∨ m.x.i.op = 19 then (if (((m.x.reg m.x.i.a : Nat) : Int) == 0) = (m.x.i.op == 18) then m.jump m.x.i.imm else m) else
  if m.x.i.op = 20 then { m with x := { m.x with s := 1, rc := 0, rv := m.x.reg m.x.i.a } } else
  if m.x.i.op = 21 then m.fail 40 m.x.i.imm else
  if m.x.i.op = 9 ∨ m.x.i.op = 10 then m.root c room else
  if m.x.i.op = 11 ∨ m.x.i.op = 12 ∨ m.x.i.op = 13 ∨ m.x.i.op = 14 ∨ m.x.i.op = 16 then m.touch c room else
  if m.x.i.op = 15 then m.fresh c room else { m with x := { m.x with regs := m.x.regs.set m.x.i.a.toNat (reckon m.x.i m.x.regs m.x.args) } }
def Xm.step (c : Cfg) (room : Nat) (code : List Ins) (m : Xm) : Xm := if c.fuel ≤ m.x.steps then m.fail 41 0 else (m.begun (code.getD m.x.pc.toNat ins0)).does c room
set_option maxHeartbeats 2000000 in
set_option maxRecDepth 100000 in
theorem xstep_o (X V Pb W room : Nat) (c : Cfg) (hc : Small c) (cv : Value) (q : HProp) (code : List Ins) (hcode : rightB code = true) (hv : InsR q cv code) (m : Xm) (hm : Xok m) (hw : m.x.writes ≤ 999000) (k : Nat) (hpc : m.x.pc = (k : Int)) (hk : k < code.length) (hst : 0 ≤ m.x.steps ∧ m.x.steps ≤ 1000000) (nad : Option Addr) (ncap : Nat) :
    Tri Tryz.prog 193 #[.pointer (some ⟨X, 0, none⟩)] (xmO X V Pb W room c cv m nad ncap ++ [q]) fun r L => r = .tuple ⟨[]⟩ ∧ L = xmL X V Pb W room c cv (m.step c room code) ++ [q] := by
  have hlen := hm.len
  have hcf := cfg_r c
  have htk := take_x c cv V Pb W (.slice nad m.news.length ncap) m.x
  obtain ⟨hc0, hc1, hat⟩ := right_at hcode
  have hat := hat k hk
  have hgd : code.getD m.x.pc.toNat ins0 = code[k] := by rw [hpc, List.getD_eq_getElem?_getD]; simp [hk]
  obtain ⟨ad, cap, rfl, hr⟩ := hv
  obtain ⟨ib, io, il, il1, rfl, hrd, hdr, htk5⟩ := InsR.at hr k hk
  rw [← hpc] at hdr
  unfold Xm.step
  by_cases hfu : c.fuel ≤ m.x.steps
  · rw [if_pos hfu]
    have hf := xfail_t X V Pb W room c (.slice (some ⟨ib, io, none⟩) code.length cap) (.slice nad m.news.length ncap) m.x m.p m.puts 41 0 hm.mark (by omega)
    refine Tri.of_body (vs := [_]) Tryz.func193 rfl rfl fun w0 F => ?_
    repeat' (first | refine Ga ?_ | (refine Gb ?_; intro b) | (refine Gd ?_; intro g cap rest hcap) | (refine Gc ?_; intro ad cap) | (refine St.draw (id := 0) [(0, 0), (1, 0), (2, 0), (3, 1), (4, 0), (5, 0), (6, 0), (7, 1), (8, 1), (9, 0), (10, 0)] [] mixed (by kernel_rfl) ?_) | (refine St.draw (id := 3) [(0, 0), (1, 0), (2, 0), (3, 1), (4, 0), (5, 0), (6, 0), (7, 1), (8, 0), (9, 1), (10, 2), (11, 3)] [11] mixed (by kernel_rfl) ?_) | (refine St.draw (id := 12) [(0, 0), (1, 0), (2, 1), (3, 0), (4, 0), (5, 0), (6, 1), (7, 0), (8, 0), (9, 1), (10, 0), (11, 0)] [] mixed (by kernel_rfl) ?_) | (refine St.draw (id := 15) [(0, 0), (1, 0), (2, 0), (3, 0), (4, 1), (5, 0), (6, 0), (7, 0), (8, 1), (9, 0), (10, 0), (11, 0), (12, 3), (13, 0), (14, 0), (15, 3)] [12, 15] mixed (by kernel_rfl) ?_) | (refine St.draw (id := 7) [(0, 0), (1, 0), (2, 1), (3, 1), (4, 0), (5, 0), (6, 0), (7, 1), (8, 0), (9, 0), (10, 0), (11, 1), (12, 1), (13, 0), (14, 0), (15, 0), (16, 3)] [16] mixed (by kernel_rfl) ?_)| refine Gl hcf ?_ | (refine Gt hf ?_; rintro _ _ ⟨rfl, rfl⟩) | (refine Ge ?_ ?_ <;> (intro h; try (exfalso; omega))) | fail)
    refine St.d1 Tryz.func193 ⟨_, ⟨rfl, rfl⟩, ?_⟩
    refine Ent.trans ?_ (xmO_in (nad := nad) (ncap := ncap))
    exact Ent.go
  · rw [if_neg hfu, hgd]
    generalize code[k] = i at *
    have hm1 : Xok (m.begun i) := ⟨hm.mark, hm.len, hm.w0, hm.w1, hm.nt0, hm.nt1, hm.nl0, hm.nl1, hm.news, hm.regs, hm.args, hat.ok⟩
    have ha0 := hat.ok.a0; have ha1 := hat.ok.a1
    have hra : NthN _ _ (Value.int .u64 (((m.begun i).x.reg i.a : Nat) : Int)) := ex_reg c (.slice (some ⟨ib, io, none⟩) code.length cap) V Pb W (.slice nad m.news.length ncap) (m.begun i).x ha0 ha1
    unfold Xm.does
    by_cases h17 : (m.begun i).x.i.op = 17
    · rw [if_pos h17]
      have h17' : i.op = 17 := h17
      have him := hat.go (.inl h17)
      refine Tri.of_body (vs := [_]) Tryz.func193 rfl rfl fun w0 F => ?_
      repeat' (first | refine Ga ?_ | (refine Gb ?_; intro b) | (refine Gd ?_; intro g cap rest hcap) | (refine Gc ?_; intro ad cap) | (refine St.draw (id := 0) [(0, 0), (1, 0), (2, 0), (3, 1), (4, 0), (5, 0), (6, 0), (7, 1), (8, 1), (9, 0), (10, 0)] [] mixed (by kernel_rfl) ?_) | (refine St.draw (id := 3) [(0, 0), (1, 0), (2, 0), (3, 1), (4, 0), (5, 0), (6, 0), (7, 1), (8, 0), (9, 1), (10, 2), (11, 3)] [11] mixed (by kernel_rfl) ?_) | (refine St.draw (id := 12) [(0, 0), (1, 0), (2, 1), (3, 0), (4, 0), (5, 0), (6, 1), (7, 0), (8, 0), (9, 1), (10, 0), (11, 0)] [] mixed (by kernel_rfl) ?_) | (refine St.draw (id := 15) [(0, 0), (1, 0), (2, 0), (3, 0), (4, 1), (5, 0), (6, 0), (7, 0), (8, 1), (9, 0), (10, 0), (11, 0), (12, 3), (13, 0), (14, 0), (15, 3)] [12, 15] mixed (by kernel_rfl) ?_) | (refine St.draw (id := 7) [(0, 0), (1, 0), (2, 1), (3, 1), (4, 0), (5, 0), (6, 0), (7, 1), (8, 0), (9, 0), (10, 0), (11, 1), (12, 1), (13, 0), (14, 0), (15, 0), (16, 3)] [16] mixed (by kernel_rfl) ?_)| refine Gl hcf ?_ | (refine Ge ?_ ?_ <;> (intro h; try (exfalso; omega))) | fail)
      refine St.f1 Tryz.func193 ⟨_, ⟨rfl, rfl⟩, ?_⟩
      refine Ent.trans ?_ (xmO_in (nad := nad) (ncap := ncap))
      exact Ent.go
    · rw [if_neg h17]
      have h17' : ¬ i.op = 17 := h17
      by_cases h18 : (m.begun i).x.i.op = 18 ∨ (m.begun i).x.i.op = 19
      · rw [if_pos h18]
        have h18' : i.op = 18 ∨ i.op = 19 := h18
        have him : i.imm < code.length := h18'.elim (fun h => hat.go (.inr h)) hat.back
        by_cases hj : ((((m.begun i).x.reg (m.begun i).x.i.a : Nat) : Int) == 0) = ((m.begun i).x.i.op == 18)
        · rw [if_pos hj]
          have hj' : ((((m.begun i).x.reg i.a : Nat) : Int) == 0) = (i.op == 18) := hj
          refine Tri.of_body (vs := [_]) Tryz.func193 rfl rfl fun w0 F => ?_
          repeat' (first | refine Ga ?_ | (refine Gb ?_; intro b) | (refine Gd ?_; intro g cap rest hcap) | (refine Gc ?_; intro ad cap) | (refine St.draw (id := 0) [(0, 0), (1, 0), (2, 0), (3, 1), (4, 0), (5, 0), (6, 0), (7, 1), (8, 1), (9, 0), (10, 0)] [] mixed (by kernel_rfl) ?_) | (refine St.draw (id := 3) [(0, 0), (1, 0), (2, 0), (3, 1), (4, 0), (5, 0), (6, 0), (7, 1), (8, 0), (9, 1), (10, 2), (11, 3)] [11] mixed (by kernel_rfl) ?_) | (refine St.draw (id := 12) [(0, 0), (1, 0), (2, 1), (3, 0), (4, 0), (5, 0), (6, 1), (7, 0), (8, 0), (9, 1), (10, 0), (11, 0)] [] mixed (by kernel_rfl) ?_) | (refine St.draw (id := 15) [(0, 0), (1, 0), (2, 0), (3, 0), (4, 1), (5, 0), (6, 0), (7, 0), (8, 1), (9, 0), (10, 0), (11, 0), (12, 3), (13, 0), (14, 0), (15, 3)] [12, 15] mixed (by kernel_rfl) ?_) | (refine St.draw (id := 7) [(0, 0), (1, 0), (2, 1), (3, 1), (4, 0), (5, 0), (6, 0), (7, 1), (8, 0), (9, 0), (10, 0), (11, 1), (12, 1), (13, 0), (14, 0), (15, 0), (16, 3)] [16] mixed (by kernel_rfl) ?_)| refine Gl hcf ?_ | (refine Ge ?_ ?_ <;> (intro h; try (exfalso; omega))) | fail)
          all_goals first | exact absurd hj' (by assumption) | (refine St.f1 Tryz.func193 ⟨_, ⟨rfl, rfl⟩, ?_⟩; refine Ent.trans ?_ (xmO_in (nad := nad) (ncap := ncap)); exact Ent.go)
        · rw [if_neg hj]
          have hj' : ¬ ((((m.begun i).x.reg i.a : Nat) : Int) == 0) = (i.op == 18) := hj
          refine Tri.of_body (vs := [_]) Tryz.func193 rfl rfl fun w0 F => ?_
          repeat' (first | refine Ga ?_ | (refine Gb ?_; intro b) | (refine Gd ?_; intro g cap rest hcap) | (refine Gc ?_; intro ad cap) | (refine St.draw (id := 0) [(0, 0), (1, 0), (2, 0), (3, 1), (4, 0), (5, 0), (6, 0), (7, 1), (8, 1), (9, 0), (10, 0)] [] mixed (by kernel_rfl) ?_) | (refine St.draw (id := 3) [(0, 0), (1, 0), (2, 0), (3, 1), (4, 0), (5, 0), (6, 0), (7, 1), (8, 0), (9, 1), (10, 2), (11, 3)] [11] mixed (by kernel_rfl) ?_) | (refine St.draw (id := 12) [(0, 0), (1, 0), (2, 1), (3, 0), (4, 0), (5, 0), (6, 1), (7, 0), (8, 0), (9, 1), (10, 0), (11, 0)] [] mixed (by kernel_rfl) ?_) | (refine St.draw (id := 15) [(0, 0), (1, 0), (2, 0), (3, 0), (4, 1), (5, 0), (6, 0), (7, 0), (8, 1), (9, 0), (10, 0), (11, 0), (12, 3), (13, 0), (14, 0), (15, 3)] [12, 15] mixed (by kernel_rfl) ?_) | (refine St.draw (id := 7) [(0, 0), (1, 0), (2, 1), (3, 1), (4, 0), (5, 0), (6, 0), (7, 1), (8, 0), (9, 0), (10, 0), (11, 1), (12, 1), (13, 0), (14, 0), (15, 0), (16, 3)] [16] mixed (by kernel_rfl) ?_)| refine Gl hcf ?_ | (refine Ge ?_ ?_ <;> (intro h; try (exfalso; omega))) | fail)
          all_goals first | exact absurd (by assumption) hj' | (refine St.f1 Tryz.func193 ⟨_, ⟨rfl, rfl⟩, ?_⟩; refine Ent.trans ?_ (xmO_in (nad := nad) (ncap := ncap)); exact Ent.go)
      · rw [if_neg h18]
        have h18' : ¬ (i.op = 18 ∨ i.op = 19) := h18
        by_cases h20 : (m.begun i).x.i.op = 20
        · rw [if_pos h20]
          have h20' : i.op = 20 := h20
          refine Tri.of_body (vs := [_]) Tryz.func193 rfl rfl fun w0 F => ?_
          repeat' (first | refine Ga ?_ | (refine Gb ?_; intro b) | (refine Gd ?_; intro g cap rest hcap) | (refine Gc ?_; intro ad cap) | (refine St.draw (id := 0) [(0, 0), (1, 0), (2, 0), (3, 1), (4, 0), (5, 0), (6, 0), (7, 1), (8, 1), (9, 0), (10, 0)] [] mixed (by kernel_rfl) ?_) | (refine St.draw (id := 3) [(0, 0), (1, 0), (2, 0), (3, 1), (4, 0), (5, 0), (6, 0), (7, 1), (8, 0), (9, 1), (10, 2), (11, 3)] [11] mixed (by kernel_rfl) ?_) | (refine St.draw (id := 12) [(0, 0), (1, 0), (2, 1), (3, 0), (4, 0), (5, 0), (6, 1), (7, 0), (8, 0), (9, 1), (10, 0), (11, 0)] [] mixed (by kernel_rfl) ?_) | (refine St.draw (id := 15) [(0, 0), (1, 0), (2, 0), (3, 0), (4, 1), (5, 0), (6, 0), (7, 0), (8, 1), (9, 0), (10, 0), (11, 0), (12, 3), (13, 0), (14, 0), (15, 3)] [12, 15] mixed (by kernel_rfl) ?_) | (refine St.draw (id := 7) [(0, 0), (1, 0), (2, 1), (3, 1), (4, 0), (5, 0), (6, 0), (7, 1), (8, 0), (9, 0), (10, 0), (11, 1), (12, 1), (13, 0), (14, 0), (15, 0), (16, 3)] [16] mixed (by kernel_rfl) ?_)| refine Gl hcf ?_ | (refine Ge ?_ ?_ <;> (intro h; try (exfalso; omega))) | fail)
          refine St.f1 Tryz.func193 ⟨_, ⟨rfl, rfl⟩, ?_⟩
          refine Ent.trans ?_ (xmO_in (nad := nad) (ncap := ncap))
          exact Ent.go
        · rw [if_neg h20]
          have h20' : ¬ i.op = 20 := h20
          by_cases h21 : (m.begun i).x.i.op = 21
          · rw [if_pos h21]
            have h21' : i.op = 21 := h21
            have hf := xfail_t X V Pb W room c (.slice (some ⟨ib, io, none⟩) code.length cap) (.slice nad m.news.length ncap) (m.begun i).x m.p m.puts 40 i.imm hm.mark (by omega)
            refine Tri.of_body (vs := [_]) Tryz.func193 rfl rfl fun w0 F => ?_
            repeat' (first | refine Ga ?_ | (refine Gb ?_; intro b) | (refine Gd ?_; intro g cap rest hcap) | (refine Gc ?_; intro ad cap) | (refine St.draw (id := 0) [(0, 0), (1, 0), (2, 0), (3, 1), (4, 0), (5, 0), (6, 0), (7, 1), (8, 1), (9, 0), (10, 0)] [] mixed (by kernel_rfl) ?_) | (refine St.draw (id := 3) [(0, 0), (1, 0), (2, 0), (3, 1), (4, 0), (5, 0), (6, 0), (7, 1), (8, 0), (9, 1), (10, 2), (11, 3)] [11] mixed (by kernel_rfl) ?_) | (refine St.draw (id := 12) [(0, 0), (1, 0), (2, 1), (3, 0), (4, 0), (5, 0), (6, 1), (7, 0), (8, 0), (9, 1), (10, 0), (11, 0)] [] mixed (by kernel_rfl) ?_) | (refine St.draw (id := 15) [(0, 0), (1, 0), (2, 0), (3, 0), (4, 1), (5, 0), (6, 0), (7, 0), (8, 1), (9, 0), (10, 0), (11, 0), (12, 3), (13, 0), (14, 0), (15, 3)] [12, 15] mixed (by kernel_rfl) ?_) | (refine St.draw (id := 7) [(0, 0), (1, 0), (2, 1), (3, 1), (4, 0), (5, 0), (6, 0), (7, 1), (8, 0), (9, 0), (10, 0), (11, 1), (12, 1), (13, 0), (14, 0), (15, 0), (16, 3)] [16] mixed (by kernel_rfl) ?_)| refine Gl hcf ?_ | (refine Gt hf ?_; rintro _ _ ⟨rfl, rfl⟩) | (refine Ge ?_ ?_ <;> (intro h; try (exfalso; omega))) | fail)
            refine St.f1 Tryz.func193 ⟨_, ⟨rfl, rfl⟩, ?_⟩
            refine Ent.trans ?_ (xmO_in (nad := nad) (ncap := ncap))
            exact Ent.go
          · rw [if_neg h21]
            have h21' : ¬ i.op = 21 := h21
            by_cases h9 : (m.begun i).x.i.op = 9 ∨ (m.begun i).x.i.op = 10
            · rw [if_pos h9]
              have h9' : i.op = 9 ∨ i.op = 10 := h9
              have hro := xroot_o X V Pb W room c hc (.slice (some ⟨ib, io, none⟩) code.length cap) (m.begun i) hm1 nad ncap
              unfold xmQ at hro
              refine Tri.of_body (vs := [_]) Tryz.func193 rfl rfl fun w0 F => ?_
              repeat' (first | refine Ga ?_ | (refine Gb ?_; intro b) | (refine Gd ?_; intro g cap rest hcap) | (refine Gc ?_; intro ad cap) | (refine St.draw (id := 0) [(0, 0), (1, 0), (2, 0), (3, 1), (4, 0), (5, 0), (6, 0), (7, 1), (8, 1), (9, 0), (10, 0)] [] mixed (by kernel_rfl) ?_) | (refine St.draw (id := 3) [(0, 0), (1, 0), (2, 0), (3, 1), (4, 0), (5, 0), (6, 0), (7, 1), (8, 0), (9, 1), (10, 2), (11, 3)] [11] mixed (by kernel_rfl) ?_) | (refine St.draw (id := 12) [(0, 0), (1, 0), (2, 1), (3, 0), (4, 0), (5, 0), (6, 1), (7, 0), (8, 0), (9, 1), (10, 0), (11, 0)] [] mixed (by kernel_rfl) ?_) | (refine St.draw (id := 15) [(0, 0), (1, 0), (2, 0), (3, 0), (4, 1), (5, 0), (6, 0), (7, 0), (8, 1), (9, 0), (10, 0), (11, 0), (12, 3), (13, 0), (14, 0), (15, 3)] [12, 15] mixed (by kernel_rfl) ?_) | (refine St.draw (id := 7) [(0, 0), (1, 0), (2, 1), (3, 1), (4, 0), (5, 0), (6, 0), (7, 1), (8, 0), (9, 0), (10, 0), (11, 1), (12, 1), (13, 0), (14, 0), (15, 0), (16, 3)] [16] mixed (by kernel_rfl) ?_)| refine Gl hcf ?_ | (refine Gt hro ?_; rintro _ _ ⟨rfl, rfl⟩) | (refine Ge ?_ ?_ <;> (intro h; try (exfalso; omega))) | fail)
              all_goals (refine St.f1 Tryz.func193 ⟨_, ⟨rfl, rfl⟩, ?_⟩; exact Ent.go)
            · rw [if_neg h9]
              have h9' : ¬ (i.op = 9 ∨ i.op = 10) := h9
              by_cases h11 : (m.begun i).x.i.op = 11 ∨ (m.begun i).x.i.op = 12 ∨ (m.begun i).x.i.op = 13 ∨ (m.begun i).x.i.op = 14 ∨ (m.begun i).x.i.op = 16
              · rw [if_pos h11]
                have h11' : i.op = 11 ∨ i.op = 12 ∨ i.op = 13 ∨ i.op = 14 ∨ i.op = 16 := h11
                have hto := xtouch_o X V Pb W room c hc (.slice (some ⟨ib, io, none⟩) code.length cap) (m.begun i) hm1 nad ncap
                unfold xmQ at hto
                refine Tri.of_body (vs := [_]) Tryz.func193 rfl rfl fun w0 F => ?_
                repeat' (first | refine Ga ?_ | (refine Gb ?_; intro b) | (refine Gd ?_; intro g cap rest hcap) | (refine Gc ?_; intro ad cap) | (refine St.draw (id := 0) [(0, 0), (1, 0), (2, 0), (3, 1), (4, 0), (5, 0), (6, 0), (7, 1), (8, 1), (9, 0), (10, 0)] [] mixed (by kernel_rfl) ?_) | (refine St.draw (id := 3) [(0, 0), (1, 0), (2, 0), (3, 1), (4, 0), (5, 0), (6, 0), (7, 1), (8, 0), (9, 1), (10, 2), (11, 3)] [11] mixed (by kernel_rfl) ?_) | (refine St.draw (id := 12) [(0, 0), (1, 0), (2, 1), (3, 0), (4, 0), (5, 0), (6, 1), (7, 0), (8, 0), (9, 1), (10, 0), (11, 0)] [] mixed (by kernel_rfl) ?_) | (refine St.draw (id := 15) [(0, 0), (1, 0), (2, 0), (3, 0), (4, 1), (5, 0), (6, 0), (7, 0), (8, 1), (9, 0), (10, 0), (11, 0), (12, 3), (13, 0), (14, 0), (15, 3)] [12, 15] mixed (by kernel_rfl) ?_) | (refine St.draw (id := 7) [(0, 0), (1, 0), (2, 1), (3, 1), (4, 0), (5, 0), (6, 0), (7, 1), (8, 0), (9, 0), (10, 0), (11, 1), (12, 1), (13, 0), (14, 0), (15, 0), (16, 3)] [16] mixed (by kernel_rfl) ?_)| refine Gl hcf ?_ | (refine Gt hto ?_; rintro _ _ ⟨rfl, rfl⟩) | (refine Ge ?_ ?_ <;> (intro h; try (exfalso; omega))) | fail)
                all_goals (refine St.f1 Tryz.func193 ⟨_, ⟨rfl, rfl⟩, ?_⟩; exact Ent.go)
              · rw [if_neg h11]
                have h11' : ¬ (i.op = 11 ∨ i.op = 12 ∨ i.op = 13 ∨ i.op = 14 ∨ i.op = 16) := h11
                by_cases h15 : (m.begun i).x.i.op = 15
                · rw [if_pos h15]
                  have h15' : i.op = 15 := h15
                  have hfr := xfresh_o X V Pb W room c hc (.slice (some ⟨ib, io, none⟩) code.length cap) (m.begun i) hm1 hw nad ncap
                  unfold xmQ at hfr
                  refine Tri.of_body (vs := [_]) Tryz.func193 rfl rfl fun w0 F => ?_
                  repeat' (first | refine Ga ?_ | (refine Gb ?_; intro b) | (refine Gd ?_; intro g cap rest hcap) | (refine Gc ?_; intro ad cap) | (refine St.draw (id := 0) [(0, 0), (1, 0), (2, 0), (3, 1), (4, 0), (5, 0), (6, 0), (7, 1), (8, 1), (9, 0), (10, 0)] [] mixed (by kernel_rfl) ?_) | (refine St.draw (id := 3) [(0, 0), (1, 0), (2, 0), (3, 1), (4, 0), (5, 0), (6, 0), (7, 1), (8, 0), (9, 1), (10, 2), (11, 3)] [11] mixed (by kernel_rfl) ?_) | (refine St.draw (id := 12) [(0, 0), (1, 0), (2, 1), (3, 0), (4, 0), (5, 0), (6, 1), (7, 0), (8, 0), (9, 1), (10, 0), (11, 0)] [] mixed (by kernel_rfl) ?_) | (refine St.draw (id := 15) [(0, 0), (1, 0), (2, 0), (3, 0), (4, 1), (5, 0), (6, 0), (7, 0), (8, 1), (9, 0), (10, 0), (11, 0), (12, 3), (13, 0), (14, 0), (15, 3)] [12, 15] mixed (by kernel_rfl) ?_) | (refine St.draw (id := 7) [(0, 0), (1, 0), (2, 1), (3, 1), (4, 0), (5, 0), (6, 0), (7, 1), (8, 0), (9, 0), (10, 0), (11, 1), (12, 1), (13, 0), (14, 0), (15, 0), (16, 3)] [16] mixed (by kernel_rfl) ?_)| refine Gl hcf ?_ | (refine Gt hfr ?_; rintro _ _ ⟨rfl, rfl⟩) | (refine Ge ?_ ?_ <;> (intro h; try (exfalso; omega))) | fail)
                  refine St.f1 Tryz.func193 ⟨_, ⟨rfl, rfl⟩, ?_⟩
                  exact Ent.go
                · rw [if_neg h15]
                  have h15' : ¬ i.op = 15 := h15
                  have hrk := reckon_r i m.x.regs m.x.args ⟨hat.ok.b0, hat.ok.b1, hat.ok.c0, hat.ok.c1, hm.regs, hm.args, by have := hat.arg; omega⟩
                  rw [← g16_eq hm.regs, ← g4_eq hm.args] at hrk
                  have hsr := ex_setreg c (.slice (some ⟨ib, io, none⟩) code.length cap) V Pb W (.slice nad m.news.length ncap) (m.begun i).x hm.regs ha0 ha1 (reckon i m.x.regs m.x.args)
                  refine Tri.of_body (vs := [_]) Tryz.func193 rfl rfl fun w0 F => ?_
                  repeat' (first | refine Ga ?_ | (refine Gb ?_; intro b) | (refine Gd ?_; intro g cap rest hcap) | (refine Gc ?_; intro ad cap) | (refine St.draw (id := 0) [(0, 0), (1, 0), (2, 0), (3, 1), (4, 0), (5, 0), (6, 0), (7, 1), (8, 1), (9, 0), (10, 0)] [] mixed (by kernel_rfl) ?_) | (refine St.draw (id := 3) [(0, 0), (1, 0), (2, 0), (3, 1), (4, 0), (5, 0), (6, 0), (7, 1), (8, 0), (9, 1), (10, 2), (11, 3)] [11] mixed (by kernel_rfl) ?_) | (refine St.draw (id := 12) [(0, 0), (1, 0), (2, 1), (3, 0), (4, 0), (5, 0), (6, 1), (7, 0), (8, 0), (9, 1), (10, 0), (11, 0)] [] mixed (by kernel_rfl) ?_) | (refine St.draw (id := 15) [(0, 0), (1, 0), (2, 0), (3, 0), (4, 1), (5, 0), (6, 0), (7, 0), (8, 1), (9, 0), (10, 0), (11, 0), (12, 3), (13, 0), (14, 0), (15, 3)] [12, 15] mixed (by kernel_rfl) ?_) | (refine St.draw (id := 7) [(0, 0), (1, 0), (2, 1), (3, 1), (4, 0), (5, 0), (6, 0), (7, 1), (8, 0), (9, 0), (10, 0), (11, 1), (12, 1), (13, 0), (14, 0), (15, 0), (16, 3)] [16] mixed (by kernel_rfl) ?_)| refine Gl hcf ?_ | refine Gl hrk ?_ | (refine Ge ?_ ?_ <;> (intro h; try (exfalso; omega))) | fail)
                  refine St.f1 Tryz.func193 ⟨_, ⟨rfl, rfl⟩, ?_⟩
                  refine Ent.trans ?_ (xmO_in (nad := nad) (ncap := ncap))
                  exact Ent.go
end Go.Proofs.YthmbgodcpgkkeaaGreat
