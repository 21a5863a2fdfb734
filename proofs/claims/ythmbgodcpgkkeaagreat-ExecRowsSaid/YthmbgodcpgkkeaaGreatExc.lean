/-
  Package model: Run. Package exec: goOn, fetch.
-/
import Derived.Test.YthmbgodcpgkkeaaGreatMs
import Derived.Test.YthmbgodcpgkkeaaGreatMo
section
namespace Go.Proofs.YthmbgodcpgkkeaaGreat
set_option maxRecDepth 100000
theorem mdel_all {κ β : Type} [DecidableEq κ] {q : β → Prop} (k : κ) : ∀ (m : List (κ × β)), (∀ p ∈ m, q p.2) → ∀ p ∈ mdel m k, q p.2
  | [], _, p, hp => by cases hp
  | (a, y) :: m, h, p, hp => by
    unfold mdel at hp
    split at hp
    · exact h p (List.mem_cons_of_mem _ hp)
    · rcases List.mem_cons.1 hp with rfl | hp
      · exact h _ (List.mem_cons_self ..)
      · exact mdel_all k m (fun p hp => h p (List.mem_cons_of_mem _ hp)) p hp
/-- what a step keeps -/
structure Kept (m m' : Rm) : Prop where
  ok : RmOk m'
  n : m'.news.length ≤ m.news.length + 1
  steps : m'.steps = m.steps
  code : m'.code = m.code
theorem Kept.refl {m : Rm} (h : RmOk m) : Kept m m := ⟨h, by omega, rfl, rfl⟩
theorem Kept.setR {m m' : Rm} (h : Kept m m') (a : Int) (n : Nat) : Kept m (m'.setR a n) := by
  have := h.ok
  exact ⟨⟨this.a, by show (List.set _ _ _).length = 16; rw [List.length_set]; exact this.r, this.o, this.b, this.w0, this.w1, this.d0, this.d1, this.n⟩, h.n, h.steps, h.code⟩
theorem PaidM.kept {m m1 : Rm} (h : PaidM m m1) (hm : RmOk m) : Kept m m1 := ⟨h.ok hm, by rw [h.news]; omega, h.steps, h.code⟩
theorem Rm.root_kept (i : Ins) {m : Rm} (hm : RmOk m) : Kept m (m.root i).1 := by
  have hp := (m.paid i.op).kept hm
  unfold Rm.root
  split
  · exact .refl hm
  split
  · exact (Kept.refl hm).setR _ _
  split
  · exact hp
  · have := hp.ok
    exact ⟨⟨this.a, this.r, by show (List.set _ _ _).length = 16; rw [List.length_set]; exact this.o, this.b, this.w0, this.w1, this.d0, this.d1, this.n⟩, hp.n, hp.steps, hp.code⟩
theorem Rm.word_kept (i : Ins) {m : Rm} (hm : RmOk m) : Kept m (m.word i).1 := by
  have hp := (m.paid i.op).kept hm
  unfold Rm.word Rm.word2
  generalize (if i.op = 12 ∨ i.op = 14 then m.reg i.c else i.imm) = wd
  cases hg : mget m.blocks ((m.reg i.b : Nat) : Int) with
  | none => exact .refl hm
  | some b =>
    dsimp only
    split
    · exact .refl hm
    split
    · exact (Kept.refl hm).setR _ _
    split
    · exact hp
    · have := hp.ok
      refine ⟨⟨this.a, this.r, this.o, mput_all (q := fun l : List Nat => l.length = 8) _ _ ?_ _ this.b, this.w0, this.w1, this.d0, this.d1, this.n⟩, hp.n, hp.steps, hp.code⟩
      rw [List.length_set]
      exact hm.b _ (mget_mem hg)
theorem Rm.free_kept (i : Ins) {m : Rm} (hm : RmOk m) : Kept m (m.free i).1 := by
  have hp := (m.paid i.op).kept hm
  unfold Rm.free
  split
  · exact .refl hm
  split
  · exact hp
  · have := hp.ok
    exact ⟨⟨this.a, this.r, this.o, mdel_all (q := fun l : List Nat => l.length = 8) _ _ this.b, this.w0, this.w1, this.d0, this.d1, this.n⟩, hp.n, hp.steps, hp.code⟩
theorem Rm.fresh_kept (i : Ins) {m : Rm} (hm : RmOk m) (hn : m.news.length ≤ 999999) : Kept m (m.fresh i).1 := by
  have hp := (m.paid i.op).kept hm
  have hnw := (m.paid i.op).news
  unfold Rm.fresh
  split
  · exact hp
  split
  · exact hp
  split
  · exact hp
  split
  · exact hp
  · have := hp.ok
    refine ⟨⟨this.a, by show (List.set _ _ _).length = 16; rw [List.length_set]; exact this.r, this.o, mput_all (q := fun l : List Nat => l.length = 8) _ _ rfl _ this.b, this.w0, this.w1, this.d0, this.d1, ?_⟩, ?_, hp.steps, hp.code⟩
    · show (List.append _ _).length ≤ _
      rw [show List.append _ _ = (m.pay i.op).1.news ++ [_] from rfl, hnw, List.length_append, List.length_singleton]; omega
    · show (List.append _ _).length ≤ _
      rw [show List.append _ _ = (m.pay i.op).1.news ++ [_] from rfl, hnw, List.length_append, List.length_singleton]; omega
theorem Rm.step_kept (i : Ins) {m : Rm} (hm : RmOk m) (hn : m.news.length ≤ 999999) : Kept m (m.step i).1 := by
  have ht : Kept m m.tick := ⟨hm.tick, by show m.news.length ≤ _; omega, rfl, rfl⟩
  have hx : ∀ n : Int, Kept m { m.tick with pc := n } := fun n => ⟨⟨hm.a, hm.r, hm.o, hm.b, hm.w0, hm.w1, hm.d0, hm.d1, hm.n⟩, by show m.news.length ≤ _; omega, rfl, rfl⟩
  have hy : ∀ {r : Rm}, Kept m.tick r → Kept m r := fun h => ⟨h.ok, h.n, h.steps, h.code⟩
  unfold Rm.step
  repeat' split
  all_goals first
    | exact hx _
    | exact ht
    | exact hy (Rm.root_kept i hm.tick)
    | exact hy (Rm.word_kept i hm.tick)
    | exact hy (Rm.fresh_kept i hm.tick hn)
    | exact hy (Rm.free_kept i hm.tick)
    | exact ht.setR _ _
    | exact ⟨⟨hm.a, hm.r, hm.o, hm.b, hm.w0, hm.w1, hm.d0, hm.d1, hm.n⟩, by show m.news.length ≤ _; omega, rfl, rfl⟩
def getIns (code : List Ins) (pc : Int) : Option Ins := if pc < 0 then none else code[pc.toNat]?
/-- an instruction that is begun -/
def Rm.go (m : Rm) (i : Ins) : Rm × Int := Rm.step i { m with steps := m.steps + 1 }
def runGo (code : List Ins) (fuel : Int) : Nat → Rm → Option (Rm × Bool)
  | 0, _ => none
  | k + 1, m => match m.ended with
    | true => some (m, true)
    | false => if fuel ≤ m.steps then some ({ m with code := 41, val := 0 }, false) else match getIns code m.pc with
      | none => none
      | some i => if (m.go i).2 = 0 then runGo code fuel k (m.go i).1 else some ({ (m.go i).1 with code := (m.go i).2 }, false)
def regs16 : List Nat := [0, 0, 0, 0, 0, 0, 0, 0, 0, 0, 0, 0, 0, 0, 0, 0]
def rm0 (ms : Ms) (args : List Nat) (wr : Int) (pick : List Nat) : Rm := ⟨args, regs16, wr, 0, 0, 0, 0, 0, false, ms.roots, ms.blocks, pick, []⟩
structure CodeI (i : Ins) : Prop where
  io : InsOk i
  j : i.op = 17 ∨ i.op = 18 ∨ i.op = 19 → i.imm ≤ 1000000
  k : i.imm < 9223372036854775808 ∨ i.op ≠ 8
def codeB (code : List Ins) : Bool := code.all fun i => decide (0 ≤ i.a ∧ i.a < 16 ∧ 0 ≤ i.b ∧ i.b < 16 ∧ 0 ≤ i.c ∧ i.c < 16 ∧ (i.imm ≤ 1000000 ∨ i.op ≠ 17 ∧ i.op ≠ 18 ∧ i.op ≠ 19 ∧ i.op ≠ 8))
theorem CodeI.of {code : List Ins} (h : codeB code = true) : ∀ i ∈ code, CodeI i := by
  intro i hi
  have h1 := of_decide_eq_true (List.all_eq_true.1 h i hi)
  exact ⟨⟨h1.1, h1.2.1, h1.2.2.1, h1.2.2.2.1, h1.2.2.2.2.1, h1.2.2.2.2.2.1⟩, by have := h1.2.2.2.2.2.2; omega, by have := h1.2.2.2.2.2.2; omega⟩
/-- what came of a run -/
def doneV (m : Rm) (nad : Option Addr) (ncap : Nat) : List Value := [.int .i64 m.code, .int .u64 (m.val : Int), .int .i64 m.steps, .int .i64 m.dw, .slice nad m.news.length ncap]
set_option maxHeartbeats 2000000 in
theorem mrun_i (S : Nat) (ms : Ms) (hms : MsOk ms) (qc q : HProp) (cv : Value) (code : List Ins) (hins : InsR qc cv code) (hcok : codeB code = true) (hright : rightB code = true) (hcl : code.length ≤ 256) (args : List Nat) (ha : args.length = 4) (fuel wr : Int)
    (hf : 0 ≤ fuel ∧ fuel ≤ 900000) (hw : 0 ≤ wr ∧ wr ≤ 1000000) (pad : Option Addr) (pcap : Nat) (pick : List Nat) (hpk : ListR u64V q (.slice pad pick.length pcap) pick) (N : Nat) (mF : Rm) (ok : Bool) (hrun : runGo code fuel N (rm0 ms args wr pick) = some (mF, ok)) :
    Tri Tryz.prog 56 #[.pointer (some ⟨S, 0, none⟩), cv, .agg ⟨g4 args⟩, .int .i64 fuel, .int .i64 wr, .slice pad pick.length pcap] [MsE S ms, qc, q]
      fun v L => ∃ nad ncap, v = .agg ⟨doneV mF nad ncap⟩ ∧ L = [MsE S (if ok then ⟨mF.roots, mF.blocks⟩ else ms), Row (.slice nad mF.news.length ncap) 22 1 mF.news.length (u64s mF.news), qc, q] := by
  have hri := right_rr qc cv code hins
  rw [hright] at hri
  have hci := CodeI.of hcok
  have hcl4 := mclone_t S ms
  have h0 : RmOk (rm0 ms args wr pick) := ⟨ha, rfl, hms.r, hms.b, hw.1, hw.2, Int.le_refl _, hw.1, Nat.zero_le _⟩
  obtain ⟨cad, ccap, rfl, hcv⟩ := hins
  unfold g4
  refine Tri.of_body (vs := [_, _, _, _, _, _]) Tryz.func56 rfl rfl fun w0 F => ?_
  repeat' (first | refine Ga ?_ | (refine Gb ?_; intro b) | (refine Gd ?_; intro g cap rest hcap) | (refine Gc ?_; intro ad cap) | (refine St.draw (id := 3) [(0, 0), (2, 1), (3, 0), (4, 0), (1, 2), (5, 0), (6, 2), (7, 0)] [] mixed (by kernel_rfl) ?_)| refine Gl hri ?_ | (refine Gt hcl4 ?_; rintro _ _ ⟨S2, rfl, rfl⟩) | (refine Gu hcl4 ?_; rintro _ _ ⟨S2, rfl, rfl⟩; refine ⟨Ent.go, ?_⟩) | (refine Ge ?_ ?_ <;> (intro h; try (exfalso; omega))) | fail)
  revert b; intro X
  revert b; intro Bd
  revert b; intro Ba
  refine St.conv ?_ (Sub.refl _) (Ent.of_take (p := MsE S2 ms) Take.go)
  refine St.ex_out fun mb2 => ?_
  unfold msL
  refine St.conv ?_ (Sub.refl _) (Ent.row_nil 22 1)
  refine St.loopY (Lr := ?Lr1) (ι := { x : Nat × Rm × At // runGo code fuel x.1 x.2.1 = some (mF, ok) ∧ RmOk x.2.1 ∧ PickR q x.2.2 x.2.1 ∧ (x.2.1.news.length : Int) ≤ x.2.1.steps ∧ x.2.1.steps ≤ 900000 ∧ x.2.1.code = 0 }) (fun x => x.1.1)
    (fun _ => []) (fun x => rmL X S2 q x.1.2.2 x.1.2.1) ⟨(N, rm0 ms args wr pick, ⟨mb2, pad, pcap, none, 0⟩), hrun, h0, hpk, Int.le_refl _, by show (0 : Int) ≤ 900000; decide, rfl⟩ ?hE1 ?hL1 ?round1
  case hE1 => exact Sub.go
  case hL1 => unfold rmL rmV; exact Takes.go
  case round1 =>
    rintro ⟨⟨k, m, w⟩, hgo, hok, hpk, hns, hst, hc0⟩ IH; dsimp only at hgo hok hpk hns hst hc0 IH ⊢
    have hnl : (0 : Int) ≤ m.news.length := Int.natCast_nonneg _
    cases k with
    | zero => cases hgo
    | succ k =>
      have hu : runGo code fuel (k + 1) m = match m.ended with | true => some (m, true) | false => if fuel ≤ m.steps then some ({ m with code := 41, val := 0 }, false) else match getIns code m.pc with | none => none | some i => if (m.go i).2 = 0 then runGo code fuel k (m.go i).1 else some ({ (m.go i).1 with code := (m.go i).2 }, false) := rfl
      rw [hu] at hgo
      cases hen : m.ended with
      | true =>
        rw [hen] at hgo
        injection hgo with hgo
        injection hgo with e1 e2
        subst e1 e2
        clear IH
        unfold rmL rmV
        rw [hen]
        repeat' (first | refine St.halt 13 ?_ |refine Ga ?_ | (refine Gb ?_; intro b) | (refine Gd ?_; intro g cap rest hcap) | (refine Gc ?_; intro ad cap) | (refine St.draw (id := 3) [(0, 0), (2, 1), (3, 0), (4, 0), (1, 2), (5, 0), (6, 2), (7, 0)] [] mixed (by kernel_rfl) ?_) | (refine Ge ?_ ?_ <;> (intro h; try (exfalso; omega))) | fail)
        apply Halt.go
        refine St.conv ?_ (Sub.refl _) (Ent.of_take (p := MsE S ms) Take.go)
        refine St.ex_out fun mb0 => ?_
        unfold msL
        repeat' (first | refine Ga ?_ | (refine Gb ?_; intro b) | (refine Gd ?_; intro g cap rest hcap) | (refine Gc ?_; intro ad cap) | (refine St.draw (id := 3) [(0, 0), (2, 1), (3, 0), (4, 0), (1, 2), (5, 0), (6, 2), (7, 0)] [] mixed (by kernel_rfl) ?_) | (refine Ge ?_ ?_ <;> (intro h; try (exfalso; omega))) | fail)
        refine St.d1 Tryz.func56 ⟨_, ⟨w.nad, w.ncap, rfl, rfl⟩, ?_⟩
        rw [if_pos rfl]
        refine Ent.trans ?_ (Ent.ms (S := S) (mb := w.mb) (m := ⟨m.roots, m.blocks⟩) (L := [Row (.slice w.nad m.news.length w.ncap) 22 1 m.news.length (u64s m.news), qc, q] ++ F))
        exact Ent.go
      | false =>
        rw [hen] at hgo
        dsimp only at hgo
        by_cases hfu : fuel ≤ m.steps
        · rw [if_pos hfu] at hgo
          injection hgo with hgo
          injection hgo with e1 e2
          subst e1 e2
          clear IH
          unfold rmL rmV
          rw [hen]
          repeat' (first | refine Ga ?_ | (refine Gb ?_; intro b) | (refine Gd ?_; intro g cap rest hcap) | (refine Gc ?_; intro ad cap) | (refine St.draw (id := 3) [(0, 0), (2, 1), (3, 0), (4, 0), (1, 2), (5, 0), (6, 2), (7, 0)] [] mixed (by kernel_rfl) ?_) | (refine Ge ?_ ?_ <;> (intro h; try (exfalso; omega))) | fail)
          refine St.d1 Tryz.func56 ⟨_, ⟨w.nad, w.ncap, rfl, rfl⟩, ?_⟩
          rw [if_neg (by decide)]
          exact Ent.go
        · rw [if_neg hfu] at hgo
          cases hgi : getIns code m.pc with
          | none => rw [hgi] at hgo; cases hgo
          | some i =>
            rw [hgi] at hgo
            dsimp only at hgo
            obtain ⟨hp0, hpl, hgi⟩ : 0 ≤ m.pc ∧ m.pc < code.length ∧ code[m.pc.toNat]? = some i := by
              unfold getIns at hgi
              split at hgi
              · cases hgi
              · obtain ⟨h1, h2⟩ := List.getElem?_eq_some_iff.1 hgi
                exact ⟨by omega, by omega, hgi⟩
            obtain ⟨hlt, hgi⟩ := List.getElem?_eq_some_iff.1 hgi
            obtain ⟨bf, o, l, l1, rfl, hrd, hdr, htk⟩ := ListR.at (f := Ins.v) (sz := 5) Ins.v_len hcv m.pc.toNat hlt
            rw [hgi] at htk
            rw [show ((m.pc.toNat : Nat) : Int).toNat = m.pc.toNat by omega] at hdr
            have hi := hci i (hgi ▸ List.getElem_mem hlt)
            have hok1 : RmOk { m with steps := m.steps + 1 } := ⟨hok.a, hok.r, hok.o, hok.b, hok.w0, hok.w1, hok.d0, hok.d1, hok.n⟩
            have hstep := mstep_t X S2 q w { m with steps := m.steps + 1 } i ⟨hi.io, hok1, hp0, by show m.pc ≤ _; omega, hi.j, hi.k⟩ hpk
            have hkept := Rm.step_kept i hok1 (by show m.news.length ≤ _; omega)
            rw [show Rm.step i { m with steps := m.steps + 1 } = m.go i from rfl] at hstep hkept
            generalize m.go i = r at hgo hstep hkept
            obtain ⟨m1, e⟩ := r
            obtain ⟨hok2, hn2, hs2, hc2⟩ := hkept
            dsimp only at hgo hstep hok2 hn2 hs2 hc2
            unfold rmQ at hstep
            unfold Ins.v at hstep htk
            dsimp only at hstep
            by_cases he : e = 0
            · rw [if_pos he] at hgo
              subst he
              unfold rmL at hstep IH ⊢
              unfold rmV at hstep ⊢
              dsimp only at hstep
              rw [hen] at hstep ⊢
              repeat' (first | refine Ga ?_ | (refine Gb ?_; intro b) | (refine Gd ?_; intro g cap rest hcap) | (refine Gc ?_; intro ad cap) | (refine St.draw (id := 3) [(0, 0), (2, 1), (3, 0), (4, 0), (1, 2), (5, 0), (6, 2), (7, 0)] [] mixed (by kernel_rfl) ?_) | (refine Gt hstep ?_; rintro _ _ ⟨w', rfl, hpk', rfl⟩) | (refine Gu hstep ?_; rintro _ _ ⟨w', rfl, hpk', rfl⟩; refine ⟨Ent.go, ?_⟩) | (refine Ge ?_ ?_ <;> (intro h; try (exfalso; omega))) | fail)
              refine IH ⟨(k, m1, w'), hgo, hok2, hpk', by dsimp only; omega, by dsimp only; omega, by dsimp only; omega⟩ (by show k < k + 1; omega) ?_ ?_
              · exact Sub.go
              · exact Ent.go
            · rw [if_neg he] at hgo
              injection hgo with hgo
              injection hgo with e1 e2
              subst e1 e2
              clear IH
              unfold rmL at hstep ⊢
              unfold rmV at hstep ⊢
              dsimp only at hstep
              rw [hen] at hstep ⊢
              repeat' (first | refine St.halt 11 ?_ |refine Ga ?_ | (refine Gb ?_; intro b) | (refine Gd ?_; intro g cap rest hcap) | (refine Gc ?_; intro ad cap) | (refine St.draw (id := 3) [(0, 0), (2, 1), (3, 0), (4, 0), (1, 2), (5, 0), (6, 2), (7, 0)] [] mixed (by kernel_rfl) ?_) | (refine Gt hstep ?_; rintro _ _ ⟨w', rfl, hpk', rfl⟩) | (refine Gu hstep ?_; rintro _ _ ⟨w', rfl, hpk', rfl⟩; refine ⟨Ent.go, ?_⟩) | (refine Ge ?_ ?_ <;> (intro h; try (exfalso; omega))) | fail)
              apply Halt.go
              repeat' (first | refine Ga ?_ | (refine Gb ?_; intro b) | (refine Gd ?_; intro g cap rest hcap) | (refine Gc ?_; intro ad cap) | (refine St.draw (id := 3) [(0, 0), (2, 1), (3, 0), (4, 0), (1, 2), (5, 0), (6, 2), (7, 0)] [] mixed (by kernel_rfl) ?_) | (refine Ge ?_ ?_ <;> (intro h; try (exfalso; omega))) | fail)
              refine St.d1 Tryz.func56 ⟨_, ⟨w'.nad, w'.ncap, rfl, rfl⟩, ?_⟩
              rw [if_neg (by decide)]
              exact Ent.go
end Go.Proofs.YthmbgodcpgkkeaaGreat
end
section
namespace Go.Proofs.YthmbgodcpgkkeaaGreat
def Xs.bN (c : Cfg) (x : Xs) : Nat := (x.block c).1.toNat
theorem Xs.bN_eq (c : Cfg) (x : Xs) : (x.block c).1 = (x.bN c : Int) := by
  unfold Xs.bN Xs.block
  split
  · rfl
  · dsimp only; omega
def Xm.goOn (c : Cfg) (room : Nat) (m : Xm) (val : Nat) : Xm :=
  if m.x.i.op = 9 ∨ m.x.i.op = 11 ∨ m.x.i.op = 12 then { m with x := { m.x with regs := m.x.regs.set m.x.i.a.toNat val } } else
  if m.x.i.op = 15 then m.taken c room val else
  if m.x.i.op = 13 ∨ m.x.i.op = 14 then (if (m.pay c).2 then { (m.pay c).1 with puts := putP room (m.pay c).1.puts (c.at 16 (m.x.block c).1 (m.x.block c).2.1) (m.x.reg m.x.i.a) } else (m.pay c).1) else
  if m.x.i.op = 16 then (if (m.pay c).2 then { (m.pay c).1 with p := { (m.pay c).1.p with nl := (giveP c room (m.pay c).1.p.nl (m.pay c).1.puts (m.x.bN c)).1 }, puts := (giveP c room (m.pay c).1.p.nl (m.pay c).1.puts (m.x.bN c)).2 } else (m.pay c).1) else m
theorem Xm.pay_news (c : Cfg) (m : Xm) : (m.pay c).1.news = m.news := by unfold Xm.pay Xm.fail; split <;> rfl
theorem Xm.pay_t {c : Cfg} {m : Xm} (h : (m.pay c).2 = true) : (m.pay c).1 = { m with x := { m.x with writes := m.x.writes + costs m.x.i.op } } := by
  unfold Xm.pay at *; split at h
  · cases h
  · rename_i h1; rw [if_neg h1]
theorem Xm.pay_f {c : Cfg} {m : Xm} (h : (m.pay c).2 = false) : (m.pay c).1 = m.fail 42 0 := by
  unfold Xm.pay at *; split at h
  · rename_i h1; rw [if_pos h1]
  · cases h
set_option maxHeartbeats 1000000 in
set_option maxRecDepth 100000 in
theorem xgoOn_t (X V Pb W room : Nat) (c : Cfg) (hc : Small c) (cv : Value) (m : Xm) (hm : Xok m) (val : Nat) :
    Tri Tryz.prog 195 #[.pointer (some ⟨X, 0, none⟩), .int .u64 (val : Int)] [XeE X c cv V Pb W m.x m.news, Pl Pb c m.p, Ws W room m.puts]
      fun r L => r = .tuple ⟨[]⟩ ∧ L = [XeE X c cv V Pb W (m.goOn c room val).x (m.goOn c room val).news, Pl Pb c (m.goOn c room val).p, Ws W room (m.goOn c room val).puts] := by
  have htak := xtaken_t X V Pb W room c hc cv m hm val
  refine Tri.ex_out ?_
  rintro ⟨nad, ncap⟩
  have ha0 := hm.i.a0; have ha1 := hm.i.a1
  have hlen := hm.len
  unfold Xm.goOn
  by_cases h1 : m.x.i.op = 9 ∨ m.x.i.op = 11 ∨ m.x.i.op = 12
  · rw [if_pos h1]
    dsimp only
    have hsr := ex_setreg c cv V Pb W (.slice nad m.news.length ncap) m.x hm.regs ha0 ha1 val
    refine Tri.of_body (vs := [_, _]) Tryz.func195 rfl rfl fun w0 F => ?_
    repeat' (first | refine Ga ?_ | (refine Gb ?_; intro b) | (refine Gd ?_; intro g cap rest hcap) | (refine Gc ?_; intro ad cap) | (refine St.draw (id := 5) [(0, 0), (1, 0), (2, 1), (3, 0), (4, 0), (5, 0), (6, 0), (7, 3)] [7] mixed (by kernel_rfl) ?_) | (refine St.draw (id := 12) [(0, 0), (1, 0), (2, 0), (3, 1), (4, 0), (5, 0), (6, 0), (7, 1), (8, 0), (9, 0), (10, 1), (11, 0), (12, 0), (13, 1), (14, 0), (15, 0), (16, 0), (17, 1), (18, 3)] [18] mixed (by kernel_rfl) ?_) | (refine St.draw (id := 16) [(0, 0), (1, 0), (2, 0), (3, 1), (4, 0), (5, 0), (6, 0), (7, 1), (8, 0), (9, 3)] [9] mixed (by kernel_rfl) ?_) | (refine Ge ?_ ?_ <;> (intro h; try (exfalso; omega))) | fail)
    all_goals
      refine St.f1 Tryz.func195 ⟨_, ⟨rfl, rfl⟩, ?_⟩
      exact Ent.trans Ent.go (Ent.ex_in (Ls := xeL X c cv V Pb W { m.x with regs := m.x.regs.set m.x.i.a.toNat val } m.news) (nad, ncap))
  · rw [if_neg h1]
    by_cases h2 : m.x.i.op = 15
    · rw [if_pos h2]
      have htak := htak.ent (L := [bl X 221 (exV c cv V Pb W (.slice nad m.news.length ncap) m.x), Row (.slice nad m.news.length ncap) 22 1 m.news.length (u64s m.news), Pl Pb c m.p, Ws W room m.puts]) (Ent.ex_in (Ls := xeL X c cv V Pb W m.x m.news) (nad, ncap))
      refine Tri.of_body (vs := [_, _]) Tryz.func195 rfl rfl fun w0 F => ?_
      repeat' (first | refine Ga ?_ | (refine Gb ?_; intro b) | (refine Gd ?_; intro g cap rest hcap) | (refine Gc ?_; intro ad cap) | (refine St.draw (id := 5) [(0, 0), (1, 0), (2, 1), (3, 0), (4, 0), (5, 0), (6, 0), (7, 3)] [7] mixed (by kernel_rfl) ?_) | (refine St.draw (id := 12) [(0, 0), (1, 0), (2, 0), (3, 1), (4, 0), (5, 0), (6, 0), (7, 1), (8, 0), (9, 0), (10, 1), (11, 0), (12, 0), (13, 1), (14, 0), (15, 0), (16, 0), (17, 1), (18, 3)] [18] mixed (by kernel_rfl) ?_) | (refine St.draw (id := 16) [(0, 0), (1, 0), (2, 0), (3, 1), (4, 0), (5, 0), (6, 0), (7, 1), (8, 0), (9, 3)] [9] mixed (by kernel_rfl) ?_) | (refine Gt htak ?_; rintro _ _ ⟨rfl, rfl⟩) | (refine Ge ?_ ?_ <;> (intro h; try (exfalso; omega))) | fail)
      refine St.f1 Tryz.func195 ⟨_, ⟨rfl, rfl⟩, ?_⟩
      exact Ent.go
    · rw [if_neg h2]
      have hbl := xblock_r X V Pb W c hc cv (.slice nad m.news.length ncap) m.x hm.i
      have hpay := xpay_t X V Pb W room c hc cv (.slice nad m.news.length ncap) m hm.mark (by omega) ⟨hm.w0, hm.w1⟩
      have hpn := m.pay_news c
      by_cases h3 : m.x.i.op = 13 ∨ m.x.i.op = 14
      · rw [if_pos h3]
        cases hp : (m.pay c).2 with
        | false =>
          rw [hp] at hpay
          rw [if_neg (by decide)]
          refine Tri.of_body (vs := [_, _]) Tryz.func195 rfl rfl fun w0 F => ?_
          repeat' (first | refine Ga ?_ | (refine Gb ?_; intro b) | (refine Gd ?_; intro g cap rest hcap) | (refine Gc ?_; intro ad cap) | (refine St.draw (id := 5) [(0, 0), (1, 0), (2, 1), (3, 0), (4, 0), (5, 0), (6, 0), (7, 3)] [7] mixed (by kernel_rfl) ?_) | (refine St.draw (id := 12) [(0, 0), (1, 0), (2, 0), (3, 1), (4, 0), (5, 0), (6, 0), (7, 1), (8, 0), (9, 0), (10, 1), (11, 0), (12, 0), (13, 1), (14, 0), (15, 0), (16, 0), (17, 1), (18, 3)] [18] mixed (by kernel_rfl) ?_) | (refine St.draw (id := 16) [(0, 0), (1, 0), (2, 0), (3, 1), (4, 0), (5, 0), (6, 0), (7, 1), (8, 0), (9, 3)] [9] mixed (by kernel_rfl) ?_)| refine Gl hbl ?_ | (refine Gt hpay ?_; rintro _ _ ⟨rfl, rfl⟩) | (refine Ge ?_ ?_ <;> (intro h; try (exfalso; omega))) | fail)
          all_goals
            refine St.f1 Tryz.func195 ⟨_, ⟨rfl, rfl⟩, ?_⟩
            rw [hpn]
            exact Ent.trans Ent.go (Ent.ex_in (Ls := xeL X c cv V Pb W (m.pay c).1.x m.news) (nad, ncap))
        | true =>
          rw [hp] at hpay
          rw [if_pos rfl]
          rw [Xm.pay_t hp] at hpay ⊢
          dsimp only at hpay ⊢
          have hat := at_r c hc 16 (m.x.block c).1 (m.x.block c).2.1
          have hrg : NthN _ _ (Value.int .u64 ((m.x.reg m.x.i.a : Nat) : Int)) := ex_reg c cv V Pb W (.slice nad m.news.length ncap) { m.x with writes := m.x.writes + costs m.x.i.op } ha0 ha1
          have hput := wput_t W room m.puts (c.at 16 (m.x.block c).1 (m.x.block c).2.1) (m.x.reg m.x.i.a) (by omega)
          have htk := take_x c cv V Pb W (.slice nad m.news.length ncap) { m.x with writes := m.x.writes + costs m.x.i.op }
          refine Tri.of_body (vs := [_, _]) Tryz.func195 rfl rfl fun w0 F => ?_
          repeat' (first | refine Ga ?_ | (refine Gb ?_; intro b) | (refine Gd ?_; intro g cap rest hcap) | (refine Gc ?_; intro ad cap) | (refine St.draw (id := 5) [(0, 0), (1, 0), (2, 1), (3, 0), (4, 0), (5, 0), (6, 0), (7, 3)] [7] mixed (by kernel_rfl) ?_) | (refine St.draw (id := 12) [(0, 0), (1, 0), (2, 0), (3, 1), (4, 0), (5, 0), (6, 0), (7, 1), (8, 0), (9, 0), (10, 1), (11, 0), (12, 0), (13, 1), (14, 0), (15, 0), (16, 0), (17, 1), (18, 3)] [18] mixed (by kernel_rfl) ?_) | (refine St.draw (id := 16) [(0, 0), (1, 0), (2, 0), (3, 1), (4, 0), (5, 0), (6, 0), (7, 1), (8, 0), (9, 3)] [9] mixed (by kernel_rfl) ?_)| refine Gl hbl ?_ | refine Gl hat ?_ | (refine Gt hpay ?_; rintro _ _ ⟨rfl, rfl⟩) | (refine Gt hput ?_; rintro _ _ ⟨rfl, rfl⟩) | (refine Ge ?_ ?_ <;> (intro h; try (exfalso; omega))) | fail)
          all_goals
            refine St.f1 Tryz.func195 ⟨_, ⟨rfl, rfl⟩, ?_⟩
            exact Ent.trans Ent.go (Ent.ex_in (Ls := xeL X c cv V Pb W { m.x with writes := m.x.writes + costs m.x.i.op } m.news) (nad, ncap))
      · rw [if_neg h3]
        by_cases h4 : m.x.i.op = 16
        · rw [if_pos h4]
          rw [Xs.bN_eq] at hbl
          cases hp : (m.pay c).2 with
          | false =>
            rw [hp] at hpay
            rw [if_neg (by decide)]
            refine Tri.of_body (vs := [_, _]) Tryz.func195 rfl rfl fun w0 F => ?_
            repeat' (first | refine Ga ?_ | (refine Gb ?_; intro b) | (refine Gd ?_; intro g cap rest hcap) | (refine Gc ?_; intro ad cap) | (refine St.draw (id := 5) [(0, 0), (1, 0), (2, 1), (3, 0), (4, 0), (5, 0), (6, 0), (7, 3)] [7] mixed (by kernel_rfl) ?_) | (refine St.draw (id := 12) [(0, 0), (1, 0), (2, 0), (3, 1), (4, 0), (5, 0), (6, 0), (7, 1), (8, 0), (9, 0), (10, 1), (11, 0), (12, 0), (13, 1), (14, 0), (15, 0), (16, 0), (17, 1), (18, 3)] [18] mixed (by kernel_rfl) ?_) | (refine St.draw (id := 16) [(0, 0), (1, 0), (2, 0), (3, 1), (4, 0), (5, 0), (6, 0), (7, 1), (8, 0), (9, 3)] [9] mixed (by kernel_rfl) ?_)| refine Gl hbl ?_ | (refine Gt hpay ?_; rintro _ _ ⟨rfl, rfl⟩) | (refine Ge ?_ ?_ <;> (intro h; try (exfalso; omega))) | fail)
            all_goals
              refine St.f1 Tryz.func195 ⟨_, ⟨rfl, rfl⟩, ?_⟩
              rw [hpn]
              exact Ent.trans Ent.go (Ent.ex_in (Ls := xeL X c cv V Pb W (m.pay c).1.x m.news) (nad, ncap))
          | true =>
            rw [hp] at hpay
            rw [if_pos rfl]
            rw [Xm.pay_t hp] at hpay ⊢
            dsimp only at hpay ⊢
            have hgv := pgive_t Pb W room c hc m.p m.puts (m.x.bN c) (by omega) hm.nl0
            refine Tri.of_body (vs := [_, _]) Tryz.func195 rfl rfl fun w0 F => ?_
            repeat' (first | refine Ga ?_ | (refine Gb ?_; intro b) | (refine Gd ?_; intro g cap rest hcap) | (refine Gc ?_; intro ad cap) | (refine St.draw (id := 5) [(0, 0), (1, 0), (2, 1), (3, 0), (4, 0), (5, 0), (6, 0), (7, 3)] [7] mixed (by kernel_rfl) ?_) | (refine St.draw (id := 12) [(0, 0), (1, 0), (2, 0), (3, 1), (4, 0), (5, 0), (6, 0), (7, 1), (8, 0), (9, 0), (10, 1), (11, 0), (12, 0), (13, 1), (14, 0), (15, 0), (16, 0), (17, 1), (18, 3)] [18] mixed (by kernel_rfl) ?_) | (refine St.draw (id := 16) [(0, 0), (1, 0), (2, 0), (3, 1), (4, 0), (5, 0), (6, 0), (7, 1), (8, 0), (9, 3)] [9] mixed (by kernel_rfl) ?_)| refine Gl hbl ?_ | (refine Gt hpay ?_; rintro _ _ ⟨rfl, rfl⟩) | (refine Gt hgv ?_; rintro _ _ ⟨rfl, rfl⟩) | (refine Ge ?_ ?_ <;> (intro h; try (exfalso; omega))) | fail)
            all_goals
              refine St.f1 Tryz.func195 ⟨_, ⟨rfl, rfl⟩, ?_⟩
              exact Ent.trans Ent.go (Ent.ex_in (Ls := xeL X c cv V Pb W { m.x with writes := m.x.writes + costs m.x.i.op } m.news) (nad, ncap))
        · rw [if_neg h4]
          refine Tri.of_body (vs := [_, _]) Tryz.func195 rfl rfl fun w0 F => ?_
          repeat' (first | refine Ga ?_ | (refine Gb ?_; intro b) | (refine Gd ?_; intro g cap rest hcap) | (refine Gc ?_; intro ad cap) | (refine St.draw (id := 5) [(0, 0), (1, 0), (2, 1), (3, 0), (4, 0), (5, 0), (6, 0), (7, 3)] [7] mixed (by kernel_rfl) ?_) | (refine St.draw (id := 12) [(0, 0), (1, 0), (2, 0), (3, 1), (4, 0), (5, 0), (6, 0), (7, 1), (8, 0), (9, 0), (10, 1), (11, 0), (12, 0), (13, 1), (14, 0), (15, 0), (16, 0), (17, 1), (18, 3)] [18] mixed (by kernel_rfl) ?_) | (refine St.draw (id := 16) [(0, 0), (1, 0), (2, 0), (3, 1), (4, 0), (5, 0), (6, 0), (7, 1), (8, 0), (9, 3)] [9] mixed (by kernel_rfl) ?_) | (refine Ge ?_ ?_ <;> (intro h; try (exfalso; omega))) | fail)
          refine St.f1 Tryz.func195 ⟨_, ⟨rfl, rfl⟩, ?_⟩
          exact Ent.trans Ent.go (Ent.ex_in (Ls := xeL X c cv V Pb W m.x m.news) (nad, ncap))
end Go.Proofs.YthmbgodcpgkkeaaGreat
end
