/-
  Package model: Run, of any code. Package tumblerlaw11: settled, over any memory.
-/
import Derived.Test.YthmbgodcpgkkeaaGreatEs
section
namespace Go.Proofs.YthmbgodcpgkkeaaGreat
set_option maxRecDepth 100000
theorem codeB_of {code : List Ins} (h : rightB code = true) : codeB code = true := by
  obtain ⟨h1, h2, h3⟩ := right_at h
  unfold codeB
  rw [List.all_eq_true]
  intro i hi
  obtain ⟨k, hk, e⟩ := List.getElem_of_mem hi
  have := h3 k hk
  rw [e] at this
  have h4 := this.ok
  refine decide_eq_true ⟨h4.a0, h4.a1, h4.b0, h4.b1, h4.c0, h4.c1, ?_⟩
  by_cases h17 : i.op = 17 ∨ i.op = 18
  · have := this.go h17; exact .inl (by omega)
  by_cases h19 : i.op = 19
  · have := this.back h19; exact .inl (by omega)
  by_cases h8 : i.op = 8
  · have := this.arg h8; exact .inl (by omega)
  · exact .inr (by omega)
theorem mrun_bad (S : Nat) (ms : Ms) (qc q : HProp) (cv : Value) (code : List Ins) (hcv : InsR qc cv code) (hright : rightB code = false) (args : List Value) (_ha : args.length = 4) (fuel wr : Int) (pv : Value) :
    Tri Tryz.prog 56 #[.pointer (some ⟨S, 0, none⟩), cv, .agg ⟨args⟩, .int .i64 fuel, .int .i64 wr, pv] [MsE S ms, qc, q]
      fun v L => v = .agg ⟨[.int .i64 30, .int .u64 0, .int .i64 0, .int .i64 0, .slice none 0 0]⟩ ∧ L = [MsE S ms, Row (.slice none 0 0) 22 1 0 [], qc, q] := by
  have hri := right_rr qc cv code hcv
  rw [hright] at hri
  refine Tri.of_body (vs := [_, _, _, _, _, _]) Tryz.func56 rfl rfl fun w0 F => ?_
  repeat' (first | refine Ga ?_ | (refine Gb ?_; intro b) | (refine Gd ?_; intro g cap rest hcap) | (refine Gc ?_; intro ad cap) | (refine St.draw (id := 3) [(0, 0), (2, 1), (3, 0), (4, 0), (1, 2), (5, 0), (6, 2), (7, 0)] [] mixed (by kernel_rfl) ?_)| refine Gl hri ?_ | (refine Ge ?_ ?_ <;> (intro h; try (exfalso; omega))) | fail)
  refine St.d1 Tryz.func56 ⟨_, ⟨rfl, rfl⟩, Ent.trans (Ent.row_nil 22 1) Ent.go⟩
end Go.Proofs.YthmbgodcpgkkeaaGreat
end
section
namespace Go.Proofs.YthmbgodcpgkkeaaGreat
set_option maxRecDepth 100000
/-- what a pool is told by a memory -/
structure PoolM (c : Cfg) (cs : List Cell) (n : Nat) (F : Nat) (ls : List Nat) : Prop where
  mem : MemV c cs (fun a => (cellI cs a).val) n
  F1 : (F : Int) ≤ c.blocks
  L1 : (ls.length : Int) ≤ c.limit
  top : (cellI cs (c.at 12 0 0)).val = F
  lim : (cellI cs (c.at 14 0 0)).val = ls.length
  limbo : ∀ (i : Nat) (h : i < ls.length), (cellI cs (c.at 15 i 0)).val = ls[i]
theorem MemH.pool {c : Cfg} {cs : List Cell} {n : Nat} {fs ls R : List Nat} {B : List (Int × List Nat)} (h : MemH c cs n fs ls R B) : PoolM c cs n fs.length ls :=
  ⟨h.mem, h.rep.fsz, h.rep.lsz, h.top, h.lim, h.rep.lim⟩
/-- what the slots hold -/
def slotS (c : Cfg) (cs : List Cell) (u : Nat) : Nat := (cellI cs (c.at 3 u 0)).val
theorem pool_out {c : Cfg} (hc : Small c) {cs : List Cell} {n F : Nat} {ls : List Nat} (h : PoolM c cs n F ls) {who : Int} (hw : 0 ≤ who ∧ who < 8) {k : Nat} (hk : (k : Int) < c.threads + 2 + ls.length) : (doOut cs who (mop 0 (poA c k) 0)).was.val = poV c (slotS c cs) F ls k ∧ (c.threads ≤ k → (doOut cs who (mop 0 (poA c k) 0)).was.seq ≤ n) ∧ doMem cs who (mop 0 (poA c k) 0) = cs := by
  have hs := h.mem.sz hc
  have hf := f717 hc
  unfold poA poV
  by_cases h1 : (k : Int) < c.threads
  · rw [if_pos h1, if_pos h1]
    have := slot_in hc (u := k) (by omega) h1
    obtain ⟨g1, g2⟩ := load_out (cs := cs) hw (a := c.at 3 k 0) (by omega) (by omega)
    rw [g1]
    exact ⟨rfl, fun e => by omega, g2⟩
  rw [if_neg h1, if_neg h1]
  by_cases h2 : (k : Int) = c.threads
  · rw [if_pos h2, if_pos h2]
    obtain ⟨g1, g2, g3⟩ := h.mem.load hc hw (at_in hc (by decide) (in12 c))
    exact ⟨g1.trans h.top, fun _ => g2, g3⟩
  rw [if_neg h2, if_neg h2]
  by_cases h3 : (k : Int) = c.threads + 1
  · rw [if_pos h3, if_pos h3]
    obtain ⟨g1, g2, g3⟩ := h.mem.load hc hw (at_in hc (by decide) (in14 c))
    exact ⟨g1.trans h.lim, fun _ => g2, g3⟩
  · rw [if_neg h3, if_neg h3]
    have ht := hc.t0
    have hj : k - c.threads.toNat - 2 < ls.length := by omega
    have hl := h.L1
    rw [show (k : Int) - c.threads - 2 = ((k - c.threads.toNat - 2 : Nat) : Int) by omega]
    obtain ⟨g1, g2, g3⟩ := h.mem.load hc hw (at_in hc (by decide) (in15 (c := c) (b := k - c.threads.toNat - 2) (by omega)))
    refine ⟨g1.trans ((h.limbo _ hj).trans ?_), fun _ => g2, g3⟩
    rw [List.getD_eq_getElem?_getD, List.getElem?_eq_getElem hj]; rfl
/-- where a pool's step is, and its box -/
def poB (c : Cfg) (seq : Nat) (S : Nat → Nat) (F : Nat) (ls : List Nat) (b k : Nat) : HProp := bl b 41 ((poK c seq S F ls k).ask c).1.v
set_option maxHeartbeats 2000000 in
theorem settled_g (M W room : Nat) (c : Cfg) (hc : Small c) {cs : List Cell} {n Nf : Nat} {ls : List Nat} (h : PoolM c cs n Nf ls) (t : Nat) (ht : t ≤ 900000) (who : Int) (hw : 0 ≤ who ∧ who < 8) (seq : Nat) (hq : n ≤ seq) (puts : List (Int × Nat)) (hr : puts.length ≤ 1000000) (K : Nat) (hK : (K : Int) = c.threads + 2 + ls.length) :
    Tri Tryz.prog 72 #[.agg ⟨c.m⟩, .pointer (some ⟨M, 0, none⟩), .int .i64 who, .int .u64 (seq : Int), .pointer (some ⟨W, 0, none⟩)] [Ml M cs t, Ws W room puts]
      fun r L => ∃ Pb, r = .pointer (some ⟨Pb, 0, none⟩) ∧ L = [Pl Pb c ((poK c seq (slotS c cs) Nf ls K).settled c room puts), Ml M cs (t + K), Ws W room (setGo c room (poK c seq (slotS c cs) Nf ls K).names 0 (poK c seq (slotS c cs) Nf ls K).limbo ⟨0, (poK c seq (slotS c cs) Nf ls K).nt, puts⟩).puts] := by
  have hl := h.L1
  have hlim := hc.limit
  have ht1 := hc.t1; have ht0 := hc.t0
  have hn := pnew_t c seq
  rw [← poK_zero (seq := seq) (S := slotS c cs) (F := Nf) (ls := ls) hc] at hn
  have ha := fun (Pb k : Nat) (hk : k ≤ K) => pask_r Pb c hc (poK c seq (slotS c cs) Nf ls k) (by rw [poK_next]; omega)
  have hb : ∀ k, k ≤ K → ((poK c seq (slotS c cs) Nf ls k).ask c).2 = decide (k < K) := fun k hk => by
    by_cases hlt : k < K
    · rw [poK_ask hc (by omega), decide_eq_true hlt]
    · rw [poK_done hc (by omega), decide_eq_false hlt]
  have hd := fun (k : Nat) (hk : k < K) => does_t M cs (t + k) (by omega) who ((poK c seq (slotS c cs) Nf ls k).ask c).1
  have htl := fun (Pb k : Nat) (hk : k < K) => ptell_t Pb c hc (poK c seq (slotS c cs) Nf ls k) (doOut cs who ((poK c seq (slotS c cs) Nf ls k).ask c).1) (by rw [poK_next]; omega) (by have := poK_names (c := c) (seq := seq) (S := slotS c cs) (F := Nf) (ls := ls) k; omega) (by have := poK_limbo (c := c) (seq := seq) (S := slotS c cs) (F := Nf) (ls := ls) k; omega)
  have hstep : ∀ k, k < K → doMem cs who ((poK c seq (slotS c cs) Nf ls k).ask c).1 = cs ∧ (poK c seq (slotS c cs) Nf ls k).tell c (doOut cs who ((poK c seq (slotS c cs) Nf ls k).ask c).1) = poK c seq (slotS c cs) Nf ls (k + 1) := fun k hk => by
    obtain ⟨g1, g2, g3⟩ := pool_out hc h hw (k := k) (by omega)
    rw [poK_ask hc (by omega)]
    exact ⟨g3, poK_tell hc h.F1 h.L1 (by omega) g1 fun e => Nat.le_trans (g2 e) hq⟩
  have hs := fun Pb => psettle_t Pb W room c hc (poK c seq (slotS c cs) Nf ls K) puts (by rw [poK_fin hc hK]; show (0 : Int) ≤ Nf; omega) (by rw [poK_fin hc hK]; show ls.length ≤ _; omega) (by rw [poK_fin hc hK]; show puts.length + 2 * ls.length ≤ _; omega)
  have ha0 := fun Pb => ha Pb 0 (Nat.zero_le _)
  rw [hb 0 (Nat.zero_le _)] at ha0
  unfold MOp.v at ha0
  refine Tri.of_body (vs := [_, _, _, _, _]) Tryz.func72 rfl rfl fun w0 F => ?_
  repeat' (first | refine Ga ?_ | (refine Gb ?_; intro b) | (refine Gd ?_; intro g cap rest hcap) | (refine Gc ?_; intro ad cap) | refine Gl (ha0 _) ?_ | (refine Gt hn ?_; rintro _ _ ⟨Pb, rfl, rfl⟩) | (refine Ge ?_ ?_ <;> (intro h; try (exfalso; omega))) | fail)
  refine St.loopY (Lr := ?Lr1) (ι := { x : Nat × Nat // x.1 ≤ K }) (fun x => K - x.1.1) (fun x => [(12, .pointer (some ⟨x.1.2, 0, none⟩)), (13, .bool (decide (x.1.1 < K)))]) (fun x => [Pl Pb c (poK c seq (slotS c cs) Nf ls x.1.1), Ml M cs (t + x.1.1), poB c seq (slotS c cs) Nf ls x.1.2 x.1.1]) ⟨(0, b), Nat.zero_le _⟩ ?hE1 ?hL1 ?round1
  case hE1 => exact Sub.go
  case hL1 => unfold poB MOp.v; exact Takes.go
  case round1 =>
    rintro ⟨⟨k, b⟩, hk⟩ IH; dsimp only at hk IH ⊢
    by_cases hlt : k < K
    · have hd := hd k hlt
      have htl := fun Pb => htl Pb k hlt
      obtain ⟨e1, e2⟩ := hstep k hlt
      rw [e1] at hd
      rw [e2] at htl
      have ha1 := fun Pb => ha Pb (k + 1) hlt
      rw [hb (k + 1) hlt] at ha1
      unfold MOp.v at ha1 hd
      unfold Out.v at hd htl
      unfold poB MOp.v at IH ⊢
      rw [decide_eq_true hlt]
      repeat' (first | refine Ga ?_ | (refine Gb ?_; intro b) | (refine Gd ?_; intro g cap rest hcap) | (refine Gc ?_; intro ad cap) | refine Gl (ha1 _) ?_ | (refine Gt hd ?_; rintro _ _ ⟨rfl, rfl⟩) | (refine Gt (htl _) ?_; rintro _ _ ⟨rfl, rfl⟩) | (refine Ge ?_ ?_ <;> (intro h; try (exfalso; omega))) | fail)
      refine IH ⟨(k + 1, b), hlt⟩ (by show K - (k + 1) < K - k; omega) ?_ ?_
      · exact Sub.go
      · exact Ent.go
    · obtain rfl : k = K := by omega
      clear IH
      rw [decide_eq_false hlt]
      repeat' (first | refine Ga ?_ | (refine Gb ?_; intro b) | (refine Gd ?_; intro g cap rest hcap) | (refine Gc ?_; intro ad cap)  | (refine Gt (hs _) ?_; rintro _ _ ⟨rfl, rfl⟩) | (refine Ge ?_ ?_ <;> (intro h; try (exfalso; omega))) | fail)
      refine St.d1 Tryz.func72 ⟨_, ⟨Pb, rfl, rfl⟩, ?_⟩
      exact Ent.go
end Go.Proofs.YthmbgodcpgkkeaaGreat
end
