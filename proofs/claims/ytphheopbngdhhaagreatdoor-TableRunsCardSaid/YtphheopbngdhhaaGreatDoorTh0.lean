/-
  Package tumblerlaw22: alive.
-/
import Derived.Test.YtphheopbngdhhaaGreatDoorTg
namespace Go.Proofs.YtphheopbngdhhaaGreatDoor
set_option maxRecDepth 100000
def namesL : List Value := [bs (nmB 0), bs (nmB 1), bs (nmB 2), bs (nmB 3), bs (nmB 4), bs (nmB 5)]
theorem contains_4 (b : Nat) : Tri Tryz.prog 63 #[.slice (some ⟨b, 0, none⟩) 6 6, bs (nmB 4)] [bl b 9 namesL] fun v L => v = .bool (decide (4 < 6)) ∧ L = [] := by
  have hix : Tri Tryz.prog 85 #[.slice (some ⟨b, 0, none⟩) 6 6, bs (nmB 4)] [bl b 9 namesL] fun v L => v = .int .i64 (if 4 < 6 then 4 else -1) ∧ L = [] := by
    unfold namesL nmB
    refine Tri.of_body (vs := [_, _]) Tryz.func85 rfl rfl fun w0 F => ?_
    repeat' (first | (apply St.loop1) | (apply St.inLoop1) | refine Ga ?_ | (refine Gb ?_; intro b) | (refine Gd ?_; intro g cap rest hcap) | (refine Gc ?_; intro ad cap)  | (refine Ge ?_ ?_ <;> (intro h; try (exfalso; omega))) | fail)
    refine St.d1 Tryz.func85 ⟨_, ⟨rfl, rfl⟩, Ent.go⟩
  refine Tri.of_body (vs := [_, _]) Tryz.func63 rfl rfl fun w0 F => ?_
  repeat' (first | refine Ga ?_ | (refine Gb ?_; intro b) | (refine Gd ?_; intro g cap rest hcap) | (refine Gc ?_; intro ad cap)  | (refine Gt hix ?_; rintro _ _ ⟨rfl, rfl⟩) | (refine Ge ?_ ?_ <;> (intro h; try (exfalso; omega))) | fail)
  refine St.d1 Tryz.func63 ⟨_, ⟨rfl, rfl⟩, Ent.go⟩
/-- behind what is done -/
def doesQ (H : HProp) (m : Option Tb × Int × Nat) (v : Value) (L : List HProp) : Prop :=
  ∃ pv' H', v = .tuple ⟨[pv', .agg ⟨[.int .i64 m.2.1, .int .u64 (m.2.2 : Int)]⟩]⟩ ∧ TaR H' pv' m.1 ∧ (∀ b l, RdC H b l → RdC H' b l) ∧ L = [H']
theorem does_4 (H : HProp) (pv : Value) (x : Tb) (key val : Nat) (hq : TaR H pv (some x)) (hl : x.pairs.length ≤ 1000) : Tri Tryz.prog 28 #[pv, bs (nmB 4), .int .u64 (key : Int), .int .u64 (val : Int)] [H] (doesQ H (some x, 0, x.pairs.length)) := by
  have hn := names_t
  have hc := contains_4
  have hq' := hq
  obtain ⟨b, lv, rfl, hrd, hls⟩ := hq
  obtain ⟨ad, cap, rfl, _⟩ := hls
  unfold namesL at hc
  unfold nmB at *
  refine Tri.of_body (vs := [_, _, _, _]) Tryz.func28 rfl rfl fun w0 F => ?_
  repeat' (first | refine Ga ?_ | (refine Gb ?_; intro b) | (refine Gd ?_; intro g cap rest hcap) | (refine Gc ?_; intro ad cap)  | (refine Gt hn ?_; rintro _ _ ⟨nb, rfl, rfl⟩) | (refine Gt (hc nb) ?_; rintro _ _ ⟨rfl, rfl⟩) | (refine Ge ?_ ?_ <;> (intro h; try (exfalso; omega))) | fail)
  refine St.d1 Tryz.func28 ⟨_, ⟨_, H, rfl, hq', fun b l h => h, rfl⟩, ?_⟩
  exact Ent.go
def sumR (m : Ms) (r : Option (Rm × Bool)) : Option (Int × Nat × Int × Int × Nat × Ms) := match r with
  | none => none
  | some r => some (r.1.code, r.1.val, r.1.steps, r.1.dw, r.1.news.length, runMs m r)
theorem lrun_sum (S : Nat) (m m' : Ms) (hm : MsOk m) (k : Nat) (hk : k < 6) (root key val : Nat) (c : Int) (v : Nat) (st dw : Int) (nl : Nat) (h : sumR m (runQ m k root key val) = some (c, v, st, dw, nl, m')) :
    Tri Tryz.prog 9 #[.pointer (some ⟨S, 0, none⟩), bs (nmB k), .int .u64 (root : Int), .int .u64 (key : Int), .int .u64 (val : Int)] [MsE S m]
      fun val L => ∃ nad ncap, val = .agg ⟨[.int .i64 c, .int .u64 (v : Int), .int .i64 st, .int .i64 dw, .slice nad nl ncap]⟩ ∧ L = [MsE S m'] := by
  cases hr : runQ m k root key val with
  | none => rw [hr] at h; cases h
  | some r =>
    rw [hr] at h
    have h2 := lrun_t S m hm k hk root key val r hr
    injection h with h
    injection h with e1 h; injection h with e2 h; injection h with e3 h; injection h with e4 h; injection h with e5 e6
    subst e1 e2 e3 e4 e5 e6
    exact h2
theorem qstep {m m' : Ms} {x : Option Tb} {own : Nat} {s : Nat × Nat × Nat} {n : Nat} (h : QInv m 3 x own s n) (hn : n < 59) (k key val : Nat) (hk : k < 6) (ha : key < 18446744073709551616) {c : Int} {v : Nat} {st dw : Int} {nl : Nat} (hs : sumR m (runQ m k 3 key val) = some (c, v, st, dw, nl, m')) :
    ∃ own' s', QInv m' 3 (doesM k x key val).1 own' s' (n + 1) := by
  obtain ⟨r, hr, _, own', h'⟩ := h.step hn k key val hk (by decide) ha
  rw [hr] at hs
  injection hs with hs
  injection hs with e1 hs; injection hs with e2 hs; injection hs with e3 hs; injection hs with e4 hs; injection hs with e5 e6
  subst e6
  exact ⟨own', _, h'⟩
def al1 : Ms := ⟨[0, 0, 0, 1, 0, 0, 0, 0, 0, 0, 0, 0, 0, 0, 0, 0], [(1, [3, 2, 2, 0, 0, 0, 0, 9]), (2, [0, 0, 0, 0, 0, 0, 0, 0])]⟩
def al2 : Ms := ⟨[0, 0, 0, 1, 0, 0, 0, 0, 0, 0, 0, 0, 0, 0, 0, 0], [(1, [3, 2, 2, 0, 0, 0, 1, 9]), (2, [3, 0, 0, 0, 0, 0, 0, 0]), (3, [0, 0, 10, 0, 0, 0, 0, 0])]⟩
def al3 : Ms := ⟨[0, 0, 0, 1, 0, 0, 0, 0, 0, 0, 0, 0, 0, 0, 0, 0], [(1, [3, 2, 2, 0, 0, 0, 2, 9]), (2, [3, 4, 0, 0, 0, 0, 0, 0]), (3, [0, 0, 10, 0, 0, 0, 0, 0]), (4, [1, 0, 11, 0, 0, 0, 0, 0])]⟩
def al4 : Ms := ⟨[0, 0, 0, 1, 0, 0, 0, 0, 0, 0, 0, 0, 0, 0, 0, 0], [(1, [3, 2, 2, 0, 0, 0, 3, 9]), (2, [5, 4, 0, 0, 0, 0, 0, 0]), (3, [0, 0, 10, 0, 0, 0, 0, 0]), (4, [1, 0, 11, 0, 0, 0, 0, 0]), (5, [2, 3, 12, 0, 0, 0, 0, 0])]⟩
def al5 : Ms := ⟨[0, 0, 0, 1, 0, 0, 0, 0, 0, 0, 0, 0, 0, 0, 0, 0], [(1, [3, 2, 2, 0, 0, 0, 4, 9]), (2, [5, 6, 0, 0, 0, 0, 0, 0]), (3, [0, 0, 10, 0, 0, 0, 0, 0]), (4, [1, 0, 11, 0, 0, 0, 0, 0]), (5, [2, 3, 12, 0, 0, 0, 0, 0]), (6, [3, 4, 13, 0, 0, 0, 0, 0])]⟩
def al6 : Ms := ⟨[0, 0, 0, 1, 0, 0, 0, 0, 0, 0, 0, 0, 0, 0, 0, 0], [(1, [3, 8, 4, 2, 2, 0, 5, 9]), (2, [7, 6, 0, 0, 0, 0, 0, 0]), (3, [0, 0, 10, 0, 0, 0, 0, 0]), (4, [1, 0, 11, 0, 0, 0, 0, 0]), (5, [2, 3, 12, 0, 0, 0, 0, 0]), (6, [3, 4, 13, 0, 0, 0, 0, 0]), (7, [4, 5, 14, 0, 0, 0, 0, 0]), (8, [0, 0, 0, 0, 0, 0, 0, 0])]⟩
def al7 : Ms := ⟨[0, 0, 0, 1, 0, 0, 0, 0, 0, 0, 0, 0, 0, 0, 0, 0], [(1, [3, 8, 4, 2, 2, 1, 6, 9]), (2, [0, 9, 0, 0, 0, 0, 0, 0]), (3, [0, 7, 10, 0, 0, 0, 0, 0]), (4, [1, 0, 11, 0, 0, 0, 0, 0]), (5, [2, 0, 12, 0, 0, 0, 0, 0]), (6, [3, 4, 13, 0, 0, 0, 0, 0]), (7, [4, 0, 14, 0, 0, 0, 0, 0]), (8, [3, 0, 5, 0, 0, 0, 0, 0]), (9, [5, 6, 15, 0, 0, 0, 0, 0])]⟩
def al8 : Ms := ⟨[0, 0, 0, 1, 0, 0, 0, 0, 0, 0, 0, 0, 0, 0, 0, 0], [(1, [3, 8, 4, 0, 0, 0, 6, 9]), (3, [0, 7, 10, 0, 0, 0, 0, 0]), (4, [1, 9, 11, 0, 0, 0, 0, 0]), (5, [2, 0, 99, 0, 0, 0, 0, 0]), (6, [3, 0, 13, 0, 0, 0, 0, 0]), (7, [4, 0, 14, 0, 0, 0, 0, 0]), (8, [3, 4, 5, 6, 0, 0, 0, 0]), (9, [5, 0, 15, 0, 0, 0, 0, 0])]⟩
def al9 : Ms := ⟨[0, 0, 0, 1, 0, 0, 0, 0, 0, 0, 0, 0, 0, 0, 0, 0], [(1, [3, 8, 4, 0, 0, 0, 5, 9]), (4, [1, 9, 11, 0, 0, 0, 0, 0]), (5, [2, 0, 99, 0, 0, 0, 0, 0]), (6, [3, 0, 13, 0, 0, 0, 0, 0]), (7, [4, 0, 14, 0, 0, 0, 0, 0]), (8, [7, 4, 5, 6, 0, 0, 0, 0]), (9, [5, 0, 15, 0, 0, 0, 0, 0])]⟩
theorem al_s1 : sumR ms0 (runQ ms0 0 3 9 0) = some (0, 0, 15, 23, 2, al1) := by kernel_rfl
theorem al_s2 : sumR al1 (runQ al1 1 3 0 10) = some (0, 0, 42, 14, 1, al2) := by kernel_rfl
theorem al_s3 : sumR al2 (runQ al2 1 3 1 11) = some (0, 0, 42, 14, 1, al3) := by kernel_rfl
theorem al_s4 : sumR al3 (runQ al3 1 3 2 12) = some (0, 0, 49, 14, 1, al4) := by kernel_rfl
theorem al_s5 : sumR al4 (runQ al4 1 3 3 13) = some (0, 0, 49, 14, 1, al5) := by kernel_rfl
theorem al_s6 : sumR al5 (runQ al5 1 3 4 14) = some (0, 0, 65, 28, 2, al6) := by kernel_rfl
theorem al_s7 : sumR al6 (runQ al6 1 3 5 15) = some (0, 0, 101, 22, 1, al7) := by kernel_rfl
theorem al_s8 : sumR al7 (runQ al7 1 3 2 99) = some (0, 1, 72, 14, 0, al8) := by kernel_rfl
theorem al_s9 : sumR al8 (runQ al8 2 3 2 0) = some (0, 99, 20, 0, 0, al8) := by kernel_rfl
theorem al_s10 : sumR al8 (runQ al8 2 3 7 0) = some (40, 1, 23, 0, 0, al8) := by kernel_rfl
theorem al_s11 : sumR al8 (runQ al8 3 3 0 0) = some (0, 1, 28, 4, 0, al9) := by kernel_rfl
def alS : Nat → Ms
  | 0 => al1
  | 1 => al2
  | 2 => al3
  | 3 => al4
  | 4 => al5
  | 5 => al6
  | _ => al7
theorem al_put (k : Nat) (hk : k < 6) : ∃ st dw nl, sumR (alS k) (runQ (alS k) 1 3 k (10 + k)) = some (0, 0, st, dw, nl, alS (k + 1)) := by
  rcases (by omega : k = 0 ∨ k = 1 ∨ k = 2 ∨ k = 3 ∨ k = 4 ∨ k = 5) with rfl | rfl | rfl | rfl | rfl | rfl
  · exact ⟨42, 14, 1, al_s2⟩
  · exact ⟨42, 14, 1, al_s3⟩
  · exact ⟨49, 14, 1, al_s4⟩
  · exact ⟨49, 14, 1, al_s5⟩
  · exact ⟨65, 28, 2, al_s6⟩
  · exact ⟨101, 22, 1, al_s7⟩
def msOkB (m : Ms) : Bool := Nat.beq m.roots.length 16 && m.blocks.all fun p => Nat.beq p.2.length 8
theorem MsOk.of {m : Ms} (h : msOkB m = true) : MsOk m := by
  unfold msOkB at h
  rw [Bool.and_eq_true] at h
  exact ⟨Nat.eq_of_beq_eq_true h.1, fun p hp => Nat.eq_of_beq_eq_true (List.all_eq_true.1 h.2 p hp)⟩
theorem al_ok (k : Nat) : MsOk (alS k) := by
  have h : msOkB (alS k) = true := by
    rcases (by omega : k = 0 ∨ k = 1 ∨ k = 2 ∨ k = 3 ∨ k = 4 ∨ k = 5 ∨ 6 ≤ k) with rfl | rfl | rfl | rfl | rfl | rfl | h
    · kernel_rfl
    · kernel_rfl
    · kernel_rfl
    · kernel_rfl
    · kernel_rfl
    · kernel_rfl
    · obtain ⟨j, rfl⟩ : ∃ j, k = j + 6 := ⟨k - 6, by omega⟩
      show msOkB al7 = true
      kernel_rfl
  exact .of h
theorem al_rep : ∃ own s, QInv al9 3 (some ⟨9, [(1, 11), (2, 99), (3, 13), (4, 14), (5, 15)]⟩) own s 9 := by
  obtain ⟨_, _, h1⟩ := qstep (qinv0 3) (by decide) 0 9 0 (by decide) (by decide) al_s1
  obtain ⟨_, _, h2⟩ := qstep h1 (by decide) 1 0 10 (by decide) (by decide) al_s2
  obtain ⟨_, _, h3⟩ := qstep h2 (by decide) 1 1 11 (by decide) (by decide) al_s3
  obtain ⟨_, _, h4⟩ := qstep h3 (by decide) 1 2 12 (by decide) (by decide) al_s4
  obtain ⟨_, _, h5⟩ := qstep h4 (by decide) 1 3 13 (by decide) (by decide) al_s5
  obtain ⟨_, _, h6⟩ := qstep h5 (by decide) 1 4 14 (by decide) (by decide) al_s6
  obtain ⟨_, _, h7⟩ := qstep h6 (by decide) 1 5 15 (by decide) (by decide) al_s7
  obtain ⟨_, _, h8⟩ := qstep h7 (by decide) 1 2 99 (by decide) (by decide) al_s8
  obtain ⟨o, s, h9⟩ := qstep h8 (by decide) 3 0 0 (by decide) (by decide) al_s11
  refine ⟨o, s, ?_⟩
  have e : (doesM 3 (doesM 1 (doesM 1 (doesM 1 (doesM 1 (doesM 1 (doesM 1 (doesM 1 (doesM 0 none 9 0).1 0 10).1 1 11).1 2 12).1 3 13).1 4 14).1 5 15).1 2 99).1 0 0).1 = some ⟨9, [(1, 11), (2, 99), (3, 13), (4, 14), (5, 15)]⟩ := by kernel_rfl
  rw [← e]
  exact h9
theorem qtext_4 : ∃ tx : ByteArray, 0 < tx.data.size ∧ RTri Tryz.prog 27 #[bs (nmB 4)] [] (.tuple ⟨[.string tx, .bool true]⟩) :=
  ⟨⟨⟨qtx 4⟩⟩, by apply Nat.le_of_ble_eq_true; kernel_rfl, qtext_r ⟨⟨nmB 4⟩⟩⟩
end Go.Proofs.YtphheopbngdhhaaGreatDoor
