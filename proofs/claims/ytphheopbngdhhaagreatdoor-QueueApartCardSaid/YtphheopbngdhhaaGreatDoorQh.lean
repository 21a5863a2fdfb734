/-
  Package tumblerlaw20: alive.
-/
import Derived.Test.YtphheopbngdhhaaGreatDoorQg
namespace Go.Proofs.YtphheopbngdhhaaGreatDoor
set_option maxRecDepth 100000
def sumR (m : Ms) (r : Option (Rm × Bool)) : Option (Int × Nat × Int × Int × Nat × Ms) := match r with
  | none => none
  | some r => some (r.1.code, r.1.val, r.1.steps, r.1.dw, r.1.news.length, runMs m r)
theorem lrun_sum (S : Nat) (m m' : Ms) (hm : MsOk m) (k : Nat) (hk : k < 6) (root arg : Nat) (c : Int) (v : Nat) (st dw : Int) (nl : Nat) (h : sumR m (runQ m k root arg) = some (c, v, st, dw, nl, m')) :
    Tri Tryz.prog 25 #[.pointer (some ⟨S, 0, none⟩), bs (nmB k), .int .u64 (root : Int), .int .u64 (arg : Int)] [MsE S m]
      fun val L => ∃ nad ncap, val = .agg ⟨[.int .i64 c, .int .u64 (v : Int), .int .i64 st, .int .i64 dw, .slice nad nl ncap]⟩ ∧ L = [MsE S m'] := by
  cases hr : runQ m k root arg with
  | none => rw [hr] at h; cases h
  | some r =>
    rw [hr] at h
    have h2 := lrun_t S m hm k hk root arg r hr
    injection h with h
    injection h with e1 h; injection h with e2 h; injection h with e3 h; injection h with e4 h; injection h with e5 e6
    subst e1 e2 e3 e4 e5 e6
    exact h2
def al1 : Ms := ⟨[0, 0, 0, 1, 0, 0, 0, 0, 0, 0, 0, 0, 0, 0, 0, 0], [(1, [1, 0, 0, 0, 2, 0, 0, 0])]⟩
def al2 : Ms := ⟨[0, 0, 0, 1, 0, 0, 0, 0, 0, 0, 0, 0, 0, 0, 0, 0], [(1, [1, 2, 2, 1, 2, 0, 0, 0]), (2, [7, 0, 0, 0, 0, 0, 0, 0])]⟩
def al3 : Ms := ⟨[0, 0, 0, 1, 0, 0, 0, 0, 0, 0, 0, 0, 0, 0, 0, 0], [(1, [1, 2, 3, 2, 2, 0, 0, 0]), (2, [7, 3, 0, 0, 0, 0, 0, 0]), (3, [8, 0, 0, 0, 0, 0, 0, 0])]⟩
def al4 : Ms := ⟨[0, 0, 0, 1, 0, 0, 0, 0, 0, 0, 0, 0, 0, 0, 0, 0], [(1, [1, 3, 3, 1, 2, 0, 0, 0]), (3, [8, 0, 0, 0, 0, 0, 0, 0])]⟩
theorem al_s1 : sumR ms0 (runQ ms0 0 3 2) = some (0, 0, 11, 12, 1, al1) := by kernel_rfl
theorem al_s2 : sumR al1 (runQ al1 1 3 7) = some (0, 1, 22, 13, 1, al2) := by kernel_rfl
theorem al_s3 : sumR al2 (runQ al2 1 3 8) = some (0, 2, 23, 13, 1, al3) := by kernel_rfl
theorem al_s4 : sumR al3 (runQ al3 1 3 9) = some (40, 2, 12, 0, 0, al3) := by kernel_rfl
theorem al_s5 : sumR al3 (runQ al3 2 3 0) = some (0, 7, 20, 4, 0, al4) := by kernel_rfl
def msOkB (m : Ms) : Bool := Nat.beq m.roots.length 16 && m.blocks.all fun p => Nat.beq p.2.length 8
theorem MsOk.of {m : Ms} (h : msOkB m = true) : MsOk m := by
  unfold msOkB at h
  rw [Bool.and_eq_true] at h
  exact ⟨Nat.eq_of_beq_eq_true h.1, fun p hp => Nat.eq_of_beq_eq_true (List.all_eq_true.1 h.2 p hp)⟩
theorem qtext_4 : ∃ tx : ByteArray, 0 < tx.data.size ∧ RTri Tryz.prog 50 #[bs (nmB 4)] [] (.tuple ⟨[.string tx, .bool true]⟩) :=
  ⟨⟨⟨qtx 4⟩⟩, by apply Nat.le_of_ble_eq_true; kernel_rfl, qtext_r ⟨⟨nmB 4⟩⟩⟩
set_option maxHeartbeats 2000000 in
theorem alive_t : Tri Tryz.prog 15 #[] [] fun v L => v = .bool true ∧ L = [] := by
  have hn := names_t
  obtain ⟨tx, htp, ht⟩ := qtext_4
  have r1 := fun S => lrun_sum S ms0 al1 (.of (by kernel_rfl)) 0 (by decide) 3 2 0 0 11 12 1 al_s1
  have r2 := fun S => lrun_sum S al1 al2 (.of (by kernel_rfl)) 1 (by decide) 3 7 0 1 22 13 1 al_s2
  have r3 := fun S => lrun_sum S al2 al3 (.of (by kernel_rfl)) 1 (by decide) 3 8 0 2 23 13 1 al_s3
  have r4 := fun S => lrun_sum S al3 al3 (.of (by kernel_rfl)) 1 (by decide) 3 9 40 2 12 0 0 al_s4
  have r5 := fun S => lrun_sum S al3 al4 (.of (by kernel_rfl)) 2 (by decide) 3 0 0 7 20 4 0 al_s5
  have d1 := fun S => decode_t S al3 (.of (by kernel_rfl)) 3
  have d2 := fun S => decode_t S al4 (.of (by kernel_rfl)) 4
  rw [show decM al3 3 = (some ⟨2, [7, 8]⟩, 0) by kernel_rfl] at d1
  rw [show decM al4 4 = (none, 4) by kernel_rfl] at d2
  unfold decQ at d1 d2
  dsimp only at d1 d2
  refine Tri.of_body (vs := []) Tryz.func15 rfl rfl fun w0 F => ?_
  repeat' (first | refine St.halt 10 ?_ |refine Ga ?_ | (refine Gb ?_; intro b) | (refine Gd ?_; intro g cap rest hcap) | (refine Gc ?_; intro ad cap) | refine Gl ht ?_ | (refine Gt mnew_t ?_; rintro _ _ ⟨S, rfl, rfl⟩) | (refine Gt hn ?_; rintro _ _ ⟨nb, rfl, rfl⟩) | (refine Gt (r1 _) ?_; rintro _ _ ⟨nad1, ncap1, rfl, rfl⟩) | (refine Gt (r2 _) ?_; rintro _ _ ⟨nad2, ncap2, rfl, rfl⟩) | (refine Gt (r3 _) ?_; rintro _ _ ⟨nad3, ncap3, rfl, rfl⟩) | (refine Gt (r4 _) ?_; rintro _ _ ⟨nad4, ncap4, rfl, rfl⟩) | (refine Gt (d1 _) ?_; rintro _ _ ⟨pv, H, rfl, hq, rfl⟩) | (refine Ge ?_ ?_ <;> (intro h; try (exfalso; omega))) | fail)
  apply Halt.go
  have hq0 := hq
  obtain ⟨Q1, lv, rfl, hrd, hsl⟩ := hq
  obtain ⟨ad, cap, rfl⟩ := hsl.val
  have hdo := does_2 H _ ⟨2, [7, 8]⟩ 0 hq0 (by decide)
  unfold doesM doesQ at hdo
  dsimp only at hdo
  repeat' (first | refine St.halt 13 ?_ |refine Ga ?_ | (refine Gb ?_; intro b) | (refine Gd ?_; intro g cap rest hcap) | (refine Gc ?_; intro ad cap)  | (refine Gt (r5 _) ?_; rintro _ _ ⟨nad5, ncap5, rfl, rfl⟩) | (refine Gt hdo ?_; rintro _ _ ⟨pv2, H2, rfl, hq2, hmo, rfl⟩) | (refine Gt (d2 _) ?_; rintro _ _ ⟨pv3, H3, rfl, hq3, rfl⟩) | (refine Ge ?_ ?_ <;> (intro h; try (exfalso; omega))) | fail)
  obtain ⟨Q2, lv2, rfl, hrd2, hsl2⟩ := hq2
  obtain rfl : pv3 = .pointer none := hq3
  have hrd' := hmo _ _ hrd
  obtain ⟨bq, oq, cq, lq, hv, hrl, hnl⟩ := (hsl.weak hmo).at (by decide)
  injection hv with hv1 hv2 hv3
  subst hv1 hv3
  have hn1 : NthN (oq + (1 : Int).toNat * 1) lq (.int .u64 8) := hnl 1 (by decide)
  have hll : (⟨2, [7, 8]⟩ : Qu).list.length = 2 := rfl
  try apply Halt.go
  repeat' (first | refine Ga ?_ | (refine Gb ?_; intro b) | (refine Gd ?_; intro g cap rest hcap) | (refine Gc ?_; intro ad cap)  | (refine Ge ?_ ?_ <;> (intro h; try (exfalso; omega))) | fail)
  all_goals first | (exfalso; omega) | skip
  refine St.d1 Tryz.func15 ⟨_, ⟨rfl, rfl⟩, ?_⟩
  exact Ent.go
end Go.Proofs.YtphheopbngdhhaaGreatDoor
