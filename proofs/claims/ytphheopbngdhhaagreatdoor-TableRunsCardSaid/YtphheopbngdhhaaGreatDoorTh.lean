/-
  Package tumblerlaw22: alive.
-/
import Derived.Test.YtphheopbngdhhaaGreatDoorTh0
namespace Go.Proofs.YtphheopbngdhhaaGreatDoor
set_option maxRecDepth 100000
set_option maxHeartbeats 4000000 in
theorem alive_t : Tri Tryz.prog 7 #[] [] fun v L => v = .bool true ∧ L = [] := by
  have hn := names_t
  obtain ⟨tx, htp, ht⟩ := qtext_4
  have r1 := fun S => lrun_sum S ms0 al1 (.of (by kernel_rfl)) 0 (by decide) 3 9 0 0 0 15 23 2 al_s1
  have r8 := fun S => lrun_sum S al7 al8 (al_ok 6) 1 (by decide) 3 2 99 0 1 72 14 0 al_s8
  have r9 := fun S => lrun_sum S al8 al8 (.of (by kernel_rfl)) 2 (by decide) 3 2 0 0 99 20 0 0 al_s9
  have r10 := fun S => lrun_sum S al8 al8 (.of (by kernel_rfl)) 2 (by decide) 3 7 0 40 1 23 0 0 al_s10
  have r11 := fun S => lrun_sum S al8 al9 (.of (by kernel_rfl)) 3 (by decide) 3 0 0 0 1 28 4 0 al_s11
  obtain ⟨own, sg, hrep⟩ := al_rep
  have d1 := fun S => decode_t S al9 (.of (by kernel_rfl)) 3 own sg _ (by decide) hrep.rep (by show (5 : Nat) ≤ 1000; decide)
  refine Tri.of_body (vs := []) Tryz.func7 rfl rfl fun w0 F => ?_
  repeat' (first | refine Ga ?_ | (refine Gb ?_; intro b) | (refine Gd ?_; intro g cap rest hcap) | (refine Gc ?_; intro ad cap) | refine Gl ht ?_ | (refine Gt mnew_t ?_; rintro _ _ ⟨S, rfl, rfl⟩) | (refine Gt hn ?_; rintro _ _ ⟨nb, rfl, rfl⟩) | (refine Gt (r1 _) ?_; rintro _ _ ⟨nad1, ncap1, rfl, rfl⟩) | (refine Ge ?_ ?_ <;> (intro h; try (exfalso; omega))) | fail)
  refine St.loopY (Lr := ?Lr1) (ι := { x : Nat // x ≤ 6 }) (fun x => 6 - x.1) (fun x => [(27, .int .u64 (x.1 : Int))]) (fun x => [MsE S (alS x.1)]) ⟨0, by decide⟩ ?hE1 ?hL1 ?round1
  case hE1 => exact Sub.go
  case hL1 => rw [show alS (⟨0, by decide⟩ : { x : Nat // x ≤ 6 }).1 = al1 from rfl]; exact Takes.go
  case round1 =>
    rintro ⟨k, hk⟩ IH; dsimp only at hk IH ⊢
    by_cases hlt : k < 6
    · obtain ⟨st, dw, nl, hs⟩ := al_put k hlt
      have hp := lrun_sum S (alS k) (alS (k + 1)) (al_ok k) 1 (by decide) 3 k (10 + k) 0 0 st dw nl hs
      rw [show ((10 + k : Nat) : Int) = 10 + (k : Int) by omega] at hp
      repeat' (first | refine Ga ?_ | (refine Gb ?_; intro b) | (refine Gd ?_; intro g cap rest hcap) | (refine Gc ?_; intro ad cap)  | (refine Gt hp ?_; rintro _ _ ⟨nad2, ncap2, rfl, rfl⟩) | (refine Ge ?_ ?_ <;> (intro h; try (exfalso; omega))) | fail)
      all_goals first | (exfalso; omega) | skip
      refine IH ⟨k + 1, hlt⟩ (by show 6 - (k + 1) < 6 - k; omega) ?_ ?_
      · exact Sub.go
      · exact Ent.go
    · obtain rfl : k = 6 := by omega
      clear IH
      rw [show alS 6 = al7 from rfl]
      repeat' (first | refine St.halt 17 ?_ |refine Ga ?_ | (refine Gb ?_; intro b) | (refine Gd ?_; intro g cap rest hcap) | (refine Gc ?_; intro ad cap)  | (refine Gt (r8 _) ?_; rintro _ _ ⟨nad8, ncap8, rfl, rfl⟩) | (refine Gt (r9 _) ?_; rintro _ _ ⟨nad9, ncap9, rfl, rfl⟩) | (refine Gt (r10 _) ?_; rintro _ _ ⟨nad10, ncap10, rfl, rfl⟩) | (refine Gt (r11 _) ?_; rintro _ _ ⟨nad11, ncap11, rfl, rfl⟩) | (refine Gt (d1 _) ?_; rintro _ _ ⟨pv, H, rfl, hq, rfl⟩) | (refine Ge ?_ ?_ <;> (intro h; try (exfalso; omega))) | fail)
      apply Halt.go
      have hq0 := hq
      obtain ⟨Q1, lv, rfl, hrd, hls⟩ := hq
      obtain ⟨ad, cap, rfl, _, hls2⟩ := hls
      have hdo := does_4 H _ ⟨9, [(1, 11), (2, 99), (3, 13), (4, 14), (5, 15)]⟩ 0 0 hq0 (by decide)
      unfold doesQ at hdo
      dsimp only at hdo
      obtain ⟨bq, oq, lq, l1, rfl, hrdq, hdrq, htkq⟩ := ListR.at (f := prV) (sz := 2) prV_len hls2 1 (by decide)
      have hdr : DropN (oq + (1 : Int).toNat * 2) lq l1 := hdrq
      have hll : (⟨9, [(1, 11), (2, 99), (3, 13), (4, 14), (5, 15)]⟩ : Tb).pairs.length = 5 := rfl
      have htk : TakeN 2 l1 [.int .u64 2, .int .u64 99] := htkq
      repeat' (first | refine St.halt 18 ?_ |refine Ga ?_ | (refine Gb ?_; intro b) | (refine Gd ?_; intro g cap rest hcap) | (refine Gc ?_; intro ad cap)  | (refine Gt hdo ?_; rintro _ _ ⟨pv2, H2, rfl, hq2, hmo, rfl⟩) | (refine Ge ?_ ?_ <;> (intro h; try (exfalso; omega))) | fail)
      obtain ⟨Q2, lv2, rfl, _, _⟩ := hq2
      have hrd' := hmo _ _ hrd
      have hrdq' := hmo _ _ hrdq
      apply Halt.go
      repeat' (first | refine Ga ?_ | (refine Gb ?_; intro b) | (refine Gd ?_; intro g cap rest hcap) | (refine Gc ?_; intro ad cap)  | (refine Ge ?_ ?_ <;> (intro h; try (exfalso; omega))) | fail)
      all_goals first | (exfalso; omega) | skip
      refine St.d1 Tryz.func7 ⟨_, ⟨rfl, rfl⟩, ?_⟩
      exact Ent.go
end Go.Proofs.YtphheopbngdhhaaGreatDoor
