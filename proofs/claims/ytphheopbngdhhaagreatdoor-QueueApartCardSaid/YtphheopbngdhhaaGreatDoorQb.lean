/-
  Packages queue, tumblerlaw20: names, spare handles, runs.
-/
import Derived.Test.YtphheopbngdhhaaGreatDoorQa
namespace Go.Proofs.YtphheopbngdhhaaGreatDoor
set_option maxRecDepth 100000
theorem names_t : Tri Tryz.prog 49 #[] [] fun v L => ∃ b, v = .slice (some ⟨b, 0, none⟩) 6 6 ∧ L = [bl b 9 [bs (nmB 0), bs (nmB 1), bs (nmB 2), bs (nmB 3), bs (nmB 4), bs (nmB 5)]] := by
  refine Tri.of_body (vs := []) Tryz.func49 rfl rfl fun w0 F => ?_
  repeat' (first | refine Ga ?_ | (refine Gb ?_; intro b) | (refine Gd ?_; intro g cap rest hcap) | (refine Gc ?_; intro ad cap)  | (refine Ge ?_ ?_ <;> (intro h; try (exfalso; omega))) | fail)
  refine St.d1 Tryz.func49 ⟨_, ⟨b, rfl, rfl⟩, ?_⟩
  exact Ent.go
def nameM (k : Int) : List UInt8 := if k < 0 ∨ 6 ≤ k then nmB 6 else nmB k.toNat
theorem qname_r (k : Int) : RTri Tryz.prog 24 #[.int .i64 k] [] (bs (nameM k)) := by
  apply RTri.of_pure
  unfold nameM
  by_cases h : k < 0 ∨ 6 ≤ k
  · rw [if_pos h]
    refine Tri.of_body (vs := [_]) Tryz.func24 rfl rfl fun w0 F => ?_
    repeat' (first | refine Ga ?_ | (refine Gb ?_; intro b) | (refine Gd ?_; intro g cap rest hcap) | (refine Gc ?_; intro ad cap)  | (refine Gt names_t ?_; rintro _ _ ⟨nb, rfl, rfl⟩) | (refine Ge ?_ ?_ <;> (intro h; try (exfalso; omega))) | fail)
    all_goals first | (exfalso; omega) | skip
    all_goals refine St.d1 Tryz.func24 ⟨_, ⟨rfl, rfl⟩, Ent.go⟩
  · rw [if_neg h]
    have hn : NthN (k.toNat * 1) [bs (nmB 0), bs (nmB 1), bs (nmB 2), bs (nmB 3), bs (nmB 4), bs (nmB 5)] (bs (nmB k.toNat)) := by
      rcases (by omega : k = 0 ∨ k = 1 ∨ k = 2 ∨ k = 3 ∨ k = 4 ∨ k = 5) with rfl | rfl | rfl | rfl | rfl | rfl <;> exact NthN.of rfl
    refine Tri.of_body (vs := [_]) Tryz.func24 rfl rfl fun w0 F => ?_
    repeat' (first | refine Ga ?_ | (refine Gb ?_; intro b) | (refine Gd ?_; intro g cap rest hcap) | (refine Gc ?_; intro ad cap)  | (refine Gt names_t ?_; rintro _ _ ⟨nb, rfl, rfl⟩) | (refine Ge ?_ ?_ <;> (intro h; try (exfalso; omega))) | fail)
    all_goals first | (exfalso; omega) | skip
    all_goals refine St.d1 Tryz.func24 ⟨_, ⟨rfl, rfl⟩, Ent.go⟩
def spGo (m : List (Int × List Nat)) : Nat → Nat → List Nat → List Nat
  | 0, _, out => out
  | k + 1, h, out => if h ≤ 64 ∧ out.length < 4 then spGo m k (h + 1) (match mget m (h : Int) with | some _ => out | none => out ++ [h]) else out
def spareM (m : List (Int × List Nat)) : List Nat := spGo m 65 1 []
theorem u64V_len (k : Nat) : (u64V k).length = 1 := rfl
theorem u64V_flat (l : List Nat) : l.flatMap u64V = u64s l := by
  induction l with
  | nil => rfl
  | cons x l ih => rw [List.flatMap_cons, ih]; rfl
set_option maxHeartbeats 1000000 in
theorem spare_t (S : Nat) (m : Ms) (hm : MsOk m) : Tri Tryz.prog 31 #[.pointer (some ⟨S, 0, none⟩)] [MsE S m]
    fun v L => ∃ ad cap, v = .slice ad (spareM m.blocks).length cap ∧ L = [Row (.slice ad (spareM m.blocks).length cap) 22 1 (spareM m.blocks).length (u64s (spareM m.blocks)), MsE S m] := by
  refine Tri.of_body (vs := [_]) Tryz.func31 rfl rfl fun w0 F => ?_
  repeat' (first | refine Ga ?_ | (refine Gb ?_; intro b) | (refine Gd ?_; intro g cap rest hcap) | (refine Gc ?_; intro ad cap)  | (refine Ge ?_ ?_ <;> (intro h; try (exfalso; omega))) | fail)
  revert b; intro B
  refine St.conv ?_ (Sub.refl _) (Ent.row_bl (sz := 1) (n := 0) rfl (by decide))
  refine St.loopY (Lr := ?Lr1) (ι := { x : Nat × Nat × List Nat × Option Addr × Nat // spGo m.blocks x.1 x.2.1 x.2.2.1 = spareM m.blocks ∧ x.1 + x.2.1 = 66 }) (fun x => x.1.1)
    (fun x => [(4, .int .u64 (x.1.2.1 : Int)), (3, .slice x.1.2.2.2.1 x.1.2.2.1.length x.1.2.2.2.2)]) (fun x => [Row (.slice x.1.2.2.2.1 x.1.2.2.1.length x.1.2.2.2.2) 22 1 x.1.2.2.1.length (u64s x.1.2.2.1)]) ⟨(65, 1, [], some ⟨B, 0, none⟩, 0), rfl, rfl⟩ ?hE1 ?hL1 ?round1
  case hE1 => exact Sub.go
  case hL1 => exact Takes.go
  case round1 =>
    rintro ⟨⟨k, n, out, oad, ocap⟩, hgo, hkh⟩ IH; dsimp only at hgo hkh IH ⊢
    cases k with
    | zero =>
      have hgo : out = spareM m.blocks := hgo
      subst hgo
      clear IH
      have : n = 66 := by omega
      repeat' (first | refine Ga ?_ | (refine Gb ?_; intro b) | (refine Gd ?_; intro g cap rest hcap) | (refine Gc ?_; intro ad cap)  | (refine Ge ?_ ?_ <;> (intro h; try (exfalso; omega))) | fail)
      all_goals first | (exfalso; omega) | skip
      refine St.d1 Tryz.func31 ⟨_, ⟨oad, ocap, rfl, rfl⟩, ?_⟩
      exact Ent.go
    | succ k =>
      have hu : spGo m.blocks (k + 1) n out = if n ≤ 64 ∧ out.length < 4 then spGo m.blocks k (n + 1) (match mget m.blocks (n : Int) with | some _ => out | none => out ++ [n]) else out := rfl
      rw [hu] at hgo
      by_cases hc : n ≤ 64 ∧ out.length < 4
      · rw [if_pos hc] at hgo
        obtain ⟨hc1, hc2⟩ := hc
        have hb := mblock_r S m hm n
        cases hg : mget m.blocks (n : Int) with
        | none =>
          rw [hg] at hgo hb
          dsimp only at hgo
          rw [show aggL ((none : Option (List Nat)).getD zero8) = .agg ⟨u64s zero8⟩ from rfl] at hb
          repeat' (first | refine Ga ?_ | (refine Gb ?_; intro b) | (refine Gd ?_; intro g cap rest hcap) | (refine Gc ?_; intro ad cap) | refine Gl hb ?_ | (refine Ge ?_ ?_ <;> (intro h; try (exfalso; omega))) | fail)
          all_goals first | (exfalso; omega) | skip
          refine IH ⟨(k, n + 1, out ++ [n], ad, cap), hgo, by dsimp only; omega⟩ (by show k < k + 1; omega) ?_ ?_
          · dsimp only; rw [List.length_append]; exact Sub.go
          · dsimp only; rw [List.length_append, show u64s (out ++ [n]) = u64s out ++ [.int .u64 (n : Int)] by simp [u64s]]; exact Ent.go
        | some bk =>
          have hl8 : bk.length = 8 := hm.b _ (mget_mem hg)
          have hul : (u64s bk).length = 8 := by rw [u64s_len, hl8]
          have hone := u64s_one bk
          have hspl := u64s_over hl8
          rw [hg] at hgo hb
          dsimp only at hgo
          rw [show aggL ((some bk).getD zero8) = .agg ⟨u64s bk⟩ from rfl] at hb
          repeat' (first | refine Ga ?_ | (refine Gb ?_; intro b) | (refine Gd ?_; intro g cap rest hcap) | (refine Gc ?_; intro ad cap) | refine Gl hb ?_ | (refine Ge ?_ ?_ <;> (intro h; try (exfalso; omega))) | fail)
          all_goals first | (exfalso; omega) | skip
          refine IH ⟨(k, n + 1, out, oad, ocap), hgo, by dsimp only; omega⟩ (by show k < k + 1; omega) ?_ ?_
          · exact Sub.go
          · exact Ent.go
      · rw [if_neg hc] at hgo
        subst hgo
        clear IH
        repeat' (first | refine Ga ?_ | (refine Gb ?_; intro b) | (refine Gd ?_; intro g cap rest hcap) | (refine Gc ?_; intro ad cap)  | (refine Ge ?_ ?_ <;> (intro h; try (exfalso; omega))) | fail)
        all_goals first | (exfalso; omega) | skip
        all_goals refine St.d1 Tryz.func31 ⟨_, ⟨oad, ocap, rfl, rfl⟩, ?_⟩
        all_goals exact Ent.go
theorem qcd_ok (k : Nat) (h : k < 6) : codeB (qcd k) = true ∧ rightB (qcd k) = true ∧ (qcd k).length ≤ 256 ∧ 0 < (qcd k).length := by
  rcases (by omega : k = 0 ∨ k = 1 ∨ k = 2 ∨ k = 3 ∨ k = 4 ∨ k = 5) with rfl | rfl | rfl | rfl | rfl | rfl <;> exact ⟨by kernel_rfl, by kernel_rfl, by apply Nat.le_of_ble_eq_true; kernel_rfl, by apply Nat.le_of_ble_eq_true; kernel_rfl⟩
theorem nmOf_nmB (k : Nat) (h : k < 6) : nmOf (nmB k) = k := by
  rcases (by omega : k = 0 ∨ k = 1 ∨ k = 2 ∨ k = 3 ∨ k = 4 ∨ k = 5) with rfl | rfl | rfl | rfl | rfl | rfl <;> kernel_rfl
/-- a run of the k-th program -/
def runQ (m : Ms) (k : Nat) (root arg : Nat) : Option (Rm × Bool) := runGo (qcd k) 400 401 (rm0 m [root, arg, 0, 0] 64 (spareM m.blocks))
def runMs (m : Ms) (r : Rm × Bool) : Ms := if r.2 then ⟨r.1.roots, r.1.blocks⟩ else m
set_option maxHeartbeats 1000000 in
theorem lrun_t (S : Nat) (m : Ms) (hm : MsOk m) (k : Nat) (hk : k < 6) (root arg : Nat) (r : Rm × Bool) (hr : runQ m k root arg = some r) : Tri Tryz.prog 25 #[.pointer (some ⟨S, 0, none⟩), bs (nmB k), .int .u64 (root : Int), .int .u64 (arg : Int)] [MsE S m]
    fun v L => ∃ nad ncap, v = .agg ⟨doneV r.1 nad ncap⟩ ∧ L = [MsE S (runMs m r)] := by
  have hpr := qprog_t ⟨⟨nmB k⟩⟩
  rw [show nmOf (⟨⟨nmB k⟩⟩ : ByteArray).data.toList = k from nmOf_nmB k hk] at hpr
  have hsp := spare_t S m hm
  rw [← u64V_flat] at hsp
  obtain ⟨hc1, hc2, hc3, hc4⟩ := qcd_ok k hk
  obtain ⟨mF, ok⟩ := r
  unfold runQ at hr
  unfold runMs
  generalize qcd k = code at *
  refine Tri.of_body (vs := [_, _, _, _]) Tryz.func25 rfl rfl fun w0 F => ?_
  repeat' (first | refine St.halt 2 ?_ |refine Ga ?_ | (refine Gb ?_; intro b) | (refine Gd ?_; intro g cap rest hcap) | (refine Gc ?_; intro ad cap)  | (refine Gt hpr ?_; rintro _ _ ⟨cad, ccap, rfl, rfl⟩) | (refine Ge ?_ ?_ <;> (intro h; try (exfalso; omega))) | fail)
  apply Halt.go
  refine St.conv ?_ (Sub.refl _) (Ent.of_take (p := Row (.slice cad code.length ccap) 129 5 code.length (code.flatMap Ins.v)) Take.go)
  refine St.rowL rfl (fun qc hqc => ?_)
  apply St.seq
  apply St.region
  repeat' (first | refine Ga ?_ | (refine Gb ?_; intro b) | (refine Gd ?_; intro g cap rest hcap) | (refine Gc ?_; intro ad cap)  | (refine Gt hsp ?_; rintro _ _ ⟨pad, pcap, rfl, rfl⟩) | (refine Ge ?_ ?_ <;> (intro h; try (exfalso; omega))) | fail)
  (apply StL.v; (apply OpV.buildA; (focus (repeat (first | rfl | constructor))); (focus (repeat (first | exact Fill.nil | (apply Fill.cons; exact ⟨rfl, rfl⟩; rfl; (focus (first | assumption | (repeat constructor)))))))); rfl)
  repeat' (first | refine Ga ?_ | (refine Gb ?_; intro b) | (refine Gd ?_; intro g cap rest hcap) | (refine Gc ?_; intro ad cap)  | (refine Gt hsp ?_; rintro _ _ ⟨pad, pcap, rfl, rfl⟩) | (refine Ge ?_ ?_ <;> (intro h; try (exfalso; omega))) | fail)
  refine StL.rowL rfl (fun q hq => ?_)
  have hrun := mrun_t S m hm qc q _ code hqc hc1 hc2 hc3 [root, arg, 0, 0] rfl 400 64 ⟨by decide, by decide⟩ ⟨by decide, by decide⟩ pad pcap (spareM m.blocks) hq 401 mF ok hr
  unfold g4 doneV at hrun
  unfold doneV
  repeat' (first | refine Ga ?_ | (refine Gb ?_; intro b) | (refine Gd ?_; intro g cap rest hcap) | (refine Gc ?_; intro ad cap)  | (refine Gt hrun ?_; rintro _ _ ⟨nad, ncap, rfl, rfl⟩) | (refine Ge ?_ ?_ <;> (intro h; try (exfalso; omega))) | fail)
  refine St.d1 Tryz.func25 ⟨_, ⟨nad, ncap, rfl, rfl⟩, ?_⟩
  exact Ent.go
end Go.Proofs.YtphheopbngdhhaaGreatDoor
