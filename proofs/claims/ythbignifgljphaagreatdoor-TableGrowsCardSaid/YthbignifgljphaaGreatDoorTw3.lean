/-
  Package tumblerlaw22: TableGrows.
-/
import Derived.Test.YthbignifgljphaaGreatDoorTw2
namespace Go.Proofs.YthbignifgljphaaGreatDoor
set_option maxRecDepth 100000
theorem n64V_len (x : N64) : (n64V x).length = 1 := rfl
set_option maxHeartbeats 8000000 in
theorem qgrows_t (q : HProp) (qv : Value) (keys : List N64) (hv : ListR n64V q qv keys) : Tri Tryz.prog 7 #[qv] [q] fun v L => v = .bool true ∧ L = [q] := by
  obtain ⟨oad, ocap, rfl, hcap, hv⟩ := hv
  by_cases h24 : 24 < keys.length
  · refine Tri.of_body (vs := [_]) Tryz.func7 rfl rfl fun w0 F => ?_
    repeat' (first | refine Ga ?_ | (refine Gb ?_; intro b) | (refine Gd ?_; intro g cap rest hcap) | (refine Gc ?_; intro ad cap) | (refine St.draw (id := 19) [(0, 0), (1, 0), (4, 0), (5, 0), (6, 1), (7, 0), (2, 3), (3, 0), (8, 0)] [2] mixed (by kernel_rfl) ?_) | (refine Gt alive_t ?_; rintro _ _ ⟨rfl, rfl⟩) | (refine Ge ?_ ?_ <;> (intro h; try (exfalso; omega))) | fail)
    all_goals first | (exfalso; omega) | skip
    refine St.d1 Tryz.func7 ⟨_, ⟨rfl, rfl⟩, Ent.go⟩
  obtain ⟨r0, hr0, hran0, o1, hq1⟩ := (qinv0 0).step (by decide) 0 60 0 (by decide) (by decide) (by decide)
  have hnew := fun S => lrun_t S ms0 (qinv0 0).ok 0 (by decide) 0 60 0 r0 hr0
  rw [show (doesM 0 none 60 0).1 = some ⟨60, []⟩ from rfl] at hq1
  generalize stgM (2, 0, 0) 0 none 60 0 = s1 at hq1
  unfold doneV at hnew
  generalize runMs ms0 r0 = m1 at hq1 hnew
  generalize r0.1.code = c0 at hnew
  generalize r0.1.val = v0 at hnew
  generalize r0.1.steps = st0 at hnew
  generalize r0.1.dw = dw0 at hnew
  generalize r0.1.news = nw0 at hnew
  have hg0 : GInv m1 [] [] o1 s1 := ⟨hq1.at (Nat.zero_le _), fun _ => rfl, rfl, List.nodup_nil⟩
  refine Tri.of_body (vs := [_]) Tryz.func7 rfl rfl fun w0 F => ?_
  repeat' (first | refine Ga ?_ | (refine Gb ?_; intro b) | (refine Gd ?_; intro g cap rest hcap) | (refine Gc ?_; intro ad cap) | (refine St.draw (id := 19) [(0, 0), (1, 0), (4, 0), (5, 0), (6, 1), (7, 0), (2, 3), (3, 0), (8, 0)] [2] mixed (by kernel_rfl) ?_) | (refine Gt alive_t ?_; rintro _ _ ⟨rfl, rfl⟩) | (refine Gt mnew_t ?_; rintro _ _ ⟨S, rfl, rfl⟩) | (refine Gt (hnew _) ?_; rintro _ _ ⟨nad0, ncap0, rfl, rfl⟩) | (refine Ge ?_ ?_ <;> (intro h; try (exfalso; omega))) | fail)
  all_goals first | (exfalso; omega) | skip
  revert b; intro mb
  refine St.loopY (Lr := ?Lr1) (ι := { x : Nat × Ms × Prs × Seen × Nat × (Nat × Nat × Nat) // x.1 ≤ keys.length ∧ GInv x.2.1 x.2.2.1 x.2.2.2.1 x.2.2.2.2.1 x.2.2.2.2.2 ∧ x.2.2.2.1.length ≤ x.1 ∧ (∀ i (hi : i < keys.length), i < x.1 → (mget x.2.2.2.1 ((keys[i].1 : Nat) : Int)).isSome = true) ∧ ∀ p ∈ x.2.2.2.1, ∃ k ∈ keys, p.1 = ((k.1 : Nat) : Int) }) (fun x => keys.length - x.1.1)
    (fun x => [(28, .int .i64 (x.1.1 : Int))]) (fun x => [MsE S x.1.2.1, Mp mb u64K u64N x.1.2.2.2.1]) ⟨(0, m1, [], [], o1, s1), Nat.zero_le _, hg0, Nat.zero_le _, fun i hi h => by omega, fun p hp => by cases hp⟩ ?hE1 ?hL1 ?round1
  case hE1 => exact Sub.go
  case hL1 => exact Takes.go
  case round1 =>
    rintro ⟨⟨k, m, P, lm, own, sg⟩, hk, hg, hll, hput, hkeys⟩ IH; dsimp only at hk hg hll hput hkeys IH ⊢
    by_cases hlt : k < keys.length
    · obtain ⟨bf, o, l, hoad, hrd, hall⟩ := ListR.fix (f := n64V) (sz := 1) n64V_len hv (by omega)
      subst hoad
      obtain ⟨l1, hdr, htk⟩ := hall k hlt
      generalize hkk : keys[k] = kk at htk
      obtain ⟨kv, hkv⟩ := kk
      unfold n64V at htk
      dsimp only at htk
      have hnth : NthN (o + (k : Int).toNat * 1) l (.int .u64 (kv : Int)) := NthN.part (j := 0) hdr htk (NthN.of rfl)
      have hl60 : P.length < 60 := by rw [hg.len]; omega
      obtain ⟨m', own', s', st, dw, nl, hq', hrun⟩ := hg.run S 1 kv (k + 1) (by decide) hkv (does_put (val := k + 1) (hg.get kv) hl60)
      rw [show ((k + 1 : Nat) : Int) = (k : Int) + 1 by omega] at hrun
      have hg' := hg.put (val := k + 1) (by omega) hq'
      have hput' : ∀ i (hi : i < keys.length), i < k + 1 → (mget (mput lm (kv : Int) (k + 1)) ((keys[i].1 : Nat) : Int)).isSome = true := fun i hi hik => by
        rw [mget_mput]
        by_cases e : (kv : Int) = ((keys[i].1 : Nat) : Int)
        · rw [if_pos e]; rfl
        · rw [if_neg e]
          refine hput i hi ?_
          have hne : i ≠ k := fun e' => by subst e'; rw [hkk] at e; exact e rfl
          omega
      have hkeys' : ∀ p ∈ mput lm (kv : Int) (k + 1), ∃ k ∈ keys, p.1 = ((k.1 : Nat) : Int) := fun p hp => by
        have hm : p.1 ∈ (mput lm (kv : Int) (k + 1)).map (·.1) := List.mem_map_of_mem hp
        cases hg0' : mget lm (kv : Int) with
        | some y =>
          rw [(mput_len_old hg0').2] at hm
          obtain ⟨p', hp', e⟩ := List.mem_map.mp hm
          obtain ⟨k', h1, h2⟩ := hkeys p' hp'
          exact ⟨k', h1, e ▸ h2⟩
        | none =>
          rw [mput_len_new hg0'] at hp
          rcases List.mem_append.mp hp with hp | hp
          · exact hkeys p hp
          · obtain rfl : p = ((kv : Int), k + 1) := by simpa using hp
            exact ⟨keys[k], List.getElem_mem hlt, by rw [hkk]⟩
      have hll' : (mput lm (kv : Int) (k + 1)).length ≤ k + 1 := by
        cases hg0' : mget lm (kv : Int) with
        | some y => rw [(mput_len_old hg0').1]; omega
        | none => rw [mput_len_new hg0', List.length_append]; show lm.length + 1 ≤ k + 1; omega
      repeat' (first | refine Ga ?_ | (refine Gb ?_; intro b) | (refine Gd ?_; intro g cap rest hcap) | (refine Gc ?_; intro ad cap) | (refine St.draw (id := 19) [(0, 0), (1, 0), (4, 0), (5, 0), (6, 1), (7, 0), (2, 3), (3, 0), (8, 0)] [2] mixed (by kernel_rfl) ?_) | (refine Gt hrun ?_; rintro _ _ ⟨nad, ncap, rfl, rfl⟩) | (refine Ge ?_ ?_ <;> (intro h; try (exfalso; omega))) | fail)
      all_goals first | (exfalso; revert h; cases (mget lm (kv : Int)).isSome <;> simp; done) | (exfalso; omega) | skip
      clear hrun h
      generalize mput lm (kv : Int) (k + 1) = lm2 at *
      generalize withP kv (k + 1) P = P2 at *
      refine St.loopY (Lr := ?Lr2) (ι := { x : Nat × Ms × Nat × (Nat × Nat × Nat) // x.1 ≤ k + 1 ∧ GInv x.2.1 P2 lm2 x.2.2.1 x.2.2.2 }) (fun x => k + 1 - x.1.1) (fun x => [(67, .int .i64 (x.1.1 : Int))]) (fun x => [MsE S x.1.2.1]) ⟨(0, m', own', s'), Nat.zero_le _, hg'⟩ ?hE2 ?hL2 ?round2
      case hE2 => exact Sub.go
      case hL2 => exact Takes.go
      case round2 =>
        rintro ⟨⟨j, mj, oj, sj⟩, hj, hgj⟩ IH2; dsimp only at hj hgj IH2 ⊢
        by_cases hjl : j < k + 1
        · have hjk : j < keys.length := by omega
          obtain ⟨l2, hdr2, htk2⟩ := hall j hjk
          have hsm := hput' j hjk hjl
          generalize hkk2 : keys[j] = kk2 at htk2 hsm
          obtain ⟨kj, hkj⟩ := kk2
          unfold n64V at htk2
          dsimp only at htk2 hsm
          have hnth2 : NthN (o + (j : Int).toNat * 1) l (.int .u64 (kj : Int)) := NthN.part (j := 0) hdr2 htk2 (NthN.of rfl)
          obtain ⟨v, hv2⟩ := Option.isSome_iff_exists.mp hsm
          obtain ⟨mj2, oj2, sj2, st2, dw2, nl2, hq2, hrun2⟩ := hgj.run S 2 kj 0 (by decide) hkj (does_get (v := v) ((hgj.get kj).trans hv2))
          have hgj2 := hgj.same hq2
          have hgv : (mget lm2 (kj : Int)).getD 0 = v := by rw [hv2]; rfl
          repeat' (first | refine St.halt 19 ?_ |refine Ga ?_ | (refine Gb ?_; intro b) | (refine Gd ?_; intro g cap rest hcap) | (refine Gc ?_; intro ad cap) | (refine St.draw (id := 19) [(0, 0), (1, 0), (4, 0), (5, 0), (6, 1), (7, 0), (2, 3), (3, 0), (8, 0)] [2] mixed (by kernel_rfl) ?_) | (refine Gt hrun2 ?_; rintro _ _ ⟨nad2, ncap2, rfl, rfl⟩) | (refine Ge ?_ ?_ <;> (intro h; try (exfalso; omega))) | fail)
          apply Halt.go
          apply St.seq
          refine St.drawT0 (L0 := [Mp mb u64K u64N lm2]) (id := 19) [(0, 0), (1, 0), (4, 0), (5, 0), (6, 1), (7, 0), (2, 2), (3, 0), (8, 0)] .done [] mixed (by kernel_rfl) ?_
          repeat' (first | refine Ga ?_ | (refine Gb ?_; intro b) | (refine Gd ?_; intro g cap rest hcap) | (refine Gc ?_; intro ad cap) | (refine St.draw (id := 19) [(0, 0), (1, 0), (4, 0), (5, 0), (6, 1), (7, 0), (2, 2), (3, 0), (8, 0)] [] mixed (by kernel_rfl) ?_) | (refine Gt hrun2 ?_; rintro _ _ ⟨nad2, ncap2, rfl, rfl⟩) | (refine Gu hrun2 ?_; rintro _ _ ⟨nad2, ncap2, rfl, rfl⟩; refine ⟨Ent.go, ?_⟩) | (refine Ge ?_ ?_ <;> (intro h; try (exfalso; omega))) | fail)
          all_goals first | (exfalso; omega) | (exfalso; rw [hgv] at h; simp at h; done) | skip
          refine IH2 ⟨(j + 1, mj2, oj2, sj2), hjl, hgj2⟩ (by show k + 1 - (j + 1) < k + 1 - j; omega) ?_ ?_
          · exact Sub.go
          · exact Ent.go
        · obtain rfl : j = k + 1 := by omega
          clear IH2
          repeat' (first | refine Ga ?_ | (refine Gb ?_; intro b) | (refine Gd ?_; intro g cap rest hcap) | (refine Gc ?_; intro ad cap) | (refine St.draw (id := 19) [(0, 0), (1, 0), (4, 0), (5, 0), (6, 1), (7, 0), (2, 3), (3, 0), (8, 0)] [2] mixed (by kernel_rfl) ?_) | (refine Ge ?_ ?_ <;> (intro h; try (exfalso; omega))) | fail)
          all_goals first | (exfalso; omega) | skip
          refine IH ⟨(k + 1, mj, P2, lm2, oj, sj), hlt, hgj, hll', hput', hkeys'⟩ (by show keys.length - (k + 1) < keys.length - k; omega) ?_ ?_
          · exact Sub.go
          · exact Ent.go
    · obtain rfl : k = keys.length := by omega
      clear IH
      have hszd : doesM 4 (some ⟨60, P⟩) 0 0 = (some ⟨60, P⟩, 0, P.length) := rfl
      obtain ⟨m4, o4, s4, st4, dw4, nl4, hq4, hrun4⟩ := hg.run S 4 0 0 (by decide) (by decide) hszd
      have hg4 := hg.same hq4
      have hlen4 := hg.len
      have hl24 : lm.length ≤ 24 := by have h1 : P.length ≤ 24 := hg.q.n; omega
      repeat' (first | refine Ga ?_ | (refine Gb ?_; intro b) | (refine Gd ?_; intro g cap rest hcap) | (refine Gc ?_; intro ad cap) | (refine St.draw (id := 19) [(0, 0), (1, 0), (4, 0), (5, 0), (6, 1), (7, 0), (2, 3), (3, 0), (8, 0)] [2] mixed (by kernel_rfl) ?_) | (refine Gt hrun4 ?_; rintro _ _ ⟨nad4, ncap4, rfl, rfl⟩) | (refine Ge ?_ ?_ <;> (intro h; try (exfalso; omega))) | fail)
      all_goals first | (exfalso; omega) | skip
      clear h
      have hk4 : ∀ p ∈ lm, ∃ i, ∃ hi : i < keys.length, 0 ≤ i ∧ p.1 = ((keys[i].1 : Nat) : Int) := fun p hp => by
        obtain ⟨x, hx, e⟩ := hkeys p hp
        obtain ⟨i, hi, rfl⟩ := List.mem_iff_getElem.mp hx
        exact ⟨i, hi, Nat.zero_le _, e⟩
      refine St.loopY (Lr := ?Lr3) (ι := { x : Nat × Ms × Prs × Seen × Nat × (Nat × Nat × Nat) // x.1 ≤ keys.length ∧ GInv x.2.1 x.2.2.1 x.2.2.2.1 x.2.2.2.2.1 x.2.2.2.2.2 ∧ ∀ p ∈ x.2.2.2.1, ∃ i, ∃ hi : i < keys.length, x.1 ≤ i ∧ p.1 = ((keys[i].1 : Nat) : Int) }) (fun x => keys.length - x.1.1)
        (fun x => [(92, .int .i64 (x.1.1 : Int))]) (fun x => [MsE S x.1.2.1, Mp mb u64K u64N x.1.2.2.2.1]) ⟨(0, m4, P, lm, o4, s4), Nat.zero_le _, hg4, hk4⟩ ?hE3 ?hL3 ?round3
      case hE3 => exact Sub.go
      case hL3 => exact Takes.go
      case round3 =>
        rintro ⟨⟨i, m, P, lm, own, sg⟩, hi, hg, hkl⟩ IH3; dsimp only at hi hg hkl IH3 ⊢
        by_cases hlt : i < keys.length
        · obtain ⟨bf, o, l, hoad, hrd, hall⟩ := ListR.fix (f := n64V) (sz := 1) n64V_len hv (by omega)
          subst hoad
          obtain ⟨l1, hdr, htk⟩ := hall i hlt
          generalize hkk : keys[i] = kk at htk
          obtain ⟨kv, hkv⟩ := kk
          unfold n64V at htk
          dsimp only at htk
          have hnth : NthN (o + (i : Int).toNat * 1) l (.int .u64 (kv : Int)) := NthN.part (j := 0) hdr htk (NthN.of rfl)
          obtain ⟨m5, o5, s5, st5, dw5, nl5, hq5, hrun5⟩ := hg.run S 3 kv 0 (by decide) hkv (does_del (hg.get kv))
          have hg5 := hg.del hq5
          have hm5 : mget (withoutP kv P) kv = none := by rw [mget_withoutP, if_pos rfl]
          obtain ⟨m6, o6, s6, st6, dw6, nl6, hq6, hrun6⟩ := hg5.run S 2 kv 0 (by decide) hkv (does_miss hm5)
          have hg6 := hg5.same hq6
          have hkl' : ∀ p ∈ mdel lm (kv : Int), ∃ i', ∃ hi : i' < keys.length, i + 1 ≤ i' ∧ p.1 = ((keys[i'].1 : Nat) : Int) := fun p hp => by
            obtain ⟨h1, h2⟩ := mem_mdel hg.nd hp
            obtain ⟨i', hi', h3, h4⟩ := hkl p h1
            refine ⟨i', hi', ?_, h4⟩
            rcases Nat.lt_or_ge i i' with h | h
            · exact h
            · obtain rfl : i = i' := by omega
              rw [hkk] at h4
              exact absurd h4 h2
          repeat' (first | refine Ga ?_ | (refine Gb ?_; intro b) | (refine Gd ?_; intro g cap rest hcap) | (refine Gc ?_; intro ad cap) | (refine St.draw (id := 19) [(0, 0), (1, 0), (4, 0), (5, 0), (6, 1), (7, 0), (2, 3), (3, 0), (8, 0)] [2] mixed (by kernel_rfl) ?_) | (refine Gt hrun5 ?_; rintro _ _ ⟨nad5, ncap5, rfl, rfl⟩) | (refine Gt hrun6 ?_; rintro _ _ ⟨nad6, ncap6, rfl, rfl⟩) | (refine Ge ?_ ?_ <;> (intro h; try (exfalso; omega))) | fail)
          all_goals first | (exfalso; omega) | (exfalso; revert h; cases (mget lm (kv : Int)).isSome <;> simp; done) | skip
          refine IH3 ⟨(i + 1, m6, withoutP kv P, mdel lm (kv : Int), o6, s6), hlt, hg6, hkl'⟩ (by show keys.length - (i + 1) < keys.length - i; omega) ?_ ?_
          · exact Sub.go
          · exact Ent.go
        · obtain rfl : i = keys.length := by omega
          clear IH3
          have hlm : lm = [] := List.eq_nil_iff_forall_not_mem.mpr fun p hp => by
            obtain ⟨i', hi', h1, _⟩ := hkl p hp
            omega
          have hP : P = [] := List.eq_nil_of_length_eq_zero (by rw [hg.len, hlm]; rfl)
          subst hP
          have hdd : doesM 5 (some ⟨60, []⟩) 0 0 = (none, 0, 0) := rfl
          obtain ⟨m7, o7, s7, st7, dw7, nl7, hq7, hrun7⟩ := hg.run S 5 0 0 (by decide) (by decide) hdd
          have hb7 : m7.blocks.length = 0 := by rw [hq7.len]; exact hq7.rep.2.1
          have hhd := handles_t S m7 (by omega)
          rw [hb7] at hhd
          repeat' (first | refine Ga ?_ | (refine Gb ?_; intro b) | (refine Gd ?_; intro g cap rest hcap) | (refine Gc ?_; intro ad cap) | (refine St.draw (id := 19) [(0, 0), (1, 0), (4, 0), (5, 0), (6, 1), (7, 0), (2, 3), (3, 0), (8, 0)] [2] mixed (by kernel_rfl) ?_) | (refine Gt hrun7 ?_; rintro _ _ ⟨nad7, ncap7, rfl, rfl⟩) | (refine Gt hhd ?_; rintro _ _ ⟨had, hcap2, rfl, rfl⟩) | (refine Ge ?_ ?_ <;> (intro h; try (exfalso; omega))) | fail)
          all_goals first | (exfalso; omega) | skip
          refine St.d1 Tryz.func7 ⟨_, ⟨rfl, rfl⟩, Ent.go⟩
end Go.Proofs.YthbignifgljphaaGreatDoor
