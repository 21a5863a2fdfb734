/-
  Package tumblerlaw21: ChainSorts.
-/
import Derived.Test.YtalgmlhcbilicaaGreatDoorCk
namespace Go.Proofs.YtalgmlhcbilicaaGreatDoor
set_option maxRecDepth 100000
def seenV (i : Int) : Value := .int .i64 i
instance mapSeen : MapTy Tryz.prog 57 Int Int u64K seenV 0 := MapTy.int (kt := 25) (et := 3) (by kernel_rfl) (by kernel_rfl) (fun w => by rfl)
abbrev N64 := { x : Nat // x < 18446744073709551616 }
def n64V (x : N64) : List Value := [.int .u64 (x.1 : Int)]
/-- how often each key was put in; the keys, rising -/
structure Seen (ms : List (Int × Int)) (ks : List Nat) (k : Nat) : Prop where
  no : ∀ v : Nat, mget ms (v : Int) = none → v ∉ ks
  yes : ∀ (v : Nat) (c : Int), mget ms (v : Int) = some c → v ∈ ks ∧ 1 ≤ c ∧ c ≤ k
  len : ms.length = ks.length
theorem mem_insL {v x : Nat} {ks : List Nat} : x ∈ insL v ks ↔ x = v ∨ x ∈ ks := by
  have h := List.takeWhile_append_dropWhile (p := fun x => decide (x < v)) (l := ks)
  unfold insL loL hiL
  rw [List.mem_append, List.mem_cons]
  conv => rhs; rw [← h]
  rw [List.mem_append]
  constructor
  · rintro (h | h | h)
    · exact .inr (.inl h)
    · exact .inl h
    · exact .inr (.inr h)
  · rintro (h | h | h)
    · exact .inr (.inl h)
    · exact .inl h
    · exact .inr (.inr h)
theorem Seen.step {ms : List (Int × Int)} {ks : List Nat} {k : Nat} (h : Seen ms ks k) (v : Nat) :
    Seen (mput ms (v : Int) ((mget ms (v : Int)).getD 0 + 1)) (if v ∈ ks then ks else insL v ks) (k + 1) ∧ ((mget ms (v : Int)).getD 0 = 0 ↔ v ∉ ks) ∧ 0 ≤ (mget ms (v : Int)).getD 0 ∧ (mget ms (v : Int)).getD 0 ≤ k := by
  have hput : ∀ (c : Int) (w : Nat), mget (mput ms (v : Int) c) (w : Int) = if v = w then some c else mget ms (w : Int) := fun c w => by
    rw [mget_mput]
    by_cases e : v = w
    · rw [if_pos e, if_pos (by omega)]
    · rw [if_neg e, if_neg (by omega)]
  cases hg : mget ms (v : Int) with
  | none =>
    have hv := h.no v hg
    rw [if_neg hv]
    refine ⟨⟨fun w hw => ?_, fun w c hw => ?_, ?_⟩, ⟨fun _ => hv, fun _ => rfl⟩, Int.le_refl _, by show (0 : Int) ≤ _; omega⟩
    · rw [hput] at hw
      by_cases e : v = w
      · rw [if_pos e] at hw; cases hw
      · rw [if_neg e] at hw
        rw [mem_insL]
        rintro (h2 | h2)
        · exact e h2.symm
        · exact h.no w hw h2
    · rw [hput] at hw
      by_cases e : v = w
      · rw [if_pos e] at hw
        injection hw with hw
        exact ⟨mem_insL.mpr (.inl e.symm), by rw [← hw]; decide, by rw [← hw]; show (0 : Int) + 1 ≤ _; omega⟩
      · rw [if_neg e] at hw
        obtain ⟨h1, h2, h3⟩ := h.yes w c hw
        exact ⟨mem_insL.mpr (.inr h1), h2, by omega⟩
    · rw [mput_len_new hg, List.length_append, insL_len, h.len]; rfl
  | some c0 =>
    obtain ⟨hv, h1, h2⟩ := h.yes v c0 hg
    rw [if_pos hv]
    refine ⟨⟨fun w hw => ?_, fun w c hw => ?_, ?_⟩, ⟨fun h0 => absurd h0 (by show ¬(c0 = 0); omega), fun hn => absurd hv hn⟩, by show 0 ≤ c0; omega, h2⟩
    · rw [hput] at hw
      by_cases e : v = w
      · rw [if_pos e] at hw; cases hw
      · rw [if_neg e] at hw
        exact h.no w hw
    · rw [hput] at hw
      by_cases e : v = w
      · rw [if_pos e] at hw
        injection hw with hw
        have hw : c0 + 1 = c := hw
        exact ⟨by rw [← e]; exact hv, by omega, by omega⟩
      · rw [if_neg e] at hw
        obtain ⟨h1, h2, h3⟩ := h.yes w c hw
        exact ⟨h1, h2, by omega⟩
    · rw [(mput_len_old hg).1, h.len]
theorem delL_head {y : Nat} {t : List Nat} (h : (y :: t).Pairwise (· < ·)) : delL y (y :: t) = t ∧ y ∉ t := by
  have h1 := (List.pairwise_cons.mp h).1
  have hn : y ∉ t := fun hm => by have := h1 y hm; omega
  refine ⟨?_, hn⟩
  unfold delL
  rw [List.filter_cons_of_neg (by simp)]
  refine List.filter_eq_self.mpr fun x hx => ?_
  have := h1 x hx
  exact decide_eq_true (by omega)
set_option maxHeartbeats 4000000 in
theorem qsorts_t (q : HProp) (qv : Value) (keys : List N64) (hv : ListR n64V q qv keys) : Tri Tryz.prog 5 #[qv] [q] fun v L => v = .bool true ∧ L = [q] := by
  obtain ⟨oad, ocap, rfl, _, hv⟩ := hv
  by_cases h30 : 30 < keys.length
  · refine Tri.of_body (vs := [_]) Tryz.func5 rfl rfl fun w0 F => ?_
    repeat' (first | refine Ga ?_ | (refine Gb ?_; intro b) | (refine Gd ?_; intro g cap rest hcap) | (refine Gc ?_; intro ad cap)  | (refine Gt alive_t ?_; rintro _ _ ⟨rfl, rfl⟩) | (refine Ge ?_ ?_ <;> (intro h; try (exfalso; omega))) | fail)
    all_goals first | (exfalso; omega) | skip
    refine St.d1 Tryz.func5 ⟨_, ⟨rfl, rfl⟩, Ent.go⟩
  have hnew := fun S => run_of S (qinv0 0) (by decide) 0 64 (by decide) (by decide) (by decide) (q' := some ⟨64, []⟩) (c := 0) (v := 0) rfl
  refine Tri.of_body (vs := [_]) Tryz.func5 rfl rfl fun w0 F => ?_
  repeat' (first | refine St.halt 6 ?_ |refine Ga ?_ | (refine Gb ?_; intro b) | (refine Gd ?_; intro g cap rest hcap) | (refine Gc ?_; intro ad cap)  | (refine Gt alive_t ?_; rintro _ _ ⟨rfl, rfl⟩) | (refine Gt mnew_t ?_; rintro _ _ ⟨S, rfl, rfl⟩) | (refine Ge ?_ ?_ <;> (intro h; try (exfalso; omega))) | fail)
  all_goals first | (exfalso; omega) | skip
  apply Halt.go
  obtain ⟨m0, own0, st0, dw0, nl0, hi0, hrun0⟩ := hnew S
  repeat' (first | refine St.halt 8 ?_ |refine Ga ?_ | (refine Gb ?_; intro b) | (refine Gd ?_; intro g cap rest hcap) | (refine Gc ?_; intro ad cap)  | (refine Gt hrun0 ?_; rintro _ _ ⟨nad0, ncap0, rfl, rfl⟩) | (refine Ge ?_ ?_ <;> (intro h; try (exfalso; omega))) | fail)
  apply Halt.go
  revert b; intro Bm
  apply St.seq
  apply St.region
  repeat' (first | refine Ga ?_ | (refine Gb ?_; intro b) | (refine Gd ?_; intro g cap rest hcap) | (refine Gc ?_; intro ad cap)  | (refine Ge ?_ ?_ <;> (intro h; try (exfalso; omega))) | fail)
  refine St.loopY (Lr := ?Lr1) (ι := { x : Nat × Ms × List Nat × List Nat × List (Int × Int) // x.1 ≤ keys.length ∧ QInv x.2.1 0 (some ⟨64, x.2.2.1⟩) x.2.2.2.1 (x.1 + 1) ∧ Seen x.2.2.2.2 x.2.2.1 x.1 ∧ x.2.2.1.length ≤ x.1 ∧ ∀ y ∈ x.2.2.1, y < 18446744073709551616 }) (fun x => keys.length - x.1.1)
    (fun x => [(22, .int .i64 (x.1.1 : Int))]) (fun x => [MsE S x.1.2.1, Mp Bm u64K seenV x.1.2.2.2.2]) ⟨(0, m0, [], own0, []), Nat.zero_le _, hi0, ⟨fun _ _ h => (by cases h), fun _ _ h => (by cases h), rfl⟩, Nat.le_refl _, fun _ h => (by cases h)⟩ ?hE1 ?hL1 ?round1
  case hE1 => exact Sub.go
  case hL1 => exact Takes.go
  case round1 =>
    rintro ⟨⟨k, m, ks, own, ms⟩, hk, hi, hs, hkl, h64⟩ IH; dsimp only at hk hi hs hkl h64 IH ⊢
    by_cases hlt : k < keys.length
    · obtain ⟨bf, o, l, l1, rfl, hrd, hdr, htk⟩ := ListR.at (f := n64V) (sz := 1) (fun _ => rfl) hv k hlt
      generalize keys[k] = key at htk
      obtain ⟨v, hv64⟩ := key
      unfold n64V at htk
      dsimp only at htk
      have hn1 : NthN (o + (k : Int).toNat * 1) l (.int .u64 (v : Int)) := NthN.part hdr htk (j := 0) (NthN.of rfl)
      obtain ⟨hs', hc1, hc2, hc3⟩ := hs.step v
      have hX : (mget (mput ms (v : Int) ((mget ms (v : Int)).getD 0 + 1)) (v : Int)).getD 0 = (mget ms (v : Int)).getD 0 + 1 := by rw [mget_mput, if_pos rfl]; rfl
      by_cases hin : v ∈ ks
      · rw [if_pos hin] at hs'
        have hc4 : ¬(mget ms (v : Int)).getD 0 = 0 := fun e => hc1.mp e hin
        have hXb : (((0 : Nat) : Int) == 1) = ((mget (mput ms (v : Int) ((mget ms (v : Int)).getD 0 + 1)) (v : Int)).getD 0 == 1) := by
          rw [hX, beq_false_of_ne (show (mget ms (v : Int)).getD 0 + 1 ≠ 1 by omega)]; rfl
        obtain ⟨m', own', st, dw, nl, hi', hrun⟩ := run_of S hi (by omega) 1 v (by decide) (by decide) hv64 (q' := some ⟨64, ks⟩) (c := 0) (v := 0) (if_pos hin)
        repeat' (first | refine Ga ?_ | (refine Gb ?_; intro b) | (refine Gd ?_; intro g cap rest hcap) | (refine Gc ?_; intro ad cap)  | (refine Gt hrun ?_; rintro _ _ ⟨nad, ncap, rfl, rfl⟩) | (refine Ge ?_ ?_ <;> (intro h; try (exfalso; omega))) | fail)
        all_goals first | (exfalso; omega) | exact absurd hXb (by assumption) | skip
        refine IH ⟨(k + 1, m', ks, own', _), hlt, hi', hs', by dsimp only; omega, h64⟩ (by show keys.length - (k + 1) < keys.length - k; omega) ?_ ?_
        · exact Sub.go
        · exact Ent.go
      · rw [if_neg hin] at hs'
        have hc4 : (mget ms (v : Int)).getD 0 = 0 := hc1.mpr hin
        have hXb : (((1 : Nat) : Int) == 1) = ((mget (mput ms (v : Int) ((mget ms (v : Int)).getD 0 + 1)) (v : Int)).getD 0 == 1) := by
          rw [hX, hc4]; rfl
        obtain ⟨m', own', st, dw, nl, hi', hrun⟩ := run_of S hi (by omega) 1 v (by decide) (by decide) hv64 (q' := some ⟨64, insL v ks⟩) (c := 0) (v := 1) ((if_neg hin).trans (if_neg (by dsimp only; omega)))
        repeat' (first | refine Ga ?_ | (refine Gb ?_; intro b) | (refine Gd ?_; intro g cap rest hcap) | (refine Gc ?_; intro ad cap)  | (refine Gt hrun ?_; rintro _ _ ⟨nad, ncap, rfl, rfl⟩) | (refine Ge ?_ ?_ <;> (intro h; try (exfalso; omega))) | fail)
        all_goals first | (exfalso; omega) | exact absurd hXb (by assumption) | skip
        refine IH ⟨(k + 1, m', insL v ks, own', _), hlt, hi', hs', by dsimp only; rw [insL_len]; omega, fun y hy => by
          rcases mem_insL.mp hy with rfl | hy
          · exact hv64
          · exact h64 y hy⟩ (by show keys.length - (k + 1) < keys.length - k; omega) ?_ ?_
        · exact Sub.go
        · exact Ent.go
    · obtain rfl : k = keys.length := by omega
      clear IH
      have hsl := hs.len
      repeat' (first | refine St.halt 17 ?_ |refine Ga ?_ | (refine Gb ?_; intro b) | (refine Gd ?_; intro g cap rest hcap) | (refine Gc ?_; intro ad cap)  | (refine Ge ?_ ?_ <;> (intro h; try (exfalso; omega))) | fail)
      apply Halt.go
      apply St.seq
      apply St.region
      repeat' (first | refine Ga ?_ | (refine Gb ?_; intro b) | (refine Gd ?_; intro g cap rest hcap) | (refine Gc ?_; intro ad cap)  | (refine Ge ?_ ?_ <;> (intro h; try (exfalso; omega))) | fail)
      refine St.loopY (Lr := ?Lr2) (ι := { x : Nat × Ms × List Nat × List Nat × Nat // x.1 + x.2.2.1.length = ks.length ∧ QInv x.2.1 0 (some ⟨64, x.2.2.1⟩) x.2.2.2.1 31 ∧ (∀ y ∈ x.2.2.1, y ∈ ks) ∧ (0 < x.1 → ∀ y ∈ x.2.2.1, x.2.2.2.2 < y) }) (fun x => ks.length - x.1.1)
        (fun x => [(51, .int .i64 (x.1.1 : Int)), (8, .int .u64 (x.1.2.2.2.2 : Int))]) (fun x => [MsE S x.1.2.1]) ⟨(0, m, ks, own, 0), Nat.zero_add _, hi.at (by show ks.length ≤ 31; omega), fun _ h => h, fun h => absurd h (Nat.lt_irrefl 0)⟩ ?hE2 ?hL2 ?round2
      case hE2 => exact Sub.go
      case hL2 => exact Takes.go
      case round2 =>
        rintro ⟨⟨n, m, ls, own, last⟩, hn, hi, hsub, hlast⟩ IH; dsimp only at hn hi hsub hlast IH ⊢
        cases ls with
        | nil =>
          have hn : n = ks.length := hn
          clear IH
          obtain ⟨m1, own1, st1, dw1, nl1, hi1, hrun1⟩ := run_of S hi (by decide) 5 0 (by decide) (by decide) (by decide) (q' := some ⟨64, []⟩) (c := 0) (v := 0) rfl
          obtain ⟨m2, own2, st2, dw2, nl2, hi2, hrun2⟩ := run_of S (hi1.at (n' := 31) (by show 0 ≤ 31; decide)) (by decide) 6 0 (by decide) (by decide) (by decide) (q' := none) (c := 0) (v := 0) rfl
          have hol : own2.length = 0 := hi2.rep.own_eq
          have hbl := hi2.len
          have hhd := handles_t S m2 (by omega)
          rw [show m2.blocks.length = 0 by omega] at hhd
          repeat' (first | refine Ga ?_ | (refine Gb ?_; intro b) | (refine Gd ?_; intro g cap rest hcap) | (refine Gc ?_; intro ad cap)  | (refine Gt hrun1 ?_; rintro _ _ ⟨nad1, ncap1, rfl, rfl⟩) | (refine Gt hrun2 ?_; rintro _ _ ⟨nad2, ncap2, rfl, rfl⟩) | (refine Gt hhd ?_; rintro _ _ ⟨had, hcap, rfl, rfl⟩) | (refine Ge ?_ ?_ <;> (intro h; try (exfalso; omega))) | fail)
          all_goals first | (exfalso; omega) | skip
          all_goals refine St.d1 Tryz.func5 ⟨_, ⟨rfl, rfl⟩, Ent.go⟩
        | cons y t =>
          have hn : n + (t.length + 1) = ks.length := hn
          have hup := hi.rep.rising
          obtain ⟨hdl, hnt⟩ := delL_head hup
          have hy64 := h64 y (hsub y (by simp))
          obtain ⟨c, hc, hc1⟩ : ∃ c, mget ms (y : Int) = some c ∧ 1 ≤ c := by
            cases hg : mget ms (y : Int) with
            | none => exact absurd (hsub y (by simp)) (hs.no y hg)
            | some c => exact ⟨c, rfl, (hs.yes y c hg).2.1⟩
          have hX : (mget ms (y : Int)).getD 0 = c := by rw [hc]; rfl
          have hly : n = 0 ∨ last < y := (Nat.eq_zero_or_pos n).elim .inl fun h => .inr (hlast h y (by simp))
          have hXn : ¬(mget ms (y : Int)).getD 0 = 0 := by omega
          have hty : ∀ x ∈ t, y < x := (List.pairwise_cons.mp hup).1
          obtain ⟨m1, own1, st1, dw1, nl1, hi1, hrun1⟩ := run_of S hi (by decide) 4 0 (by decide) (by decide) (by decide) (q' := some ⟨64, y :: t⟩) (c := 0) (v := y) rfl
          obtain ⟨m2, own2, st2, dw2, nl2, hi2, hrun2⟩ := run_of S (hi1.at (n' := 31) hi.n) (by decide) 2 y (by decide) (by decide) hy64 (q' := some ⟨64, t⟩) (c := 0) (v := 1) (by
            show (if y ∈ y :: t then (some (Qu.mk 64 (delL y (y :: t))), (0 : Int), 1) else _) = _
            rw [if_pos (by simp), hdl])
          obtain ⟨m3, own3, st3, dw3, nl3, hi3, hrun3⟩ := run_of S (hi2.at (n' := 31) (by have : t.length + 1 ≤ 31 := hi.n; show t.length ≤ 31; omega)) (by decide) 3 y (by decide) (by decide) hy64 (q' := some ⟨64, t⟩) (c := 0) (v := 0) (by
            show (some (Qu.mk 64 t), (0 : Int), if y ∈ t then 1 else 0) = _
            rw [if_neg hnt])
          repeat' (first | refine Ga ?_ | (refine Gb ?_; intro b) | (refine Gd ?_; intro g cap rest hcap) | (refine Gc ?_; intro ad cap)  | (refine Gt hrun1 ?_; rintro _ _ ⟨nad1, ncap1, rfl, rfl⟩) | (refine Gt hrun2 ?_; rintro _ _ ⟨nad2, ncap2, rfl, rfl⟩) | (refine Gt hrun3 ?_; rintro _ _ ⟨nad3, ncap3, rfl, rfl⟩) | (refine Ge ?_ ?_ <;> (intro h; try (exfalso; omega))) | fail)
          all_goals first | (exfalso; omega) | skip
          all_goals refine IH ⟨(n + 1, m3, t, own3, y), by dsimp only; omega, hi3.at (by have : t.length + 1 ≤ 31 := hi.n; show t.length ≤ 31; omega), fun x hx => hsub x (List.mem_cons_of_mem _ hx), fun _ x hx => hty x hx⟩ (by show ks.length - (n + 1) < ks.length - n; omega) ?_ ?_
          all_goals first | (exact Sub.go; done) | (exact Ent.go; done) | skip
end Go.Proofs.YtalgmlhcbilicaaGreatDoor
