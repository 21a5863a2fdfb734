/-
  Package tumblerlaw14: holds, told.
-/
import Derived.Test.YthmbgodcpgkkeaaGreatWh
namespace Go.Proofs.YthmbgodcpgkkeaaGreat
set_option maxRecDepth 100000
theorem mpeek_p (Mb C : Nat) (M : Pm) (p : Int) : RTri Tryz.prog 86 #[.pointer (some ⟨Mb, 0, none⟩), .int .i64 p] [Mm Mb C M] (.tuple ⟨[.agg ⟨(peekOf M.cs p).v⟩, .bool (decide (0 ≤ p ∧ p < ((M.cs.length : Nat) : Int)))]⟩) := by
  with_unfolding_all exact RTri.ex_o fun tv => (peek_r Mb C M.cs.length M.cs rfl M.st tv p).ent (by unfold mmL; exact Ent.go)
instance mapWhere : MapTy Tryz.prog 256 Int Int (Value.int .u64) (Value.int .u64) 0 := MapTy.int Tryz.underlying256 Tryz.underlying22 (fun w => by rfl)
theorem take_mem {l : List Nat} {k : Nat} (hk : k < l.length) (x : Int) : (x ∈ (l.take (k + 1)).map fun n : Nat => (n : Int)) ↔ (x ∈ (l.take k).map fun n : Nat => (n : Int)) ∨ x = (l[k] : Nat) := by
  rw [List.take_succ_eq_append_getElem hk, List.map_append, List.mem_append]
  simp
theorem nod_take {l : List Nat} (h : l.Nodup) {k : Nat} (hk : k < l.length) : ¬ ((l[k] : Nat) : Int) ∈ (l.take k).map fun n : Nat => (n : Int) := by
  intro hm
  obtain ⟨n, hn, e⟩ := List.mem_map.1 hm
  have e : n = l[k] := by omega
  rw [e] at hn
  obtain ⟨i, hi, e2⟩ := List.mem_iff_getElem.1 hn
  rw [List.length_take] at hi
  rw [List.getElem_take] at e2
  exact List.pairwise_iff_getElem.1 h i k (by omega) hk (by omega) e2
set_option maxHeartbeats 4000000 in
theorem holds14_t (Mb C S : Nat) (c : Cfg) (hc : Small c) (M : Pm) {n : Nat} {fs ls : List Nat} {ms : Ms} (hm : MemH c M.cs n fs ls ms.roots ms.blocks) : Tri Tryz.prog 58 #[.agg ⟨c.m⟩, .pointer (some ⟨Mb, 0, none⟩), .pointer (some ⟨S, 0, none⟩)] [Mm Mb C M, MsE S ms]
    fun v L => v = .bool true ∧ L = [Mm Mb C M, MsE S ms] := by
  have hb1 := hc.b1
  have hb0 := hc.b0
  have hlim := hc.limit
  have hmo : MsOk ms := ⟨hm.rep.rl, fun p hp => hm.rep.len p hp⟩
  have hat := fun k i j => at_r c hc k i j
  have hcf := cfg_r c
  have hlr := limit_r c hc c.fr
  have hpk := fun p => mpeek_p Mb C M p
  have hrt := fun k => mroot_r S ms k
  have hbk := fun h => mblock_r S ms hmo h
  have hfz := hm.rep.fsz
  have hlz := hm.rep.lsz
  have htop := hm.top
  have hlimv := hm.lim
  unfold Cell.v at hpk
  generalize hcs : M.cs = cs at hm hpk htop hlimv
  refine Tri.of_body (vs := [_, _, _]) Tryz.func58 rfl rfl fun w0 F => ?_
  repeat' (first | refine Ga ?_ | (refine Gb ?_; intro b) | (refine Gd ?_; intro g cap rest hcap) | (refine Gc ?_; intro ad cap) | (refine St.draw (id := 5) [(0, 0), (1, 1), (2, 0), (3, 0), (4, 1), (5, 0)] [] mixed (by kernel_rfl) ?_) | (refine St.draw (id := 11) [(0, 0), (1, 1), (2, 0), (3, 0), (4, 0), (5, 0), (6, 0), (7, 1), (8, 1), (9, 1), (10, 0), (11, 0), (12, 0)] [] mixed (by kernel_rfl) ?_) | (refine St.draw (id := 38) [(0, 0), (1, 0), (2, 0), (3, 1), (4, 0), (5, 0), (6, 1), (7, 0), (8, 0)] [] mixed (by kernel_rfl) ?_) | (refine Ge ?_ ?_ <;> (intro h; try (exfalso; omega))) | fail)
  refine St.loopY (Lr := ?Lr1) (ι := { k : Nat // k ≤ 16 }) (fun x => 16 - x.1) (fun x => [(31, .int .i64 (x.1 : Int))]) (fun _ => []) ⟨0, Nat.zero_le _⟩ ?hE1 ?hL1 ?round1
  case hE1 => exact Sub.go
  case hL1 => exact Takes.go
  case round1 =>
    rintro ⟨k, hk⟩ IH; dsimp only at hk IH ⊢
    by_cases hlt : k < 16
    · have hrt := hrt k
      have hv : rootOf ms.roots k = (cellI cs (c.at 10 k 0)).val := by
        unfold rootOf
        rw [if_neg (by omega)]
        exact (hm.rep.root k hlt).symm
      have hpk := hpk (c.at 10 k 0)
      rw [peek_cell hc cs (at_in hc (by decide) (in10 c hlt))] at hpk
      rw [hv] at hrt
      generalize cellI cs (c.at 10 k 0) = y at hpk hrt
      have hat := hat 10 k 0
      generalize c.at 10 k 0 = a at hpk hat
      repeat' (first | refine Ga ?_ | (refine Gb ?_; intro b) | (refine Gd ?_; intro g cap rest hcap) | (refine Gc ?_; intro ad cap) | (refine St.draw (id := 5) [(0, 0), (1, 1), (2, 0), (3, 0), (4, 1), (5, 0)] [] mixed (by kernel_rfl) ?_) | (refine St.draw (id := 11) [(0, 0), (1, 1), (2, 0), (3, 0), (4, 0), (5, 0), (6, 0), (7, 1), (8, 1), (9, 1), (10, 0), (11, 0), (12, 0)] [] mixed (by kernel_rfl) ?_) | (refine St.draw (id := 38) [(0, 0), (1, 0), (2, 0), (3, 1), (4, 0), (5, 0), (6, 1), (7, 0), (8, 0)] [] mixed (by kernel_rfl) ?_)| refine Gl hat ?_ | refine Gl hpk ?_ | refine Gl hrt ?_ | (refine Ge ?_ ?_ <;> (intro h; try (exfalso; omega))) | fail)
      all_goals first | (exfalso; omega) | skip
      refine IH ⟨k + 1, hlt⟩ (by show 16 - (k + 1) < 16 - k; omega) ?_ ?_
      · exact Sub.go
      · exact Ent.go
    · obtain rfl : k = 16 := by omega
      clear IH
      have hpk12 := hpk (c.at 12 0 0)
      have hpk14 := hpk (c.at 14 0 0)
      rw [peek_cell hc cs (at_in hc (by decide) (in12 c))] at hpk12
      rw [peek_cell hc cs (at_in hc (by decide) (in14 c))] at hpk14
      have hat12 := hat 12 0 0
      have hat14 := hat 14 0 0
      generalize cellI cs (c.at 12 0 0) = y12 at hpk12 htop
      generalize cellI cs (c.at 14 0 0) = y14 at hpk14 hlimv
      generalize c.at 12 0 0 = a12 at hpk12 hat12
      generalize c.at 14 0 0 = a14 at hpk14 hat14
      obtain ⟨v12, s12⟩ := y12
      obtain ⟨v14, s14⟩ := y14
      dsimp only at htop hlimv hpk12 hpk14
      subst htop hlimv
      repeat' (first | refine Ga ?_ | (refine Gb ?_; intro b) | (refine Gd ?_; intro g cap rest hcap) | (refine Gc ?_; intro ad cap) | (refine St.draw (id := 5) [(0, 0), (1, 1), (2, 0), (3, 0), (4, 1), (5, 0)] [] mixed (by kernel_rfl) ?_) | (refine St.draw (id := 11) [(0, 0), (1, 1), (2, 0), (3, 0), (4, 0), (5, 0), (6, 0), (7, 1), (8, 1), (9, 1), (10, 0), (11, 0), (12, 0)] [] mixed (by kernel_rfl) ?_) | (refine St.draw (id := 38) [(0, 0), (1, 0), (2, 0), (3, 1), (4, 0), (5, 0), (6, 1), (7, 0), (8, 0)] [] mixed (by kernel_rfl) ?_)| refine Gl hcf ?_ | refine Gl hat12 ?_ | refine Gl hpk12 ?_ | refine Gl hat14 ?_ | refine Gl hpk14 ?_ | refine Gl hlr ?_ | (refine Ge ?_ ?_ <;> (intro h; try (exfalso; omega))) | fail)
      all_goals first | (exfalso; omega) | skip
      refine St.loopY (Lr := ?Lr2) (ι := { x : Nat × List (Int × Int) // x.1 ≤ fs.length ∧ ∀ y, (mget x.2 y).getD 0 = if y ∈ (fs.take x.1).map (fun n : Nat => (n : Int)) then 10 else 0 }) (fun x => fs.length - x.1.1) (fun x => [(83, .int .i64 (x.1.1 : Int))]) (fun x => [Mp b (Value.int .u64) (Value.int .u64) x.1.2]) ⟨(0, []), Nat.zero_le _, fun y => by rw [List.take_zero]; rfl⟩ ?hE2 ?hL2 ?round2
      case hE2 => exact Sub.go
      case hL2 => exact Takes.go
      case round2 =>
        rintro ⟨⟨k, mw⟩, hk, hmw⟩ IH; dsimp only at hk hmw IH ⊢
        by_cases hlt : k < fs.length
        · have hpk := hpk (c.at 13 k 0)
          rw [peek_cell hc cs (at_in hc (by decide) (in13 (by omega)))] at hpk
          have hat := hat 13 k 0
          have hsv := hm.rep.stack k hlt
          try dsimp only at hsv
          generalize cellI cs (c.at 13 k 0) = y at hpk hsv
          generalize c.at 13 k 0 = a at hpk hat
          obtain ⟨yv, ys⟩ := y
          dsimp only at hpk hsv
          have hold : (mget mw (yv : Int)).getD 0 = 0 := by
            rw [hmw, if_neg]
            rw [hsv]; exact nod_take hm.rep.fnod hlt
          have hnew : ∀ y, (mget (mput mw (yv : Int) ((mget mw (yv : Int)).getD 0 + 10)) y).getD 0 = if y ∈ (fs.take (k + 1)).map (fun n : Nat => (n : Int)) then 10 else 0 := fun y => by
            rw [gput]
            by_cases e : (yv : Int) = y
            · rw [if_pos e, if_pos ((take_mem hlt y).2 (.inr (by omega))), hold]; rfl
            · rw [if_neg e, hmw y]
              by_cases e2 : y ∈ (fs.take k).map (fun n : Nat => (n : Int))
              · rw [if_pos e2, if_pos ((take_mem hlt y).2 (.inl e2))]
              · rw [if_neg e2, if_neg fun h => ((take_mem hlt y).1 h).elim e2 (by omega)]
          repeat' (first | refine Ga ?_ | (refine Gb ?_; intro b) | (refine Gd ?_; intro g cap rest hcap) | (refine Gc ?_; intro ad cap) | (refine St.draw (id := 5) [(0, 0), (1, 1), (2, 0), (3, 0), (4, 1), (5, 0)] [] mixed (by kernel_rfl) ?_) | (refine St.draw (id := 11) [(0, 0), (1, 1), (2, 0), (3, 0), (4, 0), (5, 0), (6, 0), (7, 1), (8, 1), (9, 1), (10, 0), (11, 0), (12, 0)] [] mixed (by kernel_rfl) ?_) | (refine St.draw (id := 38) [(0, 0), (1, 0), (2, 0), (3, 1), (4, 0), (5, 0), (6, 1), (7, 0), (8, 0)] [] mixed (by kernel_rfl) ?_)| refine Gl hat ?_ | refine Gl hpk ?_ | (refine Ge ?_ ?_ <;> (intro h; try (exfalso; omega))) | fail)
          all_goals first | (exfalso; omega) | skip
          refine IH ⟨(k + 1, _), hlt, hnew⟩ (by show fs.length - (k + 1) < fs.length - k; omega) ?_ ?_
          · exact Sub.go
          · exact Ent.go
        · obtain rfl : k = fs.length := by omega
          clear IH
          rw [List.take_length] at hmw
          repeat' (first | refine Ga ?_ | (refine Gb ?_; intro b) | (refine Gd ?_; intro g cap rest hcap) | (refine Gc ?_; intro ad cap) | (refine St.draw (id := 5) [(0, 0), (1, 1), (2, 0), (3, 0), (4, 1), (5, 0)] [] mixed (by kernel_rfl) ?_) | (refine St.draw (id := 11) [(0, 0), (1, 1), (2, 0), (3, 0), (4, 0), (5, 0), (6, 0), (7, 1), (8, 1), (9, 1), (10, 0), (11, 0), (12, 0)] [] mixed (by kernel_rfl) ?_) | (refine St.draw (id := 38) [(0, 0), (1, 0), (2, 0), (3, 1), (4, 0), (5, 0), (6, 1), (7, 0), (8, 0)] [] mixed (by kernel_rfl) ?_) | (refine Ge ?_ ?_ <;> (intro h; try (exfalso; omega))) | fail)
          all_goals first | (exfalso; omega) | skip
          refine St.loopY (Lr := ?Lr3) (ι := { x : Nat × List (Int × Int) // x.1 ≤ ls.length ∧ ∀ y, (mget x.2 y).getD 0 = if y ∈ fs.map (fun n : Nat => (n : Int)) then 10 else if y ∈ (ls.take x.1).map (fun n : Nat => (n : Int)) then 12 else 0 }) (fun x => ls.length - x.1.1) (fun x => [(103, .int .i64 (x.1.1 : Int))]) (fun x => [Mp b (Value.int .u64) (Value.int .u64) x.1.2]) ⟨(0, mw), Nat.zero_le _, fun y => by rw [List.take_zero]; exact hmw y⟩ ?hE3 ?hL3 ?round3
          case hE3 => exact Sub.go
          case hL3 => exact Takes.go
          case round3 =>
            rintro ⟨⟨k, mw⟩, hk, hmw⟩ IH; dsimp only at hk hmw IH ⊢
            by_cases hlt : k < ls.length
            · have hpk := hpk (c.at 15 k 0)
              rw [peek_cell hc cs (at_in hc (by decide) (in15 (by omega)))] at hpk
              have hat := hat 15 k 0
              have hsv := hm.rep.lim k hlt
              try dsimp only at hsv
              generalize cellI cs (c.at 15 k 0) = y at hpk hsv
              generalize c.at 15 k 0 = a at hpk hat
              obtain ⟨yv, ys⟩ := y
              dsimp only at hpk hsv
              have hnf : ¬ (yv : Int) ∈ fs.map (fun n : Nat => (n : Int)) := fun h => by
                obtain ⟨n, hn, e⟩ := List.mem_map.1 h
                have h1 := (hm.rep.free n hn).2
                have h2 := (hm.rep.limbo ls[k] (List.getElem_mem hlt)).2
                have : n = ls[k] := by omega
                rw [← this] at h2
                omega
              have hold : (mget mw (yv : Int)).getD 0 = 0 := by
                rw [hmw, if_neg hnf, if_neg]
                rw [hsv]; exact nod_take hm.rep.lnod hlt
              have hnew : ∀ y, (mget (mput mw (yv : Int) ((mget mw (yv : Int)).getD 0 + 12)) y).getD 0 = if y ∈ fs.map (fun n : Nat => (n : Int)) then 10 else if y ∈ (ls.take (k + 1)).map (fun n : Nat => (n : Int)) then 12 else 0 := fun y => by
                rw [gput]
                by_cases e : (yv : Int) = y
                · rw [if_pos e, if_neg (e ▸ hnf), if_pos ((take_mem hlt y).2 (.inr (by omega))), hold]; rfl
                · rw [if_neg e, hmw y]
                  by_cases e3 : y ∈ fs.map (fun n : Nat => (n : Int))
                  · rw [if_pos e3, if_pos e3]
                  · rw [if_neg e3, if_neg e3]
                    by_cases e2 : y ∈ (ls.take k).map (fun n : Nat => (n : Int))
                    · rw [if_pos e2, if_pos ((take_mem hlt y).2 (.inl e2))]
                    · rw [if_neg e2, if_neg fun h => ((take_mem hlt y).1 h).elim e2 (by omega)]
              repeat' (first | refine Ga ?_ | (refine Gb ?_; intro b) | (refine Gd ?_; intro g cap rest hcap) | (refine Gc ?_; intro ad cap) | (refine St.draw (id := 5) [(0, 0), (1, 1), (2, 0), (3, 0), (4, 1), (5, 0)] [] mixed (by kernel_rfl) ?_) | (refine St.draw (id := 11) [(0, 0), (1, 1), (2, 0), (3, 0), (4, 0), (5, 0), (6, 0), (7, 1), (8, 1), (9, 1), (10, 0), (11, 0), (12, 0)] [] mixed (by kernel_rfl) ?_) | (refine St.draw (id := 38) [(0, 0), (1, 0), (2, 0), (3, 1), (4, 0), (5, 0), (6, 1), (7, 0), (8, 0)] [] mixed (by kernel_rfl) ?_)| refine Gl hat ?_ | refine Gl hpk ?_ | (refine Ge ?_ ?_ <;> (intro h; try (exfalso; omega))) | fail)
              all_goals first | (exfalso; omega) | skip
              refine IH ⟨(k + 1, _), hlt, hnew⟩ (by show ls.length - (k + 1) < ls.length - k; omega) ?_ ?_
              · exact Sub.go
              · exact Ent.go
            · obtain rfl : k = ls.length := by omega
              clear IH
              rw [List.take_length] at hmw
              repeat' (first | refine Ga ?_ | (refine Gb ?_; intro b) | (refine Gd ?_; intro g cap rest hcap) | (refine Gc ?_; intro ad cap) | (refine St.draw (id := 5) [(0, 0), (1, 1), (2, 0), (3, 0), (4, 1), (5, 0)] [] mixed (by kernel_rfl) ?_) | (refine St.draw (id := 11) [(0, 0), (1, 1), (2, 0), (3, 0), (4, 0), (5, 0), (6, 0), (7, 1), (8, 1), (9, 1), (10, 0), (11, 0), (12, 0)] [] mixed (by kernel_rfl) ?_) | (refine St.draw (id := 38) [(0, 0), (1, 0), (2, 0), (3, 1), (4, 0), (5, 0), (6, 1), (7, 0), (8, 0)] [] mixed (by kernel_rfl) ?_) | (refine Ge ?_ ?_ <;> (intro h; try (exfalso; omega))) | fail)
              all_goals first | (exfalso; omega) | skip
              refine St.loopY (Lr := ?Lr4) (ι := { k : Nat // (k : Int) ≤ c.blocks }) (fun x => c.blocks.toNat - x.1) (fun x => [(121, .int .i64 (x.1 : Int))]) (fun _ => []) ⟨0, by show (0 : Int) ≤ _; omega⟩ ?hE4 ?hL4 ?round4
              case hE4 => exact Sub.go
              case hL4 => exact Takes.go
              case round4 =>
                rintro ⟨k, hk⟩ IH; dsimp only at hk IH ⊢
                by_cases hlt : (k : Int) < c.blocks
                · have hbk := hbk (k + 1)
                  rw [show ((k + 1 : Nat) : Int) = (k : Int) + 1 by omega] at hbk
                  have hlf := hm.rep.life k hlt
                  have hwd := hm.rep.word k hlt
                  have hmwk := hmw (k : Int)
                  have hcov := hm.rep.cov k hlt
                  have hpk1 := hpk (c.at 11 k 0)
                  rw [peek_cell hc cs (at_in hc (by decide) (in11 hlt))] at hpk1
                  have hat1 := hat 11 k 0
                  have hfr : k ∈ fs → (cellI cs (c.at 11 k 0)).val = 0 := fun h => (hm.rep.free k h).2
                  have hlb : k ∈ ls → (cellI cs (c.at 11 k 0)).val = 2 := fun h => (hm.rep.limbo k h).2
                  have hmf : (k : Int) ∈ fs.map (fun n : Nat => (n : Int)) ↔ k ∈ fs := by
                    rw [List.mem_map]
                    exact ⟨fun ⟨n, hn, e⟩ => by have : n = k := by omega
                                                rw [← this]; exact hn, fun h => ⟨k, h, rfl⟩⟩
                  have hml : (k : Int) ∈ ls.map (fun n : Nat => (n : Int)) ↔ k ∈ ls := by
                    rw [List.mem_map]
                    exact ⟨fun ⟨n, hn, e⟩ => by have : n = k := by omega
                                                rw [← this]; exact hn, fun h => ⟨k, h, rfl⟩⟩
                  obtain ⟨x0, x1, x2, x3, x4, x5, x6, x7, hg⟩ := eight_of (hmo.get ((k : Int) + 1))
                  rw [hg] at hbk
                  try dsimp only at hlf hcov
                  generalize cellI cs (c.at 11 k 0) = y at hpk1 hlf hcov hfr hlb
                  generalize c.at 11 k 0 = a at hpk1 hat1
                  obtain ⟨yv, ys⟩ := y
                  dsimp only at hpk1 hlf hcov hfr hlb
                  cases e : mget ms.blocks ((k : Int) + 1) with
                  | none =>
                    rw [e] at hbk hlf
                    have hv : ¬ ((yv : Nat) : Int) = 1 := fun h => by
                      have := hlf.1 (by omega)
                      cases this
                    have hw : (mget mw (k : Int)).getD 0 = 10 + (yv : Int) := by
                      rw [hmwk]
                      rcases hcov with h | h | h
                      · rw [if_pos (hmf.2 h), hfr h]; rfl
                      · have := hlb h
                        rw [if_neg fun h2 => by have := hfr (hmf.1 h2); omega, if_pos (hml.2 h), this]; rfl
                      · omega
                    have hyv : yv ≤ 2 := by
                      rcases hcov with h | h | h
                      · have := hfr h; omega
                      · have := hlb h; omega
                      · omega
                    unfold aggL at hbk
                    simp only [Option.isSome_none] at hbk
                    repeat' (first | refine Ga ?_ | (refine Gb ?_; intro b) | (refine Gd ?_; intro g cap rest hcap) | (refine Gc ?_; intro ad cap) | (refine St.draw (id := 5) [(0, 0), (1, 1), (2, 0), (3, 0), (4, 1), (5, 0)] [] mixed (by kernel_rfl) ?_) | (refine St.draw (id := 11) [(0, 0), (1, 1), (2, 0), (3, 0), (4, 0), (5, 0), (6, 0), (7, 1), (8, 1), (9, 1), (10, 0), (11, 0), (12, 0)] [] mixed (by kernel_rfl) ?_) | (refine St.draw (id := 38) [(0, 0), (1, 0), (2, 0), (3, 1), (4, 0), (5, 0), (6, 1), (7, 0), (8, 0)] [] mixed (by kernel_rfl) ?_)| refine Gl hat1 ?_ | refine Gl hpk1 ?_ | refine Gl hbk ?_ | (refine Ge ?_ ?_ <;> (intro h; try (exfalso; omega))) | fail)
                    all_goals first | (exfalso; omega) | (exfalso; exact h (beq_eq_false_iff_ne.2 hv)) | (exfalso; simp at h; omega) | skip
                    refine St.loopY (Lr := ?Lr5) (ι := { w : Nat // w ≤ 8 }) (fun x => 8 - x.1) (fun x => [(167, .int .i64 (x.1 : Int))]) (fun _ => []) ⟨0, Nat.zero_le _⟩ ?hE5 ?hL5 ?round5
                    case hE5 => exact Sub.go
                    case hL5 => exact Takes.go
                    case round5 =>
                      rintro ⟨w, hw⟩ IHw; dsimp only at hw IHw ⊢
                      by_cases hlw : w < 8
                      · have hpk := hpk (c.at 16 k w)
                        rw [peek_cell hc cs (at_in hc (by decide) (in16 hlt hlw))] at hpk
                        have hat := hat 16 k w
                        generalize cellI cs (c.at 16 k w) = y2 at hpk
                        generalize c.at 16 k w = a2 at hpk hat
                        repeat' (first | refine Ga ?_ | (refine Gb ?_; intro b) | (refine Gd ?_; intro g cap rest hcap) | (refine Gc ?_; intro ad cap) | (refine St.draw (id := 5) [(0, 0), (1, 1), (2, 0), (3, 0), (4, 1), (5, 0)] [] mixed (by kernel_rfl) ?_) | (refine St.draw (id := 11) [(0, 0), (1, 1), (2, 0), (3, 0), (4, 0), (5, 0), (6, 0), (7, 1), (8, 1), (9, 1), (10, 0), (11, 0), (12, 0)] [] mixed (by kernel_rfl) ?_) | (refine St.draw (id := 38) [(0, 0), (1, 0), (2, 0), (3, 1), (4, 0), (5, 0), (6, 1), (7, 0), (8, 0)] [] mixed (by kernel_rfl) ?_)| refine Gl hat ?_ | refine Gl hpk ?_ | (refine Ge ?_ ?_ <;> (intro h; try (exfalso; omega))) | fail)
                        all_goals first | (exfalso; omega) | skip
                        refine IHw ⟨w + 1, hlw⟩ (by show 8 - (w + 1) < 8 - w; omega) ?_ ?_
                        · exact Sub.go
                        · exact Ent.go
                      · obtain rfl : w = 8 := by omega
                        clear IHw
                        repeat' (first | refine Ga ?_ | (refine Gb ?_; intro b) | (refine Gd ?_; intro g cap rest hcap) | (refine Gc ?_; intro ad cap) | (refine St.draw (id := 5) [(0, 0), (1, 1), (2, 0), (3, 0), (4, 1), (5, 0)] [] mixed (by kernel_rfl) ?_) | (refine St.draw (id := 11) [(0, 0), (1, 1), (2, 0), (3, 0), (4, 0), (5, 0), (6, 0), (7, 1), (8, 1), (9, 1), (10, 0), (11, 0), (12, 0)] [] mixed (by kernel_rfl) ?_) | (refine St.draw (id := 38) [(0, 0), (1, 0), (2, 0), (3, 1), (4, 0), (5, 0), (6, 1), (7, 0), (8, 0)] [] mixed (by kernel_rfl) ?_) | (refine Ge ?_ ?_ <;> (intro h; try (exfalso; omega))) | fail)
                        all_goals first | (exfalso; omega) | skip
                        refine IH ⟨k + 1, by omega⟩ (by show c.blocks.toNat - (k + 1) < c.blocks.toNat - k; omega) ?_ ?_
                        · exact Sub.go
                        · exact Ent.go
                  | some l =>
                    rw [e] at hbk hlf hg
                    have hv : yv = 1 := hlf.2 rfl
                    have hg : l = [x0, x1, x2, x3, x4, x5, x6, x7] := hg
                    have hwd := hwd l e
                    have hl8 : l.length = 8 := by rw [hg]; rfl
                    have hu : u64s l = [.int .u64 (x0 : Int), .int .u64 (x1 : Int), .int .u64 (x2 : Int), .int .u64 (x3 : Int), .int .u64 (x4 : Int), .int .u64 (x5 : Int), .int .u64 (x6 : Int), .int .u64 (x7 : Int)] := by rw [hg]; rfl
                    have hw : (mget mw (k : Int)).getD 0 = 0 := by
                      rw [hmwk, if_neg fun h2 => by have := hfr (hmf.1 h2); omega, if_neg fun h2 => by have := hlb (hml.1 h2); omega]
                    rw [hv] at hpk1
                    unfold aggL at hbk
                    rw [← hg, hu] at hbk
                    simp only [Option.isSome_some] at hbk
                    repeat' (first | refine Ga ?_ | (refine Gb ?_; intro b) | (refine Gd ?_; intro g cap rest hcap) | (refine Gc ?_; intro ad cap) | (refine St.draw (id := 5) [(0, 0), (1, 1), (2, 0), (3, 0), (4, 1), (5, 0)] [] mixed (by kernel_rfl) ?_) | (refine St.draw (id := 11) [(0, 0), (1, 1), (2, 0), (3, 0), (4, 0), (5, 0), (6, 0), (7, 1), (8, 1), (9, 1), (10, 0), (11, 0), (12, 0)] [] mixed (by kernel_rfl) ?_) | (refine St.draw (id := 38) [(0, 0), (1, 0), (2, 0), (3, 1), (4, 0), (5, 0), (6, 1), (7, 0), (8, 0)] [] mixed (by kernel_rfl) ?_)| refine Gl hat1 ?_ | refine Gl hpk1 ?_ | refine Gl hbk ?_ | (refine Ge ?_ ?_ <;> (intro h; try (exfalso; omega))) | fail)
                    all_goals first | (exfalso; omega) | (exfalso; simp at h; omega) | skip
                    refine St.loopY (Lr := ?Lr6) (ι := { w : Nat // w ≤ 8 }) (fun x => 8 - x.1) (fun x => [(167, .int .i64 (x.1 : Int))]) (fun _ => []) ⟨0, Nat.zero_le _⟩ ?hE6 ?hL6 ?round6
                    case hE6 => exact Sub.go
                    case hL6 => exact Takes.go
                    case round6 =>
                      rintro ⟨w, hw⟩ IHw; dsimp only at hw IHw ⊢
                      by_cases hlw : w < 8
                      · have hpk := hpk (c.at 16 k w)
                        rw [peek_cell hc cs (at_in hc (by decide) (in16 hlt hlw))] at hpk
                        have hat := hat 16 k w
                        have hnw := u64s_at8 hl8 hlw
                        rw [hu] at hnw
                        have hwv := hwd w hlw
                        rw [← hwv] at hnw
                        try dsimp only at hnw
                        generalize cellI cs (c.at 16 k w) = y2 at hpk hnw
                        generalize c.at 16 k w = a2 at hpk hat
                        repeat' (first | refine Ga ?_ | (refine Gb ?_; intro b) | (refine Gd ?_; intro g cap rest hcap) | (refine Gc ?_; intro ad cap) | (refine St.draw (id := 5) [(0, 0), (1, 1), (2, 0), (3, 0), (4, 1), (5, 0)] [] mixed (by kernel_rfl) ?_) | (refine St.draw (id := 11) [(0, 0), (1, 1), (2, 0), (3, 0), (4, 0), (5, 0), (6, 0), (7, 1), (8, 1), (9, 1), (10, 0), (11, 0), (12, 0)] [] mixed (by kernel_rfl) ?_) | (refine St.draw (id := 38) [(0, 0), (1, 0), (2, 0), (3, 1), (4, 0), (5, 0), (6, 1), (7, 0), (8, 0)] [] mixed (by kernel_rfl) ?_)| refine Gl hat ?_ | refine Gl hpk ?_ | (refine Ge ?_ ?_ <;> (intro h; try (exfalso; omega))) | fail)
                        all_goals first | (exfalso; omega) | skip
                        refine IHw ⟨w + 1, hlw⟩ (by show 8 - (w + 1) < 8 - w; omega) ?_ ?_
                        · exact Sub.go
                        · exact Ent.go
                      · obtain rfl : w = 8 := by omega
                        clear IHw
                        repeat' (first | refine Ga ?_ | (refine Gb ?_; intro b) | (refine Gd ?_; intro g cap rest hcap) | (refine Gc ?_; intro ad cap) | (refine St.draw (id := 5) [(0, 0), (1, 1), (2, 0), (3, 0), (4, 1), (5, 0)] [] mixed (by kernel_rfl) ?_) | (refine St.draw (id := 11) [(0, 0), (1, 1), (2, 0), (3, 0), (4, 0), (5, 0), (6, 0), (7, 1), (8, 1), (9, 1), (10, 0), (11, 0), (12, 0)] [] mixed (by kernel_rfl) ?_) | (refine St.draw (id := 38) [(0, 0), (1, 0), (2, 0), (3, 1), (4, 0), (5, 0), (6, 1), (7, 0), (8, 0)] [] mixed (by kernel_rfl) ?_) | (refine Ge ?_ ?_ <;> (intro h; try (exfalso; omega))) | fail)
                        all_goals first | (exfalso; omega) | skip
                        refine IH ⟨k + 1, by omega⟩ (by show c.blocks.toNat - (k + 1) < c.blocks.toNat - k; omega) ?_ ?_
                        · exact Sub.go
                        · exact Ent.go
                · obtain hkb : (k : Int) = c.blocks := by omega
                  clear IH
                  repeat' (first | refine Ga ?_ | (refine Gb ?_; intro b) | (refine Gd ?_; intro g cap rest hcap) | (refine Gc ?_; intro ad cap) | (refine St.draw (id := 5) [(0, 0), (1, 1), (2, 0), (3, 0), (4, 1), (5, 0)] [] mixed (by kernel_rfl) ?_) | (refine St.draw (id := 11) [(0, 0), (1, 1), (2, 0), (3, 0), (4, 0), (5, 0), (6, 0), (7, 1), (8, 1), (9, 1), (10, 0), (11, 0), (12, 0)] [] mixed (by kernel_rfl) ?_) | (refine St.draw (id := 38) [(0, 0), (1, 0), (2, 0), (3, 1), (4, 0), (5, 0), (6, 1), (7, 0), (8, 0)] [] mixed (by kernel_rfl) ?_) | (refine Ge ?_ ?_ <;> (intro h; try (exfalso; omega))) | fail)
                  all_goals first | (exfalso; omega) | skip
                  exact St.d1 Tryz.func58 ⟨_, ⟨rfl, rfl⟩, Ent.go⟩
end Go.Proofs.YthmbgodcpgkkeaaGreat
