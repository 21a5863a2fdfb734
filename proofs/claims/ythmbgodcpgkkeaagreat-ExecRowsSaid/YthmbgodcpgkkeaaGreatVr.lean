/-
  Package tumblerlaw11: holds. One program, in a transaction of its own, over a memory: in plain terms. One program, right or wrong: what holds while it runs; State.Run comes to the same. Package check: Reads.
-/
import Derived.Test.YthmbgodcpgkkeaaGreatEu
import Derived.Test.YthmbgodcpgkkeaaGreatMo
section
namespace Go.Proofs.YthmbgodcpgkkeaaGreat
set_option maxRecDepth 100000
theorem RTri.ex_o {P : Program} {f : FuncId} {args : Array Value} {v : Value} {ι : Type} {Ls : ι → List HProp} {L : List HProp} (h : ∀ x, RTri P f args (Ls x ++ L) v) : RTri P f args (ex Ls :: L) v := by
  unfold RTri at *
  intro w hs
  obtain ⟨x, hs⟩ := sat_ex hs
  exact h x w hs
theorem mpeek_x (M : Nat) (cs : List Cell) (t : Nat) (p : Int) : RTri Tryz.prog 86 #[.pointer (some ⟨M, 0, none⟩), .int .i64 p] [Ml M cs t] (.tuple ⟨[.agg ⟨(peekOf cs p).v⟩, .bool (decide (0 ≤ p ∧ p < ((cs.length : Nat) : Int)))]⟩) := by
  unfold Ml MemE
  exact RTri.ex_o fun x => (peek_r M x.C cs.length cs rfl x.st x.tv p).ent (by unfold memL; exact Ent.go)
theorem mset_x (M : Nat) (cs : List Cell) (t : Nat) (p : Int) (y : Cell) : Tri Tryz.prog 53 #[.pointer (some ⟨M, 0, none⟩), .int .i64 p, .agg ⟨y.v⟩] [Ml M cs t] fun v L => ∃ e, v = .int .i64 e ∧ L = [Ml M (setOf cs p y) t] := by
  unfold Ml MemE
  refine Tri.ex_out ?_
  rintro ⟨C, st, hst, tv, tr, htr⟩
  have h := set_t M C cs.length cs rfl st tv p y
  unfold Tri at h ⊢
  intro w F hs
  refine (h w (Row tv 285 10 tr.length (tr.flatMap Ev.v) :: F) hs).mono ?_
  rintro e w' ⟨v, L, he, ⟨rfl, rfl⟩, hs', ho⟩
  refine ⟨_, _, he, ⟨_, rfl, rfl⟩, ?_, ho⟩
  have := Ent.ex_in (Ls := memL M (setOf cs p y) t) (L := F) ⟨C, st, hst, tv, tr, htr⟩
  unfold Ent at this
  refine this _ ?_
  unfold memL
  dsimp only
  rw [setOf_len]
  exact hs'
theorem peek_cell {c : Cfg} (hc : Small c) (cs : List Cell) {a : Int} (h : Tx c a) : peekOf cs a = cellI cs a := by
  have hf := f717 hc
  unfold Tx at h
  unfold peekOf cellI
  rw [if_pos (by omega)]
set_option maxHeartbeats 4000000 in
theorem holds_t (M S : Nat) (c : Cfg) (hc : Small c) {cs : List Cell} {n : Nat} {fs ls : List Nat} {ms : Ms} (hm : MemH c cs n fs ls ms.roots ms.blocks) (t : Nat) : Tri Tryz.prog 80 #[.agg ⟨c.m⟩, .pointer (some ⟨M, 0, none⟩), .pointer (some ⟨S, 0, none⟩)] [Ml M cs t, MsE S ms]
    fun v L => v = .bool true ∧ L = [Ml M cs t, MsE S ms] := by
  have hb1 := hc.b1
  have hb0 := hc.b0
  have hmo : MsOk ms := ⟨hm.rep.rl, fun p hp => hm.rep.len p hp⟩
  have hat := fun k i j => at_r c hc k i j
  have hcf := cfg_r c
  have hpk := fun p => mpeek_x M cs t p
  have hrt := fun k => mroot_r S ms k
  have hbk := fun h => mblock_r S ms hmo h
  unfold Cell.v at hpk
  refine Tri.of_body (vs := [_, _, _]) Tryz.func80 rfl rfl fun w0 F => ?_
  repeat' (first | refine Ga ?_ | (refine Gb ?_; intro b) | (refine Gd ?_; intro g cap rest hcap) | (refine Gc ?_; intro ad cap) | (refine St.draw (id := 5) [(0, 0), (1, 1), (2, 0), (3, 0), (4, 1), (5, 0)] [] mixed (by kernel_rfl) ?_) | (refine St.draw (id := 19) [(0, 0), (1, 0), (2, 0), (3, 1), (4, 0), (5, 0), (6, 1), (7, 0), (8, 0)] [] mixed (by kernel_rfl) ?_) | (refine Ge ?_ ?_ <;> (intro h; try (exfalso; omega))) | fail)
  refine St.loopY (Lr := ?Lr1) (ι := { k : Nat // k ≤ 16 }) (fun x => 16 - x.1) (fun x => [(18, .int .i64 (x.1 : Int))]) (fun _ => []) ⟨0, Nat.zero_le _⟩ ?hE1 ?hL1 ?round1
  case hE1 => exact Sub.go
  case hL1 => exact Takes.go
  case round1 =>
    rintro ⟨k, hk⟩ IH; dsimp only at hk IH ⊢
    by_cases hlt : k < 16
    · have hrt := hrt k
      have hv : rootOf ms.roots k = (cellI cs (c.at 10 k 0)).val := by
        unfold rootOf
        rw [if_neg (by omega)]
        exact (hm.rep.root k hlt).symm
      have hpk := hpk (c.at 10 k 0)
      rw [peek_cell hc cs (at_in hc (by decide) (in10 c hlt))] at hpk
      rw [hv] at hrt
      generalize cellI cs (c.at 10 k 0) = y at hpk hrt
      have hat := hat 10 k 0
      generalize c.at 10 k 0 = a at hpk hat
      repeat' (first | refine Ga ?_ | (refine Gb ?_; intro b) | (refine Gd ?_; intro g cap rest hcap) | (refine Gc ?_; intro ad cap) | (refine St.draw (id := 5) [(0, 0), (1, 1), (2, 0), (3, 0), (4, 1), (5, 0)] [] mixed (by kernel_rfl) ?_) | (refine St.draw (id := 19) [(0, 0), (1, 0), (2, 0), (3, 1), (4, 0), (5, 0), (6, 1), (7, 0), (8, 0)] [] mixed (by kernel_rfl) ?_)| refine Gl hat ?_ | refine Gl hpk ?_ | refine Gl hrt ?_ | (refine Ge ?_ ?_ <;> (intro h; try (exfalso; omega))) | fail)
      all_goals first | (exfalso; omega) | skip
      refine IH ⟨k + 1, hlt⟩ (by show 16 - (k + 1) < 16 - k; omega) ?_ ?_
      · exact Sub.go
      · exact Ent.go
    · obtain rfl : k = 16 := by omega
      clear IH
      repeat' (first | refine Ga ?_ | (refine Gb ?_; intro b) | (refine Gd ?_; intro g cap rest hcap) | (refine Gc ?_; intro ad cap) | (refine St.draw (id := 5) [(0, 0), (1, 1), (2, 0), (3, 0), (4, 1), (5, 0)] [] mixed (by kernel_rfl) ?_) | (refine St.draw (id := 19) [(0, 0), (1, 0), (2, 0), (3, 1), (4, 0), (5, 0), (6, 1), (7, 0), (8, 0)] [] mixed (by kernel_rfl) ?_)| refine Gl hcf ?_ | (refine Ge ?_ ?_ <;> (intro h; try (exfalso; omega))) | fail)
      all_goals first | (exfalso; omega) | skip
      refine St.loopY (Lr := ?Lr2) (ι := { k : Nat // (k : Int) ≤ c.blocks }) (fun x => c.blocks.toNat - x.1) (fun x => [(39, .int .i64 (x.1 : Int))]) (fun _ => []) ⟨0, by show (0 : Int) ≤ _; omega⟩ ?hE2 ?hL2 ?round2
      case hE2 => exact Sub.go
      case hL2 => exact Takes.go
      case round2 =>
        rintro ⟨k, hk⟩ IH; dsimp only at hk IH ⊢
        by_cases hlt : (k : Int) < c.blocks
        · have hbk := hbk (k + 1)
          rw [show ((k + 1 : Nat) : Int) = (k : Int) + 1 by omega] at hbk
          have hlf := hm.rep.life k hlt
          have hwd := hm.rep.word k hlt
          have hpk1 := hpk (c.at 11 k 0)
          rw [peek_cell hc cs (at_in hc (by decide) (in11 hlt))] at hpk1
          have hat1 := hat 11 k 0
          obtain ⟨x0, x1, x2, x3, x4, x5, x6, x7, hg⟩ := eight_of (hmo.get ((k : Int) + 1))
          rw [hg] at hbk
          generalize cellI cs (c.at 11 k 0) = y at hpk1 hlf
          generalize c.at 11 k 0 = a at hpk1 hat1
          cases e : mget ms.blocks ((k : Int) + 1) with
          | none =>
            rw [e] at hbk hlf
            have hv : ¬ ((y.val : Nat) : Int) = 1 := fun h => by
              have := hlf.1 (by omega)
              cases this
            unfold aggL at hbk
            simp only [Option.isSome_none] at hbk
            repeat' (first | refine Ga ?_ | (refine Gb ?_; intro b) | (refine Gd ?_; intro g cap rest hcap) | (refine Gc ?_; intro ad cap) | (refine St.draw (id := 5) [(0, 0), (1, 1), (2, 0), (3, 0), (4, 1), (5, 0)] [] mixed (by kernel_rfl) ?_) | (refine St.draw (id := 19) [(0, 0), (1, 0), (2, 0), (3, 1), (4, 0), (5, 0), (6, 1), (7, 0), (8, 0)] [] mixed (by kernel_rfl) ?_)| refine Gl hat1 ?_ | refine Gl hpk1 ?_ | refine Gl hbk ?_ | (refine Ge ?_ ?_ <;> (intro h; try (exfalso; omega))) | fail)
            all_goals first | (exfalso; omega) | (exfalso; exact h (beq_eq_false_iff_ne.2 hv)) | skip
            refine St.loopY (Lr := ?Lr3) (ι := { w : Nat // w ≤ 8 }) (fun x => 8 - x.1) (fun x => [(63, .int .i64 (x.1 : Int))]) (fun _ => []) ⟨0, Nat.zero_le _⟩ ?hE3 ?hL3 ?round3
            case hE3 => exact Sub.go
            case hL3 => exact Takes.go
            case round3 =>
              rintro ⟨w, hw⟩ IHw; dsimp only at hw IHw ⊢
              by_cases hlw : w < 8
              · have hpk := hpk (c.at 16 k w)
                rw [peek_cell hc cs (at_in hc (by decide) (in16 hlt hlw))] at hpk
                have hat := hat 16 k w
                generalize cellI cs (c.at 16 k w) = y2 at hpk
                generalize c.at 16 k w = a2 at hpk hat
                repeat' (first | refine Ga ?_ | (refine Gb ?_; intro b) | (refine Gd ?_; intro g cap rest hcap) | (refine Gc ?_; intro ad cap) | (refine St.draw (id := 5) [(0, 0), (1, 1), (2, 0), (3, 0), (4, 1), (5, 0)] [] mixed (by kernel_rfl) ?_) | (refine St.draw (id := 19) [(0, 0), (1, 0), (2, 0), (3, 1), (4, 0), (5, 0), (6, 1), (7, 0), (8, 0)] [] mixed (by kernel_rfl) ?_)| refine Gl hat ?_ | refine Gl hpk ?_ | (refine Ge ?_ ?_ <;> (intro h; try (exfalso; omega))) | fail)
                all_goals first | (exfalso; omega) | skip
                refine IHw ⟨w + 1, hlw⟩ (by show 8 - (w + 1) < 8 - w; omega) ?_ ?_
                · exact Sub.go
                · exact Ent.go
              · obtain rfl : w = 8 := by omega
                clear IHw
                repeat' (first | refine Ga ?_ | (refine Gb ?_; intro b) | (refine Gd ?_; intro g cap rest hcap) | (refine Gc ?_; intro ad cap) | (refine St.draw (id := 5) [(0, 0), (1, 1), (2, 0), (3, 0), (4, 1), (5, 0)] [] mixed (by kernel_rfl) ?_) | (refine St.draw (id := 19) [(0, 0), (1, 0), (2, 0), (3, 1), (4, 0), (5, 0), (6, 1), (7, 0), (8, 0)] [] mixed (by kernel_rfl) ?_) | (refine Ge ?_ ?_ <;> (intro h; try (exfalso; omega))) | fail)
                all_goals first | (exfalso; omega) | skip
                refine IH ⟨k + 1, by omega⟩ (by show c.blocks.toNat - (k + 1) < c.blocks.toNat - k; omega) ?_ ?_
                · exact Sub.go
                · exact Ent.go
          | some l =>
            rw [e] at hbk hlf hg
            have hv : y.val = 1 := hlf.2 rfl
            have hg : l = [x0, x1, x2, x3, x4, x5, x6, x7] := hg
            have hwd := hwd l e
            have hl8 : l.length = 8 := by rw [hg]; rfl
            have hu : u64s l = [.int .u64 (x0 : Int), .int .u64 (x1 : Int), .int .u64 (x2 : Int), .int .u64 (x3 : Int), .int .u64 (x4 : Int), .int .u64 (x5 : Int), .int .u64 (x6 : Int), .int .u64 (x7 : Int)] := by rw [hg]; rfl
            rw [hv] at hpk1
            unfold aggL at hbk
            rw [← hg, hu] at hbk
            simp only [Option.isSome_some] at hbk
            repeat' (first | refine Ga ?_ | (refine Gb ?_; intro b) | (refine Gd ?_; intro g cap rest hcap) | (refine Gc ?_; intro ad cap) | (refine St.draw (id := 5) [(0, 0), (1, 1), (2, 0), (3, 0), (4, 1), (5, 0)] [] mixed (by kernel_rfl) ?_) | (refine St.draw (id := 19) [(0, 0), (1, 0), (2, 0), (3, 1), (4, 0), (5, 0), (6, 1), (7, 0), (8, 0)] [] mixed (by kernel_rfl) ?_)| refine Gl hat1 ?_ | refine Gl hpk1 ?_ | refine Gl hbk ?_ | (refine Ge ?_ ?_ <;> (intro h; try (exfalso; omega))) | fail)
            all_goals first | (exfalso; omega) | skip
            refine St.loopY (Lr := ?Lr4) (ι := { w : Nat // w ≤ 8 }) (fun x => 8 - x.1) (fun x => [(63, .int .i64 (x.1 : Int))]) (fun _ => []) ⟨0, Nat.zero_le _⟩ ?hE4 ?hL4 ?round4
            case hE4 => exact Sub.go
            case hL4 => exact Takes.go
            case round4 =>
              rintro ⟨w, hw⟩ IHw; dsimp only at hw IHw ⊢
              by_cases hlw : w < 8
              · have hpk := hpk (c.at 16 k w)
                rw [peek_cell hc cs (at_in hc (by decide) (in16 hlt hlw))] at hpk
                have hat := hat 16 k w
                have hnw := u64s_at8 hl8 hlw
                rw [hu] at hnw
                have hwv := hwd w hlw
                rw [← hwv] at hnw
                generalize cellI cs (c.at 16 k w) = y2 at hpk hnw
                generalize c.at 16 k w = a2 at hpk hat
                repeat' (first | refine Ga ?_ | (refine Gb ?_; intro b) | (refine Gd ?_; intro g cap rest hcap) | (refine Gc ?_; intro ad cap) | (refine St.draw (id := 5) [(0, 0), (1, 1), (2, 0), (3, 0), (4, 1), (5, 0)] [] mixed (by kernel_rfl) ?_) | (refine St.draw (id := 19) [(0, 0), (1, 0), (2, 0), (3, 1), (4, 0), (5, 0), (6, 1), (7, 0), (8, 0)] [] mixed (by kernel_rfl) ?_)| refine Gl hat ?_ | refine Gl hpk ?_ | (refine Ge ?_ ?_ <;> (intro h; try (exfalso; omega))) | fail)
                all_goals first | (exfalso; omega) | skip
                refine IHw ⟨w + 1, hlw⟩ (by show 8 - (w + 1) < 8 - w; omega) ?_ ?_
                · exact Sub.go
                · exact Ent.go
              · obtain rfl : w = 8 := by omega
                clear IHw
                repeat' (first | refine Ga ?_ | (refine Gb ?_; intro b) | (refine Gd ?_; intro g cap rest hcap) | (refine Gc ?_; intro ad cap) | (refine St.draw (id := 5) [(0, 0), (1, 1), (2, 0), (3, 0), (4, 1), (5, 0)] [] mixed (by kernel_rfl) ?_) | (refine St.draw (id := 19) [(0, 0), (1, 0), (2, 0), (3, 1), (4, 0), (5, 0), (6, 1), (7, 0), (8, 0)] [] mixed (by kernel_rfl) ?_) | (refine Ge ?_ ?_ <;> (intro h; try (exfalso; omega))) | fail)
                all_goals first | (exfalso; omega) | skip
                refine IH ⟨k + 1, by omega⟩ (by show c.blocks.toNat - (k + 1) < c.blocks.toNat - k; omega) ?_ ?_
                · exact Sub.go
                · exact Ent.go
        · obtain hkb : (k : Int) = c.blocks := by omega
          clear IH
          repeat' (first | refine Ga ?_ | (refine Gb ?_; intro b) | (refine Gd ?_; intro g cap rest hcap) | (refine Gc ?_; intro ad cap) | (refine St.draw (id := 5) [(0, 0), (1, 1), (2, 0), (3, 0), (4, 1), (5, 0)] [] mixed (by kernel_rfl) ?_) | (refine St.draw (id := 19) [(0, 0), (1, 0), (2, 0), (3, 1), (4, 0), (5, 0), (6, 1), (7, 0), (8, 0)] [] mixed (by kernel_rfl) ?_) | (refine Ge ?_ ?_ <;> (intro h; try (exfalso; omega))) | fail)
          all_goals first | (exfalso; omega) | skip
          exact St.d1 Tryz.func80 ⟨_, ⟨rfl, rfl⟩, Ent.go⟩
end Go.Proofs.YthmbgodcpgkkeaaGreat
end
section
namespace Go.Proofs.YthmbgodcpgkkeaaGreat
set_option maxRecDepth 100000
/-- a pool that has read a memory -/
def pool1 (c : Cfg) (cs : List Cell) (n : Nat) (F : Nat) (ls : List Nat) : Po := poK c n (slotS c cs) F ls (c.threads.toNat + 2 + ls.length)
/-- what settling puts -/
def set1 (c : Cfg) (room : Nat) (p : Po) (puts : List (Int × Nat)) : SetS := setGo c room p.names 0 p.limbo ⟨0, p.nt, puts⟩
section
variable {c : Cfg} {cs cs' : List Cell} {n : Nat} {fs ls : List Nat} {ms : Ms}
theorem pool1_eq (hc : Small c) : pool1 c cs n fs.length ls = ⟨n, ((c.threads.toNat + 2 + ls.length : Nat) : Int), (List.range c.threads.toNat).map (slotS c cs), fs.length, ls.length, fs.length, ls.length, ls, 1⟩ :=
  poK_fin hc (by have := hc.t0; omega)
structure Job0 (c : Cfg) (V : Int → Nat) (ms : Ms) (P0 : List (Int × Nat)) (nt kept : Int) (fs ls : List Nat) : Prop where
  rep : RepV c (ovl P0 V) fs ls ms.roots ms.blocks
  pk : Pk c V P0
  nt : nt = fs.length
  nl : kept = ls.length
  L : (ls.length : Int) ≤ c.threads
theorem job_set (hc : Small c) (h : MemH c cs n fs ls ms.roots ms.blocks) : ∃ fs' ls', Job0 c (fun a => (cellI cs a).val) ms (set1 c c.cap.toNat (pool1 c cs n fs.length ls) []).puts (set1 c c.cap.toNat (pool1 c cs n fs.length ls) []).nt (set1 c c.cap.toNat (pool1 c cs n fs.length ls) []).kept fs' ls' ∧ (set1 c c.cap.toNat (pool1 c cs n fs.length ls) []).puts.length ≤ 2 * ls.length := by
  have hlz := h.rep.lsz
  have hfz := h.rep.fsz
  have hcnt := h.rep.cnt
  have hcap : c.cap = c.threads * (c.writes + 3) + 3 * c.limit + 2 := rfl
  have htw := hc.tw3
  have ht0 := hc.t0
  have hr : ([] : List (Int × Nat)).length + 2 * ls.length ≤ c.cap.toNat := by
    show 0 + 2 * ls.length ≤ _
    omega
  have h0 : RepV c (ovl [] fun a => (cellI cs a).val) fs ls ms.roots ms.blocks := h.rep
  obtain ⟨g1, g2, g3, g4⟩ := h0.settled hc (puts := []) (room := c.cap.toNat) ((List.range c.threads.toNat).map (slotS c cs)) hr _ rfl
  have gp := setGo_pk (V := fun a => (cellI cs a).val) (room := c.cap.toNat) hc (names := (List.range c.threads.toNat).map (slotS c cs)) ls 0 fs.length ⟨0, (fs.length : Int), []⟩ rfl (fun b hb => (h.rep.limbo b hb).1) (by omega) hr (Nat.le_refl _) (by omega) (Pk.nil _ _)
  have hst := stay_le (names := (List.range c.threads.toNat).map (slotS c cs)) h.rep.lnod
  rw [List.length_map, List.length_range] at hst
  rw [pool1_eq hc]
  refine ⟨_, _, ⟨g4, gp, g2, by rw [← g1]; rfl, by omega⟩, ?_⟩
  have : (setGo c c.cap.toNat ((List.range c.threads.toNat).map (slotS c cs)) 0 ls ⟨0, (fs.length : Int), []⟩).puts.length ≤ 0 + 2 * ls.length := g3
  show (setGo c c.cap.toNat ((List.range c.threads.toNat).map (slotS c cs)) 0 ls ⟨0, (fs.length : Int), []⟩).puts.length ≤ 2 * ls.length
  omega
end
end Go.Proofs.YthmbgodcpgkkeaaGreat
end
section
namespace Go.Proofs.YthmbgodcpgkkeaaGreat
set_option maxRecDepth 100000
/-- what holds of a program between its steps -/
inductive JI (c : Cfg) (V : Int → Nat) (g : Bg) (room : Nat) (code : List Ins) (ms : Ms) (args : List Nat) (P0 : List (Int × Nat)) (p : Po) (k : Nat) (m : Xm) : Prop
  | right : rightB code = true → XI c V g room code ms args P0 p.nt p.nl k m → m.stops → JI c V g room code ms args P0 p k m
  | wrong : rightB code = false → m = (Xm.init (Vw.new g.who g.sq) p P0 args).fail 30 0 → k = 0 → JI c V g room code ms args P0 p k m
section
variable {c : Cfg} {V : Int → Nat} {g : Bg} {room : Nat} {code : List Ins} {ms : Ms} {args : List Nat} {P0 : List (Int × Nat)} {p : Po} {k : Nat} {m : Xm}
theorem JI.steps (hf : 0 ≤ c.fuel) (h : JI c V g room code ms args P0 p k m) : k + (if (m.ask c).2 = true then 1 else 0) ≤ 3 * c.fuel.toNat := by
  cases h with
  | right h1 h2 h3 =>
    have ha := h2.inv.asks; have := h2.inv.s1; have := h2.inv.s0
    have hrem : (m.ask c).2 = true → 1 ≤ remOf m := fun e => by
      unfold Xm.ask at e
      split at e
      · cases e
      · next hs =>
        have hs : m.x.s = 0 := by omega
        rcases h3 with e2 | ⟨e2, e3⟩
        · exact absurd hs e2
        · unfold remOf
          rw [if_pos ⟨e2, e3⟩]
          repeat' split
          all_goals omega
    split
    · next e => have := hrem e; omega
    · omega
  | wrong h1 h2 h3 =>
    subst h2 h3
    have : ((Xm.fail (Xm.init (Vw.new g.who g.sq) p P0 args) 30 0).ask c).2 = false := by
      unfold Xm.ask
      rw [if_pos (by show (1 : Int) ≠ 0; decide)]
    rw [this]
    simp
theorem pend_x (Pb W room : Nat) (c : Cfg) (hc : Small c) (p : Po) (puts : List (Int × Nat)) (hnt : 0 ≤ p.nt ∧ p.nt ≤ 1000000) (hnl : 0 ≤ p.nl ∧ p.nl ≤ 1000000) (hlen : puts.length + 2 ≤ 1000000000) :
    Tri Tryz.prog 76 #[.pointer (some ⟨Pb, 0, none⟩), .pointer (some ⟨W, 0, none⟩)] [Pl Pb c p, Ws W room puts]
      fun r L => r = .tuple ⟨[]⟩ ∧ L = [Pl Pb c p, Ws W room (endP c room p puts)] := by
  unfold Pl; exact pend_tE Pb W room c hc p puts hnt hnl hlen
end
end Go.Proofs.YthmbgodcpgkkeaaGreat
end
section
namespace Go.Proofs.YthmbgodcpgkkeaaGreat
set_option maxRecDepth 100000
def wrB (i : Ins) : Bool := decide (i.op = 10 ∨ i.op = 13 ∨ i.op = 14 ∨ i.op = 15 ∨ i.op = 16)
def onlyB (code : List Ins) : Bool := code.all (fun i => !wrB i) && rightB code
theorem drop_cons' {α : Type} {l : List α} {k : Nat} (h : k < l.length) : l.drop k = l[k] :: l.drop (k + 1) := by simp
set_option maxHeartbeats 1000000 in
theorem reads_r (q : HProp) (cv : Value) (code : List Ins) (hcv : InsR q cv code) (hl : code.length ≤ 9223372036854775807) : RTri Tryz.prog 82 #[cv] [q] (.bool (onlyB code)) := by
  refine RTri.of_reads fun p hp => ?_
  have hins : InsR p cv code := by
    obtain ⟨ad, cap, h1, h2 | ⟨b, o, l, rest, h3, h4, h5⟩⟩ := hcv
    · exact ⟨ad, cap, h1, .inl h2⟩
    · exact ⟨ad, cap, h1, .inr ⟨b, o, l, rest, h3, RdC.of_sat hp (ReadsC.here h4), h5⟩⟩
  have hri := right_rr p cv code hins
  obtain ⟨ad, cap, rfl, hr⟩ := hins
  refine Tri.of_body (vs := [_]) Tryz.func82 rfl rfl fun w0 F => ?_
  repeat' (first | refine Ga ?_ | (refine Gb ?_; intro b) | (refine Gd ?_; intro g cap rest hcap) | (refine Gc ?_; intro ad cap)  | (refine Ge ?_ ?_ <;> (intro h; try (exfalso; omega))) | fail)
  refine St.loopY (Lr := ?Lr1) (ι := { x : Nat // x ≤ code.length ∧ onlyB code = ((code.drop x).all (fun i => !wrB i) && rightB code) }) (fun x => code.length - x.1) (fun x => [(7, .int .i64 (x.1 : Int))]) (fun _ => []) ⟨0, Nat.zero_le _, rfl⟩ ?hE1 ?hL1 ?round1
  case hE1 => exact Sub.go
  case hL1 => exact Takes.go
  case round1 =>
    rintro ⟨k, hk, ha⟩ IH; dsimp only at hk ha IH ⊢
    by_cases hlt : k < code.length
    · obtain ⟨bf, o, l, l1, rfl, hrd, hdr, htk⟩ := InsR.at hr k hlt
      rw [drop_cons' hlt, List.all_cons] at ha
      generalize code[k] = i at htk ha
      unfold Ins.v at htk
      cases hw : wrB i with
      | true =>
        rw [hw] at ha
        have hw := of_decide_eq_true hw
        rw [ha]
        clear IH
        repeat' (first | refine Ga ?_ | (refine Gb ?_; intro b) | (refine Gd ?_; intro g cap rest hcap) | (refine Gc ?_; intro ad cap)  | (refine Ge ?_ ?_ <;> (intro h; try (exfalso; omega))) | fail)
        all_goals first | (exfalso; omega) | skip
        all_goals refine St.d1 Tryz.func82 ⟨_, ⟨rfl, rfl⟩, Ent.go⟩
      | false =>
        rw [hw] at ha
        have hw := of_decide_eq_false hw
        repeat' (first | refine Ga ?_ | (refine Gb ?_; intro b) | (refine Gd ?_; intro g cap rest hcap) | (refine Gc ?_; intro ad cap)  | (refine Ge ?_ ?_ <;> (intro h; try (exfalso; omega))) | fail)
        all_goals first | (exfalso; omega) | skip
        refine IH ⟨k + 1, hlt, by rw [ha]; rfl⟩ (by show code.length - (k + 1) < code.length - k; omega) ?_ ?_
        · exact Sub.go
        · exact Ent.go
    · obtain rfl : k = code.length := by omega
      rw [List.drop_length] at ha
      rw [ha]
      clear IH
      repeat' (first | refine Ga ?_ | (refine Gb ?_; intro b) | (refine Gd ?_; intro g cap rest hcap) | (refine Gc ?_; intro ad cap) | refine Gl hri ?_ | (refine Ge ?_ ?_ <;> (intro h; try (exfalso; omega))) | fail)
      refine St.d1 Tryz.func82 ⟨_, ⟨rfl, rfl⟩, Ent.go⟩
end Go.Proofs.YthmbgodcpgkkeaaGreat
end
