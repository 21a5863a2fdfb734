/-
  Package tumblerref06: Step, Play, for the programs of tumblerlaw20.Made.
-/
import Derived.Test.YtphheopbngdhhaaGreatDoorPc
import Derived.Test.YtphheopbngdhhaaGreatDoorPr
namespace Go.Proofs.YtphheopbngdhhaaGreatDoor
set_option maxRecDepth 100000
/-- a register is reckoned from an argument -/
theorem xstep8 (q : HProp) (cv : Value) (code : List Ins) (hc : ListR Ins.v q cv code) (p p' : Int) (hp0 : 0 ≤ p) (hp9 : p < 9) (hpp : p' = p + 1) (hk : p.toNat < code.length) (a imm : Nat) (e : code[p.toNat] = ⟨8, a, 0, 0, imm⟩) (ha : a < 16) (hi : imm < 4)
    (b1 : Option Addr) (b2 b3 : Nat) (rs regs args : List Nat) (hrg : regs.length = 16) (hal : args.length = 4) :
    RTri Tryz.prog 80 #[.agg ⟨rxV (.slice b1 b2 b3) nilV nilV rs regs p p 0 false 0 0⟩, cv, .agg ⟨g4 args⟩, .int .i64 9, .int .i64 9] [q] (.agg ⟨rxV (.slice b1 b2 b3) nilV nilV rs (regs.set a (args.getD imm 0)) p' p' 0 false 0 0⟩) := by
  subst hpp
  refine RTri.of_reads fun p1 hp => ?_
  have hc := hc.weak fun b l h => RdC.of_sat hp (ReadsC.here h)
  obtain ⟨ad, cap, rfl, _, hc⟩ := hc
  obtain ⟨bf, o, l, l1, rfl, hrd, hdr, htk⟩ := ListR.at (f := Ins.v) (sz := 5) Ins.v_len hc p.toNat hk
  rw [e] at htk
  rw [show ((p.toNat : Nat) : Int).toNat = p.toNat by omega] at hdr
  unfold Ins.v at htk
  dsimp only at htk
  have hrk := xreckon_r a imm regs args hrg hal hi
  rw [← g16_eq hrg, ← g4_eq hal] at hrk
  have hset := rx_set (.slice b1 b2 b3) nilV nilV rs regs (p + 1) (p + 1) 0 false 0 0 hrg (a := (a : Int)) (by omega) (by omega) (args.getD imm 0)
  rw [Int.toNat_natCast] at hset
  generalize args.getD imm 0 = v at hrk hset ⊢
  unfold rxV at hset ⊢
  refine Tri.of_body (vs := [_, _, _, _, _]) Tryz.func80 rfl rfl fun w0 F => ?_
  repeat' (first | refine Ga ?_ | (refine Gb ?_; intro b) | (refine Gd ?_; intro g cap rest hcap) | (refine Gc ?_; intro ad cap) | (refine St.draw (id := 16) [(0, 0), (1, 1), (2, 1), (3, 0), (4, 1), (5, 1), (6, 1), (7, 0), (8, 0), (9, 3)] [9] mixed (by kernel_rfl) ?_)| refine Gl hrk ?_ | (refine Ge ?_ ?_ <;> (intro h; try (exfalso; omega))) | fail)
  all_goals first | (exfalso; omega) | exact St.d1 Tryz.func80 ⟨_, ⟨rfl, rfl⟩, Ent.go⟩ | skip
/-- the end -/
theorem xstep20 (q : HProp) (cv : Value) (code : List Ins) (hc : ListR Ins.v q cv code) (p p' : Int) (hp0 : 0 ≤ p) (hp9 : p < 9) (hpp : p' = p + 1) (hk : p.toNat < code.length) (a : Nat) (e : code[p.toNat] = ⟨20, a, 0, 0, 0⟩) (ha : a < 16)
    (b1 : Option Addr) (b2 b3 : Nat) (b4 : Option Addr) (b5 b6 : Nat) (b7 : Option Addr) (b8 b9 : Nat) (rs regs : List Nat) (args : List Nat) (wr : Int) (v : Nat) (ev : regs.getD a 0 = v) :
    RTri Tryz.prog 80 #[.agg ⟨rxV (.slice b1 b2 b3) (.slice b4 b5 b6) (.slice b7 b8 b9) rs regs p p wr false 0 0⟩, cv, .agg ⟨g4 args⟩, .int .i64 9, .int .i64 9] [q] (.agg ⟨rxV (.slice b1 b2 b3) (.slice b4 b5 b6) (.slice b7 b8 b9) rs regs p' p' wr true v 0⟩) := by
  subst hpp
  refine RTri.of_reads fun p1 hp => ?_
  have hc := hc.weak fun b l h => RdC.of_sat hp (ReadsC.here h)
  obtain ⟨ad, cap, rfl, _, hc⟩ := hc
  obtain ⟨bf, o, l, l1, rfl, hrd, hdr, htk⟩ := ListR.at (f := Ins.v) (sz := 5) Ins.v_len hc p.toNat hk
  rw [e] at htk
  rw [show ((p.toNat : Nat) : Int).toNat = p.toNat by omega] at hdr
  unfold Ins.v at htk
  dsimp only at htk
  have hreg := rx_reg (.slice b1 b2 b3) (.slice b4 b5 b6) (.slice b7 b8 b9) rs regs (p + 1) (p + 1) wr true 0 0 (a := (a : Int)) (by omega) (by omega)
  rw [Int.toNat_natCast, ev] at hreg
  unfold rxV at hreg ⊢
  refine Tri.of_body (vs := [_, _, _, _, _]) Tryz.func80 rfl rfl fun w0 F => ?_
  repeat' (first | refine Ga ?_ | (refine Gb ?_; intro b) | (refine Gd ?_; intro g cap rest hcap) | (refine Gc ?_; intro ad cap) | (refine St.draw (id := 16) [(0, 0), (1, 1), (2, 1), (3, 0), (4, 1), (5, 1), (6, 1), (7, 0), (8, 0), (9, 3)] [9] mixed (by kernel_rfl) ?_) | (refine Ge ?_ ?_ <;> (intro h; try (exfalso; omega))) | fail)
  all_goals first | (exfalso; omega) | exact St.d1 Tryz.func80 ⟨_, ⟨rfl, rfl⟩, Ent.go⟩ | skip
/-- a root is set -/
theorem xstep10 (q : HProp) (cv : Value) (code : List Ins) (hc : ListR Ins.v q cv code) (p p' : Int) (hp0 : 0 ≤ p) (hp9 : p < 9) (hpp : p' = p + 1) (hk : p.toNat < code.length) (a b : Nat) (e : code[p.toNat] = ⟨10, a, b, 0, 0⟩) (args : List Nat)
    (b1 : Option Addr) (b2 b3 : Nat) (rs regs rs' : List Nat)
    (ht : RTri Tryz.prog 117 #[.agg ⟨rxV (.slice b1 b2 b3) nilV nilV rs regs p' p' 0 false 0 0⟩, .agg ⟨[.int .i64 10, .int .i64 (a : Int), .int .i64 (b : Int), .int .i64 0, .int .u64 0]⟩, .int .i64 9] [q] (.agg ⟨rxV (.slice b1 b2 b3) nilV nilV rs' regs p' p' 1 false 0 0⟩)) :
    RTri Tryz.prog 80 #[.agg ⟨rxV (.slice b1 b2 b3) nilV nilV rs regs p p 0 false 0 0⟩, cv, .agg ⟨g4 args⟩, .int .i64 9, .int .i64 9] [q] (.agg ⟨rxV (.slice b1 b2 b3) nilV nilV rs' regs p' p' 1 false 0 0⟩) := by
  subst hpp
  refine RTri.of_reads fun p1 hp => ?_
  have ht := ht.of_read hp
  have hc := hc.weak fun b l h => RdC.of_sat hp (ReadsC.here h)
  obtain ⟨ad, cap, rfl, _, hc⟩ := hc
  obtain ⟨bf, o, l, l1, rfl, hrd, hdr, htk⟩ := ListR.at (f := Ins.v) (sz := 5) Ins.v_len hc p.toNat hk
  rw [e] at htk
  rw [show ((p.toNat : Nat) : Int).toNat = p.toNat by omega] at hdr
  unfold Ins.v at htk
  dsimp only at htk
  unfold rxV at ht ⊢
  refine Tri.of_body (vs := [_, _, _, _, _]) Tryz.func80 rfl rfl fun w0 F => ?_
  repeat' (first | refine Ga ?_ | (refine Gb ?_; intro b) | (refine Gd ?_; intro g cap rest hcap) | (refine Gc ?_; intro ad cap) | (refine St.draw (id := 16) [(0, 0), (1, 1), (2, 1), (3, 0), (4, 1), (5, 1), (6, 1), (7, 0), (8, 0), (9, 3)] [9] mixed (by kernel_rfl) ?_)| refine Gl ht ?_ | (refine Ge ?_ ?_ <;> (intro h; try (exfalso; omega))) | fail)
  all_goals first | (exfalso; omega) | exact St.d1 Tryz.func80 ⟨_, ⟨rfl, rfl⟩, Ent.go⟩ | skip
/-- a block is touched -/
theorem xstepT (q : HProp) (cv : Value) (code : List Ins) (hc : ListR Ins.v q cv code) (p p' : Int) (hp0 : 0 ≤ p) (hp9 : p < 9) (hpp : p' = p + 1) (hk : p.toNat < code.length) (j : Ins) (e : code[p.toNat] = j) (ho : j.op = 14 ∨ j.op = 15) (args : List Nat)
    (b1 : Option Addr) (b2 b3 : Nat) (b7 : Option Addr) (b8 b9 : Nat) (rs regs rs' regs' : List Nat) (wr : Int) (bs' : List (Nat × List Nat))
    (ht : Tri Tryz.prog 117 #[.agg ⟨rxV (.slice b1 b2 b3) nilV (.slice b7 b8 b9) rs regs p' p' 0 false 0 0⟩, .agg ⟨j.v⟩, .int .i64 9] [q] (touchQ q bs' rs' regs' p' wr)) :
    Tri Tryz.prog 80 #[.agg ⟨rxV (.slice b1 b2 b3) nilV (.slice b7 b8 b9) rs regs p p 0 false 0 0⟩, cv, .agg ⟨g4 args⟩, .int .i64 9, .int .i64 9] [q] (touchQ q bs' rs' regs' p' wr) := by
  subst hpp
  obtain ⟨ad, cap, rfl, _, hc⟩ := hc
  obtain ⟨bf, o, l, l1, rfl, hrd, hdr, htk⟩ := ListR.at (f := Ins.v) (sz := 5) Ins.v_len hc p.toNat hk
  rw [e] at htk
  rw [show ((p.toNat : Nat) : Int).toNat = p.toNat by omega] at hdr
  unfold Ins.v at htk ht
  unfold touchQ rxV at ht
  unfold touchQ rxV
  refine Tri.of_body (vs := [_, _, _, _, _]) Tryz.func80 rfl rfl fun w0 F => ?_
  repeat' (first | refine Ga ?_ | (refine Gb ?_; intro b) | (refine Gd ?_; intro g cap rest hcap) | (refine Gc ?_; intro ad cap) | (refine St.draw (id := 16) [(0, 0), (1, 1), (2, 1), (3, 0), (4, 1), (5, 1), (6, 1), (7, 0), (8, 0), (9, 3)] [9] mixed (by kernel_rfl) ?_) | (refine Gt ht ?_; rintro _ _ ⟨ad, cap, a1, n1, c1, a2, n2, c2, rfl, rfl⟩) | (refine Ge ?_ ?_ <;> (intro h; try (exfalso; omega))) | fail)
  all_goals first | (exfalso; omega) | exact St.d1 Tryz.func80 ⟨_, ⟨_, _, _, _, _, _, _, _, rfl, rfl⟩, Ent.go⟩ | skip
/-- a block is taken -/
theorem xtouch15 (q : HProp) (bx : Value) (bs : List (Nat × List Nat)) (hb : ListR boxV q bx bs) (hbl : bs.length ≤ 999) (rs : List Nat) (p : Int) (h : Nat) (pk : Value) (hpk : ListR u64V q pk [h]) (h0 : h ≠ 0) (h1 : h ≤ 64) (hg : lkB bs h = none) :
    Tri Tryz.prog 117 #[.agg ⟨rxV bx (.slice none 0 0) pk rs (rgx 0 0 0) p p 0 false 0 0⟩, .agg ⟨[.int .i64 15, .int .i64 1, .int .i64 0, .int .i64 0, .int .u64 0]⟩, .int .i64 9] [q] (touchQ q (withB bs h zero8 false) rs (rgx h 0 0) p 9) := by
  have hf := xfind_r q rs bx bs hb (by omega) ((rgx 0 0 0).getD 0 0)
  have hfr := xfresh15 q bx bs hb hbl rs p h pk hpk h0 h1 hg
  generalize findX ((rgx 0 0 0).getD 0 0) bs 0 = at_ at hf
  have hwd := xword_15 1 0 (rgx 0 0 0)
  have hwr := xwrites_15
  have hreg := rx_reg bx (.slice none 0 0) pk rs (rgx 0 0 0) p p 0 false 0 0 (a := 0) (by decide) (by decide)
  obtain ⟨ad0, cap0, hbx, _, _⟩ := hb
  obtain ⟨pad, pcap, hpe, _, _⟩ := hpk
  subst hbx hpe
  unfold touchQ rxV at hfr
  unfold rxV at hreg
  unfold touchQ rxV
  refine Tri.of_body (vs := [_, _, _]) Tryz.func117 rfl rfl fun w0 F => ?_
  repeat' (first | refine Ga ?_ | (refine Gb ?_; intro b) | (refine Gd ?_; intro g cap rest hcap) | (refine Gc ?_; intro ad cap) | (refine St.draw (id := 15) [(0, 0), (1, 1), (2, 0), (3, 0), (4, 0), (5, 0), (6, 1), (7, 0), (8, 0), (9, 3)] [9] mixed (by kernel_rfl) ?_) | (refine St.draw (id := 19) [(0, 0), (1, 1), (2, 0), (3, 0), (4, 1), (5, 0), (6, 0), (7, 0), (8, 0), (9, 0), (10, 1), (11, 0), (12, 0), (13, 3)] [13] mixed (by kernel_rfl) ?_)| refine Gl hf ?_ | refine Gl hwd ?_ | refine Gl hwr ?_ | (refine Gt hfr ?_; rintro _ _ ⟨ad, cap, a1, n1, c1, a2, n2, c2, rfl, rfl⟩) | (refine Ge ?_ ?_ <;> (intro h; try (exfalso; omega))) | fail)
  all_goals first | (exfalso; omega) | exact St.d1 Tryz.func117 ⟨_, ⟨_, _, _, _, _, _, _, _, rfl, rfl⟩, Ent.go⟩ | skip
end Go.Proofs.YtphheopbngdhhaaGreatDoor
