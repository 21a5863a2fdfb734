/-
  Package tumblerref06: Reckon, Word, touch, fresh, Step, for the instructions of tumblerlaw20.Made.
-/
import Derived.Test.YtphheopbngdhhaaGreatDoorPa
import Derived.Test.YtphheopbngdhhaaGreatDoorPb
namespace Go.Proofs.YtphheopbngdhhaaGreatDoor
set_option maxRecDepth 100000
theorem OpV.pappendZ1 {P : Program} {n' : Fi} {E : Env} {L : List HProp} {ty t e sz g : Nat} {s x : Operand} [hu : Und P t (.slice e)] [hs : Siz P e sz] (hv : ev E s = some (.slice (some ⟨g, 0, none⟩) 0 0)) (hx : ev E x = some (.slice none 0 0)) :
    OpV P n' (.call { callee := .builtin .append, args := ⟨[s, x]⟩, argTypes := ⟨[t, t]⟩ }) ty E L (.slice (some ⟨g, 0, none⟩) 0 0) := by
  unfold OpV
  intro d ps af gd a w ha _
  simp [execOp, resolve, invoke, builtin, ha.ev hv, ha.ev hx, Builtin.append_, run_underlying hu.h, hs.h, Builtin.lenOf, Builtin.firstCells, storeCells]
theorem OpOk.pofV {P : Program} {n' : Fi} {op : Op} {ty : TypeId} {E : Env} {L : List HProp} {v : Value} (h : OpV P n' op ty E L v) : OpOk P n' op ty E L (fun v' L' => v' = v ∧ L' = L) := by
  unfold OpV at h
  unfold OpOk
  exact fun d ps af g a w ha X hs => ⟨v, w, L, .inl (h d ps af g a w ha hs.head_of), ⟨rfl, rfl⟩, hs, Old.refl w⟩
instance runZer : Zer Tryz.prog 131 (.agg ⟨.int .u64 0 :: .int .u64 0 :: .int .u64 0 :: .int .u64 0 :: .int .u64 0 :: .int .u64 0 :: .int .u64 0 :: .int .u64 0 :: .int .u64 0 :: .int .u64 0 :: .int .u64 0 :: .int .u64 0 :: .int .u64 0 :: .int .u64 0 :: .int .u64 0 :: .int .u64 0 :: .slice none 0 0 :: .int .i64 0 :: .int .u64 0 :: .int .u64 0 :: .int .u64 0 :: .int .u64 0 :: .int .u64 0 :: .int .u64 0 :: .int .u64 0 :: .int .u64 0 :: .int .u64 0 :: .int .u64 0 :: .int .u64 0 :: .int .u64 0 :: .int .u64 0 :: .int .u64 0 :: .int .u64 0 :: .int .u64 0 :: .int .i64 0 :: .int .i64 0 :: .slice none 0 0 :: .slice none 0 0 :: .bool false :: .int .u64 0 :: .int .i64 0 :: []⟩) := ⟨Tryz.zeroValue131⟩
abbrev nilV : Value := .slice none 0 0
/-- a run of the document's -/
def rxV (bx nw pk : Value) (rs regs : List Nat) (p st wr : Int) (en : Bool) (val : Nat) (e : Int) : List Value :=
  g16t rs (bx :: .int .i64 p :: g16t regs [.int .i64 st, .int .i64 wr, nw, pk, .bool en, .int .u64 (val : Int), .int .i64 e])
section cells
variable (bx nw pk : Value) (rs regs : List Nat) (p st wr : Int) (en : Bool) (val : Nat) (e : Int)
theorem rx_reg {a : Int} (h0 : 0 ≤ a) (h1 : a < 16) : NthN (0 + 18 + a.toNat * 1) (rxV bx nw pk rs regs p st wr en val e) (.int .u64 ((regs.getD a.toNat 0 : Nat) : Int)) := by
  have h : a = 0 ∨ a = 1 ∨ a = 2 ∨ a = 3 ∨ a = 4 ∨ a = 5 ∨ a = 6 ∨ a = 7 ∨ a = 8 ∨ a = 9 ∨ a = 10 ∨ a = 11 ∨ a = 12 ∨ a = 13 ∨ a = 14 ∨ a = 15 := by omega
  rcases h with rfl | rfl | rfl | rfl | rfl | rfl | rfl | rfl | rfl | rfl | rfl | rfl | rfl | rfl | rfl | rfl <;> exact NthN.of rfl
theorem rx_set (hl : regs.length = 16) {a : Int} (h0 : 0 ≤ a) (h1 : a < 16) (n : Nat) : SetN (.int .u64 (n : Int)) (0 + 18 + a.toNat * 1) (rxV bx nw pk rs regs p st wr en val e) (rxV bx nw pk rs (regs.set a.toNat n) p st wr en val e) := by
  have h : a = 0 ∨ a = 1 ∨ a = 2 ∨ a = 3 ∨ a = 4 ∨ a = 5 ∨ a = 6 ∨ a = 7 ∨ a = 8 ∨ a = 9 ∨ a = 10 ∨ a = 11 ∨ a = 12 ∨ a = 13 ∨ a = 14 ∨ a = 15 := by omega
  obtain ⟨a0, a1, a2, a3, a4, a5, a6, a7, a8, a9, a10, a11, a12, a13, a14, a15, rfl⟩ := len16 hl
  have key : ∀ (k : Nat) (l l' : List Value), k < l.length → l.set k (.int .u64 (n : Int)) = l' → SetN (.int .u64 (n : Int)) k l l' := fun k l l' hk e => e ▸ SetN.of hk
  rcases h with rfl | rfl | rfl | rfl | rfl | rfl | rfl | rfl | rfl | rfl | rfl | rfl | rfl | rfl | rfl | rfl <;> exact key _ _ _ (by simp [rxV]) rfl
theorem rx_root (hl : rs.length = 16) {a : Int} (h0 : 0 ≤ a) (h1 : a < 16) (n : Nat) : SetN (.int .u64 (n : Int)) (0 + 0 + 0 + a.toNat * 1) (rxV bx nw pk rs regs p st wr en val e) (rxV bx nw pk (rs.set a.toNat n) regs p st wr en val e) := by
  have h : a = 0 ∨ a = 1 ∨ a = 2 ∨ a = 3 ∨ a = 4 ∨ a = 5 ∨ a = 6 ∨ a = 7 ∨ a = 8 ∨ a = 9 ∨ a = 10 ∨ a = 11 ∨ a = 12 ∨ a = 13 ∨ a = 14 ∨ a = 15 := by omega
  obtain ⟨a0, a1, a2, a3, a4, a5, a6, a7, a8, a9, a10, a11, a12, a13, a14, a15, rfl⟩ := len16 hl
  have key : ∀ (k : Nat) (l l' : List Value), k < l.length → l.set k (.int .u64 (n : Int)) = l' → SetN (.int .u64 (n : Int)) k l l' := fun k l l' hk e => e ▸ SetN.of hk
  rcases h with rfl | rfl | rfl | rfl | rfl | rfl | rfl | rfl | rfl | rfl | rfl | rfl | rfl | rfl | rfl | rfl <;> exact key _ _ _ (by simp [rxV]) rfl
end cells
abbrev rgx (a b c : Nat) : List Nat := [0, a, b, c, 0, 0, 0, 0, 0, 0, 0, 0, 0, 0, 0, 0]
theorem xreckon_r (a imm : Nat) (regs args : List Nat) (hr : regs.length = 16) (ha : args.length = 4) (hi : imm < 4) : RTri Tryz.prog 116 #[.agg ⟨[.int .i64 8, .int .i64 (a : Int), .int .i64 0, .int .i64 0, .int .u64 (imm : Int)]⟩, .agg ⟨u64s regs⟩, .agg ⟨u64s args⟩] [] (.int .u64 ((args.getD imm 0 : Nat) : Int)) := by
  apply RTri.of_pure
  have hnb : NthN (0 + (0 : Int).toNat * 1) (u64s regs) (.int .u64 ((regs.getD 0 0 : Nat) : Int)) := NthN.u64s (i := 0) (by omega)
  have hni : NthN (0 + (imm : Int).toNat * 1) (u64s args) (.int .u64 ((args.getD imm 0 : Nat) : Int)) := by
    rw [Nat.zero_add, Nat.mul_one, Int.toNat_natCast]; exact NthN.u64s (by omega)
  refine Tri.of_body (vs := [_, _, _]) Tryz.func116 rfl rfl fun w0 F => ?_
  repeat' (first | refine Ga ?_ | (refine Gb ?_; intro b) | (refine Gd ?_; intro g cap rest hcap) | (refine Gc ?_; intro ad cap)  | (refine Ge ?_ ?_ <;> (intro h; try (exfalso; omega))) | fail)
  all_goals first | (exfalso; omega) | exact St.d1 Tryz.func116 ⟨_, ⟨rfl, rfl⟩, Ent.go⟩ | skip
theorem xword_10 (a b : Nat) (regs : List Nat) : RTri Tryz.prog 149 #[.agg ⟨[.int .i64 10, .int .i64 (a : Int), .int .i64 (b : Int), .int .i64 0, .int .u64 0]⟩, .agg ⟨g16 regs⟩] [] (.int .u64 0) := by
  apply RTri.of_pure
  refine Tri.of_body (vs := [_, _]) Tryz.func149 rfl rfl fun w0 F => ?_
  repeat' (first | refine Ga ?_ | (refine Gb ?_; intro b) | (refine Gd ?_; intro g cap rest hcap) | (refine Gc ?_; intro ad cap)  | (refine Ge ?_ ?_ <;> (intro h; try (exfalso; omega))) | fail)
  all_goals first | (exfalso; omega) | exact St.d1 Tryz.func149 ⟨_, ⟨rfl, rfl⟩, Ent.go⟩ | skip
theorem xword_15 (a b : Nat) (regs : List Nat) : RTri Tryz.prog 149 #[.agg ⟨[.int .i64 15, .int .i64 (a : Int), .int .i64 (b : Int), .int .i64 0, .int .u64 0]⟩, .agg ⟨g16 regs⟩] [] (.int .u64 0) := by
  apply RTri.of_pure
  refine Tri.of_body (vs := [_, _]) Tryz.func149 rfl rfl fun w0 F => ?_
  repeat' (first | refine Ga ?_ | (refine Gb ?_; intro b) | (refine Gd ?_; intro g cap rest hcap) | (refine Gc ?_; intro ad cap)  | (refine Ge ?_ ?_ <;> (intro h; try (exfalso; omega))) | fail)
  all_goals first | (exfalso; omega) | exact St.d1 Tryz.func149 ⟨_, ⟨rfl, rfl⟩, Ent.go⟩ | skip
theorem xword_14 (a b c : Nat) (regs : List Nat) (hr : regs.length = 16) (hc : c < 16) : RTri Tryz.prog 149 #[.agg ⟨[.int .i64 14, .int .i64 (a : Int), .int .i64 (b : Int), .int .i64 (c : Int), .int .u64 0]⟩, .agg ⟨u64s regs⟩] [] (.int .u64 ((regs.getD c 0 : Nat) : Int)) := by
  apply RTri.of_pure
  have hni : NthN (0 + (c : Int).toNat * 1) (u64s regs) (.int .u64 ((regs.getD c 0 : Nat) : Int)) := by
    rw [Nat.zero_add, Nat.mul_one, Int.toNat_natCast]; exact NthN.u64s (by omega)
  refine Tri.of_body (vs := [_, _]) Tryz.func149 rfl rfl fun w0 F => ?_
  repeat' (first | refine Ga ?_ | (refine Gb ?_; intro b) | (refine Gd ?_; intro g cap rest hcap) | (refine Gc ?_; intro ad cap)  | (refine Ge ?_ ?_ <;> (intro h; try (exfalso; omega))) | fail)
  all_goals first | (exfalso; omega) | exact St.d1 Tryz.func149 ⟨_, ⟨rfl, rfl⟩, Ent.go⟩ | skip
theorem xwrites_10 : RTri Tryz.prog 150 #[.int .i64 10] [] (.int .i64 1) := by
  apply RTri.of_pure
  refine Tri.of_body (vs := [_]) Tryz.func150 rfl rfl fun w0 F => ?_
  repeat' (first | refine Ga ?_ | (refine Gb ?_; intro b) | (refine Gd ?_; intro g cap rest hcap) | (refine Gc ?_; intro ad cap)  | (refine Ge ?_ ?_ <;> (intro h; try (exfalso; omega))) | fail)
  refine St.d1 Tryz.func150 ⟨_, ⟨rfl, rfl⟩, Ent.go⟩
theorem xwrites_14 : RTri Tryz.prog 150 #[.int .i64 14] [] (.int .i64 1) := by
  apply RTri.of_pure
  refine Tri.of_body (vs := [_]) Tryz.func150 rfl rfl fun w0 F => ?_
  repeat' (first | refine Ga ?_ | (refine Gb ?_; intro b) | (refine Gd ?_; intro g cap rest hcap) | (refine Gc ?_; intro ad cap)  | (refine Ge ?_ ?_ <;> (intro h; try (exfalso; omega))) | fail)
  refine St.d1 Tryz.func150 ⟨_, ⟨rfl, rfl⟩, Ent.go⟩
theorem xwrites_15 : RTri Tryz.prog 150 #[.int .i64 15] [] (.int .i64 9) := by
  apply RTri.of_pure
  refine Tri.of_body (vs := [_]) Tryz.func150 rfl rfl fun w0 F => ?_
  repeat' (first | refine Ga ?_ | (refine Gb ?_; intro b) | (refine Gd ?_; intro g cap rest hcap) | (refine Gc ?_; intro ad cap)  | (refine Ge ?_ ?_ <;> (intro h; try (exfalso; omega))) | fail)
  refine St.d1 Tryz.func150 ⟨_, ⟨rfl, rfl⟩, Ent.go⟩
theorem g16_u64s {l : List Nat} (h : l.length = 16) : u64s l = g16 l := (g16_eq h).symm
/-- a root is set -/
theorem xtouch10 (q : HProp) (bx : Value) (bs : List (Nat × List Nat)) (hb : ListR boxV q bx bs) (hbl : bs.length ≤ 1000) (rs regs : List Nat) (hrs : rs.length = 16) (_hrg : regs.length = 16) (p : Int) (a b h v : Nat) (ha : a < 16) (hb1 : b < 16) (eh : regs.getD b 0 = h) (ev : regs.getD a 0 = v) (hh : h < 16) :
    RTri Tryz.prog 117 #[.agg ⟨rxV bx nilV nilV rs regs p p 0 false 0 0⟩, .agg ⟨[.int .i64 10, .int .i64 (a : Int), .int .i64 (b : Int), .int .i64 0, .int .u64 0]⟩, .int .i64 9] [q] (.agg ⟨rxV bx nilV nilV (rs.set h v) regs p p 1 false 0 0⟩) := by
  have hb0 := hb
  obtain ⟨ad0, cap0, hbx, _, _⟩ := hb0
  refine RTri.of_reads fun p1 hp => ?_
  have hf := (xfind_r q rs bx bs hb hbl h).of_read hp
  have hw := xword_10 a b regs
  have hwr := xwrites_10
  have hreg := rx_reg bx nilV nilV rs regs p p 0 false 0 0 (a := (b : Int)) (by omega) (by omega)
  have hreg2 := rx_reg bx nilV nilV rs regs p p 1 false 0 0 (a := (a : Int)) (by omega) (by omega)
  have hset := rx_root bx nilV nilV rs regs p p 1 false 0 0 hrs (a := (h : Int)) (by omega) (by omega) v
  rw [Int.toNat_natCast a, ev] at hreg2
  rw [Int.toNat_natCast b, eh] at hreg
  generalize findX h bs 0 = at_ at hf
  subst hbx
  unfold rxV at hreg hreg2 hset ⊢
  refine Tri.of_body (vs := [_, _, _]) Tryz.func117 rfl rfl fun w0 F => ?_
  repeat' (first | refine Ga ?_ | (refine Gb ?_; intro b) | (refine Gd ?_; intro g cap rest hcap) | (refine Gc ?_; intro ad cap) | (refine St.draw (id := 15) [(0, 0), (1, 1), (2, 0), (3, 0), (4, 0), (5, 0), (6, 1), (7, 0), (8, 0), (9, 3)] [9] mixed (by kernel_rfl) ?_) | (refine St.draw (id := 19) [(0, 0), (1, 1), (2, 0), (3, 0), (4, 1), (5, 0), (6, 0), (7, 0), (8, 0), (9, 0), (10, 1), (11, 0), (12, 0), (13, 3)] [13] mixed (by kernel_rfl) ?_)| refine Gl hf ?_ | refine Gl hw ?_ | refine Gl hwr ?_ | (refine Ge ?_ ?_ <;> (intro h; try (exfalso; omega))) | fail)
  all_goals first | (exfalso; omega) | exact St.d1 Tryz.func117 ⟨_, ⟨rfl, rfl⟩, Ent.go⟩ | skip
/-- what is left of a block's row -/
def touchQ (q : HProp) (bs : List (Nat × List Nat)) (rs regs : List Nat) (p wr : Int) (v : Value) (L : List HProp) : Prop := ∃ ad cap a1 n1 c1 a2 n2 c2, v = .agg ⟨rxV (.slice ad bs.length cap) (.slice a1 n1 c1) (.slice a2 n2 c2) rs regs p p wr false 0 0⟩ ∧ L = [Row (.slice ad bs.length cap) 161 9 bs.length (bs.flatMap boxV), q]
/-- a block's word is set -/
theorem xtouch14 (q : HProp) (bx : Value) (bs : List (Nat × List Nat)) (hb : ListR boxV q bx bs) (hbl : bs.length ≤ 999) (rs regs : List Nat) (hrg : regs.length = 16) (p : Int) (a b c h v w : Nat) (bk : List Nat) (ha : a < 16) (hb1 : b < 16) (hc : c < 16) (eh : regs.getD b 0 = h) (ev : regs.getD a 0 = v) (ew : regs.getD c 0 = w) (hw : w < 8) (hg : lkB bs h = some bk) (hk : bk.length = 8) :
    Tri Tryz.prog 117 #[.agg ⟨rxV bx nilV nilV rs regs p p 0 false 0 0⟩, .agg ⟨[.int .i64 14, .int .i64 (a : Int), .int .i64 (b : Int), .int .i64 (c : Int), .int .u64 0]⟩, .int .i64 9] [q] (touchQ q (withB bs h (bk.set w v) false) rs regs p 1) := by
  have hf := xfind_r q rs bx bs hb (by omega) h
  obtain ⟨i, hi, hfi, hbi⟩ := find_some (bs := bs) 0 hg
  rw [Nat.zero_add] at hfi
  rw [hfi] at hf
  have hwd := xword_14 a b c regs hrg hc
  rw [ew, g16_u64s hrg] at hwd
  have hwr := xwrites_14
  have hwith := xwith_t q rs bx bs hb (by omega) h (bk.set w v)
  have hnl : (withB bs h (bk.set w v) false).length ≤ 1000 := by have := with_len bs h (bk.set w v) false; simp at this; omega
  generalize withB bs h (bk.set w v) false = bs' at hwith hnl ⊢
  have hreg := rx_reg bx nilV nilV rs regs p p 0 false 0 0 (a := (b : Int)) (by omega) (by omega)
  have hreg2 := rx_reg bx nilV nilV rs regs p p 1 false 0 0 (a := (a : Int)) (by omega) (by omega)
  rw [Int.toNat_natCast a, ev] at hreg2
  rw [Int.toNat_natCast b, eh] at hreg
  have hset : SetN (.int .u64 (v : Int)) (0 + (w : Int).toNat * 1) (g8 bk) (g8 (bk.set w v)) := by rw [Nat.zero_add, Nat.mul_one, Int.toNat_natCast]; exact g8_set (l := bk) hk hw v
  obtain ⟨ad0, cap0, rfl, _, hb⟩ := hb
  obtain ⟨bf, o, l, l1, rfl, hrd, hdr, htk⟩ := ListR.at (f := boxV) (sz := 9) boxV_len hb i hi
  rw [hbi] at htk
  unfold boxV at htk
  dsimp only at htk
  obtain ⟨l2, hdr8, htk8⟩ := box_words hdr htk
  unfold withQ at hwith
  unfold rxV at hreg hreg2
  unfold touchQ rxV
  refine Tri.of_body (vs := [_, _, _]) Tryz.func117 rfl rfl fun w0 F => ?_
  repeat' (first | refine Ga ?_ | (refine Gb ?_; intro b) | (refine Gd ?_; intro g cap rest hcap) | (refine Gc ?_; intro ad cap) | (refine St.draw (id := 15) [(0, 0), (1, 1), (2, 0), (3, 0), (4, 0), (5, 0), (6, 1), (7, 0), (8, 0), (9, 3)] [9] mixed (by kernel_rfl) ?_) | (refine St.draw (id := 19) [(0, 0), (1, 1), (2, 0), (3, 0), (4, 1), (5, 0), (6, 0), (7, 0), (8, 0), (9, 0), (10, 1), (11, 0), (12, 0), (13, 3)] [13] mixed (by kernel_rfl) ?_)| refine Gl hf ?_ | refine Gl hwd ?_ | refine Gl hwr ?_ | (refine Gt hwith ?_; rintro _ _ ⟨ad, cap, rfl, rfl⟩) | (refine Ge ?_ ?_ <;> (intro h; try (exfalso; omega))) | fail)
  all_goals first | (exfalso; omega) | exact St.d1 Tryz.func117 ⟨_, ⟨ad, cap, _, _, _, _, _, _, rfl, rfl⟩, Ent.go⟩ | skip
/-- a block is taken -/
theorem xfresh15 (q : HProp) (bx : Value) (bs : List (Nat × List Nat)) (hb : ListR boxV q bx bs) (hbl : bs.length ≤ 999) (rs : List Nat) (p : Int) (h : Nat) (pk : Value) (hpk : ListR u64V q pk [h]) (h0 : h ≠ 0) (h1 : h ≤ 64) (hg : lkB bs h = none) :
    Tri Tryz.prog 153 #[.agg ⟨rxV bx (.slice none 0 0) pk rs (rgx 0 0 0) p p 9 false 0 0⟩, .agg ⟨[.int .i64 15, .int .i64 1, .int .i64 0, .int .i64 0, .int .u64 0]⟩] [q] (touchQ q (withB bs h zero8 false) rs (rgx h 0 0) p 9) := by
  have hf := xfind_r q rs bx bs hb (by omega) h
  rw [find_none 0 hg] at hf
  have hwith := xwith_t q rs bx bs hb (by omega) h zero8
  have hnl : (withB bs h zero8 false).length ≤ 1000 := by have := with_len bs h zero8 false; simp at this; omega
  generalize withB bs h zero8 false = bs' at hwith hnl ⊢
  obtain ⟨pad, pcap, hpe, _, hpk⟩ := hpk
  replace hpe : pk = .slice pad 1 pcap := hpe
  subst hpe
  obtain ⟨ad0, cap0, rfl, _, hb⟩ := hb
  obtain ⟨pf, po, pl, pl1, rfl, hprd, hpdr, hptk⟩ := ListR.at (f := u64V) (sz := 1) (fun _ => rfl) hpk 0 (show 0 < 1 by decide)
  have hpn : NthN (po + (0 : Int).toNat * 1) pl (.int .u64 (h : Int)) := NthN.part (j := 0) hpdr hptk (NthN.of rfl)
  have hpn' : NthN (po + 0 * 1) pl (.int .u64 (h : Int)) := hpn
  have hpn2 : NthN po pl (.int .u64 (h : Int)) := hpn
  unfold withQ at hwith
  unfold touchQ
  refine Tri.of_body (vs := [_, _]) Tryz.func153 rfl rfl fun w0 F => ?_
  unfold rxV
  repeat' (first | refine Ga ?_ | (refine Gb ?_; intro b) | (refine Gd ?_; intro g cap rest hcap) | (refine Gc ?_; intro ad cap) | (refine St.draw (id := 1) [(0, 0), (1, 1), (2, 0), (3, 0), (4, 0), (5, 0), (6, 1), (7, 0), (8, 1), (9, 0), (10, 0), (11, 0), (12, 0), (13, 1), (14, 0), (15, 1), (16, 0), (17, 0), (18, 0), (19, 0), (20, 1), (21, 0), (22, 1), (23, 0), (24, 1), (25, 1), (26, 0), (27, 0)] [] mixed (by kernel_rfl) ?_)| refine Gl hf ?_ | (refine Gt hwith ?_; rintro _ _ ⟨had, hcap, rfl, rfl⟩) | (refine Ge ?_ ?_ <;> (intro h; try (exfalso; omega))) | fail)
  all_goals first | (exfalso; omega) | skip
  (apply StL.v; (apply OpV.pappendZ1; rfl; rfl); rfl)
  repeat' (first | refine Ga ?_ | (refine Gb ?_; intro b) | (refine Gd ?_; intro g cap rest hcap) | (refine Gc ?_; intro ad cap) | (refine St.draw (id := 1) [(0, 0), (1, 1), (2, 0), (3, 0), (4, 0), (5, 0), (6, 1), (7, 0), (8, 1), (9, 0), (10, 0), (11, 0), (12, 0), (13, 1), (14, 0), (15, 1), (16, 0), (17, 0), (18, 0), (19, 0), (20, 1), (21, 0), (22, 1), (23, 0), (24, 1), (25, 1), (26, 0), (27, 0)] [] mixed (by kernel_rfl) ?_) | (refine Ge ?_ ?_ <;> (intro h; try (exfalso; omega))) | fail)
  all_goals first | (exfalso; omega) | exact St.d1 Tryz.func153 ⟨_, ⟨_, _, _, _, _, _, _, _, rfl, rfl⟩, Ent.go⟩ | skip
end Go.Proofs.YtphheopbngdhhaaGreatDoor
