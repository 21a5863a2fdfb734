/-
  Package tumblerref06: Play of the three programs of tumblerlaw20.Made.
-/
import Derived.Test.YtphheopbngdhhaaGreatDoorPd
namespace Go.Proofs.YtphheopbngdhhaaGreatDoor
set_option maxRecDepth 100000
abbrev rgz : List Nat := rg3 0 0 0
theorem right_R (q : HProp) (cv : Value) (hc : ListR Ins.v q cv cdR) : RTri Tryz.prog 79 #[cv] [q] (.bool true) := by
  refine right5_r q cv (fault5_r q cv cdR hc (by decide) (by decide) (fun k hk => ?_) ⟨20, 1, 0, 0, 0⟩ rfl rfl)
  have : k = 0 ∨ k = 1 ∨ k = 2 ∨ k = 3 ∨ k = 4 := by have : k < 5 := hk; omega
  rcases this with rfl | rfl | rfl | rfl | rfl
  · exact one_a q cv cdR hc 0 hk rfl
  · exact one_b q cv cdR hc 1 hk rfl
  · exact one_c q cv cdR hc 2 hk rfl
  · exact one_d q cv cdR hc 3 hk rfl
  · exact one_f q cv cdR hc 4 hk rfl
theorem right_W (q : HProp) (cv : Value) (hc : ListR Ins.v q cv cdW) : RTri Tryz.prog 79 #[cv] [q] (.bool true) := by
  refine right5_r q cv (fault5_r q cv cdW hc (by decide) (by decide) (fun k hk => ?_) ⟨20, 1, 0, 0, 0⟩ rfl rfl)
  have : k = 0 ∨ k = 1 ∨ k = 2 ∨ k = 3 ∨ k = 4 := by have : k < 5 := hk; omega
  rcases this with rfl | rfl | rfl | rfl | rfl
  · exact one_a q cv cdW hc 0 hk rfl
  · exact one_b q cv cdW hc 1 hk rfl
  · exact one_c q cv cdW hc 2 hk rfl
  · exact one_e q cv cdW hc 3 hk rfl
  · exact one_f q cv cdW hc 4 hk rfl
theorem right_F (q : HProp) (cv : Value) (hc : ListR Ins.v q cv cdF) : RTri Tryz.prog 79 #[cv] [q] (.bool true) := by
  refine right5_r q cv (fault5_r q cv cdF hc (by decide) (by decide) (fun k hk => ?_) ⟨20, 1, 0, 0, 0⟩ rfl rfl)
  have : k = 0 ∨ k = 1 := by have : k < 2 := hk; omega
  rcases this with rfl | rfl
  · exact one_g q cv cdF hc 0 hk rfl
  · exact one_f q cv cdF hc 1 hk rfl
set_option maxHeartbeats 2000000 in
theorem xplayR (q : HProp) (cv : Value) (hc : ListR Ins.v q cv cdR) (b1 : Option Addr) (b2 b3 : Nat) (bs : List (Nat × List Nat)) (hb : ListR boxV q (.slice b1 b2 b3) bs) (hbl : bs.length ≤ 999) (rs : List Nat) (hrs : rs.length = 16) (h w v : Nat) (hw : w < 16) :
    RTri Tryz.prog 52 #[.agg ⟨g16t rs [.slice b1 b2 b3]⟩, cv, .agg ⟨g4 [h, w, v, 0]⟩, .int .i64 9, .int .i64 9, nilV] [q] (.tuple ⟨[.agg ⟨g16t (rs.set w v) [.slice b1 b2 b3]⟩, .agg ⟨rxV (.slice b1 b2 b3) nilV nilV (rs.set w v) (rg3 h w v) 5 5 1 true h 0⟩]⟩) := by
  refine RTri.of_reads fun p1 hp => ?_
  have hr := (right_R q cv hc).of_read hp
  have s0 := (xstep8 q cv cdR hc 0 1 (by decide) (by decide) rfl (by decide) 1 0 rfl (by decide) (by decide) b1 b2 b3 rs rgz [h, w, v, 0] rfl rfl).of_read hp
  have s1 := (xstep8 q cv cdR hc 1 2 (by decide) (by decide) rfl (by decide) 2 1 rfl (by decide) (by decide) b1 b2 b3 rs (rg3 h 0 0) [h, w, v, 0] rfl rfl).of_read hp
  have s2 := (xstep8 q cv cdR hc 2 3 (by decide) (by decide) rfl (by decide) 3 2 rfl (by decide) (by decide) b1 b2 b3 rs (rg3 h w 0) [h, w, v, 0] rfl rfl).of_read hp
  have s3 := (xstep10 q cv cdR hc 3 4 (by decide) (by decide) rfl (by decide) 3 2 rfl [h, w, v, 0] b1 b2 b3 rs (rg3 h w v) (rs.set w v) (xtouch10 q (.slice b1 b2 b3) bs hb (by omega) rs (rg3 h w v) hrs rfl 4 3 2 w v (by decide) (by decide) rfl rfl hw)).of_read hp
  have s4 := (xstep20 q cv cdR hc 4 5 (by decide) (by decide) rfl (by decide) 1 rfl (by decide) b1 b2 b3 none 0 0 none 0 0 (rs.set w v) (rg3 h w v) [h, w, v, 0] 1 h rfl).of_read hp
  generalize rs.set w v = rs' at s3 s4 ⊢
  unfold rxV at s0 s1 s2 s3 s4 ⊢
  refine Tri.of_body (vs := [_, _, _, _, _, _]) Tryz.func52 rfl rfl fun w0 F => ?_
  repeat' (first | (apply St.loop1) | (apply St.inLoop1) | refine Ga ?_ | (refine Gb ?_; intro b) | (refine Gd ?_; intro g cap rest hcap) | (refine Gc ?_; intro ad cap) | (refine St.draw (id := 4) [(0, 1), (1, 1), (2, 3), (3, 3)] [2, 3] mixed (by kernel_rfl) ?_) | (refine St.draw (id := 8) [(0, 1), (1, 1), (2, 3), (3, 3)] [2, 3] mixed (by kernel_rfl) ?_) | (refine St.drawT (id := 9) [(0, 0)] (.pick [(1, 3)] (.pick [(2, 3), (3, 3), (4, 3)] .done (.pick [(3, 3), (2, 3), (4, 3)] .done .nope)) (.pick [(2, 3), (1, 3), (3, 3), (4, 3)] .done .nope)) [1, 2, 3, 4] mixed (by kernel_rfl) ?_) | apply StD.pick | exact StD.nope | refine Gl hr ?_ | refine Gl s0 ?_ | refine Gl s1 ?_ | refine Gl s2 ?_ | refine Gl s3 ?_ | refine Gl s4 ?_ | (refine Ge ?_ ?_ <;> (intro h; try (exfalso; omega))) | fail)

  iterate 5
    all_goals try (refine StD.ok3 rfl (OpOk.pofV OpV.go) rfl ?_; rintro _ _ ⟨rfl, rfl⟩)
    all_goals repeat' (first | refine Ga ?_ | (refine Gb ?_; intro b) | (refine Gd ?_; intro g cap rest hcap) | (refine Gc ?_; intro ad cap) | (refine St.draw (id := 4) [(0, 1), (1, 1), (2, 3), (3, 3)] [2, 3] mixed (by kernel_rfl) ?_) | (refine St.draw (id := 8) [(0, 1), (1, 1), (2, 3), (3, 3)] [2, 3] mixed (by kernel_rfl) ?_) | (refine St.drawT (id := 9) [(0, 0)] (.pick [(1, 3)] (.pick [(2, 3), (3, 3), (4, 3)] .done (.pick [(3, 3), (2, 3), (4, 3)] .done .nope)) (.pick [(2, 3), (1, 3), (3, 3), (4, 3)] .done .nope)) [1, 2, 3, 4] mixed (by kernel_rfl) ?_) | apply StD.pick | exact StD.nope  | (refine Ge ?_ ?_ <;> (intro h; try (exfalso; omega))) | fail)
  all_goals refine St.d1 Tryz.func52 ⟨_, ⟨rfl, rfl⟩, Ent.go⟩
def playQ (q : HProp) (rs : List Nat) (bs : List (Nat × List Nat)) (v : Value) (L : List HProp) : Prop := ∃ ad cap rv, v = .tuple ⟨[.agg ⟨g16t rs [.slice ad bs.length cap]⟩, rv]⟩ ∧ L = [Row (.slice ad bs.length cap) 161 9 bs.length (bs.flatMap boxV), q]
set_option maxHeartbeats 2000000 in
theorem xplayW (q : HProp) (cv : Value) (hc : ListR Ins.v q cv cdW) (b1 : Option Addr) (b2 b3 : Nat) (bs : List (Nat × List Nat)) (hb : ListR boxV q (.slice b1 b2 b3) bs) (hbl : bs.length ≤ 998) (rs : List Nat) (h w v : Nat) (bk : List Nat) (hw : w < 8) (hg : lkB bs h = some bk) (hk : bk.length = 8) :
    Tri Tryz.prog 52 #[.agg ⟨g16t rs [.slice b1 b2 b3]⟩, cv, .agg ⟨g4 [h, w, v, 0]⟩, .int .i64 9, .int .i64 9, nilV] [q] (playQ q rs (withB bs h (bk.set w v) false)) := by
  have hr := right_W q cv hc
  have s0 := xstep8 q cv cdW hc 0 1 (by decide) (by decide) rfl (by decide) 1 0 rfl (by decide) (by decide) b1 b2 b3 rs rgz [h, w, v, 0] rfl rfl
  have s1 := xstep8 q cv cdW hc 1 2 (by decide) (by decide) rfl (by decide) 2 1 rfl (by decide) (by decide) b1 b2 b3 rs (rg3 h 0 0) [h, w, v, 0] rfl rfl
  have s2 := xstep8 q cv cdW hc 2 3 (by decide) (by decide) rfl (by decide) 3 2 rfl (by decide) (by decide) b1 b2 b3 rs (rg3 h w 0) [h, w, v, 0] rfl rfl
  have s3 := xstepT q cv cdW hc 3 4 (by decide) (by decide) rfl (by decide) ⟨14, 3, 1, 2, 0⟩ rfl (.inl rfl) [h, w, v, 0] b1 b2 b3 none 0 0 rs (rg3 h w v) rs (rg3 h w v) 1 _ (xtouch14 q (.slice b1 b2 b3) bs hb (by omega) rs (rg3 h w v) rfl 4 3 1 2 h v w bk (by decide) (by decide) (by decide) rfl rfl rfl hw hg hk)
  generalize withB bs h (bk.set w v) false = bs' at s3 ⊢
  have s4 := fun d1 d2 d3 a1 n1 c1 a2 n2 c2 => xstep20 q cv cdW hc 4 5 (by decide) (by decide) rfl (by decide) 1 rfl (by decide) d1 d2 d3 a1 n1 c1 a2 n2 c2 rs (rg3 h w v) [h, w, v, 0] 1 h rfl
  unfold touchQ at s3
  unfold playQ
  unfold rxV at s0 s1 s2 s3 s4
  refine Tri.of_body (vs := [_, _, _, _, _, _]) Tryz.func52 rfl rfl fun w0 F => ?_
  repeat' (first | (apply St.loop1) | (apply St.inLoop1) | refine Ga ?_ | (refine Gb ?_; intro b) | (refine Gd ?_; intro g cap rest hcap) | (refine Gc ?_; intro ad cap) | (refine St.draw (id := 4) [(0, 1), (1, 1), (2, 3), (3, 3)] [2, 3] mixed (by kernel_rfl) ?_) | (refine St.draw (id := 8) [(0, 1), (1, 1), (2, 3), (3, 3)] [2, 3] mixed (by kernel_rfl) ?_) | (refine St.drawT (id := 9) [(0, 0)] (.pick [(1, 3)] (.pick [(2, 3), (3, 3), (4, 3)] .done (.pick [(3, 3), (2, 3), (4, 3)] .done .nope)) (.pick [(2, 3), (1, 3), (3, 3), (4, 3)] .done .nope)) [1, 2, 3, 4] mixed (by kernel_rfl) ?_) | apply StD.pick | exact StD.nope | refine Gl hr ?_ | refine Gl s0 ?_ | refine Gl s1 ?_ | refine Gl s2 ?_ | refine Gl (s4 _ _ _ _ _ _ _ _ _) ?_ | (refine Gt s3 ?_; rintro _ _ ⟨ad, cap, a1, n1, c1, a2, n2, c2, rfl, rfl⟩) | (refine Ge ?_ ?_ <;> (intro h; try (exfalso; omega))) | fail)

  iterate 5
    all_goals try (refine StD.ok3 rfl (OpOk.pofV OpV.go) rfl ?_; rintro _ _ ⟨rfl, rfl⟩)
    all_goals repeat' (first | refine Ga ?_ | (refine Gb ?_; intro b) | (refine Gd ?_; intro g cap rest hcap) | (refine Gc ?_; intro ad cap) | (refine St.draw (id := 4) [(0, 1), (1, 1), (2, 3), (3, 3)] [2, 3] mixed (by kernel_rfl) ?_) | (refine St.draw (id := 8) [(0, 1), (1, 1), (2, 3), (3, 3)] [2, 3] mixed (by kernel_rfl) ?_) | (refine St.drawT (id := 9) [(0, 0)] (.pick [(1, 3)] (.pick [(2, 3), (3, 3), (4, 3)] .done (.pick [(3, 3), (2, 3), (4, 3)] .done .nope)) (.pick [(2, 3), (1, 3), (3, 3), (4, 3)] .done .nope)) [1, 2, 3, 4] mixed (by kernel_rfl) ?_) | apply StD.pick | exact StD.nope  | (refine Ge ?_ ?_ <;> (intro h; try (exfalso; omega))) | fail)
  all_goals refine St.d1 Tryz.func52 ⟨_, ⟨ad, cap, _, rfl, rfl⟩, Ent.go⟩
set_option maxHeartbeats 2000000 in
theorem xplayF (q : HProp) (cv : Value) (hc : ListR Ins.v q cv cdF) (b1 : Option Addr) (b2 b3 : Nat) (bs : List (Nat × List Nat)) (hb : ListR boxV q (.slice b1 b2 b3) bs) (hbl : bs.length ≤ 998) (rs : List Nat) (h w v : Nat) (p1 : Option Addr) (p3 : Nat) (hpk : ListR u64V q (.slice p1 1 p3) [h]) (h0 : h ≠ 0) (h1 : h ≤ 64) (hg : lkB bs h = none) :
    Tri Tryz.prog 52 #[.agg ⟨g16t rs [.slice b1 b2 b3]⟩, cv, .agg ⟨g4 [h, w, v, 0]⟩, .int .i64 9, .int .i64 9, .slice p1 1 p3] [q] (playQ q rs (withB bs h zero8 false)) := by
  have hr := right_F q cv hc
  have s3 := xstepT q cv cdF hc 0 1 (by decide) (by decide) rfl (by decide) ⟨15, 1, 0, 0, 0⟩ rfl (.inr rfl) [h, w, v, 0] b1 b2 b3 p1 1 p3 rs rgz rs (rg3 h 0 0) 9 _ (xtouch15 q (.slice b1 b2 b3) bs hb (by omega) rs 1 h (.slice p1 1 p3) hpk h0 h1 hg)
  generalize withB bs h zero8 false = bs' at s3 ⊢
  have s4 := fun d1 d2 d3 a1 n1 c1 a2 n2 c2 => xstep20 q cv cdF hc 1 2 (by decide) (by decide) rfl (by decide) 1 rfl (by decide) d1 d2 d3 a1 n1 c1 a2 n2 c2 rs (rg3 h 0 0) [h, w, v, 0] 9 h rfl
  unfold touchQ at s3
  unfold playQ
  unfold rxV at s3 s4
  refine Tri.of_body (vs := [_, _, _, _, _, _]) Tryz.func52 rfl rfl fun w0 F => ?_
  repeat' (first | (apply St.loop1) | (apply St.inLoop1) | refine Ga ?_ | (refine Gb ?_; intro b) | (refine Gd ?_; intro g cap rest hcap) | (refine Gc ?_; intro ad cap) | (refine St.draw (id := 4) [(0, 1), (1, 1), (2, 3), (3, 3)] [2, 3] mixed (by kernel_rfl) ?_) | (refine St.draw (id := 8) [(0, 1), (1, 1), (2, 3), (3, 3)] [2, 3] mixed (by kernel_rfl) ?_) | (refine St.drawT (id := 9) [(0, 0)] (.pick [(1, 3)] (.pick [(2, 3), (3, 3), (4, 3)] .done (.pick [(3, 3), (2, 3), (4, 3)] .done .nope)) (.pick [(2, 3), (1, 3), (3, 3), (4, 3)] .done .nope)) [1, 2, 3, 4] mixed (by kernel_rfl) ?_) | apply StD.pick | exact StD.nope | refine Gl hr ?_ | refine Gl (s4 _ _ _ _ _ _ _ _ _) ?_ | (refine Gt s3 ?_; rintro _ _ ⟨ad, cap, a1, n1, c1, a2, n2, c2, rfl, rfl⟩) | (refine Ge ?_ ?_ <;> (intro h; try (exfalso; omega))) | fail)

  iterate 5
    all_goals try (refine StD.ok3 rfl (OpOk.pofV OpV.go) rfl ?_; rintro _ _ ⟨rfl, rfl⟩)
    all_goals repeat' (first | refine Ga ?_ | (refine Gb ?_; intro b) | (refine Gd ?_; intro g cap rest hcap) | (refine Gc ?_; intro ad cap) | (refine St.draw (id := 4) [(0, 1), (1, 1), (2, 3), (3, 3)] [2, 3] mixed (by kernel_rfl) ?_) | (refine St.draw (id := 8) [(0, 1), (1, 1), (2, 3), (3, 3)] [2, 3] mixed (by kernel_rfl) ?_) | (refine St.drawT (id := 9) [(0, 0)] (.pick [(1, 3)] (.pick [(2, 3), (3, 3), (4, 3)] .done (.pick [(3, 3), (2, 3), (4, 3)] .done .nope)) (.pick [(2, 3), (1, 3), (3, 3), (4, 3)] .done .nope)) [1, 2, 3, 4] mixed (by kernel_rfl) ?_) | apply StD.pick | exact StD.nope  | (refine Ge ?_ ?_ <;> (intro h; try (exfalso; omega))) | fail)
  all_goals refine St.d1 Tryz.func52 ⟨_, ⟨ad, cap, _, rfl, rfl⟩, Ent.go⟩
end Go.Proofs.YtphheopbngdhhaaGreatDoor
