/-
  Package tumblerlaw11: settled, over the example's memory.
-/
import Derived.Test.YtipnljhelbjmaaaLxa
namespace Go.Proofs.Ytipnljhelbjmaaa
theorem small0 : Small cfg0 := Cfg.small (by decide +kernel)
def cs0 : List Cell := cfg0.boot
def po0 : Po := Po.new 0
def po1 : Po := ⟨0, 1, [0], 0, 0, 0, 0, [], 0⟩
def po2 : Po := ⟨0, 2, [0, 0], 0, 0, 0, 0, [], 0⟩
def po3 : Po := ⟨0, 3, [0, 0], 3, 0, 0, 0, [], 0⟩
def po4 : Po := ⟨0, 4, [0, 0], 3, 0, 3, 0, [], 1⟩
def oA : Out := ⟨⟨0, 0⟩, true⟩
def oB : Out := ⟨⟨3, 0⟩, true⟩
set_option maxRecDepth 100000
theorem ask0 : po0.ask cfg0 = (mop 0 6 0, true) := by kernel_rfl
theorem out0 : doOut cs0 1 (mop 0 6 0) = oA := by kernel_rfl
theorem mem0 : doMem cs0 1 (mop 0 6 0) = cs0 := by kernel_rfl
theorem tell0 : po0.tell cfg0 oA = po1 := by kernel_rfl
theorem ask1 : po1.ask cfg0 = (mop 0 188 0, true) := by kernel_rfl
theorem out1 : doOut cs0 1 (mop 0 188 0) = oA := by kernel_rfl
theorem mem1 : doMem cs0 1 (mop 0 188 0) = cs0 := by kernel_rfl
theorem tell1 : po1.tell cfg0 oA = po2 := by kernel_rfl
theorem ask2 : po2.ask cfg0 = (mop 0 390 0, true) := by kernel_rfl
theorem out2 : doOut cs0 1 (mop 0 390 0) = oB := by kernel_rfl
theorem mem2 : doMem cs0 1 (mop 0 390 0) = cs0 := by kernel_rfl
theorem tell2 : po2.tell cfg0 oB = po3 := by kernel_rfl
theorem ask3 : po3.ask cfg0 = (mop 0 394 0, true) := by kernel_rfl
theorem out3 : doOut cs0 1 (mop 0 394 0) = oA := by kernel_rfl
theorem mem3 : doMem cs0 1 (mop 0 394 0) = cs0 := by kernel_rfl
theorem tell3 : po3.tell cfg0 oA = po4 := by kernel_rfl
theorem ask4 : po4.ask cfg0 = (mop 0 0 0, false) := by kernel_rfl
theorem settled4 : po4.settled cfg0 100 [] = po4 := by kernel_rfl
theorem settled4w : (setGo cfg0 100 po4.names 0 po4.limbo ⟨0, po4.nt, []⟩).puts = [] := by kernel_rfl
set_option maxHeartbeats 1000000 in
theorem settled_t (M W : Nat) : Tri Try.prog 24 #[.agg ⟨cfg0.m⟩, .pointer (some ⟨M, 0, none⟩), .int .i64 1, .int .u64 0, .pointer (some ⟨W, 0, none⟩)] [Mm M cs0 0, Ws W 100 []]
    fun r L => ∃ Pb, r = .pointer (some ⟨Pb, 0, none⟩) ∧ L = [Pl Pb cfg0 po4, Mm M cs0 4, Ws W 100 []] := by
  have hn : Tri _ _ _ _ (fun r L => ∃ Pb, r = .pointer (some ⟨Pb, 0, none⟩) ∧ L = [Pl Pb cfg0 po0]) := pnew_t cfg0 0
  have ha0 := fun Pb => pask_r Pb cfg0 small0 po0 (by decide)
  rw [ask0] at ha0
  have hd0 := does_t M cs0 0 (by decide) 1 (mop 0 6 0)
  rw [out0, mem0] at hd0
  have ht0 := fun Pb => ptell_t Pb cfg0 small0 po0 oA (by decide) (by decide) (by decide)
  rw [tell0] at ht0
  have ha1 := fun Pb => pask_r Pb cfg0 small0 po1 (by decide)
  rw [ask1] at ha1
  have hd1 := does_t M cs0 1 (by decide) 1 (mop 0 188 0)
  rw [out1, mem1] at hd1
  have ht1 := fun Pb => ptell_t Pb cfg0 small0 po1 oA (by decide) (by decide) (by decide)
  rw [tell1] at ht1
  have ha2 := fun Pb => pask_r Pb cfg0 small0 po2 (by decide)
  rw [ask2] at ha2
  have hd2 := does_t M cs0 2 (by decide) 1 (mop 0 390 0)
  rw [out2, mem2] at hd2
  have ht2 := fun Pb => ptell_t Pb cfg0 small0 po2 oB (by decide) (by decide) (by decide)
  rw [tell2] at ht2
  have ha3 := fun Pb => pask_r Pb cfg0 small0 po3 (by decide)
  rw [ask3] at ha3
  have hd3 := does_t M cs0 3 (by decide) 1 (mop 0 394 0)
  rw [out3, mem3] at hd3
  have ht3 := fun Pb => ptell_t Pb cfg0 small0 po3 oA (by decide) (by decide) (by decide)
  rw [tell3] at ht3
  have ha4 := fun Pb => pask_r Pb cfg0 small0 po4 (by decide)
  rw [ask4] at ha4
  have hs := fun Pb => psettle_t Pb W 100 cfg0 small0 po4 [] (by decide) (by decide) (by decide)
  rw [settled4, settled4w] at hs
  refine Tri.of_body (vs := [_, _, _, _, _]) Try.func24 rfl rfl fun w0 F => ?_
  repeat' (first | (apply St.loop1) | (apply St.inLoop1) |  (first | (apply StL.v; exact OpV.go; rfl) | (apply StL.ok; exact OpOk.gt; rfl; rintro _ _ ⟨rfl, rfl⟩) | (apply StL.ok; exact OpOk.gf; rfl; rintro _ _ ⟨b, rfl, rfl⟩) | (apply StL.ok; exact OpOk.gn; rfl; rintro _ _ ⟨g, cap, rest, rfl, hcap, rfl⟩) | (apply StL.ok; exact OpOk.ga; rfl; rintro _ _ ⟨ad, cap, rfl, rfl⟩) | (apply StL.g_yes; rfl; rfl) | (apply StL.g_no; rfl; rfl; rfl; rfl) | (apply StL.g_undef; rfl; rfl; rfl) | (apply StL.gsplit; rfl; rfl; all_goals (intro h; (first | replace h := of_decide_eq_true h | replace h := of_decide_eq_false h | replace h := beq_iff_eq.1 h | replace h := beq_eq_false_iff_ne.1 h | replace h := bne_iff_ne.1 h | replace h := bne_eq_false_iff_eq.1 h | skip); (try (exfalso; omega)))) | apply StL.nil | apply St.region | apply St.seq | apply St.block | apply St.inBlock | apply St.skip | (apply St.exit; rfl) | (apply St.cond_t; rfl) | (apply St.cond_f; rfl) | (apply St.cond; rfl; all_goals (intro h; (first | replace h := of_decide_eq_true h | replace h := of_decide_eq_false h | replace h := beq_iff_eq.1 h | replace h := beq_eq_false_iff_ne.1 h | replace h := bne_iff_ne.1 h | replace h := bne_eq_false_iff_eq.1 h | skip); (try (exfalso; omega))))) | (first | (apply StD.v0; rfl; exact OpV.go; rfl) | (apply StD.v1; rfl; exact OpV.go; exact Ent.go; rfl) | (apply StD.ok3; rfl; exact OpOk.gt; rfl; rintro _ _ ⟨rfl, rfl⟩) | (apply StD.ok2; rfl; exact OpOk.gf; rfl; rintro _ _ ⟨b, rfl, rfl⟩; refine ⟨Ent.go, ?_⟩) | (apply StD.ok3; rfl; exact OpOk.gf; rfl; rintro _ _ ⟨b, rfl, rfl⟩) | (apply StD.ok3; rfl; exact OpOk.gn; rfl; rintro _ _ ⟨g, cap, rest, rfl, hcap, rfl⟩) | (apply StD.ok3; rfl; exact OpOk.ga; rfl; rintro _ _ ⟨ad, cap, rfl, rfl⟩) | apply StD.nil | exact StD.nope | apply StD.pick | (apply StD.claim; rfl; intro b) | (apply StD.g0; rfl; rfl; rfl; exact OpV.go; rfl) | (apply StD.g1; rfl; rfl; rfl; exact OpV.go; exact Ent.go; rfl) | (apply StD.skip0; rfl; rfl; rfl; rfl; rfl) | (apply StD.skip1; rfl; rfl; rfl; rfl; exact Ent.go; rfl) | (apply StD.skipu; rfl; rfl; rfl; rfl) | (apply StD.skipu1; rfl; rfl; rfl; exact Ent.go; rfl))  | (apply StL.callr; (apply OpC.func; exact Evs.go); exact ha0 _; exact Ent.go; rfl) | (apply StD.callr; rfl; (apply OpC.func; exact Evs.go); exact ha0 _; exact Ent.go; exact Ent.go; rfl) | (apply StD.gcallr; rfl; rfl; rfl; (apply OpC.func; exact Evs.go); exact ha0 _; exact Ent.go; exact Ent.go; rfl) | (apply StL.callr; (apply OpC.func; exact Evs.go); exact ha1 _; exact Ent.go; rfl) | (apply StD.callr; rfl; (apply OpC.func; exact Evs.go); exact ha1 _; exact Ent.go; exact Ent.go; rfl) | (apply StD.gcallr; rfl; rfl; rfl; (apply OpC.func; exact Evs.go); exact ha1 _; exact Ent.go; exact Ent.go; rfl) | (apply StL.callr; (apply OpC.func; exact Evs.go); exact ha2 _; exact Ent.go; rfl) | (apply StD.callr; rfl; (apply OpC.func; exact Evs.go); exact ha2 _; exact Ent.go; exact Ent.go; rfl) | (apply StD.gcallr; rfl; rfl; rfl; (apply OpC.func; exact Evs.go); exact ha2 _; exact Ent.go; exact Ent.go; rfl) | (apply StL.callr; (apply OpC.func; exact Evs.go); exact ha3 _; exact Ent.go; rfl) | (apply StD.callr; rfl; (apply OpC.func; exact Evs.go); exact ha3 _; exact Ent.go; exact Ent.go; rfl) | (apply StD.gcallr; rfl; rfl; rfl; (apply OpC.func; exact Evs.go); exact ha3 _; exact Ent.go; exact Ent.go; rfl) | (apply StL.callr; (apply OpC.func; exact Evs.go); exact ha4 _; exact Ent.go; rfl) | (apply StD.callr; rfl; (apply OpC.func; exact Evs.go); exact ha4 _; exact Ent.go; exact Ent.go; rfl) | (apply StD.gcallr; rfl; rfl; rfl; (apply OpC.func; exact Evs.go); exact ha4 _; exact Ent.go; exact Ent.go; rfl) | (apply StL.callt; (apply OpC.func; exact Evs.go); exact hn; exact Ent.go; rfl; rintro _ _ ⟨Pb, rfl, rfl⟩) | (apply StD.callt; rfl; (apply OpC.func; exact Evs.go); exact hn; exact Ent.go; rfl; rintro _ _ ⟨Pb, rfl, rfl⟩) | (apply StD.callt2; rfl; (apply OpC.func; exact Evs.go); exact hn; exact Ent.go; rfl; rintro _ _ ⟨Pb, rfl, rfl⟩; refine ⟨Ent.go, ?_⟩) | (apply StL.callt; (apply OpC.func; exact Evs.go); exact hd0; exact Ent.go; rfl; rintro _ _ ⟨rfl, rfl⟩) | (apply StD.callt; rfl; (apply OpC.func; exact Evs.go); exact hd0; exact Ent.go; rfl; rintro _ _ ⟨rfl, rfl⟩) | (apply StD.callt2; rfl; (apply OpC.func; exact Evs.go); exact hd0; exact Ent.go; rfl; rintro _ _ ⟨rfl, rfl⟩; refine ⟨Ent.go, ?_⟩) | (apply StL.callt; (apply OpC.func; exact Evs.go); exact hd1; exact Ent.go; rfl; rintro _ _ ⟨rfl, rfl⟩) | (apply StD.callt; rfl; (apply OpC.func; exact Evs.go); exact hd1; exact Ent.go; rfl; rintro _ _ ⟨rfl, rfl⟩) | (apply StD.callt2; rfl; (apply OpC.func; exact Evs.go); exact hd1; exact Ent.go; rfl; rintro _ _ ⟨rfl, rfl⟩; refine ⟨Ent.go, ?_⟩) | (apply StL.callt; (apply OpC.func; exact Evs.go); exact hd2; exact Ent.go; rfl; rintro _ _ ⟨rfl, rfl⟩) | (apply StD.callt; rfl; (apply OpC.func; exact Evs.go); exact hd2; exact Ent.go; rfl; rintro _ _ ⟨rfl, rfl⟩) | (apply StD.callt2; rfl; (apply OpC.func; exact Evs.go); exact hd2; exact Ent.go; rfl; rintro _ _ ⟨rfl, rfl⟩; refine ⟨Ent.go, ?_⟩) | (apply StL.callt; (apply OpC.func; exact Evs.go); exact hd3; exact Ent.go; rfl; rintro _ _ ⟨rfl, rfl⟩) | (apply StD.callt; rfl; (apply OpC.func; exact Evs.go); exact hd3; exact Ent.go; rfl; rintro _ _ ⟨rfl, rfl⟩) | (apply StD.callt2; rfl; (apply OpC.func; exact Evs.go); exact hd3; exact Ent.go; rfl; rintro _ _ ⟨rfl, rfl⟩; refine ⟨Ent.go, ?_⟩) | (apply StL.callt; (apply OpC.func; exact Evs.go); exact ht0 _; exact Ent.go; rfl; rintro _ _ ⟨rfl, rfl⟩) | (apply StD.callt; rfl; (apply OpC.func; exact Evs.go); exact ht0 _; exact Ent.go; rfl; rintro _ _ ⟨rfl, rfl⟩) | (apply StD.callt2; rfl; (apply OpC.func; exact Evs.go); exact ht0 _; exact Ent.go; rfl; rintro _ _ ⟨rfl, rfl⟩; refine ⟨Ent.go, ?_⟩) | (apply StL.callt; (apply OpC.func; exact Evs.go); exact ht1 _; exact Ent.go; rfl; rintro _ _ ⟨rfl, rfl⟩) | (apply StD.callt; rfl; (apply OpC.func; exact Evs.go); exact ht1 _; exact Ent.go; rfl; rintro _ _ ⟨rfl, rfl⟩) | (apply StD.callt2; rfl; (apply OpC.func; exact Evs.go); exact ht1 _; exact Ent.go; rfl; rintro _ _ ⟨rfl, rfl⟩; refine ⟨Ent.go, ?_⟩) | (apply StL.callt; (apply OpC.func; exact Evs.go); exact ht2 _; exact Ent.go; rfl; rintro _ _ ⟨rfl, rfl⟩) | (apply StD.callt; rfl; (apply OpC.func; exact Evs.go); exact ht2 _; exact Ent.go; rfl; rintro _ _ ⟨rfl, rfl⟩) | (apply StD.callt2; rfl; (apply OpC.func; exact Evs.go); exact ht2 _; exact Ent.go; rfl; rintro _ _ ⟨rfl, rfl⟩; refine ⟨Ent.go, ?_⟩) | (apply StL.callt; (apply OpC.func; exact Evs.go); exact ht3 _; exact Ent.go; rfl; rintro _ _ ⟨rfl, rfl⟩) | (apply StD.callt; rfl; (apply OpC.func; exact Evs.go); exact ht3 _; exact Ent.go; rfl; rintro _ _ ⟨rfl, rfl⟩) | (apply StD.callt2; rfl; (apply OpC.func; exact Evs.go); exact ht3 _; exact Ent.go; rfl; rintro _ _ ⟨rfl, rfl⟩; refine ⟨Ent.go, ?_⟩) | (apply StL.callt; (apply OpC.func; exact Evs.go); exact hs _; exact Ent.go; rfl; rintro _ _ ⟨rfl, rfl⟩) | (apply StD.callt; rfl; (apply OpC.func; exact Evs.go); exact hs _; exact Ent.go; rfl; rintro _ _ ⟨rfl, rfl⟩) | (apply StD.callt2; rfl; (apply OpC.func; exact Evs.go); exact hs _; exact Ent.go; rfl; rintro _ _ ⟨rfl, rfl⟩; refine ⟨Ent.go, ?_⟩) | (apply StD.gsplit; rfl; rfl; rfl; all_goals (intro h; (first | replace h := of_decide_eq_true h | replace h := of_decide_eq_false h | replace h := beq_iff_eq.1 h | replace h := beq_eq_false_iff_ne.1 h | replace h := bne_iff_ne.1 h | replace h := bne_eq_false_iff_eq.1 h | skip); (try (exfalso; omega)))))
  refine St.d1 Try.func24 ⟨_, ⟨_, rfl, rfl⟩, ?_⟩
  exact Ent.go
end Go.Proofs.Ytipnljhelbjmaaa
