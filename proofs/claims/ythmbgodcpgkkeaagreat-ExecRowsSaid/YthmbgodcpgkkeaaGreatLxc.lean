/-
  Package tumblerref07: the document's numbers are the program's. Package tumblerref07: where a thing stands is where the program has it. What a thread does, as far as replies go: a tape of replies, and a machine that is fed with them. Package tumblerref09, in plain terms: a view, as far as replies go; it does what the program's does. An assertion taken as it is: what holds of its memory can be read of it. Package tumblerref09: Do, Load, Store, load, Cell, Live, Word. Package tumblerref09: Cell, Live, Word. Package tumblerref09: Live, Word. Package tumblerref08: Get. Package tumblerref08: All. Package tumblerref08: Put. Package tumblerref10: put, Top, End. Package tumblerref10: Give, Take, names. Package tumblerref11, in plain terms: a program that runs, as far as replies go. Package tumblerref11, in plain terms: a program runs as the program's does. Package tumblerref11, in plain terms: a program, from its beginning to its end. A program that runs, as the document has it: within which bounds it stays. Packages tumblerref03, tumblerref04, tumblerref05: what may be of instructions, for all programs. Package tumblerref06: Reckon, for all instructions without roots and blocks. Package tumblerref11: a Run's cells. Package tumblerref11: fails, ends, pay, put, fetch. Package tumblerref11: root, reads. Package tumblerref11: reads, touch. Package tumblerref11: touch. Package tumblerref11: fresh. Package tumblerref11: step. Package tumblerref11: Play. A part of a slice. Package tumblerref08: Same. Package tumblerlaw11: settled, over the example's memory. Package tumblerlaw11: model.New, alive.
-/
import Derived.Test.YthmbgodcpgkkeaaGreatRowg
import Derived.Test.YthmbgodcpgkkeaaGreatVw
import Derived.Test.YthmbgodcpgkkeaaGreatBa
import Derived.Test.YthmbgodcpgkkeaaGreatMo
import Derived.Test.YthmbgodcpgkkeaaGreatVr
import Derived.Test.YthmbgodcpgkkeaaGreatExe
import Derived.Test.YthmbgodcpgkkeaaGreatEp
import Derived.Test.YthmbgodcpgkkeaaGreatExi
section
namespace Go.Proofs.YthmbgodcpgkkeaaGreat
set_option maxRecDepth 100000
end Go.Proofs.YthmbgodcpgkkeaaGreat
end
section
namespace Go.Proofs.YthmbgodcpgkkeaaGreat
set_option maxRecDepth 100000
end Go.Proofs.YthmbgodcpgkkeaaGreat
end
section
namespace Go.Proofs.YthmbgodcpgkkeaaGreat
set_option maxRecDepth 100000
end Go.Proofs.YthmbgodcpgkkeaaGreat
end
section
namespace Go.Proofs.YthmbgodcpgkkeaaGreat
set_option maxRecDepth 100000
/-! a tape that asks for something stays -/
/-! the machine -/
end Go.Proofs.YthmbgodcpgkkeaaGreat
end
section
namespace Go.Proofs.YthmbgodcpgkkeaaGreat
/-! drawn regions with stores -/
end Go.Proofs.YthmbgodcpgkkeaaGreat
end
section
namespace Go.Proofs.YthmbgodcpgkkeaaGreat
set_option maxRecDepth 100000
end Go.Proofs.YthmbgodcpgkkeaaGreat
end
section
namespace Go.Proofs.YthmbgodcpgkkeaaGreat
set_option maxRecDepth 100000
end Go.Proofs.YthmbgodcpgkkeaaGreat
end
section
namespace Go.Proofs.YthmbgodcpgkkeaaGreat
set_option maxRecDepth 100000
end Go.Proofs.YthmbgodcpgkkeaaGreat
end
section
namespace Go.Proofs.YthmbgodcpgkkeaaGreat
set_option maxRecDepth 100000
end Go.Proofs.YthmbgodcpgkkeaaGreat
end
section
namespace Go.Proofs.YthmbgodcpgkkeaaGreat
set_option maxRecDepth 100000
end Go.Proofs.YthmbgodcpgkkeaaGreat
end
section
namespace Go.Proofs.YthmbgodcpgkkeaaGreat
set_option maxRecDepth 100000
end Go.Proofs.YthmbgodcpgkkeaaGreat
end
section
namespace Go.Proofs.YthmbgodcpgkkeaaGreat
set_option maxRecDepth 100000
end Go.Proofs.YthmbgodcpgkkeaaGreat
end
section
namespace Go.Proofs.YthmbgodcpgkkeaaGreat
set_option maxRecDepth 100000
def u1V (x : Nat) : List Value := [.int .u64 (x : Int)]
theorem u1V_len (x : Nat) : (u1V x).length = 1 := rfl
end Go.Proofs.YthmbgodcpgkkeaaGreat
end
section
namespace Go.Proofs.YthmbgodcpgkkeaaGreat
set_option maxRecDepth 100000
/-! a tape that asks for something stays -/
/-! the machine -/

end Go.Proofs.YthmbgodcpgkkeaaGreat
end
section
namespace Go.Proofs.YthmbgodcpgkkeaaGreat
set_option maxRecDepth 100000
end Go.Proofs.YthmbgodcpgkkeaaGreat
end
section
namespace Go.Proofs.YthmbgodcpgkkeaaGreat
set_option maxRecDepth 100000
end Go.Proofs.YthmbgodcpgkkeaaGreat
end
section
namespace Go.Proofs.YthmbgodcpgkkeaaGreat
set_option maxRecDepth 100000
end Go.Proofs.YthmbgodcpgkkeaaGreat
end
section
namespace Go.Proofs.YthmbgodcpgkkeaaGreat
set_option maxRecDepth 100000
end Go.Proofs.YthmbgodcpgkkeaaGreat
end
section
namespace Go.Proofs.YthmbgodcpgkkeaaGreat
set_option maxRecDepth 100000
end Go.Proofs.YthmbgodcpgkkeaaGreat
end
section
namespace Go.Proofs.YthmbgodcpgkkeaaGreat
set_option maxRecDepth 100000
end Go.Proofs.YthmbgodcpgkkeaaGreat
end
section
namespace Go.Proofs.YthmbgodcpgkkeaaGreat
set_option maxRecDepth 100000
end Go.Proofs.YthmbgodcpgkkeaaGreat
end
section
namespace Go.Proofs.YthmbgodcpgkkeaaGreat
set_option maxRecDepth 100000
end Go.Proofs.YthmbgodcpgkkeaaGreat
end
section
namespace Go.Proofs.YthmbgodcpgkkeaaGreat
set_option maxRecDepth 100000
end Go.Proofs.YthmbgodcpgkkeaaGreat
end
section
namespace Go.Proofs.YthmbgodcpgkkeaaGreat
set_option maxRecDepth 100000
end Go.Proofs.YthmbgodcpgkkeaaGreat
end
section
namespace Go.Proofs.YthmbgodcpgkkeaaGreat
set_option maxRecDepth 100000
end Go.Proofs.YthmbgodcpgkkeaaGreat
end
section
namespace Go.Proofs.YthmbgodcpgkkeaaGreat
set_option maxRecDepth 100000
end Go.Proofs.YthmbgodcpgkkeaaGreat
end
section
namespace Go.Proofs.YthmbgodcpgkkeaaGreat
set_option maxRecDepth 100000
end Go.Proofs.YthmbgodcpgkkeaaGreat
end
section
namespace Go.Proofs.YthmbgodcpgkkeaaGreat
set_option maxRecDepth 100000
end Go.Proofs.YthmbgodcpgkkeaaGreat
end
section
namespace Go.Proofs.YthmbgodcpgkkeaaGreat
theorem small0 : Small cfg0 := Cfg.small (by decide +kernel)
def cs0 : List Cell := cfg0.boot
def po0 : Po := Po.new 0
def po1 : Po := ⟨0, 1, [0], 0, 0, 0, 0, [], 0⟩
def po2 : Po := ⟨0, 2, [0, 0], 0, 0, 0, 0, [], 0⟩
def po3 : Po := ⟨0, 3, [0, 0], 3, 0, 0, 0, [], 0⟩
def po4 : Po := ⟨0, 4, [0, 0], 3, 0, 3, 0, [], 1⟩
def oA : Out := ⟨⟨0, 0⟩, true⟩
def oB : Out := ⟨⟨3, 0⟩, true⟩
set_option maxRecDepth 100000
theorem ask0 : po0.ask cfg0 = (mop 0 6 0, true) := by kernel_rfl
theorem wout0 : doOut cs0 1 (mop 0 6 0) = oA := by kernel_rfl
theorem mem0 : doMem cs0 1 (mop 0 6 0) = cs0 := by kernel_rfl
theorem tell0 : po0.tell cfg0 oA = po1 := by kernel_rfl
theorem ask1 : po1.ask cfg0 = (mop 0 188 0, true) := by kernel_rfl
theorem wout1 : doOut cs0 1 (mop 0 188 0) = oA := by kernel_rfl
theorem mem1 : doMem cs0 1 (mop 0 188 0) = cs0 := by kernel_rfl
theorem tell1 : po1.tell cfg0 oA = po2 := by kernel_rfl
theorem ask2 : po2.ask cfg0 = (mop 0 390 0, true) := by kernel_rfl
theorem wout2 : doOut cs0 1 (mop 0 390 0) = oB := by kernel_rfl
theorem mem2 : doMem cs0 1 (mop 0 390 0) = cs0 := by kernel_rfl
theorem tell2 : po2.tell cfg0 oB = po3 := by kernel_rfl
theorem ask3 : po3.ask cfg0 = (mop 0 394 0, true) := by kernel_rfl
theorem wout3 : doOut cs0 1 (mop 0 394 0) = oA := by kernel_rfl
theorem mem3 : doMem cs0 1 (mop 0 394 0) = cs0 := by kernel_rfl
theorem tell3 : po3.tell cfg0 oA = po4 := by kernel_rfl
theorem ask4 : po4.ask cfg0 = (mop 0 0 0, false) := by kernel_rfl
theorem settled4 : po4.settled cfg0 100 [] = po4 := by kernel_rfl
theorem settled4w : (setGo cfg0 100 po4.names 0 po4.limbo ⟨0, po4.nt, []⟩).puts = [] := by kernel_rfl
set_option maxHeartbeats 1000000 in
theorem settled_t (M W : Nat) : Tri Tryz.prog 72 #[.agg ⟨cfg0.m⟩, .pointer (some ⟨M, 0, none⟩), .int .i64 1, .int .u64 0, .pointer (some ⟨W, 0, none⟩)] [Ml M cs0 0, Ws W 100 []]
    fun r L => ∃ Pb, r = .pointer (some ⟨Pb, 0, none⟩) ∧ L = [Pl Pb cfg0 po4, Ml M cs0 4, Ws W 100 []] := by
  have hn : Tri _ _ _ _ (fun r L => ∃ Pb, r = .pointer (some ⟨Pb, 0, none⟩) ∧ L = [Pl Pb cfg0 po0]) := pnew_t cfg0 0
  have ha0 := fun Pb => pask_r Pb cfg0 small0 po0 (by decide)
  rw [ask0] at ha0
  have hd0 := does_t M cs0 0 (by decide) 1 (mop 0 6 0)
  rw [wout0, mem0] at hd0
  have ht0 := fun Pb => ptell_t Pb cfg0 small0 po0 oA (by decide) (by decide) (by decide)
  rw [tell0] at ht0
  have ha1 := fun Pb => pask_r Pb cfg0 small0 po1 (by decide)
  rw [ask1] at ha1
  have hd1 := does_t M cs0 1 (by decide) 1 (mop 0 188 0)
  rw [wout1, mem1] at hd1
  have ht1 := fun Pb => ptell_t Pb cfg0 small0 po1 oA (by decide) (by decide) (by decide)
  rw [tell1] at ht1
  have ha2 := fun Pb => pask_r Pb cfg0 small0 po2 (by decide)
  rw [ask2] at ha2
  have hd2 := does_t M cs0 2 (by decide) 1 (mop 0 390 0)
  rw [wout2, mem2] at hd2
  have ht2 := fun Pb => ptell_t Pb cfg0 small0 po2 oB (by decide) (by decide) (by decide)
  rw [tell2] at ht2
  have ha3 := fun Pb => pask_r Pb cfg0 small0 po3 (by decide)
  rw [ask3] at ha3
  have hd3 := does_t M cs0 3 (by decide) 1 (mop 0 394 0)
  rw [wout3, mem3] at hd3
  have ht3 := fun Pb => ptell_t Pb cfg0 small0 po3 oA (by decide) (by decide) (by decide)
  rw [tell3] at ht3
  have ha4 := fun Pb => pask_r Pb cfg0 small0 po4 (by decide)
  rw [ask4] at ha4
  have hs := fun Pb => psettle_t Pb W 100 cfg0 small0 po4 [] (by decide) (by decide) (by decide)
  rw [settled4, settled4w] at hs
  refine Tri.of_body (vs := [_, _, _, _, _]) Tryz.func72 rfl rfl fun w0 F => ?_
  repeat' (first | (apply St.loop1) | (apply St.inLoop1) | refine Ga ?_ | (refine Gb ?_; intro b) | (refine Gd ?_; intro g cap rest hcap) | (refine Gc ?_; intro ad cap) | refine Gl (ha0 _) ?_ | refine Gl (ha1 _) ?_ | refine Gl (ha2 _) ?_ | refine Gl (ha3 _) ?_ | refine Gl (ha4 _) ?_ | (refine Gt hn ?_; rintro _ _ ⟨Pb, rfl, rfl⟩) | (refine Gt hd0 ?_; rintro _ _ ⟨rfl, rfl⟩) | (refine Gt hd1 ?_; rintro _ _ ⟨rfl, rfl⟩) | (refine Gt hd2 ?_; rintro _ _ ⟨rfl, rfl⟩) | (refine Gt hd3 ?_; rintro _ _ ⟨rfl, rfl⟩) | (refine Gt (ht0 _) ?_; rintro _ _ ⟨rfl, rfl⟩) | (refine Gt (ht1 _) ?_; rintro _ _ ⟨rfl, rfl⟩) | (refine Gt (ht2 _) ?_; rintro _ _ ⟨rfl, rfl⟩) | (refine Gt (ht3 _) ?_; rintro _ _ ⟨rfl, rfl⟩) | (refine Gt (hs _) ?_; rintro _ _ ⟨rfl, rfl⟩) | (refine Ge ?_ ?_ <;> (intro h; try (exfalso; omega))) | fail)
  refine St.d1 Tryz.func72 ⟨_, ⟨_, rfl, rfl⟩, ?_⟩
  exact Ent.go
end Go.Proofs.YthmbgodcpgkkeaaGreat
end
section
namespace Go.Proofs.YthmbgodcpgkkeaaGreat
set_option maxRecDepth 100000
def blkV (l : Value × Unit) : Value := l.1
instance : MapTy Tryz.prog 248 Int (Value × Unit) (Value.int .u64) blkV (.agg #[.int .u64 0, .int .u64 0, .int .u64 0, .int .u64 0, .int .u64 0, .int .u64 0, .int .u64 0, .int .u64 0], ()) :=
  MapTy.int Tryz.underlying248 Tryz.underlying22 (inferInstance : Zer Tryz.prog 257 _).h
theorem mnew0_t : Tri Tryz.prog 55 #[] [] fun r L => (∃ S, r = .pointer (some ⟨S, 0, none⟩)) ∧ L = [] := by
  refine Tri.of_body (vs := []) Tryz.func55 rfl rfl fun w0 F => ?_
  repeat' (first | refine Ga ?_ | (refine Gb ?_; intro b) | (refine Gd ?_; intro g cap rest hcap) | (refine Gc ?_; intro ad cap)  | (refine Ge ?_ ?_ <;> (intro h; try (exfalso; omega))) | fail)
  refine St.d1 Tryz.func55 ⟨_, ⟨⟨_, rfl⟩, rfl⟩, ?_⟩
  exact Ent.go
def code0 : List Ins := [⟨15, 1, 0, 0, 0⟩, ⟨0, 2, 0, 0, 7⟩, ⟨13, 2, 1, 0, 3⟩, ⟨9, 4, 3, 0, 0⟩, ⟨11, 5, 1, 0, 3⟩, ⟨20, 5, 0, 0, 0⟩]
def code1 : List Ins := [⟨21, 0, 0, 0, 5⟩]
def argsz : List Nat := [0, 0, 0, 0]
def xm0 : Xm := ⟨⟨argsz, 0, 3, 0, regs0, 1, 1, 9, true, ⟨15, 1, 0, 0, 0⟩, 0, 0, 0⟩, ⟨1, 0, -1, 3, 0, 393, 0, 0⟩, po4, [], []⟩
def puts1 : List (Int × Nat) := [(387, 1), (437, 0), (438, 0), (439, 0), (440, 0), (441, 0), (442, 0), (443, 0), (444, 0), (440, 7)]
def po5 : Po := ⟨0, 4, [0, 0], 3, 0, 2, 0, [], 1⟩
def xm1 : Xm := ⟨⟨argsz, 0, 3, 0, [0, 1, 7, 0, 0, 0, 0, 0, 0, 0, 0, 0, 0, 0, 0, 0], 4, 4, 10, true, ⟨9, 4, 3, 0, 0⟩, 0, 0, 0⟩, ⟨1, 0, -1, 3, 0, 371, 0, 0⟩, po5, puts1, [1]⟩
def xm2 : Xm := ⟨⟨argsz, 0, 3, 0, [0, 1, 7, 0, 0, 7, 0, 0, 0, 0, 0, 0, 0, 0, 0, 0], 6, 6, 10, false, ⟨20, 5, 0, 0, 0⟩, 1, 0, 7⟩, ⟨1, 0, -1, 0, 0, 371, 0, 1⟩, po5, puts1, [1]⟩
def xm3 : Xm := ⟨⟨argsz, 10, 2, 0, regs0, 1, 1, 0, false, ⟨21, 0, 0, 0, 5⟩, 1, 40, 5⟩, ⟨1, 0, -1, 0, 0, 371, 0, 1⟩, po5, puts1, []⟩
theorem start0 : Xm.start cfg0 100 code0 (Vw.new 1 0) po4 [] argsz = xm0 := by kernel_rfl
theorem xask0 : xm0.ask cfg0 = (mop 0 393 0, true) := by kernel_rfl
theorem xout0 : doOut cs0 1 (mop 0 393 0) = oA := by kernel_rfl
theorem xmem0 : doMem cs0 1 (mop 0 393 0) = cs0 := by kernel_rfl
theorem xtell0 : xm0.tell cfg0 100 code0 oA = xm1 := by kernel_rfl
theorem xask1 : xm1.ask cfg0 = (mop 0 371 0, true) := by kernel_rfl
theorem xout1 : doOut cs0 1 (mop 0 371 0) = oA := by kernel_rfl
theorem xmem1 : doMem cs0 1 (mop 0 371 0) = cs0 := by kernel_rfl
theorem xtell1 : xm1.tell cfg0 100 code0 oA = xm2 := by kernel_rfl
theorem xask2 : xm2.ask cfg0 = (mop 0 0 0, false) := by kernel_rfl
theorem start1 : Xm.start cfg0 100 code1 xm2.v xm2.p xm2.puts argsz = xm3 := by kernel_rfl
theorem got2 : mget (allP xm2.puts) 440 = some 7 := by kernel_rfl
theorem right0 : rightB code0 = true := by kernel_rfl
theorem right1 : rightB code1 = true := by kernel_rfl
theorem InsR.bl (b t cap : Nat) (code : List Ins) : InsR (bl b t (code.flatMap Ins.v)) (.slice (some ⟨b, 0, none⟩) code.length cap) code :=
  ⟨_, _, rfl, .inr ⟨b, 0, _, [], rfl, RdC.bl, by rw [List.append_nil]; exact .zero⟩⟩
theorem begin0 : Start cfg0 [] 3 0 := ⟨small0, by decide, by decide, by decide, by decide⟩
theorem begin1 : Start cfg0 puts1 2 0 := ⟨small0, by decide, by decide, by decide, by decide⟩
theorem inv0 : Xinv cfg0 code0 [] 3 0 0 (Xm.init (Vw.new 1 0) po4 [] argsz) := Xinv.init right0 begin0 (by decide) _ _ rfl rfl _ rfl (by decide)
theorem inv1 : Xinv cfg0 code1 puts1 2 0 0 (Xm.init xm2.v xm2.p xm2.puts argsz) := Xinv.init right1 begin1 (by decide) _ _ rfl rfl _ rfl (by decide)
theorem stop0 : Xinv cfg0 code0 [] 3 0 0 xm0 ∧ xm0.stops := by
  have := run_inv (run_inv' begin0 100 right0 0) _ _ inv0 (Nat.le_refl _)
  have e : (Xm.init (Vw.new 1 0) po4 [] argsz).run cfg0 100 code0 = xm0 := by have := start0; unfold Xm.start at this; rwa [if_pos right0] at this
  rwa [e] at this
theorem inv0t : Xinv cfg0 code0 [] 3 0 1 { xm0 with v := xm0.v.tell oA } := stop0.1.tell stop0.2 rfl (by kernel_rfl) oA
theorem stop1 : Xinv cfg0 code0 [] 3 0 1 xm1 ∧ xm1.stops := by
  have := run_inv (run_inv' begin0 100 right0 1) _ _ inv0t (Nat.le_refl _)
  have e : Xm.run cfg0 100 code0 { xm0 with v := xm0.v.tell oA } = xm1 := by have := xtell0; unfold Xm.tell at this; rwa [if_pos (by rfl)] at this
  rwa [e] at this
theorem inv1t : Xinv cfg0 code0 [] 3 0 2 { xm1 with v := xm1.v.tell oA } := stop1.1.tell stop1.2 rfl (by kernel_rfl) oA
end Go.Proofs.YthmbgodcpgkkeaaGreat
end
