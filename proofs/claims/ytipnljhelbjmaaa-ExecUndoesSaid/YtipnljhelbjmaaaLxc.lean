/-
  Package tumblerlaw11: model.New, alive.
-/
import Derived.Test.YtipnljhelbjmaaaLxb
import Derived.Test.YtipnljhelbjmaaaExl
namespace Go.Proofs.Ytipnljhelbjmaaa
set_option maxRecDepth 100000
def blkV (l : Value × Unit) : Value := l.1
instance : MapTy Try.prog 112 Int (Value × Unit) (Value.int .u64) blkV (.agg #[.int .u64 0, .int .u64 0, .int .u64 0, .int .u64 0, .int .u64 0, .int .u64 0, .int .u64 0, .int .u64 0], ()) :=
  MapTy.int Try.underlying112 Try.underlying22 (inferInstance : Zer Try.prog 172 _).h
theorem mnew_t : Tri Try.prog 23 #[] [] fun r L => (∃ S, r = .pointer (some ⟨S, 0, none⟩)) ∧ L = [] := by
  refine Tri.of_body (vs := []) Try.func23 rfl rfl fun w0 F => ?_
  repeat' (first |  (first | (apply StL.v; exact OpV.go; rfl) | (apply StL.ok; exact OpOk.gt; rfl; rintro _ _ ⟨rfl, rfl⟩) | (apply StL.ok; exact OpOk.gf; rfl; rintro _ _ ⟨b, rfl, rfl⟩) | (apply StL.ok; exact OpOk.gn; rfl; rintro _ _ ⟨g, cap, rest, rfl, hcap, rfl⟩) | (apply StL.ok; exact OpOk.ga; rfl; rintro _ _ ⟨ad, cap, rfl, rfl⟩) | (apply StL.g_yes; rfl; rfl) | (apply StL.g_no; rfl; rfl; rfl; rfl) | (apply StL.g_undef; rfl; rfl; rfl) | (apply StL.gsplit; rfl; rfl; all_goals (intro h; (first | replace h := of_decide_eq_true h | replace h := of_decide_eq_false h | replace h := beq_iff_eq.1 h | replace h := beq_eq_false_iff_ne.1 h | replace h := bne_iff_ne.1 h | replace h := bne_eq_false_iff_eq.1 h | skip); (try (exfalso; omega)))) | apply StL.nil | apply St.region | apply St.seq | apply St.block | apply St.inBlock | apply St.skip | (apply St.exit; rfl) | (apply St.cond_t; rfl) | (apply St.cond_f; rfl) | (apply St.cond; rfl; all_goals (intro h; (first | replace h := of_decide_eq_true h | replace h := of_decide_eq_false h | replace h := beq_iff_eq.1 h | replace h := beq_eq_false_iff_ne.1 h | replace h := bne_iff_ne.1 h | replace h := bne_eq_false_iff_eq.1 h | skip); (try (exfalso; omega))))) | (first | (apply StD.v0; rfl; exact OpV.go; rfl) | (apply StD.v1; rfl; exact OpV.go; exact Ent.go; rfl) | (apply StD.ok3; rfl; exact OpOk.gt; rfl; rintro _ _ ⟨rfl, rfl⟩) | (apply StD.ok2; rfl; exact OpOk.gf; rfl; rintro _ _ ⟨b, rfl, rfl⟩; refine ⟨Ent.go, ?_⟩) | (apply StD.ok3; rfl; exact OpOk.gf; rfl; rintro _ _ ⟨b, rfl, rfl⟩) | (apply StD.ok3; rfl; exact OpOk.gn; rfl; rintro _ _ ⟨g, cap, rest, rfl, hcap, rfl⟩) | (apply StD.ok3; rfl; exact OpOk.ga; rfl; rintro _ _ ⟨ad, cap, rfl, rfl⟩) | apply StD.nil | exact StD.nope | apply StD.pick | (apply StD.claim; rfl; intro b) | (apply StD.g0; rfl; rfl; rfl; exact OpV.go; rfl) | (apply StD.g1; rfl; rfl; rfl; exact OpV.go; exact Ent.go; rfl) | (apply StD.skip0; rfl; rfl; rfl; rfl; rfl) | (apply StD.skip1; rfl; rfl; rfl; rfl; exact Ent.go; rfl) | (apply StD.skipu; rfl; rfl; rfl; rfl) | (apply StD.skipu1; rfl; rfl; rfl; exact Ent.go; rfl))   | (apply StD.gsplit; rfl; rfl; rfl; all_goals (intro h; (first | replace h := of_decide_eq_true h | replace h := of_decide_eq_false h | replace h := beq_iff_eq.1 h | replace h := beq_eq_false_iff_ne.1 h | replace h := bne_iff_ne.1 h | replace h := bne_eq_false_iff_eq.1 h | skip); (try (exfalso; omega)))))
  refine St.d1 Try.func23 ⟨_, ⟨⟨_, rfl⟩, rfl⟩, ?_⟩
  exact Ent.go
def code0 : List Ins := [⟨15, 1, 0, 0, 0⟩, ⟨0, 2, 0, 0, 7⟩, ⟨13, 2, 1, 0, 3⟩, ⟨9, 4, 3, 0, 0⟩, ⟨11, 5, 1, 0, 3⟩, ⟨20, 5, 0, 0, 0⟩]
def code1 : List Ins := [⟨21, 0, 0, 0, 5⟩]
def args0 : List Nat := [0, 0, 0, 0]
def xm0 : Xm := ⟨⟨args0, 0, 3, 0, regs0, 1, 1, 9, true, ⟨15, 1, 0, 0, 0⟩, 0, 0, 0⟩, ⟨1, 0, -1, 3, 0, 393, 0, 0⟩, po4, [], []⟩
def puts1 : List (Int × Nat) := [(387, 1), (437, 0), (438, 0), (439, 0), (440, 0), (441, 0), (442, 0), (443, 0), (444, 0), (440, 7)]
def po5 : Po := ⟨0, 4, [0, 0], 3, 0, 2, 0, [], 1⟩
def xm1 : Xm := ⟨⟨args0, 0, 3, 0, [0, 1, 7, 0, 0, 0, 0, 0, 0, 0, 0, 0, 0, 0, 0, 0], 4, 4, 10, true, ⟨9, 4, 3, 0, 0⟩, 0, 0, 0⟩, ⟨1, 0, -1, 3, 0, 371, 0, 0⟩, po5, puts1, [1]⟩
def xm2 : Xm := ⟨⟨args0, 0, 3, 0, [0, 1, 7, 0, 0, 7, 0, 0, 0, 0, 0, 0, 0, 0, 0, 0], 6, 6, 10, false, ⟨20, 5, 0, 0, 0⟩, 1, 0, 7⟩, ⟨1, 0, -1, 0, 0, 371, 0, 1⟩, po5, puts1, [1]⟩
def xm3 : Xm := ⟨⟨args0, 10, 2, 0, regs0, 1, 1, 0, false, ⟨21, 0, 0, 0, 5⟩, 1, 40, 5⟩, ⟨1, 0, -1, 0, 0, 371, 0, 1⟩, po5, puts1, []⟩
theorem start0 : Xm.start cfg0 100 code0 (Vw.new 1 0) po4 [] args0 = xm0 := by kernel_rfl
theorem xask0 : xm0.ask cfg0 = (mop 0 393 0, true) := by kernel_rfl
theorem xout0 : doOut cs0 1 (mop 0 393 0) = oA := by kernel_rfl
theorem xmem0 : doMem cs0 1 (mop 0 393 0) = cs0 := by kernel_rfl
theorem xtell0 : xm0.tell cfg0 100 code0 oA = xm1 := by kernel_rfl
theorem xask1 : xm1.ask cfg0 = (mop 0 371 0, true) := by kernel_rfl
theorem xout1 : doOut cs0 1 (mop 0 371 0) = oA := by kernel_rfl
theorem xmem1 : doMem cs0 1 (mop 0 371 0) = cs0 := by kernel_rfl
theorem xtell1 : xm1.tell cfg0 100 code0 oA = xm2 := by kernel_rfl
theorem xask2 : xm2.ask cfg0 = (mop 0 0 0, false) := by kernel_rfl
theorem start1 : Xm.start cfg0 100 code1 xm2.v xm2.p xm2.puts args0 = xm3 := by kernel_rfl
theorem got2 : mget (allP xm2.puts) 440 = some 7 := by kernel_rfl
theorem right0 : rightB code0 = true := by kernel_rfl
theorem right1 : rightB code1 = true := by kernel_rfl
theorem InsR.bl (b t cap : Nat) (code : List Ins) : InsR (bl b t (code.flatMap Ins.v)) (.slice (some ⟨b, 0, none⟩) code.length cap) code :=
  ⟨_, _, rfl, .inr ⟨b, 0, _, [], rfl, RdC.bl, by rw [List.append_nil]; exact .zero⟩⟩
theorem begin0 : Start cfg0 [] 3 0 := ⟨small0, by decide, by decide, by decide, by decide⟩
theorem begin1 : Start cfg0 puts1 2 0 := ⟨small0, by decide, by decide, by decide, by decide⟩
theorem inv0 : Xinv cfg0 code0 [] 3 0 0 (Xm.init (Vw.new 1 0) po4 [] args0) := Xinv.init right0 begin0 (by decide) _ _ rfl rfl _ rfl (by decide)
theorem inv1 : Xinv cfg0 code1 puts1 2 0 0 (Xm.init xm2.v xm2.p xm2.puts args0) := Xinv.init right1 begin1 (by decide) _ _ rfl rfl _ rfl (by decide)
theorem stop0 : Xinv cfg0 code0 [] 3 0 0 xm0 ∧ xm0.stops := by
  have := run_inv (run_inv' begin0 100 right0 0) _ _ inv0 (Nat.le_refl _)
  have e : (Xm.init (Vw.new 1 0) po4 [] args0).run cfg0 100 code0 = xm0 := by have := start0; unfold Xm.start at this; rwa [if_pos right0] at this
  rwa [e] at this
theorem inv0t : Xinv cfg0 code0 [] 3 0 1 { xm0 with v := xm0.v.tell oA } := stop0.1.tell stop0.2 rfl (by kernel_rfl) oA
theorem stop1 : Xinv cfg0 code0 [] 3 0 1 xm1 ∧ xm1.stops := by
  have := run_inv (run_inv' begin0 100 right0 1) _ _ inv0t (Nat.le_refl _)
  have e : Xm.run cfg0 100 code0 { xm0 with v := xm0.v.tell oA } = xm1 := by have := xtell0; unfold Xm.tell at this; rwa [if_pos (by rfl)] at this
  rwa [e] at this
theorem inv1t : Xinv cfg0 code0 [] 3 0 2 { xm1 with v := xm1.v.tell oA } := stop1.1.tell stop1.2 rfl (by kernel_rfl) oA
end Go.Proofs.Ytipnljhelbjmaaa
