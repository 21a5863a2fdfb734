/-
  Package check: Reads. Packages tumblerref03, tumblerref04, tumblerref05: what may be of instructions, for all programs. Package tumblerref06: Reckon, for all instructions without roots and blocks.
-/
import Derived.Test.YthmbgodcpgkkeaaGreatBa
import Derived.Test.YthmbgodcpgkkeaaGreatExe
set_option maxRecDepth 100000
namespace Go.Proofs.YthmbgodcpgkkeaaGreat
def wrB (i:Ins):Bool:=decide (i.op=10∨i.op=13∨i.op=14∨i.op=15∨i.op=16)
def onlyB (code:List Ins):Bool:=code.all (fun i=>!wrB i) && rightB code
theorem drop_cons' {α:Type}{l:List α}{k:Nat}(h:k<l.length):l.drop k=l[k]::l.drop (k+1):=by simp
set_option maxHeartbeats 1000000 in
theorem reads_r (q:HProp)(cv:Value)(code:List Ins)(hcv:InsR q cv code)(hl:code.length≤9223372036854775807):RTri Tryz.prog 82 #[cv] [q] (.bool (onlyB code)):=by
 refine RTri.of_reads fun p hp=>?_
 have hins:InsR p cv code:=by
  obtain ⟨ad,cap,h1,h2|⟨b,o,l,rest,h3,h4,h5⟩⟩:=hcv
  ·exact ⟨ad,cap,h1, .inl h2⟩
  ·exact ⟨ad,cap,h1, .inr ⟨b,o,l,rest,h3,RdC.of_sat hp (ReadsC.here h4),h5⟩⟩
 have hri:=right_rr p cv code hins;obtain ⟨ad,cap,rfl,hr⟩:=hins
 refine TB (vs:=[_]) Tryz.func82 fun w0 F=>?_
 repeat' (first|refine Ga ?_|fail)
 refine St.loopY (Lr:=?Lr1) (ι:={ x:Nat // x≤code.length∧onlyB code=((code.drop x).all (fun i=>!wrB i) && rightB code) }) (fun x=>code.length - x.1) (fun x=>[(7, .int .i64 (x.1:Int))]) (fun _=>[]) ⟨0,Nat.zero_le _,rfl⟩ ?hE1 ?hL1 ?round1
 case hE1=>exact Sub.go
 case hL1=>exact Takes.go
 case round1 =>
  rintro ⟨k,hk,ha⟩ IH;dsimp only at hk ha IH⊢
  by_cases hlt:k<code.length
  ·obtain ⟨bf,o,l,l1,rfl,hrd,hdr,htk⟩:=InsR.at hr k hlt
   rw [drop_cons' hlt,List.all_cons] at ha;generalize code[k]=i at htk ha;unfold Ins.v at htk
   cases hw:wrB i with
   | true =>
    rw [hw] at ha;have hw:=of_decide_eq_true hw;rw [ha];clear IH
    repeat' (first|refine Ga ?_|(refine Gb ?_;intro b)|(refine Ge ?_ ?_<;>intro h<;>try omega)|fail)
    all_goals refine St.d1 Tryz.func82 ⟨_,⟨rfl,rfl⟩,Ent.go⟩
   | false =>
    rw [hw] at ha;have hw:=of_decide_eq_false hw
    repeat' (first|refine Ga ?_|(refine Gb ?_;intro b)|(refine Ge ?_ ?_<;>intro h<;>try omega)|fail)
    refine IH ⟨k+1,hlt,by rw [ha];rfl⟩ (by show code.length - (k+1)<code.length - k;omega) ?_ ?_
    ·exact Sub.go
    ·exact Ent.go
  ·obtain rfl:k=code.length:=by omega
   rw [List.drop_length] at ha;rw [ha];clear IH
   repeat' (first|refine Ga ?_|refine Gl hri ?_|(refine Ge ?_ ?_<;>intro h<;>try omega)|fail)
   refine St.d1 Tryz.func82 ⟨_,⟨rfl,rfl⟩,Ent.go⟩
def regs3 (op:Int):Int:=if (2≤op∧op≤7)∨op=12∨op=14 then 3 else if op=1∨(9≤op∧op≤11)∨op=13 then 2 else if op=17∨op=21∨op<0∨21<op then 0 else 1
theorem regs3_r (op:Int):RTri Tryz.prog 312 #[.int .i64 op] [] (.int .i64 (regs3 op)):=by
 apply RTri.of_pure
 refine TB (vs:=[_]) Tryz.func312 fun w0 F=>?_
 repeat' (first|refine Ga ?_|(refine Ge ?_ ?_<;>intro h<;>try omega)|fail)
 all_goals refine St.dn Tryz.func312 ⟨?_,rfl⟩ Ent.go
 all_goals refine congrArg (Value.int .i64) ?_
 all_goals unfold regs3
 all_goals (repeat (first|rw [if_pos (by omega)]|rw [if_neg (by omega)]))
def imm3 (op:Int):Bool:=decide (op=0∨op=8∨op=11∨op=13∨(17≤op∧op≤19)∨op=21)
theorem imm3_r (op:Int):RTri Tryz.prog 313 #[.int .i64 op] [] (.bool (imm3 op)):=by
 apply RTri.of_pure
 refine TB (vs:=[_]) Tryz.func313 fun w0 F=>?_
 repeat' (first|refine Ga ?_|(refine Ge ?_ ?_<;>intro h<;>try omega)|fail)
 all_goals refine St.dn Tryz.func313 ⟨?_,rfl⟩ Ent.go
 all_goals refine congrArg Value.bool ?_
 all_goals unfold imm3
 all_goals first|(rw [decide_eq_true (by omega)];done)|(rw [decide_eq_false (by omega)];done)|(rw [Bool.eq_iff_iff];simp;omega)
theorem op_kinds {op:Int}(h:0≤op∧op≤21):op=0∨op=1∨op=2∨op=3∨op=4∨op=5∨op=6∨op=7∨op=8∨op=9∨op=10∨op=11∨op=12∨op=13∨op=14∨op=15∨op=16∨op=17∨op=18∨op=19∨op=20∨op=21:=by omega
theorem plain_bad {i:Ins}(h:¬ ((0≤i.op∧i.op≤21)∧(0≤i.a∧i.a≤15)∧(0≤i.b∧i.b≤15)∧(0≤i.c∧i.c≤15))):i.plain=false:=by
 cases hb:i.plain with
 | false=>rfl
 | true =>
  obtain ⟨hok,h0,h1⟩:=plain_in hb;have:=hok.a0;have:=hok.a1;have:=hok.b0;have:=hok.b1;have:=hok.c0;have:=hok.c1;exact absurd ⟨⟨h0,h1⟩,⟨by omega,by omega⟩,⟨by omega,by omega⟩,⟨by omega,by omega⟩⟩ h
theorem fieldOk_eq {n:Int}(h:0≤n∧n≤15)(u:Bool):fieldOk n u=(u || n == 0):=by
 unfold fieldOk
 cases u with
 | false=>simp
 | true =>
  rw [Bool.eq_iff_iff];simp;omega
theorem plain_eq {i:Ins}(h:(0≤i.op∧i.op≤21)∧(0≤i.a∧i.a≤15)∧(0≤i.b∧i.b≤15)∧(0≤i.c∧i.c≤15)) :
  i.plain=((decide (0<regs3 i.op) || i.a == 0) && ((decide (1<regs3 i.op) || i.b == 0) && ((decide (2<regs3 i.op) || i.c == 0) && (imm3 i.op || ((i.imm:Int) == 0))))):=by
 obtain ⟨h0,ha,hb,hc⟩:=h
 have e:usA i.op=decide (0<regs3 i.op)∧usB i.op=decide (1<regs3 i.op)∧usC i.op=decide (2<regs3 i.op)∧usI i.op=imm3 i.op:=by
  generalize i.op=op at h0;have h17:=op_kinds h0
  rcases h17 with rfl|rfl|rfl|rfl|rfl|rfl|rfl|rfl|rfl|rfl|rfl|rfl|rfl|rfl|rfl|rfl|rfl|rfl|rfl|rfl|rfl|rfl<;>decide
 unfold Ins.plain;rw [decide_eq_true h0,fieldOk_eq ha,fieldOk_eq hb,fieldOk_eq hc,e.1,e.2.1,e.2.2.1,e.2.2.2];rfl
theorem plain3_r (i:Ins):RTri Tryz.prog 290 #[.agg ⟨i.v⟩] [] (.bool i.plain):=by
 apply RTri.of_pure;have hr:=regs3_r i.op;have hm:=imm3_r i.op
 by_cases h:(0≤i.op∧i.op≤21)∧(0≤i.a∧i.a≤15)∧(0≤i.b∧i.b≤15)∧(0≤i.c∧i.c≤15)
 ·rw [plain_eq h]
  obtain ⟨op,a,b,c,imm⟩:=i;unfold Ins.v;dsimp only at h hr hm⊢
  refine TB (vs:=[_]) Tryz.func290 fun w0 F=>?_
  repeat' (first|refine Ga ?_|(refine Gb ?_;intro b)|refine Gl hr ?_|refine Gl hm ?_|(refine Ge ?_ ?_<;>intro h<;>try omega)|fail)
  all_goals refine St.dn Tryz.func290 ⟨?_,rfl⟩ Ent.go
  all_goals refine congrArg Value.bool ?_
  all_goals clear hr hm
  all_goals unfold imm3
  all_goals first|(simp_all;done)|(simp_all;omega)
 ·rw [plain_bad h]
  obtain ⟨op,a,b,c,imm⟩:=i;unfold Ins.v;dsimp only at h hr hm⊢
  refine TB (vs:=[_]) Tryz.func290 fun w0 F=>?_
  repeat' (first|refine Ga ?_|(refine Gb ?_;intro b)|(refine Ge ?_ ?_<;>intro h<;>try omega)|fail)
  all_goals refine St.dn Tryz.func290 ⟨?_,rfl⟩ Ent.go
  all_goals rfl
theorem goes4_r (op:Int):RTri Tryz.prog 291 #[.int .i64 op] [] (.bool (decide (17≤op∧op≤19))):=by
 apply RTri.of_pure
 refine TB (vs:=[_]) Tryz.func291 fun w0 F=>?_
 repeat' (first|refine Ga ?_|(refine Ge ?_ ?_<;>intro h<;>try omega)|fail)
 all_goals refine St.dn Tryz.func291 ⟨?_,rfl⟩ Ent.go
 all_goals refine congrArg Value.bool ?_
 all_goals first|(rw [decide_eq_true (by omega)];done)|(rw [decide_eq_false (by omega)];done)|(rw [Bool.eq_iff_iff];simp;omega)
theorem forth4_r (op fr to:Int):RTri Tryz.prog 292 #[.int .i64 op, .int .i64 fr, .int .i64 to] [] (.bool (if op=19 then decide (to≤fr) else decide (fr<to))):=by
 apply RTri.of_pure
 refine TB (vs:=[_,_,_]) Tryz.func292 fun w0 F=>?_
 repeat' (first|refine Ga ?_|(refine Ge ?_ ?_<;>intro h<;>try omega)|fail)
 all_goals refine St.dn Tryz.func292 ⟨?_,rfl⟩ Ent.go
 all_goals refine congrArg Value.bool ?_
 all_goals (first|rw [if_pos (by omega)]|rw [if_neg (by omega)])
 all_goals first|rfl|(rw [decide_eq_true (by omega)];done)|(rw [decide_eq_false (by omega)];done)|(rw [Bool.eq_iff_iff];simp;omega)
set_option maxHeartbeats 1000000 in
theorem one5_r (q:HProp)(v:Value)(code:List Ins)(hv:InsR q v code)(hn:code.length≤256)(k:Nat)(hk:k<code.length):RTri Tryz.prog 253 #[v, .int .i64 (k:Int)] [q] (.int .i64 (oneOf code.length k code[k])):=by
 apply RTri.of_reads;intro p hp;obtain ⟨ad,cap,rfl,hr⟩:=hv;obtain ⟨b,o,l,l1,rfl,hrd,hdr,htk⟩:=InsR.at hr k hk;have hrd:=RdC.of_sat hp (ReadsC.here hrd);have hpl:=plain3_r code[k];generalize code[k]=i at htk hpl⊢;obtain ⟨op,a,b,c,imm⟩:=i;have hg:=goes4_r op;have hf:=forth4_r op (k:Int) (imm:Int);unfold Ins.v at htk hpl;unfold oneOf;dsimp only at htk hpl⊢
 cases hpb:(Ins.mk op a b c imm).plain with
 | false =>
  rw [hpb] at hpl;rw [if_pos rfl]
  refine TB (vs:=[_,_]) Tryz.func253 fun w0 F=>?_
  repeat' (first|refine Ga ?_|(refine Gb ?_;intro b)|refine Gl hpl ?_|fail)
  all_goals refine St.dn Tryz.func253 ⟨?_,rfl⟩ Ent.go
  all_goals rfl
 | true =>
  rw [hpb] at hpl;rw [if_neg Bool.noConfusion]
  by_cases h19:op=19
  ·rw [if_pos h19] at hf
   refine TB (vs:=[_,_]) Tryz.func253 fun w0 F=>?_
   repeat' (first|refine Ga ?_|(refine Gb ?_;intro b)|refine Gl hpl ?_|refine Gl hg ?_|refine Gl hf ?_|(refine Ge ?_ ?_<;>intro h<;>try omega)|fail)
   all_goals refine St.dn Tryz.func253 ⟨?_,rfl⟩ Ent.go
   all_goals refine congrArg (Value.int .i64) ?_
   all_goals (repeat' split)<;>first|omega|rfl|(exfalso;simp at *;omega)
  ·rw [if_neg h19] at hf
   refine TB (vs:=[_,_]) Tryz.func253 fun w0 F=>?_
   repeat' (first|refine Ga ?_|(refine Gb ?_;intro b)|refine Gl hpl ?_|refine Gl hg ?_|refine Gl hf ?_|(refine Ge ?_ ?_<;>intro h<;>try omega)|fail)
   all_goals refine St.dn Tryz.func253 ⟨?_,rfl⟩ Ent.go
   all_goals refine congrArg (Value.int .i64) ?_
   all_goals (repeat' split)<;>first|omega|rfl|(exfalso;simp at *;omega)
theorem fault5_r (q:HProp)(v:Value)(code:List Ins)(hv:InsR q v code):RTri Tryz.prog 196 #[v] [q] (.tuple ⟨[.int .i64 (faultOf code).1, .int .i64 (faultOf code).2]⟩):=by
 apply RTri.of_reads;intro p hp
 have hv':InsR p v code:=by
  obtain ⟨ad,cap,rfl,hr⟩:=hv;refine ⟨ad,cap,rfl, ?_⟩
  rcases hr with hr|⟨b,o,l,rest,h1,h2,h3⟩
  ·exact .inl hr
  ·exact .inr ⟨b,o,l,rest,h1,RdC.of_sat hp (ReadsC.here h2),h3⟩
 have hv0:=hv';obtain ⟨ad,cap,rfl,hr⟩:=hv'
 by_cases h0:code.length=0
 ·have e:faultOf code=(0,4):=if_pos h0
  rw [e]
  refine TB (vs:=[_]) Tryz.func196 fun w0 F=>?_
  repeat' (first|refine Ga ?_|(refine Ge ?_ ?_<;>intro h<;>try omega)|fail)
  refine St.dn Tryz.func196 ⟨?_,rfl⟩ Ent.go;rfl
 ·by_cases h1:256<code.length
  ·have e:faultOf code=(256,3):=(if_neg h0).trans (if_pos h1)
   rw [e]
   refine TB (vs:=[_]) Tryz.func196 fun w0 F=>?_
   repeat' (first|refine Ga ?_|(refine Ge ?_ ?_<;>intro h<;>try omega)|fail)
   refine St.dn Tryz.func196 ⟨?_,rfl⟩ Ent.go;rfl
  ·have e:faultOf code=match faultGo code.length 0 code with
     | some x=>x
     | none=>if endsB code=true then (0,0) else ((code.length:Int) - 1,30):=(if_neg h0).trans (if_neg h1)
   refine TB (vs:=[_]) Tryz.func196 fun w0 F=>?_
   repeat' (first|refine Ga ?_|(refine Ge ?_ ?_<;>intro h<;>try omega)|fail)
   refine St.loopY (Lr:=?Lr1) (ι:={ k:Nat // k≤code.length∧faultGo code.length 0 code=faultGo code.length k (code.drop k) }) (fun k=>code.length - k.1)
    (fun k=>[(4, .int .i64 (k.1:Int))]) (fun k=>[]) ⟨0,Nat.zero_le _,rfl⟩ ?hE1 ?hL1 ?round1
   case hE1=>exact Sub.go
   case hL1=>exact Takes.go
   case round1 =>
    rintro ⟨k,hk,hgo⟩ IH;dsimp only at hk hgo IH⊢
    by_cases hlt:k<code.length
    ·have hon:=one5_r p _ code hv0 (by omega) k hlt
     rw [List.drop_eq_getElem_cons hlt,faultGo] at hgo
     by_cases he:oneOf code.length k code[k]=0
     ·rw [if_pos he] at hgo
      rw [he] at hon
      repeat' (first|refine Ga ?_|refine Gl hon ?_|(refine Ge ?_ ?_<;>intro h<;>try omega)|fail)
      refine IH ⟨k+1,hlt,hgo⟩ (by show _ - (k+1)<_ - k;omega) ?_ ?_
      ·exact Sub.go
      ·exact Ent.go
     ·rw [if_neg he] at hgo
      rw [hgo] at e;dsimp only at e;rw [e]
      repeat' (first|refine Ga ?_|refine Gl hon ?_|(refine Ge ?_ ?_<;>intro h<;>try omega)|fail)
      refine St.dn Tryz.func196 ⟨?_,rfl⟩ Ent.go;rfl
    ·obtain rfl:k=code.length:=by omega
     rw [List.drop_length,faultGo] at hgo;rw [hgo] at e;dsimp only at e
     have hlast:code.length - 1<code.length:=by omega
     obtain ⟨b,o,l,rfl,hrd,hn⟩:=InsR.at1 hr (code.length - 1) hlast;rw [show (((code.length - 1:Nat):Int))=(code.length:Int) - 1 by omega] at hn
     have hends:endsB code=(code[code.length - 1].op == 20 || code[code.length - 1].op == 21):=by
      unfold endsB;rw [List.getLast?_eq_getElem?,List.getElem?_eq_getElem hlast]
     generalize code[code.length - 1].op=op at hn hends;clear IH
     by_cases ho:op=20∨op=21
     ·have hb:endsB code=true:=by rw [hends];simpa using ho
      rw [if_pos hb] at e;rw [e]
      repeat' (first|refine Ga ?_|(refine Ge ?_ ?_<;>intro h<;>try omega)|fail)
      all_goals refine St.dn Tryz.func196 ⟨?_,rfl⟩ Ent.go
      all_goals rfl
     ·have hb:¬ endsB code=true:=by rw [hends];simpa using ho
      rw [if_neg hb] at e;rw [e]
      repeat' (first|refine Ga ?_|(refine Ge ?_ ?_<;>intro h<;>try omega)|fail)
      all_goals refine St.dn Tryz.func196 ⟨?_,rfl⟩ Ent.go
      all_goals rfl
theorem right5_r (q:HProp)(v:Value)(code:List Ins)(hv:InsR q v code):RTri Tryz.prog 117 #[v] [q] (.bool (rightB code)):=by
 have hf:=fault5_r q v code hv;apply RTri.of_reads;intro p hp;have hf:=hf.of_read hp
 refine TB (vs:=[_]) Tryz.func117 fun w0 F=>?_
 repeat' (first|refine Ga ?_|refine Gl hf ?_|fail)
 refine St.dn Tryz.func117 ⟨?_,rfl⟩ Ent.go;rfl
theorem writes5_r (op:Int):RTri Tryz.prog 212 #[.int .i64 op] [] (.int .i64 (costs op)):=by
 apply RTri.of_pure
 refine TB (vs:=[_]) Tryz.func212 fun w0 F=>?_
 repeat' (first|refine Ga ?_|(refine Ge ?_ ?_<;>intro h<;>try omega)|fail)
 all_goals refine St.dn Tryz.func212 ⟨?_,rfl⟩ Ent.go
 all_goals refine congrArg (Value.int .i64) ?_
 all_goals unfold costs
 all_goals (repeat (first|rw [if_pos (by omega)]|rw [if_neg (by omega)]))
theorem bit6_r (b:Bool):RTri Tryz.prog 254 #[.bool b] [] (.int .u64 (b.toNat:Int)):=by
 apply RTri.of_pure
 refine TB (vs:=[_]) Tryz.func254 fun w0 F=>?_
 repeat' (first|refine Ga ?_|(refine Ge ?_ ?_<;>intro h<;>try omega)|fail)
 all_goals refine St.dn Tryz.func254 ⟨?_,rfl⟩ Ent.go
 all_goals (rw [h];rfl)
theorem word6_r (i:Ins)(regs:List Nat)(hr:regs.length=16)(hc0:0≤i.c)(hc1:i.c<16):RTri Tryz.prog 260 #[.agg ⟨i.v⟩, .agg ⟨u64s regs⟩] [] (.int .u64 (((if i.op=12∨i.op=14 then regs.getD i.c.toNat 0 else i.imm):Nat):Int)):=by
 apply RTri.of_pure
 have hnc:NthN (0+i.c.toNat * 1) (u64s regs) (.int .u64 ((regs.getD i.c.toNat 0:Nat):Int)):=by
  rw [Nat.zero_add,Nat.mul_one];exact NthN.u64s (by omega)
 refine TB (vs:=[_,_]) Tryz.func260 fun w0 F=>?_
 repeat' (first|refine Ga ?_|(refine Gb ?_;intro b)|(refine Ge ?_ ?_<;>intro h<;>try omega)|fail)
 all_goals refine St.dn Tryz.func260 ⟨?_,rfl⟩ Ent.go
 all_goals (first|rw [if_pos (by omega)]|rw [if_neg (by omega)])
 all_goals rfl
theorem mod_lt64 {b c:Nat}(hb:b<18446744073709551616)(_hc:0<c):IntKind.u64.wrap ((b:Int) - IntKind.u64.wrap ((c:Int) * ((b:Int) / (c:Int))))=((b % c:Nat):Int):=by
 have h1:(c:Int) * ((b:Int) / (c:Int))+(b:Int) % (c:Int)=b:=Int.mul_ediv_add_emod ..
 have h2:((b % c:Nat):Int)=(b:Int) % (c:Int):=by omega
 have h3:(b:Int) % (c:Int)≤b:=by rw [← h2];have:=Nat.mod_le b c;omega
 have h4:0≤(b:Int) % (c:Int):=by rw [← h2];omega
 have hw:∀ n:Int,IntKind.u64.wrap n=n % 18446744073709551616:=fun n=>by simp [IntKind.wrap,IntKind.bits,IntKind.signed]
 rw [h2,hw,hw];generalize (c:Int) * ((b:Int) / (c:Int))=m at h1;generalize (b:Int) % (c:Int)=r at h1 h3 h4;omega
section
theorem reckon6_0 (a b c:Int)(imm:Nat)(regs args:List Nat)(_hb0:0≤b)(_hb1:b<16)(_hc0:0≤c)(_hc1:c<16)(_hrl:regs.length=16)(_hal:args.length=4)(_hrv:∀ x∈regs,x<18446744073709551616):RTri Tryz.prog 197 #[.agg ⟨[.int .i64 0, .int .i64 a, .int .i64 b, .int .i64 c, .int .u64 (imm:Int)]⟩, .agg ⟨u64s regs⟩, .agg ⟨u64s args⟩] [] (.int .u64 (reckon ⟨0,a,b,c,imm⟩ regs args:Int)):=by
 apply RTri.of_pure
 have hnb:NthN (0+b.toNat * 1) (u64s regs) (.int .u64 ((regs.getD b.toNat 0:Nat):Int)):=by
  rw [Nat.zero_add,Nat.mul_one];exact NthN.u64s (by omega)
 have hnc:NthN (0+c.toNat * 1) (u64s regs) (.int .u64 ((regs.getD c.toNat 0:Nat):Int)):=by
  rw [Nat.zero_add,Nat.mul_one];exact NthN.u64s (by omega)
 unfold reckon;dsimp only;generalize regs.getD b.toNat 0=rb at hnb⊢;generalize regs.getD c.toNat 0=rc at hnc⊢
 refine TB (vs:=[_,_,_]) Tryz.func197 fun w0 F=>?_
 repeat' (first|refine Ga ?_|(refine Gb ?_;intro b)|fail)
 all_goals refine St.dn Tryz.func197 ⟨?_,rfl⟩ Ent.go
 all_goals (repeat (first|rw [if_pos (by omega)]|rw [if_neg (by omega)]))
 all_goals first|rfl|(rw [nat64_eq];rfl)|(rw [beq_cast'];rfl)|(simp only [← Int.ofNat_lt];rfl)
theorem reckon6_1 (a b c:Int)(imm:Nat)(regs args:List Nat)(_hb0:0≤b)(_hb1:b<16)(_hc0:0≤c)(_hc1:c<16)(_hrl:regs.length=16)(_hal:args.length=4)(_hrv:∀ x∈regs,x<18446744073709551616):RTri Tryz.prog 197 #[.agg ⟨[.int .i64 1, .int .i64 a, .int .i64 b, .int .i64 c, .int .u64 (imm:Int)]⟩, .agg ⟨u64s regs⟩, .agg ⟨u64s args⟩] [] (.int .u64 (reckon ⟨1,a,b,c,imm⟩ regs args:Int)):=by
 apply RTri.of_pure
 have hnb:NthN (0+b.toNat * 1) (u64s regs) (.int .u64 ((regs.getD b.toNat 0:Nat):Int)):=by
  rw [Nat.zero_add,Nat.mul_one];exact NthN.u64s (by omega)
 have hnc:NthN (0+c.toNat * 1) (u64s regs) (.int .u64 ((regs.getD c.toNat 0:Nat):Int)):=by
  rw [Nat.zero_add,Nat.mul_one];exact NthN.u64s (by omega)
 unfold reckon;dsimp only;generalize regs.getD b.toNat 0=rb at hnb⊢;generalize regs.getD c.toNat 0=rc at hnc⊢
 refine TB (vs:=[_,_,_]) Tryz.func197 fun w0 F=>?_
 repeat' (first|refine Ga ?_|(refine Gb ?_;intro b)|refine Gl (bit6_r _) ?_|fail)
 all_goals refine St.dn Tryz.func197 ⟨?_,rfl⟩ Ent.go
 all_goals (repeat (first|rw [if_pos (by omega)]|rw [if_neg (by omega)]))
 all_goals first|rfl|(rw [nat64_eq];rfl)|(rw [beq_cast'];rfl)|(simp only [← Int.ofNat_lt];rfl)
theorem reckon6_2 (a b c:Int)(imm:Nat)(regs args:List Nat)(_hb0:0≤b)(_hb1:b<16)(_hc0:0≤c)(_hc1:c<16)(_hrl:regs.length=16)(_hal:args.length=4)(_hrv:∀ x∈regs,x<18446744073709551616):RTri Tryz.prog 197 #[.agg ⟨[.int .i64 2, .int .i64 a, .int .i64 b, .int .i64 c, .int .u64 (imm:Int)]⟩, .agg ⟨u64s regs⟩, .agg ⟨u64s args⟩] [] (.int .u64 (reckon ⟨2,a,b,c,imm⟩ regs args:Int)):=by
 apply RTri.of_pure
 have hnb:NthN (0+b.toNat * 1) (u64s regs) (.int .u64 ((regs.getD b.toNat 0:Nat):Int)):=by
  rw [Nat.zero_add,Nat.mul_one];exact NthN.u64s (by omega)
 have hnc:NthN (0+c.toNat * 1) (u64s regs) (.int .u64 ((regs.getD c.toNat 0:Nat):Int)):=by
  rw [Nat.zero_add,Nat.mul_one];exact NthN.u64s (by omega)
 unfold reckon;dsimp only;generalize regs.getD b.toNat 0=rb at hnb⊢;generalize regs.getD c.toNat 0=rc at hnc⊢
 refine TB (vs:=[_,_,_]) Tryz.func197 fun w0 F=>?_
 repeat' (first|refine Ga ?_|(refine Gb ?_;intro b)|refine Gl (bit6_r _) ?_|fail)
 all_goals refine St.dn Tryz.func197 ⟨?_,rfl⟩ Ent.go
 all_goals (repeat (first|rw [if_pos (by omega)]|rw [if_neg (by omega)]))
 all_goals first|rfl|(rw [nat64_eq];rfl)|(rw [beq_cast'];rfl)|(simp only [← Int.ofNat_lt];rfl)
theorem reckon6_3 (a b c:Int)(imm:Nat)(regs args:List Nat)(_hb0:0≤b)(_hb1:b<16)(_hc0:0≤c)(_hc1:c<16)(_hrl:regs.length=16)(_hal:args.length=4)(_hrv:∀ x∈regs,x<18446744073709551616):RTri Tryz.prog 197 #[.agg ⟨[.int .i64 3, .int .i64 a, .int .i64 b, .int .i64 c, .int .u64 (imm:Int)]⟩, .agg ⟨u64s regs⟩, .agg ⟨u64s args⟩] [] (.int .u64 (reckon ⟨3,a,b,c,imm⟩ regs args:Int)):=by
 apply RTri.of_pure
 have hnb:NthN (0+b.toNat * 1) (u64s regs) (.int .u64 ((regs.getD b.toNat 0:Nat):Int)):=by
  rw [Nat.zero_add,Nat.mul_one];exact NthN.u64s (by omega)
 have hnc:NthN (0+c.toNat * 1) (u64s regs) (.int .u64 ((regs.getD c.toNat 0:Nat):Int)):=by
  rw [Nat.zero_add,Nat.mul_one];exact NthN.u64s (by omega)
 unfold reckon;dsimp only;generalize regs.getD b.toNat 0=rb at hnb⊢;generalize regs.getD c.toNat 0=rc at hnc⊢
 refine TB (vs:=[_,_,_]) Tryz.func197 fun w0 F=>?_
 repeat' (first|refine Ga ?_|(refine Gb ?_;intro b)|refine Gl (bit6_r _) ?_|fail)
 all_goals refine St.dn Tryz.func197 ⟨?_,rfl⟩ Ent.go
 all_goals (repeat (first|rw [if_pos (by omega)]|rw [if_neg (by omega)]))
 all_goals first|rfl|(rw [nat64_eq];rfl)|(rw [beq_cast'];rfl)|(simp only [← Int.ofNat_lt];rfl)
theorem reckon6_4 (a b c:Int)(imm:Nat)(regs args:List Nat)(_hb0:0≤b)(_hb1:b<16)(_hc0:0≤c)(_hc1:c<16)(_hrl:regs.length=16)(_hal:args.length=4)(_hrv:∀ x∈regs,x<18446744073709551616):RTri Tryz.prog 197 #[.agg ⟨[.int .i64 4, .int .i64 a, .int .i64 b, .int .i64 c, .int .u64 (imm:Int)]⟩, .agg ⟨u64s regs⟩, .agg ⟨u64s args⟩] [] (.int .u64 (reckon ⟨4,a,b,c,imm⟩ regs args:Int)):=by
 apply RTri.of_pure
 have hnb:NthN (0+b.toNat * 1) (u64s regs) (.int .u64 ((regs.getD b.toNat 0:Nat):Int)):=by
  rw [Nat.zero_add,Nat.mul_one];exact NthN.u64s (by omega)
 have hnc:NthN (0+c.toNat * 1) (u64s regs) (.int .u64 ((regs.getD c.toNat 0:Nat):Int)):=by
  rw [Nat.zero_add,Nat.mul_one];exact NthN.u64s (by omega)
 unfold reckon;dsimp only;generalize regs.getD b.toNat 0=rb at hnb⊢;generalize regs.getD c.toNat 0=rc at hnc⊢
 refine TB (vs:=[_,_,_]) Tryz.func197 fun w0 F=>?_
 repeat' (first|refine Ga ?_|(refine Gb ?_;intro b)|refine Gl (bit6_r _) ?_|fail)
 all_goals refine St.dn Tryz.func197 ⟨?_,rfl⟩ Ent.go
 all_goals (repeat (first|rw [if_pos (by omega)]|rw [if_neg (by omega)]))
 all_goals first|rfl|(rw [nat64_eq];rfl)|(rw [beq_cast'];rfl)|(simp only [← Int.ofNat_lt];rfl)
theorem reckon6_6 (a b c:Int)(imm:Nat)(regs args:List Nat)(_hb0:0≤b)(_hb1:b<16)(_hc0:0≤c)(_hc1:c<16)(_hrl:regs.length=16)(_hal:args.length=4)(_hrv:∀ x∈regs,x<18446744073709551616):RTri Tryz.prog 197 #[.agg ⟨[.int .i64 6, .int .i64 a, .int .i64 b, .int .i64 c, .int .u64 (imm:Int)]⟩, .agg ⟨u64s regs⟩, .agg ⟨u64s args⟩] [] (.int .u64 (reckon ⟨6,a,b,c,imm⟩ regs args:Int)):=by
 apply RTri.of_pure
 have hnb:NthN (0+b.toNat * 1) (u64s regs) (.int .u64 ((regs.getD b.toNat 0:Nat):Int)):=by
  rw [Nat.zero_add,Nat.mul_one];exact NthN.u64s (by omega)
 have hnc:NthN (0+c.toNat * 1) (u64s regs) (.int .u64 ((regs.getD c.toNat 0:Nat):Int)):=by
  rw [Nat.zero_add,Nat.mul_one];exact NthN.u64s (by omega)
 unfold reckon;dsimp only;generalize regs.getD b.toNat 0=rb at hnb⊢;generalize regs.getD c.toNat 0=rc at hnc⊢
 refine TB (vs:=[_,_,_]) Tryz.func197 fun w0 F=>?_
 repeat' (first|refine Ga ?_|(refine Gb ?_;intro b)|refine Gl (bit6_r _) ?_|fail)
 all_goals refine St.dn Tryz.func197 ⟨?_,rfl⟩ Ent.go
 all_goals (repeat (first|rw [if_pos (by omega)]|rw [if_neg (by omega)]))
 all_goals first|rfl|(rw [nat64_eq];rfl)|(rw [beq_cast'];rfl)|(simp only [← Int.ofNat_lt];rfl)
theorem reckon6_7 (a b c:Int)(imm:Nat)(regs args:List Nat)(_hb0:0≤b)(_hb1:b<16)(_hc0:0≤c)(_hc1:c<16)(_hrl:regs.length=16)(_hal:args.length=4)(_hrv:∀ x∈regs,x<18446744073709551616):RTri Tryz.prog 197 #[.agg ⟨[.int .i64 7, .int .i64 a, .int .i64 b, .int .i64 c, .int .u64 (imm:Int)]⟩, .agg ⟨u64s regs⟩, .agg ⟨u64s args⟩] [] (.int .u64 (reckon ⟨7,a,b,c,imm⟩ regs args:Int)):=by
 apply RTri.of_pure
 have hnb:NthN (0+b.toNat * 1) (u64s regs) (.int .u64 ((regs.getD b.toNat 0:Nat):Int)):=by
  rw [Nat.zero_add,Nat.mul_one];exact NthN.u64s (by omega)
 have hnc:NthN (0+c.toNat * 1) (u64s regs) (.int .u64 ((regs.getD c.toNat 0:Nat):Int)):=by
  rw [Nat.zero_add,Nat.mul_one];exact NthN.u64s (by omega)
 unfold reckon;dsimp only;generalize regs.getD b.toNat 0=rb at hnb⊢;generalize regs.getD c.toNat 0=rc at hnc⊢
 refine TB (vs:=[_,_,_]) Tryz.func197 fun w0 F=>?_
 repeat' (first|refine Ga ?_|(refine Gb ?_;intro b)|refine Gl (bit6_r _) ?_|fail)
 all_goals refine St.dn Tryz.func197 ⟨?_,rfl⟩ Ent.go
 all_goals (repeat (first|rw [if_pos (by omega)]|rw [if_neg (by omega)]))
 all_goals first|rfl|(rw [nat64_eq];rfl)|(rw [beq_cast'];rfl)|(simp only [← Int.ofNat_lt];rfl)
theorem reckon6_5 (a b c:Int)(imm:Nat)(regs args:List Nat)(_hb0:0≤b)(_hb1:b<16)(_hc0:0≤c)(_hc1:c<16)(_hrl:regs.length=16)(_hal:args.length=4)(hrv:∀ x∈regs,x<18446744073709551616):RTri Tryz.prog 197 #[.agg ⟨[.int .i64 5, .int .i64 a, .int .i64 b, .int .i64 c, .int .u64 (imm:Int)]⟩, .agg ⟨u64s regs⟩, .agg ⟨u64s args⟩] [] (.int .u64 (reckon ⟨5,a,b,c,imm⟩ regs args:Int)):=by
 apply RTri.of_pure
 have hnb:NthN (0+b.toNat * 1) (u64s regs) (.int .u64 ((regs.getD b.toNat 0:Nat):Int)):=by
  rw [Nat.zero_add,Nat.mul_one];exact NthN.u64s (by omega)
 have hnc:NthN (0+c.toNat * 1) (u64s regs) (.int .u64 ((regs.getD c.toNat 0:Nat):Int)):=by
  rw [Nat.zero_add,Nat.mul_one];exact NthN.u64s (by omega)
 have hbv:regs.getD b.toNat 0<18446744073709551616:=by
  rw [List.getD_eq_getElem?_getD,List.getElem?_eq_getElem (by omega)];exact hrv _ (List.getElem_mem _)
 unfold reckon;dsimp only;generalize regs.getD b.toNat 0=rb at hnb hbv⊢;generalize regs.getD c.toNat 0=rc at hnc⊢
 have hmod:=fun h=>mod_lt64 (c:=rc) hbv h
 have hdiv:(rb:Int) / (rc:Int)≤(rb:Int):=Int.ediv_le_self _ (by omega);have hdv0:0≤(rb:Int) / (rc:Int):=Int.ediv_nonneg (by omega) (by omega)
 refine TB (vs:=[_,_,_]) Tryz.func197 fun w0 F=>?_
 repeat' (first|refine Ga ?_|(refine Gb ?_;intro b)|refine Gl (bit6_r _) ?_|(refine Ge ?_ ?_<;>intro h<;>try omega)|fail)
 all_goals refine St.dn Tryz.func197 ⟨?_,rfl⟩ Ent.go
 all_goals (repeat (first|rw [if_pos (by omega)]|rw [if_neg (by omega)]))
 all_goals first|rfl|(refine congrArg (Value.int .u64) ?_;exact hmod (by omega))
theorem reckon6_8 (a b c:Int)(imm:Nat)(regs args:List Nat)(_hb0:0≤b)(_hb1:b<16)(_hc0:0≤c)(_hc1:c<16)(_hrl:regs.length=16)(_hal:args.length=4)(_hrv:∀ x∈regs,x<18446744073709551616)(hi:imm<4):RTri Tryz.prog 197 #[.agg ⟨[.int .i64 8, .int .i64 a, .int .i64 b, .int .i64 c, .int .u64 (imm:Int)]⟩, .agg ⟨u64s regs⟩, .agg ⟨u64s args⟩] [] (.int .u64 (reckon ⟨8,a,b,c,imm⟩ regs args:Int)):=by
 apply RTri.of_pure
 have hnb:NthN (0+b.toNat * 1) (u64s regs) (.int .u64 ((regs.getD b.toNat 0:Nat):Int)):=by
  rw [Nat.zero_add,Nat.mul_one];exact NthN.u64s (by omega)
 have hnc:NthN (0+c.toNat * 1) (u64s regs) (.int .u64 ((regs.getD c.toNat 0:Nat):Int)):=by
  rw [Nat.zero_add,Nat.mul_one];exact NthN.u64s (by omega)
 have hni:NthN (0+(imm:Int).toNat * 1) (u64s args) (.int .u64 ((args.getD imm 0:Nat):Int)):=by
  rw [Nat.zero_add,Nat.mul_one,Int.toNat_natCast];exact NthN.u64s (by omega)
 have e:imm % 4=imm:=by omega
 unfold reckon;dsimp only;rw [e]
 refine TB (vs:=[_,_,_]) Tryz.func197 fun w0 F=>?_
 repeat' (first|refine Ga ?_|(refine Gb ?_;intro b)|fail)
 all_goals refine St.dn Tryz.func197 ⟨?_,rfl⟩ Ent.go
 all_goals rfl
end
theorem reckon6_r (i:Ins)(regs args:List Nat)(h:Regs4 i regs args)(h0:0≤i.op)(h1:i.op≤8)(h8:i.op=8→i.imm<4)(hrv:∀ x∈regs,x<18446744073709551616):RTri Tryz.prog 197 #[.agg ⟨i.v⟩, .agg ⟨u64s regs⟩, .agg ⟨u64s args⟩] [] (.int .u64 (reckon i regs args:Int)):=by
 obtain ⟨op,a,b,c,imm⟩:=i;obtain ⟨hb0,hb1,hc0,hc1,hrl,hal,_⟩:=h;dsimp only at *
 have hk:op=0∨op=1∨op=2∨op=3∨op=4∨op=5∨op=6∨op=7∨op=8:=by omega
 rcases hk with rfl|rfl|rfl|rfl|rfl|rfl|rfl|rfl|rfl
 ·exact reckon6_0 a b c imm regs args hb0 hb1 hc0 hc1 hrl hal hrv
 ·exact reckon6_1 a b c imm regs args hb0 hb1 hc0 hc1 hrl hal hrv
 ·exact reckon6_2 a b c imm regs args hb0 hb1 hc0 hc1 hrl hal hrv
 ·exact reckon6_3 a b c imm regs args hb0 hb1 hc0 hc1 hrl hal hrv
 ·exact reckon6_4 a b c imm regs args hb0 hb1 hc0 hc1 hrl hal hrv
 ·exact reckon6_5 a b c imm regs args hb0 hb1 hc0 hc1 hrl hal hrv
 ·exact reckon6_6 a b c imm regs args hb0 hb1 hc0 hc1 hrl hal hrv
 ·exact reckon6_7 a b c imm regs args hb0 hb1 hc0 hc1 hrl hal hrv
 ·exact reckon6_8 a b c imm regs args hb0 hb1 hc0 hc1 hrl hal hrv (h8 rfl)
end Go.Proofs.YthmbgodcpgkkeaaGreat
