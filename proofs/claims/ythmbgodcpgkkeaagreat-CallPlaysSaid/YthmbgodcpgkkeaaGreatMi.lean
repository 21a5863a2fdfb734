/-
  Package tumblerref11: touch. Package tumblerref11: fresh. Package tumblerref11: step.
-/
import Derived.Test.YthmbgodcpgkkeaaGreatMf
set_option maxRecDepth 100000
namespace Go.Proofs.YthmbgodcpgkkeaaGreat
theorem rblk_eq (c:Cfg)(i:Ins)(regs:List Nat)(H W:Nat)(hH:H=if i.op=16 then rreg regs i.a else rreg regs i.b)(hW:W=if i.op=16 then 0 else if i.op=12∨i.op=14 then rreg regs i.c else i.imm) :
  rblk c i regs=if H<1∨c.blocks<(H:Int)∨8≤W then (0,0,false) else ((H:Int) - 1,(W:Int),true):=by
 have h1:(⟨[],0,0,0,regs,0,0,0,false,i,0,0,0⟩:Xs).hOf=H:=by
  rw [hH];rfl
 have h2:(⟨[],0,0,0,regs,0,0,0,false,i,0,0,0⟩:Xs).wOf=W:=by
  rw [hW];unfold Xs.wOf;dsimp only
  by_cases h16:i.op=16
  ·rw [if_neg (by omega),if_pos h16,if_pos h16]
  ·rw [if_neg h16,if_neg h16];rfl
 unfold rblk Xs.block;rw [h1,h2]
section
set_option maxHeartbeats 8000000 in
theorem rtouch_a {q:HProp}{ov:Value}{os:List Out}(hov:ListR Out.v q ov os)(hos:os.length≤100000){c:Cfg}(hc:Small c)(x:Px)(wad:Option Addr)(wcp:Nat)(t:Tp)(ht:t.at_≤100000)(r:Rr)(hxs:x.sn=r.puts.length)(hl:ListR entV q (.slice x.sa x.sn x.sc) r.puts)(hn:ListR u1V q (.slice wad r.news.length wcp) r.news)(hll:r.puts.length≤900000)(hroom:x.room≤1000000)(hrg:r.regs.length=16)(hw:0≤r.writes∧r.writes≤1000000)(hnl:0≤r.nl∧r.nl≤1000000)
  (iop ia ib ic:Int) (imm:Nat) (ha0:0≤ia) (ha1:ia<16) (hb0:0≤ib) (hb1:ib<16) (hc0:0≤ic) (hc1:ic<16) (ho:iop=16) :
  Tri Tryz.prog 200 #[.agg ⟨rnV c ov x (.slice wad r.news.length wcp) t r⟩, .agg ⟨[.int .i64 iop, .int .i64 ia, .int .i64 ib, .int .i64 ic, .int .u64 (imm:Int)]⟩] [q] (RunO c q ov x (rtouch c os x.room ⟨iop,ia,ib,ic,imm⟩ r t).1 (rtouch c os x.room ⟨iop,ia,ib,ic,imm⟩ r t).2 id):=by
 have hb64:=hc.b1;have hbb0:=hc.b0
 have hi:InsOk ⟨iop,ia,ib,ic,imm⟩:=⟨ha0,ha1,hb0,hb1,hc0,hc1⟩
 have hwd:=word6_r ⟨iop,ia,ib,ic,imm⟩ r.regs hrg hc0 hc1;unfold Ins.v at hwd;dsimp only at hwd;rw [← g16_eq hrg] at hwd;have hrx:=rblk_eq c ⟨iop,ia,ib,ic,imm⟩ r.regs (rreg r.regs ia) (0) (by dsimp only;first|exact (if_pos ho).symm|exact (if_neg (show ¬ iop=16 by omega)).symm) (by dsimp only;first|exact (if_pos ho).symm|exact (if_neg (show ¬ iop=16 by omega)).symm)
 have hrtl:=fun oad ocp=>touch_tail hc oad os.length ocp x wad wcp (q:=q)
 obtain ⟨xna,xnn,xnc,xma,xmn,xmc,xwt,xwl,xnt,xnl,xroom,xsa,xsn,xsc⟩:=x;dsimp only at hxs hl hroom hrtl⊢;subst hxs;have hR:=rreads_r hov hos hc ⟨xna,xnn,xnc,xma,xmn,xmc,xwt,xwl,xnt,xnl,xroom,xsa,r.puts.length,xsc⟩ wad r.news.length wcp t ht r hl (by omega) hrg ⟨iop,ia,ib,ic,imm⟩ hi
 have hlv:=fun b hb=>rvlive_r hov hos hc r.v t ht b hb
 obtain ⟨oad,ocp,rfl,_⟩:=id hov;have hra:=rn_reg c (.slice oad os.length ocp) ⟨xna,xnn,xnc,xma,xmn,xmc,xwt,xwl,xnt,xnl,xroom,xsa,r.puts.length,xsc⟩ (.slice wad r.news.length wcp) t r ha0 ha1;have hrb:=rn_reg c (.slice oad os.length ocp) ⟨xna,xnn,xnc,xma,xmn,xmc,xwt,xwl,xnt,xnl,xroom,xsa,r.puts.length,xsc⟩ (.slice wad r.news.length wcp) t r hb0 hb1;have hf:=rfails_r c oad os.length ocp ⟨xna,xnn,xnc,xma,xmn,xmc,xwt,xwl,xnt,xnl,xroom,xsa,r.puts.length,xsc⟩ wad r.news.length wcp t r 44;unfold rtouch;have hgw:((r.regs.getD ic.toNat 0:Nat):Int)=((rreg r.regs ic:Nat):Int):=rfl
 by_cases hbad:rreg r.regs ia<1∨c.blocks<((rreg r.regs ia:Nat):Int)∨8≤0
 ·rw [if_pos hbad] at hrx
  rw [hrx,if_pos (.inl rfl)]
  refine TB (vs:=[_,_]) Tryz.func200 fun w0 F=>?_
  repeat' (first|refine Ga ?_|(refine Gb ?_;intro b)|refine Gl hwd ?_|refine Gl hf ?_|(refine Ge ?_ ?_<;>intro h<;>try omega)|fail)
  all_goals first|(exfalso;omega)|(exfalso;unfold rreg at *;omega)|skip
  all_goals exact St.d1 Tryz.func200 ⟨_,⟨q,xsa,xsc,wad,wcp,Gr.refl q,hl,hn,rfl,rfl⟩,Ent.go⟩
 rw [if_neg hbad] at hrx;rw [hrx];dsimp only;replace hwd:RTri Tryz.prog 260 #[.agg ⟨[.int .i64 iop, .int .i64 ia, .int .i64 ib, .int .i64 ic, .int .u64 (imm:Int)]⟩, .agg ⟨g16 r.regs⟩] [] (.int .u64 (((if iop=12∨iop=14 then rreg r.regs ic else imm):Nat):Int)):=hwd
 skip
 generalize rreg r.regs ia=H at *;replace hrx:rblk c ⟨iop,ia,ib,ic,imm⟩ r.regs=((H:Int) - 1,(0:Int),true):=hrx;have hat16:=rat_r c hc 16 ((H:Int) - 1) (0:Int);have hat11:=rat_r c hc 11 ((H:Int) - 1) 0;have hget:=rget_r hl (by omega) (xroom:Int) (c.at 11 ((H:Int) - 1) 0)
 have hR:=fun ho room=>hR ho room ((H:Int) - 1) (0:Int) (by omega)
 have hlv:=hlv ((H:Int) - 1) (by omega)
 cases hm:mget (allP r.puts) (c.at 11 ((H:Int) - 1) 0) with
 | some y =>
  rw [hm] at hget;dsimp only [Option.isSome,Option.getD] at hget⊢
  by_cases hy:y≠1
  ·rw [if_pos (.inr ⟨rfl,hy⟩)]
   have hy2:¬ ((y:Nat):Int)=1:=by omega
   refine TB (vs:=[_,_]) Tryz.func200 fun w0 F=>?_
   repeat' (first|refine Ga ?_|(refine Gb ?_;intro b)|(refine Dr 10 [(0,0),(1,0),(2,1),(3,0),(4,0),(5,0),(6,1),(7,0),(8,1),(9,1),(10,0),(11,0),(12,0),(13,0),(14,0)] [] ?_)|refine Gl hwd ?_|refine Gl hat16 ?_|refine Gl hat11 ?_|refine Gl hget ?_|refine Gl hf ?_|(refine Ge ?_ ?_<;>intro h<;>try omega)|fail)
   all_goals exact St.d1 Tryz.func200 ⟨_,⟨q,xsa,xsc,wad,wcp,Gr.refl q,hl,hn,rfl,rfl⟩,Ent.go⟩
  rw [if_neg (fun e=>e.elim (fun e=>Bool.noConfusion e) (fun e=>hy e.2))]
  have hy1:y=1:=by omega
  subst hy1
  by_cases hrd:readsB iop=true
  ·rw [if_pos hrd]
   have ho2:iop=11∨iop=12:=by unfold readsB at hrd;simp only [Bool.or_eq_true,beq_iff_eq] at hrd;exact hrd
   have hR:=hR ho2 xroom;obtain ⟨k1,k2⟩:=rrd_keep c os xroom (i:=⟨iop,ia,ib,ic,imm⟩) ho2 r ((H:Int) - 1) (0:Int) t;show Tri _ _ _ _ (RunO c q _ _ (rrd c os xroom ⟨iop,ia,ib,ic,imm⟩ r ((H:Int) - 1) (0:Int) t).1 (rrd c os xroom ⟨iop,ia,ib,ic,imm⟩ r ((H:Int) - 1) (0:Int) t).2 id);generalize rrd c os xroom ⟨iop,ia,ib,ic,imm⟩ r ((H:Int) - 1) (0:Int) t=y at hR k1 k2⊢;obtain ⟨t3,r3⟩:=y;unfold Ins.v at hR;dsimp only at hR k1 k2⊢;refine RunO.same (r:=r) rfl hl hn k1 k2 ?_
   refine TB (vs:=[_,_]) Tryz.func200 fun w0 F=>?_
   repeat' (first|refine Ga ?_|(refine Gb ?_;intro b)|refine Gl hwd ?_|(refine Ge ?_ ?_<;>intro h<;>try omega)|fail)
   all_goals exact St.d1 Tryz.func200 ⟨_,⟨rfl,rfl⟩,Ent.go⟩
  rw [if_neg hrd,if_pos rfl]
  have ho2:iop=13∨iop=14∨iop=16:=by unfold readsB at hrd;simp only [Bool.or_eq_true,beq_iff_eq] at hrd;omega
  refine TB (vs:=[_,_]) Tryz.func200 fun w0 F=>?_
  repeat' (first|refine St.halt 21 ?_|refine Ga ?_|(refine Gb ?_;intro b)|(refine Dr 10 [(0,0),(1,0),(2,1),(3,0),(4,0),(5,0),(6,1),(7,0),(8,1),(9,1),(10,0),(11,0),(12,0),(13,0),(14,0)] [] ?_)|refine Gl hwd ?_|refine Gl hat16 ?_|refine Gl hat11 ?_|refine Gl hget ?_|(refine Ge ?_ ?_<;>intro h<;>try omega)|fail)
  all_goals exact Halt.go (St.conv (hrtl oad ocp t r rfl hl hn hll hroom hw hnl ⟨iop,ia,ib,ic,imm⟩ hi ho2 ((H:Int) - 1) (0:Int) (by omega) (by omega) hrx _ _ _ w0 F) Sub.go Ent.go)
 | none =>
  rw [hm] at hget;dsimp only [Option.isSome,Option.getD] at hget⊢;rw [if_neg (fun e=>e.elim (fun e=>Bool.noConfusion e) (fun e=>Bool.noConfusion e.1))]
  by_cases hrd:readsB iop=true
  ·rw [if_pos hrd]
   have ho2:iop=11∨iop=12:=by unfold readsB at hrd;simp only [Bool.or_eq_true,beq_iff_eq] at hrd;exact hrd
   have hR:=hR ho2 xroom;obtain ⟨k1,k2⟩:=rrd_keep c os xroom (i:=⟨iop,ia,ib,ic,imm⟩) ho2 r ((H:Int) - 1) (0:Int) t;show Tri _ _ _ _ (RunO c q _ _ (rrd c os xroom ⟨iop,ia,ib,ic,imm⟩ r ((H:Int) - 1) (0:Int) t).1 (rrd c os xroom ⟨iop,ia,ib,ic,imm⟩ r ((H:Int) - 1) (0:Int) t).2 id);generalize rrd c os xroom ⟨iop,ia,ib,ic,imm⟩ r ((H:Int) - 1) (0:Int) t=y at hR k1 k2⊢;obtain ⟨t3,r3⟩:=y;unfold Ins.v at hR;dsimp only at hR k1 k2⊢;refine RunO.same (r:=r) rfl hl hn k1 k2 ?_
   refine TB (vs:=[_,_]) Tryz.func200 fun w0 F=>?_
   repeat' (first|refine Ga ?_|(refine Gb ?_;intro b)|refine Gl hwd ?_|(refine Ge ?_ ?_<;>intro h<;>try omega)|fail)
   all_goals exact St.d1 Tryz.func200 ⟨_,⟨rfl,rfl⟩,Ent.go⟩
  rw [if_neg hrd,if_neg Bool.false_ne_true]
  have ho2:iop=13∨iop=14∨iop=16:=by unfold readsB at hrd;simp only [Bool.or_eq_true,beq_iff_eq] at hrd;omega
  unfold Rr.after;generalize rlive c os r.v ((H:Int) - 1) t=y at hlv⊢;obtain ⟨t2,v2,s⟩:=y;dsimp only at hlv⊢;obtain ⟨v,nt,nl,puts,regs,pc,steps,writes,news,s0,er,vl⟩:=r;obtain ⟨who,seq,held,stale⟩:=v2;obtain ⟨ta2,⟨ak2,oa2,⟨ov2a,os2a⟩,⟨nv2b,ns2b⟩⟩,tn2⟩:=t2;obtain ⟨who0,seq0,held0,stale0⟩:=v;obtain ⟨ta,⟨ak,oa,⟨ova,osa⟩,⟨nvb,nsb⟩⟩,tn⟩:=t;unfold rvV tpV Cfg.v at hlv;dsimp only [List.cons_append,List.nil_append] at hlv hget hrx hll hw hnl hl hn hwd⊢
  by_cases h1:s=1
  ·rw [if_pos h1]
   refine TB (vs:=[_,_]) Tryz.func200 fun w0 F=>?_
   repeat' (first|refine St.halt 21 ?_|refine Ga ?_|(refine Gb ?_;intro b)|(refine Dr 10 [(0,0),(1,0),(2,1),(3,0),(4,0),(5,0),(6,1),(7,0),(8,1),(9,1),(10,0),(11,0),(12,0),(13,0),(14,0)] [] ?_)|refine Gl hwd ?_|refine Gl hat16 ?_|refine Gl hat11 ?_|refine Gl hget ?_|refine Gl hlv ?_|(refine Ge ?_ ?_<;>intro h<;>try omega)|fail)
   all_goals exact Halt.go (St.conv (hrtl oad ocp ⟨ta2,⟨ak2,oa2,⟨ov2a,os2a⟩,⟨nv2b,ns2b⟩⟩,tn2⟩ ⟨⟨who,seq,held,stale⟩,nt,nl,puts,regs,pc,steps,writes,news,s0,er,vl⟩ rfl hl hn hll hroom hw hnl ⟨iop,ia,ib,ic,imm⟩ hi ho2 ((H:Int) - 1) (0:Int) (by omega) (by omega) hrx _ _ _ w0 F) Sub.go Ent.go)
  ·rw [if_neg h1]
   have hen:=rends_r c oad os.length ocp ⟨xna,xnn,xnc,xma,xmn,xmc,xwt,xwl,xnt,xnl,xroom,xsa,puts.length,xsc⟩ wad news.length wcp ⟨ta2,⟨ak2,oa2,⟨ov2a,os2a⟩,⟨nv2b,ns2b⟩⟩,tn2⟩ ⟨⟨who,seq,held,stale⟩,nt,nl,puts,regs,pc,steps,writes,news,s0,er,vl⟩ s;obtain ⟨k1,k2⟩:=ends_keep ⟨⟨who,seq,held,stale⟩,nt,nl,puts,regs,pc,steps,writes,news,s0,er,vl⟩ s;refine RunO.same (r:=⟨⟨who,seq,held,stale⟩,nt,nl,puts,regs,pc,steps,writes,news,s0,er,vl⟩) rfl hl hn k1 k2 ?_
   refine TB (vs:=[_,_]) Tryz.func200 fun w0 F=>?_
   repeat' (first|refine Ga ?_|(refine Gb ?_;intro b)|(refine Dr 10 [(0,0),(1,0),(2,1),(3,0),(4,0),(5,0),(6,1),(7,0),(8,1),(9,1),(10,0),(11,0),(12,0),(13,0),(14,0)] [] ?_)|refine Gl hwd ?_|refine Gl hat16 ?_|refine Gl hat11 ?_|refine Gl hget ?_|refine Gl hlv ?_|refine Gl hen ?_|(refine Ge ?_ ?_<;>intro h<;>try omega)|fail)
   all_goals exact St.d1 Tryz.func200 ⟨_,⟨rfl,rfl⟩,Ent.go⟩
set_option maxHeartbeats 8000000 in
theorem rtouch_b {q:HProp}{ov:Value}{os:List Out}(hov:ListR Out.v q ov os)(hos:os.length≤100000){c:Cfg}(hc:Small c)(x:Px)(wad:Option Addr)(wcp:Nat)(t:Tp)(ht:t.at_≤100000)(r:Rr)(hxs:x.sn=r.puts.length)(hl:ListR entV q (.slice x.sa x.sn x.sc) r.puts)(hn:ListR u1V q (.slice wad r.news.length wcp) r.news)(hll:r.puts.length≤900000)(hroom:x.room≤1000000)(hrg:r.regs.length=16)(hw:0≤r.writes∧r.writes≤1000000)(hnl:0≤r.nl∧r.nl≤1000000)
  (iop ia ib ic:Int) (imm:Nat) (ha0:0≤ia) (ha1:ia<16) (hb0:0≤ib) (hb1:ib<16) (hc0:0≤ic) (hc1:ic<16) (ho:iop=11∨iop=12∨iop=13∨iop=14) :
  Tri Tryz.prog 200 #[.agg ⟨rnV c ov x (.slice wad r.news.length wcp) t r⟩, .agg ⟨[.int .i64 iop, .int .i64 ia, .int .i64 ib, .int .i64 ic, .int .u64 (imm:Int)]⟩] [q] (RunO c q ov x (rtouch c os x.room ⟨iop,ia,ib,ic,imm⟩ r t).1 (rtouch c os x.room ⟨iop,ia,ib,ic,imm⟩ r t).2 id):=by
 have hb64:=hc.b1;have hbb0:=hc.b0
 have hi:InsOk ⟨iop,ia,ib,ic,imm⟩:=⟨ha0,ha1,hb0,hb1,hc0,hc1⟩
 have hwd:=word6_r ⟨iop,ia,ib,ic,imm⟩ r.regs hrg hc0 hc1;unfold Ins.v at hwd;dsimp only at hwd;rw [← g16_eq hrg] at hwd;have hrx:=rblk_eq c ⟨iop,ia,ib,ic,imm⟩ r.regs (rreg r.regs ib) ((if iop=12∨iop=14 then rreg r.regs ic else imm)) (by dsimp only;first|exact (if_pos ho).symm|exact (if_neg (show ¬ iop=16 by omega)).symm) (by dsimp only;first|exact (if_pos ho).symm|exact (if_neg (show ¬ iop=16 by omega)).symm)
 have hrtl:=fun oad ocp=>touch_tail hc oad os.length ocp x wad wcp (q:=q)
 obtain ⟨xna,xnn,xnc,xma,xmn,xmc,xwt,xwl,xnt,xnl,xroom,xsa,xsn,xsc⟩:=x;dsimp only at hxs hl hroom hrtl⊢;subst hxs;have hR:=rreads_r hov hos hc ⟨xna,xnn,xnc,xma,xmn,xmc,xwt,xwl,xnt,xnl,xroom,xsa,r.puts.length,xsc⟩ wad r.news.length wcp t ht r hl (by omega) hrg ⟨iop,ia,ib,ic,imm⟩ hi
 have hlv:=fun b hb=>rvlive_r hov hos hc r.v t ht b hb
 obtain ⟨oad,ocp,rfl,_⟩:=id hov;have hra:=rn_reg c (.slice oad os.length ocp) ⟨xna,xnn,xnc,xma,xmn,xmc,xwt,xwl,xnt,xnl,xroom,xsa,r.puts.length,xsc⟩ (.slice wad r.news.length wcp) t r ha0 ha1;have hrb:=rn_reg c (.slice oad os.length ocp) ⟨xna,xnn,xnc,xma,xmn,xmc,xwt,xwl,xnt,xnl,xroom,xsa,r.puts.length,xsc⟩ (.slice wad r.news.length wcp) t r hb0 hb1;have hf:=rfails_r c oad os.length ocp ⟨xna,xnn,xnc,xma,xmn,xmc,xwt,xwl,xnt,xnl,xroom,xsa,r.puts.length,xsc⟩ wad r.news.length wcp t r 44;unfold rtouch;have hgw:((r.regs.getD ic.toNat 0:Nat):Int)=((rreg r.regs ic:Nat):Int):=rfl
 by_cases hbad:rreg r.regs ib<1∨c.blocks<((rreg r.regs ib:Nat):Int)∨8≤(if iop=12∨iop=14 then rreg r.regs ic else imm)
 ·rw [if_pos hbad] at hrx
  rw [hrx,if_pos (.inl rfl)]
  refine TB (vs:=[_,_]) Tryz.func200 fun w0 F=>?_
  repeat' (first|refine Ga ?_|(refine Gb ?_;intro b)|refine Gl hwd ?_|refine Gl hf ?_|(refine Ge ?_ ?_<;>intro h<;>try omega)|fail)
  all_goals first|(exfalso;omega)|(exfalso;unfold rreg at *;omega)|skip
  all_goals exact St.d1 Tryz.func200 ⟨_,⟨q,xsa,xsc,wad,wcp,Gr.refl q,hl,hn,rfl,rfl⟩,Ent.go⟩
 rw [if_neg hbad] at hrx;rw [hrx];dsimp only;replace hwd:RTri Tryz.prog 260 #[.agg ⟨[.int .i64 iop, .int .i64 ia, .int .i64 ib, .int .i64 ic, .int .u64 (imm:Int)]⟩, .agg ⟨g16 r.regs⟩] [] (.int .u64 (((if iop=12∨iop=14 then rreg r.regs ic else imm):Nat):Int)):=hwd;generalize (if iop=12∨iop=14 then rreg r.regs ic else imm)=W at *;generalize rreg r.regs ib=H at *;replace hrx:rblk c ⟨iop,ia,ib,ic,imm⟩ r.regs=((H:Int) - 1,(W:Int),true):=hrx;have hat16:=rat_r c hc 16 ((H:Int) - 1) (W:Int);have hat11:=rat_r c hc 11 ((H:Int) - 1) 0;have hget:=rget_r hl (by omega) (xroom:Int) (c.at 11 ((H:Int) - 1) 0)
 have hR:=fun ho room=>hR ho room ((H:Int) - 1) (W:Int) (by omega)
 have hlv:=hlv ((H:Int) - 1) (by omega)
 cases hm:mget (allP r.puts) (c.at 11 ((H:Int) - 1) 0) with
 | some y =>
  rw [hm] at hget;dsimp only [Option.isSome,Option.getD] at hget⊢
  by_cases hy:y≠1
  ·rw [if_pos (.inr ⟨rfl,hy⟩)]
   have hy2:¬ ((y:Nat):Int)=1:=by omega
   refine TB (vs:=[_,_]) Tryz.func200 fun w0 F=>?_
   repeat' (first|refine Ga ?_|(refine Gb ?_;intro b)|(refine Dr 10 [(0,0),(1,0),(2,1),(3,0),(4,0),(5,0),(6,1),(7,0),(8,1),(9,1),(10,0),(11,0),(12,0),(13,0),(14,0)] [] ?_)|refine Gl hwd ?_|refine Gl hat16 ?_|refine Gl hat11 ?_|refine Gl hget ?_|refine Gl hf ?_|(refine Ge ?_ ?_<;>intro h<;>try omega)|fail)
   all_goals exact St.d1 Tryz.func200 ⟨_,⟨q,xsa,xsc,wad,wcp,Gr.refl q,hl,hn,rfl,rfl⟩,Ent.go⟩
  rw [if_neg (fun e=>e.elim (fun e=>Bool.noConfusion e) (fun e=>hy e.2))]
  have hy1:y=1:=by omega
  subst hy1
  by_cases hrd:readsB iop=true
  ·rw [if_pos hrd]
   have ho2:iop=11∨iop=12:=by unfold readsB at hrd;simp only [Bool.or_eq_true,beq_iff_eq] at hrd;exact hrd
   have hR:=hR ho2 xroom;obtain ⟨k1,k2⟩:=rrd_keep c os xroom (i:=⟨iop,ia,ib,ic,imm⟩) ho2 r ((H:Int) - 1) (W:Int) t;show Tri _ _ _ _ (RunO c q _ _ (rrd c os xroom ⟨iop,ia,ib,ic,imm⟩ r ((H:Int) - 1) (W:Int) t).1 (rrd c os xroom ⟨iop,ia,ib,ic,imm⟩ r ((H:Int) - 1) (W:Int) t).2 id);generalize rrd c os xroom ⟨iop,ia,ib,ic,imm⟩ r ((H:Int) - 1) (W:Int) t=y at hR k1 k2⊢;obtain ⟨t3,r3⟩:=y;unfold Ins.v at hR;dsimp only at hR k1 k2⊢;refine RunO.same (r:=r) rfl hl hn k1 k2 ?_
   refine TB (vs:=[_,_]) Tryz.func200 fun w0 F=>?_
   repeat' (first|refine Ga ?_|(refine Gb ?_;intro b)|(refine Dr 10 [(0,0),(1,0),(2,1),(3,0),(4,0),(5,0),(6,1),(7,0),(8,1),(9,1),(10,0),(11,0),(12,0),(13,0),(14,0)] [] ?_)|refine Gl hwd ?_|refine Gl hat16 ?_|refine Gl hat11 ?_|refine Gl hget ?_|refine Gl hR ?_|(refine Ge ?_ ?_<;>intro h<;>try omega)|fail)
   all_goals exact St.d1 Tryz.func200 ⟨_,⟨rfl,rfl⟩,Ent.go⟩
  rw [if_neg hrd,if_pos rfl]
  have ho2:iop=13∨iop=14∨iop=16:=by unfold readsB at hrd;simp only [Bool.or_eq_true,beq_iff_eq] at hrd;omega
  refine TB (vs:=[_,_]) Tryz.func200 fun w0 F=>?_
  repeat' (first|refine St.halt 21 ?_|refine Ga ?_|(refine Gb ?_;intro b)|(refine Dr 10 [(0,0),(1,0),(2,1),(3,0),(4,0),(5,0),(6,1),(7,0),(8,1),(9,1),(10,0),(11,0),(12,0),(13,0),(14,0)] [] ?_)|refine Gl hwd ?_|refine Gl hat16 ?_|refine Gl hat11 ?_|refine Gl hget ?_|(refine Ge ?_ ?_<;>intro h<;>try omega)|fail)
  all_goals exact Halt.go (St.conv (hrtl oad ocp t r rfl hl hn hll hroom hw hnl ⟨iop,ia,ib,ic,imm⟩ hi ho2 ((H:Int) - 1) (W:Int) (by omega) (by omega) hrx _ _ _ w0 F) Sub.go Ent.go)
 | none =>
  rw [hm] at hget;dsimp only [Option.isSome,Option.getD] at hget⊢;rw [if_neg (fun e=>e.elim (fun e=>Bool.noConfusion e) (fun e=>Bool.noConfusion e.1))]
  by_cases hrd:readsB iop=true
  ·rw [if_pos hrd]
   have ho2:iop=11∨iop=12:=by unfold readsB at hrd;simp only [Bool.or_eq_true,beq_iff_eq] at hrd;exact hrd
   have hR:=hR ho2 xroom;obtain ⟨k1,k2⟩:=rrd_keep c os xroom (i:=⟨iop,ia,ib,ic,imm⟩) ho2 r ((H:Int) - 1) (W:Int) t;show Tri _ _ _ _ (RunO c q _ _ (rrd c os xroom ⟨iop,ia,ib,ic,imm⟩ r ((H:Int) - 1) (W:Int) t).1 (rrd c os xroom ⟨iop,ia,ib,ic,imm⟩ r ((H:Int) - 1) (W:Int) t).2 id);generalize rrd c os xroom ⟨iop,ia,ib,ic,imm⟩ r ((H:Int) - 1) (W:Int) t=y at hR k1 k2⊢;obtain ⟨t3,r3⟩:=y;unfold Ins.v at hR;dsimp only at hR k1 k2⊢;refine RunO.same (r:=r) rfl hl hn k1 k2 ?_
   refine TB (vs:=[_,_]) Tryz.func200 fun w0 F=>?_
   repeat' (first|refine Ga ?_|(refine Gb ?_;intro b)|(refine Dr 10 [(0,0),(1,0),(2,1),(3,0),(4,0),(5,0),(6,1),(7,0),(8,1),(9,1),(10,0),(11,0),(12,0),(13,0),(14,0)] [] ?_)|refine Gl hwd ?_|refine Gl hat16 ?_|refine Gl hat11 ?_|refine Gl hget ?_|refine Gl hR ?_|(refine Ge ?_ ?_<;>intro h<;>try omega)|fail)
   all_goals exact St.d1 Tryz.func200 ⟨_,⟨rfl,rfl⟩,Ent.go⟩
  rw [if_neg hrd,if_neg Bool.false_ne_true]
  have ho2:iop=13∨iop=14∨iop=16:=by unfold readsB at hrd;simp only [Bool.or_eq_true,beq_iff_eq] at hrd;omega
  unfold Rr.after;generalize rlive c os r.v ((H:Int) - 1) t=y at hlv⊢;obtain ⟨t2,v2,s⟩:=y;dsimp only at hlv⊢;obtain ⟨v,nt,nl,puts,regs,pc,steps,writes,news,s0,er,vl⟩:=r;obtain ⟨who,seq,held,stale⟩:=v2;obtain ⟨ta2,⟨ak2,oa2,⟨ov2a,os2a⟩,⟨nv2b,ns2b⟩⟩,tn2⟩:=t2;obtain ⟨who0,seq0,held0,stale0⟩:=v;obtain ⟨ta,⟨ak,oa,⟨ova,osa⟩,⟨nvb,nsb⟩⟩,tn⟩:=t;unfold rvV tpV Cfg.v at hlv;dsimp only [List.cons_append,List.nil_append] at hlv hget hrx hll hw hnl hl hn hwd⊢
  by_cases h1:s=1
  ·rw [if_pos h1]
   refine TB (vs:=[_,_]) Tryz.func200 fun w0 F=>?_
   repeat' (first|refine St.halt 21 ?_|refine Ga ?_|(refine Gb ?_;intro b)|(refine Dr 10 [(0,0),(1,0),(2,1),(3,0),(4,0),(5,0),(6,1),(7,0),(8,1),(9,1),(10,0),(11,0),(12,0),(13,0),(14,0)] [] ?_)|refine Gl hwd ?_|refine Gl hat16 ?_|refine Gl hat11 ?_|refine Gl hget ?_|refine Gl hlv ?_|(refine Ge ?_ ?_<;>intro h<;>try omega)|fail)
   all_goals exact Halt.go (St.conv (hrtl oad ocp ⟨ta2,⟨ak2,oa2,⟨ov2a,os2a⟩,⟨nv2b,ns2b⟩⟩,tn2⟩ ⟨⟨who,seq,held,stale⟩,nt,nl,puts,regs,pc,steps,writes,news,s0,er,vl⟩ rfl hl hn hll hroom hw hnl ⟨iop,ia,ib,ic,imm⟩ hi ho2 ((H:Int) - 1) (W:Int) (by omega) (by omega) hrx _ _ _ w0 F) Sub.go Ent.go)
  ·rw [if_neg h1]
   have hen:=rends_r c oad os.length ocp ⟨xna,xnn,xnc,xma,xmn,xmc,xwt,xwl,xnt,xnl,xroom,xsa,puts.length,xsc⟩ wad news.length wcp ⟨ta2,⟨ak2,oa2,⟨ov2a,os2a⟩,⟨nv2b,ns2b⟩⟩,tn2⟩ ⟨⟨who,seq,held,stale⟩,nt,nl,puts,regs,pc,steps,writes,news,s0,er,vl⟩ s;obtain ⟨k1,k2⟩:=ends_keep ⟨⟨who,seq,held,stale⟩,nt,nl,puts,regs,pc,steps,writes,news,s0,er,vl⟩ s;refine RunO.same (r:=⟨⟨who,seq,held,stale⟩,nt,nl,puts,regs,pc,steps,writes,news,s0,er,vl⟩) rfl hl hn k1 k2 ?_
   refine TB (vs:=[_,_]) Tryz.func200 fun w0 F=>?_
   repeat' (first|refine Ga ?_|(refine Gb ?_;intro b)|(refine Dr 10 [(0,0),(1,0),(2,1),(3,0),(4,0),(5,0),(6,1),(7,0),(8,1),(9,1),(10,0),(11,0),(12,0),(13,0),(14,0)] [] ?_)|refine Gl hwd ?_|refine Gl hat16 ?_|refine Gl hat11 ?_|refine Gl hget ?_|refine Gl hlv ?_|refine Gl hen ?_|(refine Ge ?_ ?_<;>intro h<;>try omega)|fail)
   all_goals exact St.d1 Tryz.func200 ⟨_,⟨rfl,rfl⟩,Ent.go⟩
end
theorem u1V_one (l:List Nat):(l.flatMap u1V).all one=true:=by
 induction l with
 | nil=>rfl
 | cons x l ih=>rw [List.flatMap_cons,List.all_append,ih];rfl
theorem OpOk.appendU {n':Fi}{E:Env}{L L1:List HProp}{ty:TypeId}{s x:Operand}{g0:Nat}{v:Value}{xs:List Nat}{q:HProp}(hl:ListR u1V q v xs)(hll:xs.length≤1000000)(hq:q∈L)(hv:ev E s=some (.slice (some ⟨g0,0,none⟩) 0 0))(hx:ev E x=some v)(ht:Take (bl g0 22 []) L L1) :
  OpOk Tryz.prog n' (.call { callee:=.builtin .append,args:=⟨[s,x]⟩,argTypes:=⟨[35,35]⟩ }) ty E L (fun v' L'=>∃ ad cap,v'=.slice ad xs.length cap∧L'=Row (.slice ad xs.length cap) 22 1 xs.length (xs.flatMap u1V)::L1):=by
 obtain ⟨ad,cap,rfl,hc,h⟩:=hl
 rcases h with h0|⟨b,o,l,rest,rfl,hr,hd⟩
 ·have hnil:xs=[]:=List.eq_nil_of_length_eq_zero h0
  subst hnil;unfold OpOk;intro d ps af g a w ha X hsat;have hr:=Ent.row_bl (b:=g0) (e:=22) (sz:=1) (n:=0) (l:=[]) (L:=L1++X) (by simp) (Nat.zero_le _);unfold Ent at hr;have hs0:=hr _ ((ht.app X).sat hsat);have hop:=OpOk.append0 (P:=Tryz.prog) (n':=n') (ty:=ty) (t:=35) (L:=Row (.slice (some ⟨g0,0,none⟩) 0 0) 22 1 0 []::L1) hv hx Take.here;unfold OpOk at hop;obtain ⟨v,w2,L',hrun,⟨h1,h2⟩,hs',ho'⟩:=hop d ps af g a w ha X hs0;exact ⟨v,w2,L',hrun,⟨_,_,h1,h2⟩,hs',ho'⟩
 ·have hlen:(xs.flatMap u1V).length=xs.length * 1:=flat_len u1V_len xs
  exact OpOk.appendC (r:=xs.flatMap u1V++rest) hv hx ht (readsC_mem hr hq) hd (by rw [← hlen];exact TakeN.app _ _) (u1V_one xs) rfl rfl (by omega) (by omega)
section
set_option maxHeartbeats 4000000 in
theorem rfresh_t {q:HProp}{ov:Value}{os:List Out}(hov:ListR Out.v q ov os)(hos:os.length≤100000){c:Cfg}(hc:Small c)(x:Px)(wad:Option Addr)(wcp:Nat)(t:Tp)(ht:t.at_≤100000)(r:Rr)(hxs:x.sn=r.puts.length)(hl:ListR entV q (.slice x.sa x.sn x.sc) r.puts)(hn:ListR u1V q (.slice wad r.news.length wcp) r.news)(hll:r.puts.length≤900000)(hroom:x.room≤1000000)(hrg:r.regs.length=16)(hw:0≤r.writes∧r.writes≤1000000)(hnt:0≤r.nt∧r.nt≤1000000)(hnw:r.news.length≤1000000)(i:Ins)(hi:InsOk i)(ho:i.op=15) :
  Tri Tryz.prog 199 #[.agg ⟨rnV c ov x (.slice wad r.news.length wcp) t r⟩, .agg ⟨i.v⟩] [q] (RunO c q ov x (rfresh c os x.room i r t).1 (rfresh c os x.room i r t).2 id):=by
 have hb64:=hc.b1;have hbb0:=hc.b0;have ha0:=hi.a0;have ha1:=hi.a1;obtain ⟨xna,xnn,xnc,xma,xmn,xmc,xwt,xwl,xnt,xnl,xroom,xsa,xsn,xsc⟩:=x;dsimp only at hxs hl hroom⊢;subst hxs;obtain ⟨iop,ia,ib,ic,imm⟩:=i;dsimp only at ha0 ha1 ho;subst ho
 have hfe0:=fun (r:Rr) (hl:ListR entV q (.slice xsa r.puts.length xsc) r.puts) (hll:r.puts.length≤1000000) a=>rfet_r hov hos hc ⟨xna,xnn,xnc,xma,xmn,xmc,xwt,xwl,xnt,xnl,xroom,xsa,r.puts.length,xsc⟩ wad r.news.length wcp t ht r hl hll a
 obtain ⟨oad,ocp,rfl,_⟩:=id hov;have hp:=rpay_r c oad os.length ocp ⟨xna,xnn,xnc,xma,xmn,xmc,xwt,xwl,xnt,xnl,xroom,xsa,r.puts.length,xsc⟩ wad r.news.length wcp t r hc hw 15;unfold rfresh Ins.v;dsimp only
 rcases pay_cases c r 15 with e|e
 ·rw [e] at hp⊢
  dsimp only at hp⊢;rw [if_neg Bool.false_ne_true]
  refine TB (vs:=[_,_]) Tryz.func199 fun w0 F=>?_
  repeat' (first|refine Ga ?_|(refine Gb ?_;intro b)|refine Gl hp ?_|fail)
  all_goals exact St.d1 Tryz.func199 ⟨_,⟨q,xsa,xsc,wad,wcp,Gr.refl q,hl,hn,rfl,rfl⟩,Ent.go⟩
 rw [e] at hp⊢;dsimp only at hp⊢;rw [if_pos rfl];have htop:=rtop_r hc xna xnn xnc xma xmn xmc xwt xwl r.nt r.nl (by omega) (by omega);unfold plV Cfg.v at htop;dsimp only [List.cons_append,List.nil_append] at htop
 by_cases hz:r.nt=0
 ·rw [if_pos hz]
  rw [if_pos hz,decide_eq_false (fun e=>e hz)] at htop;have hf:=rfails_r c oad os.length ocp ⟨xna,xnn,xnc,xma,xmn,xmc,xwt,xwl,xnt,xnl,xroom,xsa,r.puts.length,xsc⟩ wad r.news.length wcp t { r with writes:=r.writes+costs 15 } 43
  refine TB (vs:=[_,_]) Tryz.func199 fun w0 F=>?_
  repeat' (first|refine Ga ?_|(refine Gb ?_;intro b)|refine Gl hp ?_|refine Gl htop ?_|refine Gl hf ?_|fail)
  all_goals exact St.d1 Tryz.func199 ⟨_,⟨q,xsa,xsc,wad,wcp,Gr.refl q,hl,hn,rfl,rfl⟩,Ent.go⟩
 rw [if_neg hz];rw [if_neg hz,decide_eq_true hz] at htop;have hfe:=hfe0 { r with writes:=r.writes+costs 15 } hl (by dsimp only;omega) (c.at 13 (r.nt - 1) 0);rw [rfetch_fet]
 rcases rfet_cases c os { r with writes:=r.writes+costs 15 } (c.at 13 (r.nt - 1) 0) t with ⟨t3,v3,val,e3⟩|⟨t3,r3,e3,k1,k2⟩
 ·rw [e3] at hfe⊢
  dsimp only at hfe⊢;rw [if_pos rfl]
  have hgo:∀ r3:Rr,r3.goOn c xroom ⟨15,ia,ib,ic,imm⟩ val=r3.taken c xroom ia val:=fun r3=>by
   unfold Rr.goOn;rw [if_neg (show ¬ ((15:Int)=9∨(15:Int)=11∨(15:Int)=12) by decide),if_pos rfl]
  rw [hgo];unfold Rr.taken
  by_cases hbv:c.blocks≤(val:Int)
  ·rw [if_pos hbv]
   have hf:=rfails_r c oad os.length ocp ⟨xna,xnn,xnc,xma,xmn,xmc,xwt,xwl,xnt,xnl,xroom,xsa,r.puts.length,xsc⟩ wad r.news.length wcp t3 { r with v:=v3,writes:=r.writes+costs 15 } 43
   refine TB (vs:=[_,_]) Tryz.func199 fun w0 F=>?_
   repeat' (first|refine Ga ?_|(refine Gb ?_;intro b)|refine Gl hp ?_|refine Gl htop ?_|refine Gl hfe ?_|refine Gl hf ?_|(refine Ge ?_ ?_<;>intro h<;>try omega)|fail)
   all_goals exact St.d1 Tryz.func199 ⟨_,⟨q,xsa,xsc,wad,wcp,Gr.refl q,hl,hn,rfl,rfl⟩,Ent.go⟩
  ·rw [if_neg hbv]
   have hta:=rtake_t hc hl (by omega) xroom hroom xna xnn xnc xma xmn xmc xwt xwl r.nt r.nl hnt val (by omega);dsimp only;generalize takeP c xroom r.nt r.puts val=y at hta⊢;obtain ⟨nt',puts'⟩:=y;unfold plV Cfg.v at hta;dsimp only [List.cons_append,List.nil_append] at hta⊢
   refine TB (vs:=[_,_]) Tryz.func199 fun w0 F=>?_
   repeat' (first|refine St.halt 13 ?_|refine Ga ?_|(refine Gb ?_;intro b)|refine Gl hp ?_|refine Gl htop ?_|refine Gl hfe ?_|(refine Gt hta ?_;rintro _ _ ⟨q',ad',n',cap',hgr,hl',rfl,rfl⟩)|(refine Ge ?_ ?_<;>intro h<;>try omega)|fail)
   obtain ⟨ad2,cap2,e2,_⟩:=id hl'
   injection e2 with e2a e2b e2c
   subst e2b;have hn':=hn.gr hgr;refine Halt.go ?_
   have hset:=fun (nv:Value)=>rn_set c (.slice oad os.length ocp) ⟨xna,xnn,xnc,xma,xmn,xmc,xwt,xwl,xnt,xnl,xroom,ad',puts'.length,cap'⟩ nv t3 ⟨v3,nt',r.nl,puts',r.regs,r.pc,r.steps,r.writes+costs 15,r.news,r.s,r.er,r.val⟩ hrg ha0 ha1 (val+1)
   repeat' (first|refine Ga ?_|(refine Gb ?_;intro b)|fail)
   (apply StL.ok;(apply OpOk.appendU hn' hnw;(simp);rfl;rfl;(focus (repeat first|exact Take.here|apply Take.there)));rfl;rintro _ _ ⟨ad1,cap1,rfl,rfl⟩)
   repeat' (first|refine St.halt 14 ?_|refine Ga ?_|(refine Gb ?_;intro b)|(refine Gc ?_;intro ad cap)|fail)
   refine Halt.go ?_
   have e1:((val+1:Nat):Int)=(val:Int)+1:=by omega
   have e2:(r.news++[val+1]).length=r.news.length+1:=by rw [List.length_append];rfl
   have hset:=hset (.slice ad (r.news.length+1) cap);rw [e1] at hset
   repeat' (first|refine Ga ?_|fail)
   rw [show (r.news.flatMap u1V++[Value.int .u64 ((val:Int)+1)])=(r.news++[val+1]).flatMap u1V by rw [List.flatMap_append];rfl,← e2]
   refine St.rowL rfl fun R hR=>?_
   refine St.conv ?_ (Sub.refl _) (Ent.trans (Ent.of_take (p:=q') Take.go) (Ent.star_in [q',R]));exact St.d1 Tryz.func199 ⟨_,⟨star [q',R],ad',cap',ad,cap,hgr.trans (Gr.star R q'),hl'.gr (Gr.star R q'),hR.weak fun b l h=>RdC.star (L:=[q',R]) (List.mem_cons_of_mem _ (List.mem_cons_self ..)) h,rfl,rfl⟩,Ent.go⟩
 ·rw [e3] at hfe⊢
  dsimp only at hfe k1 k2⊢;rw [if_neg Bool.false_ne_true];refine RunO.same (r:=r) rfl hl hn k1 k2 ?_
  refine TB (vs:=[_,_]) Tryz.func199 fun w0 F=>?_
  repeat' (first|refine Ga ?_|(refine Gb ?_;intro b)|refine Gl hp ?_|refine Gl htop ?_|refine Gl hfe ?_|fail)
  all_goals exact St.d1 Tryz.func199 ⟨_,⟨rfl,rfl⟩,Ent.go⟩
end
section
theorem rcell_at2 {os:List Out}(hos:os.length≤100000){t:Tp}(ht:t.at_≤100000)(c:Cfg)(v:Rv)(a:Int):(rcell c os v a t).1.at_≤100000:=by
 unfold rcell;split
 ·exact ht
 split
 ·exact ht
 ·exact rload_at hos ht _ _
theorem rword_at {os:List Out}(hos:os.length≤100000){t:Tp}(ht:t.at_≤100000)(c:Cfg)(v:Rv)(b w:Int):(rword c os v b w t).1.at_≤100000:=by
 unfold rword;split
 ·exact ht
 split
 ·exact ht
 split
 ·exact rlive_at hos ht _ _ _
 ·exact rload_at hos (rlive_at hos ht _ _ _) _ _
theorem rstep_at {os:List Out}(hos:os.length≤100000){t:Tp}(ht:t.at_≤100000)(c:Cfg)(room:Nat)(code:List Ins)(args:List Nat)(r:Rr):(rstep c os room code args r t).1.at_≤100000:=by
 have hf:∀ i r a,(rfetch c os room i r a t).1.at_≤100000:=fun i r a=>by
  unfold rfetch;split
  ·exact ht
  ·exact rcell_at2 hos ht _ _ _
 unfold rstep;split
 ·exact ht
 unfold rdoes;split
 ·exact ht
 split
 ·exact ht
 split
 ·exact ht
 split
 ·exact ht
 split
 ·unfold rroot
  split
  ·exact ht
  split
  ·exact ht
  ·exact hf _ _ _
 split
 ·unfold rtouch
  split
  ·exact ht
  split
  ·split
   ·exact ht
   ·exact rword_at hos ht _ _ _ _
  split
  ·exact ht
  ·exact rlive_at hos ht _ _ _
 split
 ·unfold rfresh
  split
  ·split
   ·exact ht
   ·exact hf _ _ _
  ·exact ht
 ·exact ht
end
section
set_option maxHeartbeats 8000000 in
theorem rstep_t {q:HProp}{ov:Value}{os:List Out}(hov:ListR Out.v q ov os)(hos:os.length≤100000){c:Cfg}(hc:Small c)(x:Px)(wad:Option Addr)(wcp:Nat)(t:Tp)(ht:t.at_≤100000)(r:Rr)(hxs:x.sn=r.puts.length)(hl:ListR entV q (.slice x.sa x.sn x.sc) r.puts)(hn:ListR u1V q (.slice wad r.news.length wcp) r.news)(hroom:x.room≤1000000)(N:Nat)(hN:N≤800000)(nt0 nl0:Int)(hn0:nt0≤1000)(hn1:0≤nl0∧nl0≤1000)(hfu:c.fuel≤1000)
  (code:List Ins) (cv:Value) (hcode:rightB code=true) (hcv:InsR q cv code) (args:List Nat) (ha4:args.length=4) (h:RI c code.length N nt0 nl0 r) (hs:r.s=0) :
  Tri Tryz.prog 119 #[.agg ⟨rnV c ov x (.slice wad r.news.length wcp) t r⟩,cv, .agg ⟨g4 args⟩] [q] (RunO c q ov x (rstep c os x.room code args r t).1 (rstep c os x.room code args r t).2 id):=by
 have hst:=h.st;have hwr:=h.wr;have hnw:=h.news;have hntb:=h.nt;have hnlb:=h.nl;have hlen:=h.len;have hp1:=h.pc1 hs;have hp0:=h.pc0;obtain ⟨hcl0,hcl1,hat⟩:=right_at hcode
 have hk:r.pc.toNat<code.length:=by omega
 have hat:=hat r.pc.toNat hk
 have hg:code.getD r.pc.toNat ins0=code[r.pc.toNat]:=by rw [List.getD_eq_getElem?_getD];simp [hk]
 obtain ⟨cad,ccp,rfl,hr⟩:=hcv;obtain ⟨ib9,io9,il9,il1,rfl,hrd,hdr,htk5⟩:=InsR.at hr r.pc.toNat hk;rw [show (((r.pc.toNat:Nat):Int))=r.pc by omega] at hdr;unfold rstep
 have hroot:=fun i hi ho=>rroot_t hov hos hc x wad wcp t ht { r with steps:=r.steps+1,pc:=r.pc+1 } hxs hl hn (by dsimp only;omega) hroom h.regs (by dsimp only;omega) i hi ho
 have hfre:=fun i hi ho=>rfresh_t hov hos hc x wad wcp t ht { r with steps:=r.steps+1,pc:=r.pc+1 } hxs hl hn (by dsimp only;omega) hroom h.regs (by dsimp only;omega) (by dsimp only;omega) (by dsimp only;omega) i hi ho
 have hta:=fun iop ia ib ic imm=>rtouch_a hov hos hc x wad wcp t ht { r with steps:=r.steps+1,pc:=r.pc+1 } hxs hl hn (by dsimp only;omega) hroom h.regs (by dsimp only;omega) (by dsimp only;omega) iop ia ib ic imm
 have htb:=fun iop ia ib ic imm=>rtouch_b hov hos hc x wad wcp t ht { r with steps:=r.steps+1,pc:=r.pc+1 } hxs hl hn (by dsimp only;omega) hroom h.regs (by dsimp only;omega) (by dsimp only;omega) iop ia ib ic imm
 obtain ⟨oad,ocp,rfl,_⟩:=id hov
 by_cases hfl:c.fuel≤r.steps
 ·rw [if_pos hfl]
  have hf:=rfails_r c oad os.length ocp x wad r.news.length wcp t r 41;obtain ⟨xna,xnn,xnc,xma,xmn,xmc,xwt,xwl,xnt,xnl,xroom,xsa,xsn,xsc⟩:=x;dsimp only at hxs;subst hxs
  refine TB (vs:=[_,_,_]) Tryz.func119 fun w0 F=>?_
  repeat' (first|refine Ga ?_|(refine Gb ?_;intro b)|refine Gl hf ?_|(refine Ge ?_ ?_<;>intro h<;>try omega)|fail)
  all_goals exact St.d1 Tryz.func119 ⟨_,⟨q,xsa,xsc,wad,wcp,Gr.refl q,hl,hn,rfl,rfl⟩,Ent.go⟩
 rw [if_neg hfl,hg];generalize code[r.pc.toNat]=i at *;obtain ⟨iop,ia,ib,ic,imm⟩:=i;obtain ⟨⟨ha0,ha1,hb0,hb1,hc0,hc1⟩,hop0,hop1,hgo,hback,harg,hnext⟩:=hat;dsimp only at ha0 ha1 hb0 hb1 hc0 hc1 hop0 hop1 hgo hback harg hnext
 have hiok:InsOk ⟨iop,ia,ib,ic,imm⟩:=⟨ha0,ha1,hb0,hb1,hc0,hc1⟩
 unfold Ins.v at htk5;dsimp only at htk5;have hra:NthN _ _ (Value.int .u64 ((rreg r.regs ia:Nat):Int)):=rn_reg c (.slice oad os.length ocp) x (.slice wad r.news.length wcp) t { r with steps:=r.steps+1,pc:=r.pc+1 } ha0 ha1;unfold rdoes;dsimp only
 by_cases h17:iop=17
 ·rw [if_pos h17]
  have him:=hgo (.inl h17);obtain ⟨xna,xnn,xnc,xma,xmn,xmc,xwt,xwl,xnt,xnl,xroom,xsa,xsn,xsc⟩:=x;dsimp only at hxs;subst hxs
  refine TB (vs:=[_,_,_]) Tryz.func119 fun w0 F=>?_
  repeat' (first|refine Ga ?_|(refine Gb ?_;intro b)|(refine Ge ?_ ?_<;>intro h<;>try omega)|fail)
  all_goals exact St.d1 Tryz.func119 ⟨_,⟨q,xsa,xsc,wad,wcp,Gr.refl q,hl,hn,rfl,rfl⟩,Ent.go⟩
 rw [if_neg h17]
 by_cases h18:iop=18∨iop=19
 ·rw [if_pos h18]
  have him:imm<code.length:=h18.elim (fun h=>hgo (.inr h)) hback;obtain ⟨xna,xnn,xnc,xma,xmn,xmc,xwt,xwl,xnt,xnl,xroom,xsa,xsn,xsc⟩:=x;dsimp only at hxs;subst hxs
  by_cases hz:rreg r.regs ia=0
  ·by_cases h1:iop=18
   ·subst h1
    have e:(((rreg r.regs ia:Nat):Int) == 0)=((18:Int) == 18):=by rw [hz];rfl
    rw [if_pos e]
    refine TB (vs:=[_,_,_]) Tryz.func119 fun w0 F=>?_
    repeat' (first|refine Ga ?_|(refine Gb ?_;intro b)|(refine Ge ?_ ?_<;>intro h<;>try omega)|fail)
    all_goals exact St.d1 Tryz.func119 ⟨_,⟨q,xsa,xsc,wad,wcp,Gr.refl q,hl,hn,rfl,rfl⟩,Ent.go⟩
   ·have h2:iop=19:=by omega
    subst h2
    have e:¬ (((rreg r.regs ia:Nat):Int) == 0)=((19:Int) == 18):=by rw [hz];decide
    rw [if_neg e]
    refine TB (vs:=[_,_,_]) Tryz.func119 fun w0 F=>?_
    repeat' (first|refine Ga ?_|(refine Gb ?_;intro b)|(refine Ge ?_ ?_<;>intro h<;>try omega)|fail)
    all_goals exact St.d1 Tryz.func119 ⟨_,⟨q,xsa,xsc,wad,wcp,Gr.refl q,hl,hn,rfl,rfl⟩,Ent.go⟩
  ·have hzb:(((rreg r.regs ia:Nat):Int) == 0)=false:=beq_eq_false_iff_ne.2 (by omega)
   by_cases h1:iop=18
   ·subst h1
    have e:¬ (((rreg r.regs ia:Nat):Int) == 0)=((18:Int) == 18):=by rw [hzb];decide
    rw [if_neg e]
    refine TB (vs:=[_,_,_]) Tryz.func119 fun w0 F=>?_
    repeat' (first|refine Ga ?_|(refine Gb ?_;intro b)|(refine Ge ?_ ?_<;>intro h<;>try omega)|fail)
    all_goals exact St.d1 Tryz.func119 ⟨_,⟨q,xsa,xsc,wad,wcp,Gr.refl q,hl,hn,rfl,rfl⟩,Ent.go⟩
   ·have h2:iop=19:=by omega
    subst h2
    have e:(((rreg r.regs ia:Nat):Int) == 0)=((19:Int) == 18):=by rw [hzb];rfl
    rw [if_pos e]
    refine TB (vs:=[_,_,_]) Tryz.func119 fun w0 F=>?_
    repeat' (first|refine Ga ?_|(refine Gb ?_;intro b)|(refine Ge ?_ ?_<;>intro h<;>try omega)|fail)
    all_goals exact St.d1 Tryz.func119 ⟨_,⟨q,xsa,xsc,wad,wcp,Gr.refl q,hl,hn,rfl,rfl⟩,Ent.go⟩
 rw [if_neg h18]
 by_cases h20:iop=20
 ·rw [if_pos h20]
  obtain ⟨xna,xnn,xnc,xma,xmn,xmc,xwt,xwl,xnt,xnl,xroom,xsa,xsn,xsc⟩:=x;dsimp only at hxs;subst hxs;have hra:NthN _ _ (Value.int .u64 ((rreg r.regs ia:Nat):Int)):=rn_reg c (.slice oad os.length ocp) ⟨xna,xnn,xnc,xma,xmn,xmc,xwt,xwl,xnt,xnl,xroom,xsa,r.puts.length,xsc⟩ (.slice wad r.news.length wcp) t { r with steps:=r.steps+1,pc:=r.pc+1,s:=1 } ha0 ha1
  refine TB (vs:=[_,_,_]) Tryz.func119 fun w0 F=>?_
  repeat' (first|refine Ga ?_|(refine Gb ?_;intro b)|(refine Ge ?_ ?_<;>intro h<;>try omega)|fail)
  all_goals exact St.d1 Tryz.func119 ⟨_,⟨q,xsa,xsc,wad,wcp,Gr.refl q,hl,hn,rfl,rfl⟩,Ent.go⟩
 rw [if_neg h20]
 by_cases h21:iop=21
 ·rw [if_pos h21]
  have hf:=rfails_r c oad os.length ocp x wad r.news.length wcp t { r with steps:=r.steps+1,pc:=r.pc+1,val:=imm } 40;obtain ⟨xna,xnn,xnc,xma,xmn,xmc,xwt,xwl,xnt,xnl,xroom,xsa,xsn,xsc⟩:=x;dsimp only at hxs;subst hxs
  refine TB (vs:=[_,_,_]) Tryz.func119 fun w0 F=>?_
  repeat' (first|refine Ga ?_|(refine Gb ?_;intro b)|refine Gl hf ?_|(refine Ge ?_ ?_<;>intro h<;>try omega)|fail)
  all_goals exact St.d1 Tryz.func119 ⟨_,⟨q,xsa,xsc,wad,wcp,Gr.refl q,hl,hn,rfl,rfl⟩,Ent.go⟩
 rw [if_neg h21]
 by_cases h9:iop=9∨iop=10
 ·rw [if_pos h9]
  have hro:=hroot ⟨iop,ia,ib,ic,imm⟩ hiok h9
  refine TB (vs:=[_,_,_]) Tryz.func119 fun w0 F=>?_
  repeat' (first|refine Ga ?_|(refine Gb ?_;intro b)|(refine Gt hro ?_;rintro _ _ ⟨q',sa',sc',wa',wc',hgr,hl',hn',rfl,rfl⟩)|(refine Ge ?_ ?_<;>intro h<;>try omega)|fail)
  all_goals exact St.d1 Tryz.func119 ⟨_,⟨q',sa',sc',wa',wc',hgr,hl',hn',rfl,rfl⟩,Ent.go⟩
 rw [if_neg h9]
 by_cases h11:iop=11∨iop=12∨iop=13∨iop=14∨iop=16
 ·rw [if_pos h11]
  by_cases h16:iop=16
  ·have hto:=hta iop ia ib ic imm ha0 ha1 hb0 hb1 hc0 hc1 h16
   refine TB (vs:=[_,_,_]) Tryz.func119 fun w0 F=>?_
   repeat' (first|refine Ga ?_|(refine Gb ?_;intro b)|(refine Gt hto ?_;rintro _ _ ⟨q',sa',sc',wa',wc',hgr,hl',hn',rfl,rfl⟩)|(refine Ge ?_ ?_<;>intro h<;>try omega)|fail)
   all_goals exact St.d1 Tryz.func119 ⟨_,⟨q',sa',sc',wa',wc',hgr,hl',hn',rfl,rfl⟩,Ent.go⟩
  ·have hto:=htb iop ia ib ic imm ha0 ha1 hb0 hb1 hc0 hc1 (by omega)
   refine TB (vs:=[_,_,_]) Tryz.func119 fun w0 F=>?_
   repeat' (first|refine Ga ?_|(refine Gb ?_;intro b)|(refine Gt hto ?_;rintro _ _ ⟨q',sa',sc',wa',wc',hgr,hl',hn',rfl,rfl⟩)|(refine Ge ?_ ?_<;>intro h<;>try omega)|fail)
   all_goals exact St.d1 Tryz.func119 ⟨_,⟨q',sa',sc',wa',wc',hgr,hl',hn',rfl,rfl⟩,Ent.go⟩
 rw [if_neg h11]
 by_cases h15:iop=15
 ·rw [if_pos h15]
  have hfr:=hfre ⟨iop,ia,ib,ic,imm⟩ hiok h15
  refine TB (vs:=[_,_,_]) Tryz.func119 fun w0 F=>?_
  repeat' (first|refine Ga ?_|(refine Gb ?_;intro b)|(refine Gt hfr ?_;rintro _ _ ⟨q',sa',sc',wa',wc',hgr,hl',hn',rfl,rfl⟩)|(refine Ge ?_ ?_<;>intro h<;>try omega)|fail)
  all_goals exact St.d1 Tryz.func119 ⟨_,⟨q',sa',sc',wa',wc',hgr,hl',hn',rfl,rfl⟩,Ent.go⟩
 rw [if_neg h15];have hrk:=reckon6_r ⟨iop,ia,ib,ic,imm⟩ r.regs args ⟨hb0,hb1,hc0,hc1,h.regs,ha4,by dsimp only;omega⟩ hop0 (by dsimp only;omega) harg h.rv;rw [← g16_eq h.regs,← g4_eq ha4] at hrk;unfold Ins.v at hrk;dsimp only at hrk;obtain ⟨xna,xnn,xnc,xma,xmn,xmc,xwt,xwl,xnt,xnl,xroom,xsa,xsn,xsc⟩:=x;dsimp only at hxs;subst hxs;have hset:=rn_set c (.slice oad os.length ocp) ⟨xna,xnn,xnc,xma,xmn,xmc,xwt,xwl,xnt,xnl,xroom,xsa,r.puts.length,xsc⟩ (.slice wad r.news.length wcp) t { r with steps:=r.steps+1,pc:=r.pc+1 } h.regs ha0 ha1 (reckon ⟨iop,ia,ib,ic,imm⟩ r.regs args);generalize reckon ⟨iop,ia,ib,ic,imm⟩ r.regs args=v at hrk hset⊢
 refine TB (vs:=[_,_,_]) Tryz.func119 fun w0 F=>?_
 repeat' (first|refine Ga ?_|(refine Gb ?_;intro b)|(refine Dr 15 [(0,0),(1,1),(2,1),(3,0),(4,1),(5,1),(6,1),(7,0),(8,0),(9,3)] [9] ?_)|refine Gl hrk ?_|(refine Ge ?_ ?_<;>intro h<;>try omega)|fail)
 all_goals exact St.d1 Tryz.func119 ⟨_,⟨q,xsa,xsc,wad,wcp,Gr.refl q,hl,hn,rfl,rfl⟩,Ent.go⟩
end
end Go.Proofs.YthmbgodcpgkkeaaGreat
