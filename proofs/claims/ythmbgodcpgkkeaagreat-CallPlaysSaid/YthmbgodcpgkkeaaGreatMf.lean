/-
  Package tumblerref11: fails, ends, pay, put, fetch. Package tumblerref11: root, reads. Package tumblerref11: reads, touch.
-/
import Derived.Test.YthmbgodcpgkkeaaGreatHe
import Derived.Test.YthmbgodcpgkkeaaGreatLl
set_option maxRecDepth 100000
namespace Go.Proofs.YthmbgodcpgkkeaaGreat
section
variable (c:Cfg)(oad:Option Addr)(oln ocp:Nat)(x:Px)(wad:Option Addr)(wln wcp:Nat)(t:Tp)(r:Rr)
theorem rfails_r (e:Int):RTri Tryz.prog 118 #[.agg ⟨rnV c (.slice oad oln ocp) x (.slice wad wln wcp) t r⟩, .int .i64 e] [] (.agg ⟨rnV c (.slice oad oln ocp) x (.slice wad wln wcp) t (r.fails e)⟩):=by
 apply RTri.of_pure
 refine TB (vs:=[_,_]) Tryz.func118 fun w0 F=>?_
 repeat' (first|refine Ga ?_|(refine Gb ?_;intro b)|fail)
 all_goals exact St.d1 Tryz.func118 ⟨_,⟨rfl,rfl⟩,Ent.go⟩
theorem rends_r (s:Int):RTri Tryz.prog 263 #[.agg ⟨rnV c (.slice oad oln ocp) x (.slice wad wln wcp) t r⟩, .int .i64 s] [] (.agg ⟨rnV c (.slice oad oln ocp) x (.slice wad wln wcp) t (r.ends s)⟩):=by
 apply RTri.of_pure;have hf:=rfails_r c oad oln ocp x wad wln wcp t r 44;unfold Rr.ends
 by_cases h3:s=3
 ·rw [if_pos h3]
  refine TB (vs:=[_,_]) Tryz.func263 fun w0 F=>?_
  repeat' (first|refine Ga ?_|(refine Gb ?_;intro b)|refine Gl hf ?_|(refine Ge ?_ ?_<;>intro h<;>try omega)|fail)
  all_goals first|(exfalso;omega)|exact St.d1 Tryz.func263 ⟨_,⟨rfl,rfl⟩,Ent.go⟩
 ·rw [if_neg h3]
  refine TB (vs:=[_,_]) Tryz.func263 fun w0 F=>?_
  repeat' (first|refine Ga ?_|(refine Gb ?_;intro b)|(refine Ge ?_ ?_<;>intro h<;>try omega)|fail)
  all_goals first|(exfalso;omega)|exact St.d1 Tryz.func263 ⟨_,⟨rfl,rfl⟩,Ent.go⟩
theorem rpay_r (hc:Small c)(hw:0≤r.writes∧r.writes≤1000000)(op:Int):RTri Tryz.prog 255 #[.agg ⟨rnV c (.slice oad oln ocp) x (.slice wad wln wcp) t r⟩, .int .i64 op] [] (.tuple ⟨[.agg ⟨rnV c (.slice oad oln ocp) x (.slice wad wln wcp) t (r.pay c op).1⟩, .bool (r.pay c op).2]⟩):=by
 apply RTri.of_pure;have hcw:=hc.w0;have hcw1:=hc.w1;have hco:=costs_le op;have hf:=rfails_r c oad oln ocp x wad wln wcp t r 42;have hwr:=writes5_r op;unfold Rr.pay
 by_cases h:c.writes - r.writes<costs op
 ·rw [if_pos h]
  refine TB (vs:=[_,_]) Tryz.func255 fun w0 F=>?_
  repeat' (first|refine Ga ?_|(refine Gb ?_;intro b)|refine Gl hf ?_|refine Gl hwr ?_|(refine Ge ?_ ?_<;>intro h<;>try omega)|fail)
  all_goals first|(exfalso;omega)|exact St.d1 Tryz.func255 ⟨_,⟨rfl,rfl⟩,Ent.go⟩
 ·rw [if_neg h]
  refine TB (vs:=[_,_]) Tryz.func255 fun w0 F=>?_
  repeat' (first|refine Ga ?_|(refine Gb ?_;intro b)|refine Gl hwr ?_|(refine Ge ?_ ?_<;>intro h<;>try omega)|fail)
  all_goals first|(exfalso;omega)|exact St.d1 Tryz.func255 ⟨_,⟨rfl,rfl⟩,Ent.go⟩
end
def rfet (c:Cfg)(os:List Out)(r:Rr)(a:Int)(t:Tp):Tp×(Rr×Nat×Bool):=match mget (allP r.puts) a with
 | some val=>(t,(r,val,true))
 | none=>((rcell c os r.v a t).1,if (rcell c os r.v a t).2.2.2=1 then ({ r with v:=(rcell c os r.v a t).2.1 },(rcell c os r.v a t).2.2.1,true) else (Rr.ends { r with v:=(rcell c os r.v a t).2.1 } (rcell c os r.v a t).2.2.2,0,false))
section
set_option maxHeartbeats 1000000 in
theorem rfet_r {q:HProp}{ov:Value}{os:List Out}(hov:ListR Out.v q ov os)(hos:os.length≤100000){c:Cfg}(hc:Small c)(x:Px)(wad:Option Addr)(wln wcp:Nat)(t:Tp)(ht:t.at_≤100000)(r:Rr)(hl:ListR entV q (.slice x.sa x.sn x.sc) r.puts)(hll:r.puts.length≤1000000)(a:Int):RTri Tryz.prog 257 #[.agg ⟨rnV c ov x (.slice wad wln wcp) t r⟩, .int .i64 a] [q]
  (.tuple ⟨[.agg ⟨rnV c ov x (.slice wad wln wcp) (rfet c os r a t).1 (rfet c os r a t).2.1⟩, .int .u64 ((rfet c os r a t).2.2.1:Int), .bool (rfet c os r a t).2.2.2]⟩):=by
 have hget:=rget_r hl hll (x.room:Int) a;have hce:=rvcell_r hov hos hc r.v t ht a
 refine RTri.of_reads fun p1 hp=>?_
 replace hget:=hget.of_read hp;replace hce:=hce.of_read hp;obtain ⟨oad,ocp,rfl,_⟩:=id hov;unfold rfet
 cases hm:mget (allP r.puts) a with
 | some y =>
  rw [hm] at hget;dsimp only [Option.isSome,Option.getD] at hget⊢
  refine TB (vs:=[_,_]) Tryz.func257 fun w0 F=>?_
  repeat' (first|refine Ga ?_|(refine Gb ?_;intro b)|refine Gl hget ?_|fail)
  all_goals first|(exfalso;omega)|exact St.d1 Tryz.func257 ⟨_,⟨rfl,rfl⟩,Ent.go⟩
 | none =>
  rw [hm] at hget;dsimp only [Option.isSome,Option.getD] at hget⊢;generalize rcell c os r.v a t=y at hce⊢;obtain ⟨t2,v2,val,s⟩:=y;obtain ⟨who,seq,held,stale⟩:=v2;obtain ⟨ta2,⟨ak2,oa2,⟨ov2a,os2a⟩,⟨nv2b,ns2b⟩⟩,tn2⟩:=t2;obtain ⟨v,nt,nl,puts,regs,pc,steps,writes,news,s0,er,vl⟩:=r;obtain ⟨who0,seq0,held0,stale0⟩:=v;obtain ⟨ta,⟨ak,oa,⟨ova,osa⟩,⟨nvb,nsb⟩⟩,tn⟩:=t;obtain ⟨xna,xnn,xnc,xma,xmn,xmc,xwt,xwl,xnt,xnl,xroom,xsa,xsn,xsc⟩:=x;unfold rvV tpV Cfg.v at hce;dsimp only [List.cons_append,List.nil_append] at hce hget⊢
  by_cases h1:s=1
  ·rw [if_pos h1]
   refine TB (vs:=[_,_]) Tryz.func257 fun w0 F=>?_
   repeat' (first|refine Ga ?_|(refine Gb ?_;intro b)|refine Gl hget ?_|refine Gl hce ?_|(refine Ge ?_ ?_<;>intro h<;>try omega)|fail)
   all_goals first|(exfalso;omega)|exact St.d1 Tryz.func257 ⟨_,⟨rfl,rfl⟩,Ent.go⟩
  ·rw [if_neg h1]
   have hen:=rends_r c oad os.length ocp ⟨xna,xnn,xnc,xma,xmn,xmc,xwt,xwl,xnt,xnl,xroom,xsa,xsn,xsc⟩ wad wln wcp ⟨ta2,⟨ak2,oa2,⟨ov2a,os2a⟩,⟨nv2b,ns2b⟩⟩,tn2⟩ ⟨⟨who,seq,held,stale⟩,nt,nl,puts,regs,pc,steps,writes,news,s0,er,vl⟩ s
   refine TB (vs:=[_,_]) Tryz.func257 fun w0 F=>?_
   repeat' (first|refine Ga ?_|(refine Gb ?_;intro b)|refine Gl hget ?_|refine Gl hce ?_|refine Gl hen ?_|(refine Ge ?_ ?_<;>intro h<;>try omega)|fail)
   all_goals first|(exfalso;omega)|exact St.d1 Tryz.func257 ⟨_,⟨rfl,rfl⟩,Ent.go⟩
end
set_option maxHeartbeats 1000000 in
theorem rput11_t {q:HProp}{c:Cfg}(oad:Option Addr)(oln ocp:Nat)(x:Px)(wad:Option Addr)(wcp:Nat)(t:Tp)(r:Rr)(hl:ListR entV q (.slice x.sa x.sn x.sc) r.puts)(hn:ListR u1V q (.slice wad r.news.length wcp) r.news)(hll:r.puts.length≤1000000)(hroom:x.room≤1000000)(a:Int)(v:Nat) :
  Tri Tryz.prog 256 #[.agg ⟨rnV c (.slice oad oln ocp) x (.slice wad r.news.length wcp) t r⟩, .int .i64 a, .int .u64 (v:Int)] [q] (RunO c q (.slice oad oln ocp) x t { r with puts:=putP x.room r.puts a v } id):=by
 have hp:=rputS_t hl hll x.room hroom a v;obtain ⟨rv,nt,nl,puts,regs,pc,steps,writes,news,s0,er,vl⟩:=r;obtain ⟨xna,xnn,xnc,xma,xmn,xmc,xwt,xwl,xnt,xnl,xroom,xsa,xsn,xsc⟩:=x;dsimp only at hl hn hll hroom hp⊢
 refine TB (vs:=[_,_,_]) Tryz.func256 fun w0 F=>?_
 repeat' (first|refine Ga ?_|(refine Gb ?_;intro b)|(refine Gt hp ?_;rintro _ _ ⟨q',ad',n',cap',hg,hl',rfl,rfl⟩)|fail)
 obtain ⟨ad2,cap2,e2,_⟩:=id hl'
 injection e2 with e2a e2b e2c
 subst e2b
 all_goals exact St.d1 Tryz.func256 ⟨_,⟨q',ad',cap',wad,wcp,hg,hl',hn.gr hg,rfl,rfl⟩,Ent.go⟩
theorem ends_keep (r:Rr)(s:Int):(r.ends s).puts=r.puts∧(r.ends s).news=r.news:=by
 unfold Rr.ends Rr.fails;split<;>exact ⟨rfl,rfl⟩
theorem pay_cases (c:Cfg)(r:Rr)(op:Int):r.pay c op=(r.fails 42,false)∨r.pay c op=({ r with writes:=r.writes+costs op },true):=by
 unfold Rr.pay;split
 ·exact .inl rfl
 ·exact .inr rfl
theorem rfet_cases (c:Cfg)(os:List Out)(r:Rr)(a:Int)(t:Tp):(∃ t3 v3 val,rfet c os r a t=(t3,({ r with v:=v3 },val,true)))∨(∃ t3 r3,rfet c os r a t=(t3,(r3,0,false))∧r3.puts=r.puts∧r3.news=r.news):=by
 unfold rfet
 cases mget (allP r.puts) a with
 | some y=>exact .inl ⟨t,r.v,y,rfl⟩
 | none =>
  dsimp only
  by_cases h:(rcell c os r.v a t).2.2.2=1
  ·rw [if_pos h];exact .inl ⟨_,_,_,rfl⟩
  ·rw [if_neg h]
   obtain ⟨k1,k2⟩:=ends_keep { r with v:=(rcell c os r.v a t).2.1 } (rcell c os r.v a t).2.2.2;exact .inr ⟨_,_,rfl,k1,k2⟩
theorem rfetch_fet (c:Cfg)(os:List Out)(room:Nat)(i:Ins)(r:Rr)(a:Int)(t:Tp):rfetch c os room i r a t=((rfet c os r a t).1,if (rfet c os r a t).2.2.2=true then (rfet c os r a t).2.1.goOn c room i (rfet c os r a t).2.2.1 else (rfet c os r a t).2.1):=by
 unfold rfetch rfet
 cases mget (allP r.puts) a with
 | some y=>rfl
 | none =>
  unfold Rr.after;dsimp only
  by_cases h:(rcell c os r.v a t).2.2.2=1
  ·rw [if_pos h,if_pos h];rfl
  ·rw [if_neg h,if_neg h];rfl
theorem RunO.same {f:FuncId}{args:Array Value}{c:Cfg}{q:HProp}{ov:Value}{x:Px}{t:Tp}{r r':Rr}{wad:Option Addr}{wcp:Nat}(hxs:x.sn=r.puts.length)(hl:ListR entV q (.slice x.sa x.sn x.sc) r.puts)(hn:ListR u1V q (.slice wad r.news.length wcp) r.news)(k1:r'.puts=r.puts)(k2:r'.news=r.news)
  (h:Tri Tryz.prog f args [q] fun v L=>v=.agg ⟨rnV c ov x (.slice wad r.news.length wcp) t r'⟩∧L=[q]):Tri Tryz.prog f args [q] (RunO c q ov x t r' id):=by
 refine h.mono ?_;rintro v L ⟨rfl,rfl⟩;obtain ⟨xna,xnn,xnc,xma,xmn,xmc,xwt,xwl,xnt,xnl,xroom,xsa,xsn,xsc⟩:=x;dsimp only at hxs hl;subst hxs;exact ⟨q,xsa,xsc,wad,wcp,Gr.refl q,by rw [k1];exact hl,by rw [k2];exact hn,by rw [k1,k2];rfl,rfl⟩
section
set_option maxHeartbeats 2000000 in
theorem rroot_t {q:HProp}{ov:Value}{os:List Out}(hov:ListR Out.v q ov os)(hos:os.length≤100000){c:Cfg}(hc:Small c)(x:Px)(wad:Option Addr)(wcp:Nat)(t:Tp)(ht:t.at_≤100000)(r:Rr)(hxs:x.sn=r.puts.length)(hl:ListR entV q (.slice x.sa x.sn x.sc) r.puts)(hn:ListR u1V q (.slice wad r.news.length wcp) r.news)(hll:r.puts.length≤1000000)(hroom:x.room≤1000000)(hrg:r.regs.length=16)(hw:0≤r.writes∧r.writes≤1000000)(i:Ins)(hi:InsOk i)(ho:i.op=9∨i.op=10) :
  Tri Tryz.prog 198 #[.agg ⟨rnV c ov x (.slice wad r.news.length wcp) t r⟩, .agg ⟨i.v⟩] [q] (RunO c q ov x (rroot c os x.room i r t).1 (rroot c os x.room i r t).2 id):=by
 have ha0:=hi.a0;have ha1:=hi.a1;have hb0:=hi.b0;have hb1:=hi.b1;obtain ⟨xna,xnn,xnc,xma,xmn,xmc,xwt,xwl,xnt,xnl,xroom,xsa,xsn,xsc⟩:=x;dsimp only at hxs hl hroom⊢;subst hxs;obtain ⟨iop,ia,ib,ic,imm⟩:=i;dsimp only at ha0 ha1 hb0 hb1 ho;have hat:=rat_r c hc 10 (rreg r.regs ib) 0;have hfe:=rfet_r hov hos hc ⟨xna,xnn,xnc,xma,xmn,xmc,xwt,xwl,xnt,xnl,xroom,xsa,r.puts.length,xsc⟩ wad r.news.length wcp t ht r hl hll (c.at 10 (rreg r.regs ib) 0);obtain ⟨oad,ocp,rfl,_⟩:=id hov;have hrb:=rn_reg c (.slice oad os.length ocp) ⟨xna,xnn,xnc,xma,xmn,xmc,xwt,xwl,xnt,xnl,xroom,xsa,r.puts.length,xsc⟩ (.slice wad r.news.length wcp) t r hb0 hb1;unfold rroot Ins.v;dsimp only
 by_cases h16:16≤rreg r.regs ib
 ·rw [if_pos h16]
  have hf:=rfails_r c oad os.length ocp ⟨xna,xnn,xnc,xma,xmn,xmc,xwt,xwl,xnt,xnl,xroom,xsa,r.puts.length,xsc⟩ wad r.news.length wcp t r 44
  refine TB (vs:=[_,_]) Tryz.func198 fun w0 F=>?_
  repeat' (first|refine Ga ?_|(refine Gb ?_;intro b)|refine Gl hf ?_|(refine Ge ?_ ?_<;>intro h<;>try omega)|fail)
  all_goals exact St.d1 Tryz.func198 ⟨_,⟨q,xsa,xsc,wad,wcp,Gr.refl q,hl,hn,rfl,rfl⟩,Ent.go⟩
 rw [if_neg h16]
 by_cases h10:iop=10
 ·rw [if_pos h10]
  subst h10;have hp:=rpay_r c oad os.length ocp ⟨xna,xnn,xnc,xma,xmn,xmc,xwt,xwl,xnt,xnl,xroom,xsa,r.puts.length,xsc⟩ wad r.news.length wcp t r hc hw 10
  have hpt:=fun (w:Int)=>rput11_t (c:=c) oad os.length ocp ⟨xna,xnn,xnc,xma,xmn,xmc,xwt,xwl,xnt,xnl,xroom,xsa,r.puts.length,xsc⟩ wad wcp t { r with writes:=w } hl hn hll hroom (c.at 10 (rreg r.regs ib) 0) (rreg r.regs ia)
  have hra:=fun (w:Int)=>rn_reg c (.slice oad os.length ocp) ⟨xna,xnn,xnc,xma,xmn,xmc,xwt,xwl,xnt,xnl,xroom,xsa,r.puts.length,xsc⟩ (.slice wad r.news.length wcp) t { r with writes:=w } ha0 ha1
  rcases pay_cases c r 10 with e|e
  ·rw [e] at hp⊢
   dsimp only at hp⊢;rw [if_neg Bool.false_ne_true]
   refine TB (vs:=[_,_]) Tryz.func198 fun w0 F=>?_
   repeat' (first|refine Ga ?_|(refine Gb ?_;intro b)|refine Gl hat ?_|refine Gl hp ?_|(refine Ge ?_ ?_<;>intro h<;>try omega)|fail)
   all_goals exact St.d1 Tryz.func198 ⟨_,⟨q,xsa,xsc,wad,wcp,Gr.refl q,hl,hn,rfl,rfl⟩,Ent.go⟩
  ·rw [e] at hp⊢
   dsimp only at hp⊢;rw [if_pos rfl];have hpt:=hpt (r.writes+costs 10);have hra:NthN _ _ (Value.int .u64 ((rreg r.regs ia:Nat):Int)):=hra (r.writes+costs 10)
   refine TB (vs:=[_,_]) Tryz.func198 fun w0 F=>?_
   repeat' (first|refine Ga ?_|(refine Gb ?_;intro b)|(refine Dr 9 [(0,1),(1,0),(2,0),(3,1),(4,0),(5,0),(6,1),(7,3),(8,3)] [7,8] ?_)|refine Gl hat ?_|refine Gl hp ?_|(refine Gt hpt ?_;rintro _ _ ⟨q',sa',sc',wa',wc',hg,hl',hn',rfl,rfl⟩)|(refine Ge ?_ ?_<;>intro h<;>try omega)|fail)
   all_goals exact St.d1 Tryz.func198 ⟨_,⟨q',sa',sc',wa',wc',hg,hl',hn',rfl,rfl⟩,Ent.go⟩
 rw [if_neg h10];have h9:iop=9:=ho.resolve_right h10;subst h9;rw [rfetch_fet]
 rcases rfet_cases c os r (c.at 10 (rreg r.regs ib) 0) t with ⟨t3,v3,val,e⟩|⟨t3,r3,e,k1,k2⟩
 ·rw [e] at hfe⊢
  dsimp only at hfe⊢;rw [if_pos rfl];have hset:=rn_set c (.slice oad os.length ocp) ⟨xna,xnn,xnc,xma,xmn,xmc,xwt,xwl,xnt,xnl,xroom,xsa,r.puts.length,xsc⟩ (.slice wad r.news.length wcp) t3 { r with v:=v3 } hrg ha0 ha1 val
  refine TB (vs:=[_,_]) Tryz.func198 fun w0 F=>?_
  repeat' (first|refine Ga ?_|(refine Gb ?_;intro b)|refine Gl hat ?_|refine Gl hfe ?_|(refine Ge ?_ ?_<;>intro h<;>try omega)|fail)
  all_goals exact St.d1 Tryz.func198 ⟨_,⟨q,xsa,xsc,wad,wcp,Gr.refl q,hl,hn,rfl,rfl⟩,Ent.go⟩
 ·rw [e] at hfe⊢
  dsimp only at hfe⊢;rw [if_neg Bool.false_ne_true];refine RunO.same (r:=r) rfl hl hn k1 k2 ?_
  refine TB (vs:=[_,_]) Tryz.func198 fun w0 F=>?_
  repeat' (first|refine Ga ?_|(refine Gb ?_;intro b)|refine Gl hat ?_|refine Gl hfe ?_|(refine Ge ?_ ?_<;>intro h<;>try omega)|fail)
  all_goals exact St.d1 Tryz.func198 ⟨_,⟨rfl,rfl⟩,Ent.go⟩
end
def rrd (c:Cfg)(os:List Out)(room:Nat)(i:Ins)(r:Rr)(b w:Int)(t:Tp):Tp×Rr:=match mget (allP r.puts) (c.at 16 b w) with
 | some val=>(t,r.goOn c room i val)
 | none=>((rword c os r.v b w t).1,r.after c room i (rword c os r.v b w t).2)
theorem rrd_keep (c:Cfg)(os:List Out)(room:Nat){i:Ins}(ho:i.op=11∨i.op=12)(r:Rr)(b w:Int)(t:Tp):(rrd c os room i r b w t).2.puts=r.puts∧(rrd c os room i r b w t).2.news=r.news:=by
 have hgo:∀ (r:Rr) val,r.goOn c room i val={ r with regs:=r.regs.set i.a.toNat val }:=fun r val=>by
  unfold Rr.goOn;rw [if_pos (by omega)]
 unfold rrd;split
 ·dsimp only;rw [hgo];exact ⟨rfl,rfl⟩
 ·unfold Rr.after
  dsimp only;split
  ·rw [hgo];exact ⟨rfl,rfl⟩
  ·unfold Rr.ends Rr.fails
   split<;>exact ⟨rfl,rfl⟩
section
set_option maxHeartbeats 2000000 in
theorem rreads_r {q:HProp}{ov:Value}{os:List Out}(hov:ListR Out.v q ov os)(hos:os.length≤100000){c:Cfg}(hc:Small c)(x:Px)(wad:Option Addr)(wln wcp:Nat)(t:Tp)(ht:t.at_≤100000)(r:Rr)(hl:ListR entV q (.slice x.sa x.sn x.sc) r.puts)(hll:r.puts.length≤1000000)(hrg:r.regs.length=16)(i:Ins)(hi:InsOk i)(ho:i.op=11∨i.op=12)(room:Nat)(b w:Int)(hb9:b≤1000000) :
  RTri Tryz.prog 261 #[.agg ⟨rnV c ov x (.slice wad wln wcp) t r⟩, .agg ⟨i.v⟩, .int .i64 b, .int .i64 w, .int .i64 (c.at 16 b w)] [q]
  (.agg ⟨rnV c ov x (.slice wad wln wcp) (rrd c os room i r b w t).1 (rrd c os room i r b w t).2⟩):=by
 unfold rrd;have ha0:=hi.a0;have ha1:=hi.a1
 have hgo:∀ (r:Rr) val,r.goOn c room i val={ r with regs:=r.regs.set i.a.toNat val }:=fun r val=>by
  unfold Rr.goOn;rw [if_pos (by omega)]
 have hget:=rget_r hl hll (x.room:Int) (c.at 16 b w);have hwo:=rvword_r hov hos hc r.v t ht b w hb9
 have hset:=fun (t:Tp) (r2:Rr) (h:r2.regs.length=16) val=>rn_set c ov x (.slice wad wln wcp) t r2 h ha0 ha1 val
 refine RTri.of_reads fun p1 hp=>?_
 replace hget:=hget.of_read hp;replace hwo:=hwo.of_read hp;obtain ⟨oad,ocp,rfl,_⟩:=id hov;obtain ⟨iop,ia,ib,ic,imm⟩:=i;dsimp only at ha0 ha1 ho hgo hset;unfold Ins.v
 cases hm:mget (allP r.puts) (c.at 16 b w) with
 | some y =>
  rw [hm] at hget;have hset:=hset t r hrg y;dsimp only [Option.isSome,Option.getD] at hget⊢;rw [hgo]
  refine TB (vs:=[_,_,_,_,_]) Tryz.func261 fun w0 F=>?_
  repeat' (first|refine Ga ?_|(refine Gb ?_;intro b)|refine Gl hget ?_|fail)
  all_goals first|(exfalso;omega)|exact St.d1 Tryz.func261 ⟨_,⟨rfl,rfl⟩,Ent.go⟩
 | none =>
  rw [hm] at hget;dsimp only [Option.isSome,Option.getD] at hget⊢;unfold Rr.after;generalize rword c os r.v b w t=y at hwo⊢;obtain ⟨t2,v2,val,s⟩:=y;dsimp only at hwo⊢;obtain ⟨v,nt,nl,puts,regs,pc,steps,writes,news,s0,er,vl⟩:=r;have hset:=hset t2 ⟨v2,nt,nl,puts,regs,pc,steps,writes,news,s0,er,vl⟩ hrg val;obtain ⟨who,seq,held,stale⟩:=v2;obtain ⟨ta2,⟨ak2,oa2,⟨ov2a,os2a⟩,⟨nv2b,ns2b⟩⟩,tn2⟩:=t2;obtain ⟨who0,seq0,held0,stale0⟩:=v;obtain ⟨ta,⟨ak,oa,⟨ova,osa⟩,⟨nvb,nsb⟩⟩,tn⟩:=t;obtain ⟨xna,xnn,xnc,xma,xmn,xmc,xwt,xwl,xnt,xnl,xroom,xsa,xsn,xsc⟩:=x;unfold rvV tpV Cfg.v at hwo;dsimp only [List.cons_append,List.nil_append] at hwo hget⊢
  by_cases h1:s=1
  ·rw [if_pos h1,hgo]
   refine TB (vs:=[_,_,_,_,_]) Tryz.func261 fun w0 F=>?_
   repeat' (first|refine Ga ?_|(refine Gb ?_;intro b)|refine Gl hget ?_|refine Gl hwo ?_|(refine Ge ?_ ?_<;>intro h<;>try omega)|fail)
   all_goals first|(exfalso;omega)|exact St.d1 Tryz.func261 ⟨_,⟨rfl,rfl⟩,Ent.go⟩
  ·rw [if_neg h1]
   have hen:=rends_r c oad os.length ocp ⟨xna,xnn,xnc,xma,xmn,xmc,xwt,xwl,xnt,xnl,xroom,xsa,xsn,xsc⟩ wad wln wcp ⟨ta2,⟨ak2,oa2,⟨ov2a,os2a⟩,⟨nv2b,ns2b⟩⟩,tn2⟩ ⟨⟨who,seq,held,stale⟩,nt,nl,puts,regs,pc,steps,writes,news,s0,er,vl⟩ s
   refine TB (vs:=[_,_,_,_,_]) Tryz.func261 fun w0 F=>?_
   repeat' (first|refine Ga ?_|(refine Gb ?_;intro b)|refine Gl hget ?_|refine Gl hwo ?_|refine Gl hen ?_|(refine Ge ?_ ?_<;>intro h<;>try omega)|fail)
   all_goals first|(exfalso;omega)|exact St.d1 Tryz.func261 ⟨_,⟨rfl,rfl⟩,Ent.go⟩
set_option maxHeartbeats 4000000 in
theorem touch_tail {q:HProp}{c:Cfg}(hc:Small c)(oad:Option Addr)(oln ocp:Nat)(x:Px)(wad:Option Addr)(wcp:Nat)(t:Tp)(r:Rr)(hxs:x.sn=r.puts.length)(hl:ListR entV q (.slice x.sa x.sn x.sc) r.puts)(hn:ListR u1V q (.slice wad r.news.length wcp) r.news)(hll:r.puts.length≤900000)(hroom:x.room≤1000000)(hw:0≤r.writes∧r.writes≤1000000)(hnl:0≤r.nl∧r.nl≤1000000)(i:Ins)(hi:InsOk i)(ho:i.op=13∨i.op=14∨i.op=16)
  (b w:Int) (hb0:0≤b) (hb1:b≤1000) (hblk:rblk c i r.regs=(b,w,true)) (b2 b3 b4:Nat) (w0:World) (F:List HProp) :
  St Tryz.prog ⟨200,Tryz.f200,w0,RunO c q (.slice oad oln ocp) x t (r.goOn c x.room i 0) id,F,[]⟩ [.code (codeAt Tryz.f200 21)]
   [(2, .pointer (some ⟨b2,0,none⟩)),(3, .pointer (some ⟨b3,0,none⟩)),(4, .pointer (some ⟨b4,0,none⟩)),(7, .int .i64 b),(8, .int .i64 (c.at 16 b w))]
   (bl b2 75 (rnV c (.slice oad oln ocp) x (.slice wad r.news.length wcp) t r)::bl b3 200 i.v::bl b4 75 rn0::q::F):=by
 have ha0:=hi.a0;have ha1:=hi.a1;obtain ⟨xna,xnn,xnc,xma,xmn,xmc,xwt,xwl,xnt,xnl,xroom,xsa,xsn,xsc⟩:=x;dsimp only at hxs hl hroom⊢;subst hxs;unfold Rr.goOn;rw [if_neg (by omega),if_neg (by omega),hblk];dsimp only;have hp:=rpay_r c oad oln ocp ⟨xna,xnn,xnc,xma,xmn,xmc,xwt,xwl,xnt,xnl,xroom,xsa,r.puts.length,xsc⟩ wad r.news.length wcp t r hc hw i.op;obtain ⟨iop,ia,ib,ic,imm⟩:=i;dsimp only at ha0 ha1 ho hp⊢;unfold Ins.v
 rcases pay_cases c r iop with e|e
 ·rw [e] at hp⊢
  dsimp only at hp⊢;rw [if_neg Bool.false_ne_true,if_neg Bool.false_ne_true]
  have e0:(if iop=13∨iop=14 then r.fails 42 else if iop=16 then r.fails 42 else r)=r.fails 42:=by
   by_cases h:iop=13∨iop=14
   ·rw [if_pos h]
   ·rw [if_neg h,if_pos (by omega)]
  rw [e0]
  repeat' (first|refine Ga ?_|refine Gl hp ?_|fail)
  all_goals exact St.d1 Tryz.func200 ⟨_,⟨q,xsa,xsc,wad,wcp,Gr.refl q,hl,hn,rfl,rfl⟩,Ent.go⟩
 ·rw [e] at hp⊢
  dsimp only at hp⊢;rw [if_pos rfl,if_pos rfl]
  by_cases h16:iop=16
  ·subst h16
   rw [if_neg (by decide),if_pos rfl];have hg:=rgive_t hc hl (by omega) xroom hroom xna xnn xnc xma xmn xmc xwt xwl r.nt r.nl hnl b.toNat (by omega);have e:((b.toNat:Nat):Int)=b:=Int.toNat_of_nonneg hb0;rw [e] at hg;generalize giveP c xroom r.nl r.puts b.toNat=y at hg⊢;obtain ⟨nl',puts'⟩:=y;unfold plV Cfg.v at hg;dsimp only [List.cons_append,List.nil_append] at hg⊢
   repeat' (first|refine Ga ?_|refine Gl hp ?_|(refine Gt hg ?_;rintro _ _ ⟨q',ad',n',cap',hgr,hl',rfl,rfl⟩)|fail)
   obtain ⟨ad2,cap2,e2,_⟩:=id hl'
   injection e2 with e2a e2b e2c
   subst e2b
   all_goals exact St.d1 Tryz.func200 ⟨_,⟨q',ad',cap',wad,wcp,hgr,hl',hn.gr hgr,rfl,rfl⟩,Ent.go⟩
  ·rw [if_pos (show iop=13∨iop=14 by omega)]
   have hpt:=rput11_t (c:=c) oad oln ocp ⟨xna,xnn,xnc,xma,xmn,xmc,xwt,xwl,xnt,xnl,xroom,xsa,r.puts.length,xsc⟩ wad wcp t { r with writes:=r.writes+costs iop } hl hn (by dsimp only;omega) hroom (c.at 16 b w) (rreg r.regs ia);have hra:NthN _ _ (Value.int .u64 ((rreg r.regs ia:Nat):Int)):=rn_reg c (.slice oad oln ocp) ⟨xna,xnn,xnc,xma,xmn,xmc,xwt,xwl,xnt,xnl,xroom,xsa,r.puts.length,xsc⟩ (.slice wad r.news.length wcp) t { r with writes:=r.writes+costs iop } ha0 ha1
   repeat' (first|refine Ga ?_|(refine Dr 27 [(0,1),(1,0),(2,0),(3,1),(4,0),(5,0),(6,1),(7,3),(8,3)] [7,8] ?_)|refine Gl hp ?_|(refine Gt hpt ?_;rintro _ _ ⟨q',sa',sc',wa',wc',hg,hl',hn',rfl,rfl⟩)|(refine Ge ?_ ?_<;>intro h<;>try omega)|fail)
   all_goals exact St.d1 Tryz.func200 ⟨_,⟨q',sa',sc',wa',wc',hg,hl',hn',rfl,rfl⟩,Ent.go⟩
end
end Go.Proofs.YthmbgodcpgkkeaaGreat
