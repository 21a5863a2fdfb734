/-
  Package tumblerref10: put, Top, End. Package tumblerref10: Give, Take, names. Package tumblerref11, in plain terms: a program that runs, as far as replies go.
-/
import Derived.Test.YthmbgodcpgkkeaaGreatLl
import Derived.Test.YthmbgodcpgkkeaaGreatLb
set_option maxRecDepth 100000
namespace Go.Proofs.YthmbgodcpgkkeaaGreat
def plV (c:Cfg)(na:Option Addr)(nn nc:Nat)(ma:Option Addr)(mn mc:Nat)(wt wl nt nl:Int):List Value:=c.v++[.slice na nn nc, .slice ma mn mc, .int .i64 wt, .int .i64 wl, .int .i64 nt, .int .i64 nl]
theorem rput0_t {q:HProp}{lv:Value}{puts:List (Int×Nat)}(hl:ListR entV q lv puts)(hll:puts.length≤1000000)(room:Nat)(hroom:room≤1000000)(a:Int)(x:Nat):Tri Tryz.prog 114 #[.agg ⟨[.int .i64 (room:Int),lv]⟩, .int .i64 a, .int .u64 (x:Int)] [q]
  fun r L=>∃ q' ad n cap,Gr q q'∧ListR entV q' (.slice ad n cap) (putP room puts a x)∧r=.agg ⟨[.int .i64 (room:Int), .slice ad n cap]⟩∧L=[q']:=by
 have hput:=rput_t hl hll room hroom a x
 have hput:Tri Tryz.prog 190 #[.agg ⟨[.int .i64 (room:Int),lv]⟩, .int .i64 a, .int .u64 (x:Int)] [q]
   fun r L=>∃ q' ad n cap,Gr q q'∧ListR entV q' (.slice ad n cap) (putP room puts a x)∧r=.tuple ⟨[.agg ⟨[.int .i64 (room:Int), .slice ad n cap]⟩, .int .i64 (putR room puts a)]⟩∧L=[q']:=by
  refine hput.mono ?_;rintro r L ⟨q',lv',h1,h2,h3,h4⟩;obtain ⟨ad,cap,rfl,_⟩:=id h2;exact ⟨q',ad,_,cap,h1,h2,h3,h4⟩
 obtain ⟨lad,lcap,rfl,hlc,_⟩:=id hl
 refine TB (vs:=[_,_,_]) Tryz.func114 fun w0 F=>?_
 repeat' (first|refine Ga ?_|(refine Gb ?_;intro b)|(refine Gt hput ?_;rintro _ _ ⟨q',ad',n',cap',hg,hl',rfl,rfl⟩)|fail)
 exact St.d1 Tryz.func114 ⟨_,⟨q',_,_,_,hg,hl',rfl,rfl⟩,Ent.go⟩
theorem rputS_t {q:HProp}{lv:Value}{puts:List (Int×Nat)}(hl:ListR entV q lv puts)(hll:puts.length≤1000000)(room:Nat)(hroom:room≤1000000)(a:Int)(x:Nat):Tri Tryz.prog 190 #[.agg ⟨[.int .i64 (room:Int),lv]⟩, .int .i64 a, .int .u64 (x:Int)] [q]
  fun r L=>∃ q' ad n cap,Gr q q'∧ListR entV q' (.slice ad n cap) (putP room puts a x)∧r=.tuple ⟨[.agg ⟨[.int .i64 (room:Int), .slice ad n cap]⟩, .int .i64 (putR room puts a)]⟩∧L=[q']:=by
 refine (rput_t hl hll room hroom a x).mono ?_;rintro r L ⟨q',lv',h1,h2,h3,h4⟩;obtain ⟨ad,cap,rfl,_⟩:=id h2;exact ⟨q',ad,_,cap,h1,h2,h3,h4⟩
theorem putP_le (room:Nat)(puts:List (Int×Nat))(a:Int)(x:Nat):(putP room puts a x).length≤puts.length+1:=by
 unfold putP;split
 ·omega
 ·rw [List.length_append,List.length_singleton];omega
section
theorem rtop_r {c:Cfg}(hc:Small c)(na:Option Addr)(nn nc:Nat)(ma:Option Addr)(mn mc:Nat)(wt wl nt nl:Int)(h0:0≤nt)(h1:nt≤1000000):RTri Tryz.prog 258 #[.agg ⟨plV c na nn nc ma mn mc wt wl nt nl⟩] []
  (.tuple ⟨[.int .i64 (if nt=0 then -1 else c.at 13 (nt - 1) 0), .bool (decide (nt≠0))]⟩):=by
 have hat:=rat_r c hc 13 (nt - 1) 0;apply RTri.of_pure;unfold Cfg.v at hat;unfold plV Cfg.v;dsimp only [List.cons_append,List.nil_append]
 by_cases h:nt=0
 ·rw [if_pos h,decide_eq_false (fun e=>e h)]
  refine TB (vs:=[_]) Tryz.func258 fun w0 F=>?_
  repeat' (first|refine Ga ?_|(refine Gb ?_;intro b)|(refine Ge ?_ ?_<;>intro h<;>try omega)|fail)
  all_goals first|(exfalso;omega)|exact St.d1 Tryz.func258 ⟨_,⟨rfl,rfl⟩,Ent.go⟩|skip
 ·rw [if_neg h,decide_eq_true h]
  refine TB (vs:=[_]) Tryz.func258 fun w0 F=>?_
  repeat' (first|refine Ga ?_|(refine Gb ?_;intro b)|refine Gl hat ?_|(refine Ge ?_ ?_<;>intro h<;>try omega)|fail)
  all_goals first|(exfalso;omega)|exact St.d1 Tryz.func258 ⟨_,⟨rfl,rfl⟩,Ent.go⟩|skip
set_option maxHeartbeats 2000000 in
theorem rend_t {c:Cfg}(hc:Small c){q:HProp}{lv:Value}{puts:List (Int×Nat)}(hl:ListR entV q lv puts)(hll:puts.length+2≤1000000)(room:Nat)(hroom:room≤1000000)(na:Option Addr)(nn nc:Nat)(ma:Option Addr)(mn mc:Nat)(p:Po)(ht0:0≤p.nt∧p.nt≤1000000)(hl0:0≤p.nl∧p.nl≤1000000):Tri Tryz.prog 129 #[.agg ⟨plV c na nn nc ma mn mc p.wt p.wl p.nt p.nl⟩, .agg ⟨[.int .i64 (room:Int),lv]⟩] [q]
  fun r L=>∃ q' ad n cap,Gr q q'∧ListR entV q' (.slice ad n cap) (endP c room p puts)∧r=.agg ⟨[.int .i64 (room:Int), .slice ad n cap]⟩∧L=[q']:=by
 have hat12:=rat_r c hc 12 0 0;have hat14:=rat_r c hc 14 0 0;have hp1:=rput0_t hl (by omega) room hroom (c.at 12 0 0) p.nt.toNat;have hlp:=putP_le room puts (c.at 12 0 0) p.nt.toNat
 have e1:((p.nt.toNat:Nat):Int)=p.nt:=by omega
 have e2:((p.nl.toNat:Nat):Int)=p.nl:=by omega
 rw [e1] at hp1
 have hp2:=fun {q':HProp} {lv':Value} {puts':List (Int×Nat)} (h':ListR entV q' lv' puts') (hb:puts'.length≤1000000)=>rput0_t h' hb room hroom (c.at 14 0 0) p.nl.toNat
 simp only [e2] at hp2;obtain ⟨lad,lcap,rfl,hlc,_⟩:=id hl;unfold Cfg.v at hat12 hat14;unfold plV Cfg.v endP;obtain ⟨seq,u,nms,wt,wl,nt,nl,lim,s⟩:=p;dsimp only [List.cons_append,List.nil_append] at *
 by_cases ha:nt=wt
 ·rw [if_pos ha]
  have hp3:=hp2 hl (by omega)
  by_cases hb:nl=wl
  ·rw [if_pos hb]
   refine TB (vs:=[_,_]) Tryz.func129 fun w0 F=>?_
   repeat' (first|refine Ga ?_|(refine Gb ?_;intro b)|(refine Ge ?_ ?_<;>intro h<;>try omega)|fail)
   exact St.d1 Tryz.func129 ⟨_,⟨q,_,_,_,Gr.refl q,hl,rfl,rfl⟩,Ent.go⟩
  ·rw [if_neg hb]
   refine TB (vs:=[_,_]) Tryz.func129 fun w0 F=>?_
   repeat' (first|refine Ga ?_|(refine Gb ?_;intro b)|(refine Dr 4 [(0,1),(1,0),(2,1),(3,1),(4,0),(5,1),(6,0),(7,3),(8,3)] [7,8] ?_)|refine Gl hat14 ?_|(refine Gt hp3 ?_;rintro _ _ ⟨q',ad',n',cap',hg,hl',rfl,rfl⟩)|(refine Ge ?_ ?_<;>intro h<;>try omega)|fail)
   exact St.d1 Tryz.func129 ⟨_,⟨q',_,_,_,hg,hl',rfl,rfl⟩,Ent.go⟩
 ·rw [if_neg ha]
  by_cases hb:nl=wl
  ·rw [if_pos hb]
   refine TB (vs:=[_,_]) Tryz.func129 fun w0 F=>?_
   repeat' (first|refine Ga ?_|(refine Gb ?_;intro b)|(refine Dr 2 [(0,1),(1,0),(2,1),(3,1),(4,0),(5,1),(6,0),(7,3),(8,3)] [7,8] ?_)|refine Gl hat12 ?_|(refine Gt hp1 ?_;rintro _ _ ⟨q',ad',n',cap',hg,hl',rfl,rfl⟩)|(refine Ge ?_ ?_<;>intro h<;>try omega)|fail)
   exact St.d1 Tryz.func129 ⟨_,⟨q',_,_,_,hg,hl',rfl,rfl⟩,Ent.go⟩
  ·rw [if_neg hb]
   refine TB (vs:=[_,_]) Tryz.func129 fun w0 F=>?_
   repeat' (first|refine St.halt 3 ?_|refine Ga ?_|(refine Gb ?_;intro b)|(refine Dr 2 [(0,1),(1,0),(2,1),(3,1),(4,0),(5,1),(6,0),(7,3),(8,3)] [7,8] ?_)|refine Gl hat12 ?_|(refine Gt hp1 ?_;rintro _ _ ⟨q',ad',n',cap',hg,hl',rfl,rfl⟩)|(refine Ge ?_ ?_<;>intro h<;>try omega)|fail)
   have hp3:=hp2 hl' (by omega);refine Halt.go ?_
   repeat' (first|refine Ga ?_|(refine Dr 4 [(0,1),(1,0),(2,1),(3,1),(4,0),(5,1),(6,0),(7,3),(8,3)] [7,8] ?_)|refine Gl hat14 ?_|(refine Gt hp3 ?_;rintro _ _ ⟨q2',ad2',n2',cap2',hg2,hl2',rfl,rfl⟩)|(refine Ge ?_ ?_<;>intro h<;>try omega)|fail)
   exact St.d1 Tryz.func129 ⟨_,⟨q2',_,_,_,hg.trans hg2,hl2',rfl,rfl⟩,Ent.go⟩
end
def u1V (x:Nat):List Value:=[.int .u64 (x:Int)]
theorem u1V_len (x:Nat):(u1V x).length=1:=rfl
section
set_option maxHeartbeats 2000000 in
theorem rgive_t {c:Cfg}(hc:Small c){q:HProp}{lv:Value}{puts:List (Int×Nat)}(hl:ListR entV q lv puts)(hll:puts.length+2≤1000000)(room:Nat)(hroom:room≤1000000)(na:Option Addr)(nn nc:Nat)(ma:Option Addr)(mn mc:Nat)(wt wl nt nl:Int)(h0:0≤nl∧nl≤1000000)(B:Nat)(hb:B≤1000000):Tri Tryz.prog 264 #[.agg ⟨plV c na nn nc ma mn mc wt wl nt nl⟩, .agg ⟨[.int .i64 (room:Int),lv]⟩, .int .i64 (B:Int)] [q]
  fun r L=>∃ q' ad n cap,Gr q q'∧ListR entV q' (.slice ad n cap) (giveP c room nl puts B).2∧r=.tuple ⟨[.agg ⟨plV c na nn nc ma mn mc wt wl nt (giveP c room nl puts B).1⟩, .agg ⟨[.int .i64 (room:Int), .slice ad n cap]⟩]⟩∧L=[q']:=by
 have hlim:=rlimit_r c hc;have hat11:=rat_r c hc 11 B 0;have hat15:=rat_r c hc 15 nl 0;have hp1:=rput0_t hl (by omega) room hroom (c.at 11 B 0) 2;have hlp:=putP_le room puts (c.at 11 B 0) 2
 have hp2:=fun {q':HProp} {lv':Value} {puts':List (Int×Nat)} (h':ListR entV q' lv' puts') (hb:puts'.length≤1000000)=>rput0_t h' hb room hroom (c.at 15 nl 0) B
 have hk:=Cfg.kat11 hc B;obtain ⟨lad,lcap,rfl,hlc,_⟩:=id hl;unfold Cfg.v at hat11 hat15 hlim;unfold plV Cfg.v giveP
 by_cases hgv:c.limit≤nl∨c.at 11 B 0 = -1
 ·rw [if_pos hgv]
  dsimp only [List.cons_append,List.nil_append]
  have hg2:c.limit≤nl∨c.blocks≤(B:Int):=by
   rcases hgv with hg|hg
   ·exact .inl hg
   ·refine .inr ?_
    by_cases h:c.blocks≤(B:Int)
    ·exact h
    ·exact absurd hg (hk.2 ⟨by omega,by omega⟩)
  refine TB (vs:=[_,_,_]) Tryz.func264 fun w0 F=>?_
  repeat' (first|refine Ga ?_|(refine Gb ?_;intro b)|(refine Dr 1 [(0,0),(1,1),(2,0),(3,1),(4,1),(5,0),(6,0),(7,0),(8,0),(9,0),(10,0),(11,0),(12,0),(13,0),(14,1),(15,0),(16,0)] [] ?_)|(refine Dt 2 [] (.pick [(0,3)] (.pick [(1,3),(2,3),(3,3)] .done (.pick [(2,3),(1,3),(3,3)] .done .nope)) (.pick [(1,3),(0,3),(2,3),(3,3)] .done .nope)) [0,1,2,3] ?_)|apply StD.pick|exact StD.nope|refine Gl hlim ?_|(refine StD.ok3 rfl (OpOk.ofW OpV.go) rfl ?_;rintro _ _ ⟨rfl,rfl⟩)|(refine Ge ?_ ?_<;>intro h<;>try omega)|fail)
  all_goals exact St.d1 Tryz.func264 ⟨_,⟨q,_,_,_,Gr.refl q,hl,rfl,rfl⟩,Ent.go⟩
 ·rw [if_neg hgv]
  dsimp only [List.cons_append,List.nil_append];have hb2:=hk.1 (fun e=>hgv (.inr e))
  have hg3:¬ c.limit≤nl:=fun e=>hgv (.inl e)
  refine TB (vs:=[_,_,_]) Tryz.func264 fun w0 F=>?_
  repeat' (first|refine St.halt 4 ?_|refine Ga ?_|(refine Gb ?_;intro b)|(refine Dr 1 [(0,0),(1,1),(2,0),(3,1),(4,1),(5,0),(6,0),(7,0),(8,0),(9,0),(10,0),(11,0),(12,0),(13,0),(14,1),(15,0),(16,0)] [] ?_)|(refine Dr 3 [(0,1),(1,0),(2,1),(3,0),(4,1),(5,3),(6,3)] [5,6] ?_)|refine Gl hlim ?_|refine Gl hat11 ?_|(refine Gt hp1 ?_;rintro _ _ ⟨q',ad',n',cap',hg,hl',rfl,rfl⟩)|(refine Ge ?_ ?_<;>intro h<;>try omega)|fail)
  have hp3:=hp2 hl' (by omega);refine Halt.go ?_
  repeat' (first|refine Ga ?_|(refine Dr 4 [(0,1),(1,0),(2,1),(3,0),(4,1),(5,1),(6,0),(7,0),(8,3),(9,3)] [8,9] ?_)|(refine Dt 6 [] (.pick [(0,3)] (.pick [(1,3),(2,3),(3,3)] .done (.pick [(2,3),(1,3),(3,3)] .done .nope)) (.pick [(1,3),(0,3),(2,3),(3,3)] .done .nope)) [0,1,2,3] ?_)|apply StD.pick|exact StD.nope|refine Gl hat15 ?_|(refine Gt hp3 ?_;rintro _ _ ⟨q2',ad2',n2',cap2',hg2,hl2',rfl,rfl⟩)|(refine StD.ok3 rfl (OpOk.ofW OpV.go) rfl ?_;rintro _ _ ⟨rfl,rfl⟩)|fail)
  all_goals exact St.d1 Tryz.func264 ⟨_,⟨q2',_,_,_,hg.trans hg2,hl2',rfl,rfl⟩,Ent.go⟩
set_option maxHeartbeats 2000000 in
theorem rtake_t {c:Cfg}(hc:Small c){q:HProp}{lv:Value}{puts:List (Int×Nat)}(hl:ListR entV q lv puts)(hll:puts.length+9≤1000000)(room:Nat)(hroom:room≤1000000)(na:Option Addr)(nn nc:Nat)(ma:Option Addr)(mn mc:Nat)(wt wl nt nl:Int)(h0:0≤nt∧nt≤1000000)(B:Nat)(hb:B≤1000000):Tri Tryz.prog 259 #[.agg ⟨plV c na nn nc ma mn mc wt wl nt nl⟩, .agg ⟨[.int .i64 (room:Int),lv]⟩, .int .i64 (B:Int)] [q]
  fun r L=>∃ q' ad n cap,Gr q q'∧ListR entV q' (.slice ad n cap) (takeP c room nt puts B).2∧r=.tuple ⟨[.agg ⟨plV c na nn nc ma mn mc wt wl (takeP c room nt puts B).1 nl⟩, .agg ⟨[.int .i64 (room:Int), .slice ad n cap]⟩]⟩∧L=[q']:=by
 have hat11:=rat_r c hc 11 B 0
 have hat16:=fun k=>rat_r c hc 16 B k
 have hp1:=rput0_t hl (by omega) room hroom (c.at 11 B 0) 1;have hk:=Cfg.kat11 hc B;obtain ⟨lad,lcap,rfl,hlc,_⟩:=id hl;unfold Cfg.v at hat11 hat16;unfold plV Cfg.v takeP
 by_cases hgv:nt=0∨c.at 11 B 0 = -1
 ·rw [if_pos hgv]
  dsimp only [List.cons_append,List.nil_append]
  have hg2:nt=0∨c.blocks≤(B:Int):=by
   rcases hgv with hg|hg
   ·exact .inl hg
   ·refine .inr ?_
    by_cases h:c.blocks≤(B:Int)
    ·exact h
    ·exact absurd hg (hk.2 ⟨by omega,by omega⟩)
  refine TB (vs:=[_,_,_]) Tryz.func259 fun w0 F=>?_
  repeat' (first|refine Ga ?_|(refine Gb ?_;intro b)|(refine Dt 2 [] (.pick [(0,3)] (.pick [(1,3),(2,3),(3,3)] .done (.pick [(2,3),(1,3),(3,3)] .done .nope)) (.pick [(1,3),(0,3),(2,3),(3,3)] .done .nope)) [0,1,2,3] ?_)|apply StD.pick|exact StD.nope|(refine StD.ok3 rfl (OpOk.ofW OpV.go) rfl ?_;rintro _ _ ⟨rfl,rfl⟩)|(refine Ge ?_ ?_<;>intro h<;>try omega)|fail)
  all_goals exact St.d1 Tryz.func259 ⟨_,⟨q,_,_,_,Gr.refl q,hl,rfl,rfl⟩,Ent.go⟩
 ·rw [if_neg hgv]
  dsimp only [List.cons_append,List.nil_append];have hb2:=hk.1 (fun e=>hgv (.inr e))
  have hg3:¬ nt=0:=fun e=>hgv (.inl e)
  refine TB (vs:=[_,_,_]) Tryz.func259 fun w0 F=>?_
  repeat' (first|refine Ga ?_|(refine Gb ?_;intro b)|(refine Dr 4 [(0,1),(1,0),(2,1),(3,0),(4,1),(5,3),(6,3)] [5,6] ?_)|refine Gl hat11 ?_|(refine Gt hp1 ?_;rintro _ _ ⟨q',ad',n',cap',hg,hl',rfl,rfl⟩)|(refine Ge ?_ ?_<;>intro h<;>try omega)|fail)
  rename_i b2 b1 b0 hx0;refine St.loopY (Lr:=?Lr1) (ι:={ x:Nat×HProp×Option Addr×Nat×Nat // x.1≤8∧Gr q x.2.1∧ListR entV x.2.1 (.slice x.2.2.1 x.2.2.2.1 x.2.2.2.2) (takeN c room puts B x.1) }) (fun x=>8 - x.1.1) (fun x=>[(8, .int .i64 (x.1.1:Int))]) (fun x=>[x.1.2.1,bl b1 61 [.int .i64 (room:Int), .slice x.1.2.2.1 x.1.2.2.2.1 x.1.2.2.2.2]]) ⟨(0,q',ad',n',cap'),Nat.zero_le _,hg,hl'⟩ ?hE1 ?hL1 ?round1
  case hE1=>exact Sub.go
  case hL1=>exact Takes.go
  case round1 =>
   rintro ⟨⟨k,qk,kad,kn,kcap⟩,hk8,hgk,hlk⟩ IH;dsimp only at hk8 hgk hlk IH⊢
   by_cases hlt:k<8
   ·have hat:=hat16 k
    have htl:=takeN_len c room puts B k;have hp3:=rput0_t hlk (by omega) room hroom (c.at 16 B k) 0
    repeat' (first|refine Ga ?_|(refine Dr 8 [(0,1),(1,0),(2,1),(3,0),(4,0),(5,1),(6,3),(7,3)] [6,7] ?_)|refine Gl hat ?_|(refine Gt hp3 ?_;rintro _ _ ⟨q2',ad2',n2',cap2',hg2,hl2',rfl,rfl⟩)|(refine Ge ?_ ?_<;>intro h<;>try omega)|fail)
    refine IH ⟨(k+1,q2',ad2',n2',cap2'),hlt,hgk.trans hg2,hl2'⟩ (by show 8 - (k+1)<8 - k;omega) ?_ ?_
    ·exact Sub.go
    ·exact Ent.go
   ·have hk9:k=8:=by omega
    subst hk9
    repeat' (first|refine Ga ?_|(refine Dt 9 [] (.pick [(0,3)] (.pick [(1,3),(2,3),(3,3)] .done (.pick [(2,3),(1,3),(3,3)] .done .nope)) (.pick [(1,3),(0,3),(2,3),(3,3)] .done .nope)) [0,1,2,3] ?_)|apply StD.pick|exact StD.nope|(refine StD.ok3 rfl (OpOk.ofW OpV.go) rfl ?_;rintro _ _ ⟨rfl,rfl⟩)|fail)
    all_goals exact St.d1 Tryz.func259 ⟨_,⟨qk,_,_,_,hgk,hlk,rfl,rfl⟩,Ent.go⟩
end
structure Rr where
 v:Rv
 nt:Int
 nl:Int
 puts:List (Int×Nat)
 regs:List Nat
 pc:Int
 steps:Int
 writes:Int
 news:List Nat
 s:Int
 er:Int
 val:Nat
def rreg (regs:List Nat)(a:Int):Nat:=regs.getD a.toNat 0
def rblk (c:Cfg)(i:Ins)(regs:List Nat):Int×Int×Bool:=(⟨[],0,0,0,regs,0,0,0,false,i,0,0,0⟩:Xs).block c
def Rr.fails (r:Rr)(e:Int):Rr:={ r with s:=1,er:=e }
def Rr.ends (r:Rr)(s:Int):Rr:=if s=3 then r.fails 44 else { r with s:=s }
def Rr.pay (c:Cfg)(r:Rr)(op:Int):Rr×Bool:=if c.writes - r.writes<costs op then (r.fails 42,false) else ({ r with writes:=r.writes+costs op },true)
def Rr.taken (c:Cfg)(room:Nat)(r:Rr)(a:Int)(b:Nat):Rr :=
 if c.blocks≤(b:Int) then r.fails 43 else
 { r with nt:=(takeP c room r.nt r.puts b).1,puts:=(takeP c room r.nt r.puts b).2,news:=r.news++[b+1],regs:=r.regs.set a.toNat (b+1) }
def Rr.goOn (c:Cfg)(room:Nat)(i:Ins)(r:Rr)(val:Nat):Rr :=
 if i.op=9∨i.op=11∨i.op=12 then { r with regs:=r.regs.set i.a.toNat val } else
 if i.op=15 then r.taken c room i.a val else
 if i.op=13∨i.op=14 then (if (r.pay c i.op).2=true then { (r.pay c i.op).1 with puts:=putP room (r.pay c i.op).1.puts (c.at 16 (rblk c i r.regs).1 (rblk c i r.regs).2.1) (rreg r.regs i.a) } else (r.pay c i.op).1) else
 if i.op=16 then (if (r.pay c i.op).2=true then { (r.pay c i.op).1 with nl:=(giveP c room (r.pay c i.op).1.nl (r.pay c i.op).1.puts (rblk c i r.regs).1.toNat).1,puts:=(giveP c room (r.pay c i.op).1.nl (r.pay c i.op).1.puts (rblk c i r.regs).1.toNat).2 } else (r.pay c i.op).1) else r
def Rr.after (c:Cfg)(room:Nat)(i:Ins)(r:Rr)(x:Rv×Nat×Int):Rr:=if x.2.2=1 then Rr.goOn c room i { r with v:=x.1 } x.2.1 else Rr.ends { r with v:=x.1 } x.2.2
def rfetch (c:Cfg)(os:List Out)(room:Nat)(i:Ins)(r:Rr)(a:Int)(t:Tp):Tp×Rr:=match mget (allP r.puts) a with
 | some val=>(t,r.goOn c room i val)
 | none=>((rcell c os r.v a t).1,r.after c room i (rcell c os r.v a t).2)
def rroot (c:Cfg)(os:List Out)(room:Nat)(i:Ins)(r:Rr)(t:Tp):Tp×Rr :=
 if 16≤rreg r.regs i.b then (t,r.fails 44) else
 if i.op=10 then (t,if (r.pay c i.op).2=true then { (r.pay c i.op).1 with puts:=putP room (r.pay c i.op).1.puts (c.at 10 (rreg r.regs i.b) 0) (rreg r.regs i.a) } else (r.pay c i.op).1) else rfetch c os room i r (c.at 10 (rreg r.regs i.b) 0) t
def rfresh (c:Cfg)(os:List Out)(room:Nat)(i:Ins)(r:Rr)(t:Tp):Tp×Rr :=
 if (r.pay c i.op).2=true then (if (r.pay c i.op).1.nt=0 then (t,(r.pay c i.op).1.fails 43) else rfetch c os room i (r.pay c i.op).1 (c.at 13 ((r.pay c i.op).1.nt - 1) 0) t) else (t,(r.pay c i.op).1)
def rtouch (c:Cfg)(os:List Out)(room:Nat)(i:Ins)(r:Rr)(t:Tp):Tp×Rr :=
 if (rblk c i r.regs).2.2=false∨((mget (allP r.puts) (c.at 11 (rblk c i r.regs).1 0)).isSome=true∧(mget (allP r.puts) (c.at 11 (rblk c i r.regs).1 0)).getD 0≠1) then (t,r.fails 44) else
 if readsB i.op=true then (match mget (allP r.puts) (c.at 16 (rblk c i r.regs).1 (rblk c i r.regs).2.1) with
  | some val=>(t,r.goOn c room i val)
  | none=>((rword c os r.v (rblk c i r.regs).1 (rblk c i r.regs).2.1 t).1,r.after c room i (rword c os r.v (rblk c i r.regs).1 (rblk c i r.regs).2.1 t).2)) else
 if (mget (allP r.puts) (c.at 11 (rblk c i r.regs).1 0)).isSome=true then (t,r.goOn c room i 0) else
 ((rlive c os r.v (rblk c i r.regs).1 t).1,r.after c room i ((rlive c os r.v (rblk c i r.regs).1 t).2.1,0,(rlive c os r.v (rblk c i r.regs).1 t).2.2))
def rdoes (c:Cfg)(os:List Out)(room:Nat)(args:List Nat)(i:Ins)(r:Rr)(t:Tp):Tp×Rr :=
 if i.op=17 then (t,{ r with pc:=(i.imm:Int) }) else
 if i.op=18∨i.op=19 then (t,if (((rreg r.regs i.a:Nat):Int) == 0)=(i.op == 18) then { r with pc:=(i.imm:Int) } else r) else
 if i.op=20 then (t,{ r with s:=1,val:=rreg r.regs i.a }) else
 if i.op=21 then (t,Rr.fails { r with val:=i.imm } 40) else
 if i.op=9∨i.op=10 then rroot c os room i r t else
 if i.op=11∨i.op=12∨i.op=13∨i.op=14∨i.op=16 then rtouch c os room i r t else
 if i.op=15 then rfresh c os room i r t else (t,{ r with regs:=r.regs.set i.a.toNat (reckon i r.regs args) })
def rstep (c:Cfg)(os:List Out)(room:Nat)(code:List Ins)(args:List Nat)(r:Rr)(t:Tp):Tp×Rr :=
 if c.fuel≤r.steps then (t,r.fails 41) else rdoes c os room args (code.getD r.pc.toNat ins0) { r with steps:=r.steps+1,pc:=r.pc+1 } t
def rgo (c:Cfg)(os:List Out)(room:Nat)(code:List Ins)(args:List Nat):Nat→Rr→Tp→Tp×Rr
 | 0,r,t=>(t,r)
 | k+1,r,t=>if r.s=0∧t.need=false then rgo c os room code args k (rstep c os room code args r t).2 (rstep c os room code args r t).1 else (t,r)
def Rr.init (v:Rv)(nt nl:Int)(puts:List (Int×Nat)):Rr:=⟨v,nt,nl,puts,regs0,0,0,0,[],0,0,0⟩
def Rr.undo (r:Rr)(nt nl:Int)(puts:List (Int×Nat)):Rr:=if r.er≠0 then { r with nt:=nt,nl:=nl,puts:=puts } else r
def rplay (c:Cfg)(os:List Out)(room:Nat)(code:List Ins)(args:List Nat)(v:Rv)(nt nl:Int)(puts:List (Int×Nat))(t:Tp):Tp×Rr :=
 if rightB code=true then ((rgo c os room code args (c.fuel.toNat+1) (.init v nt nl puts) t).1,(rgo c os room code args (c.fuel.toNat+1) (.init v nt nl puts) t).2.undo nt nl puts) else (t,(Rr.init v nt nl puts).fails 30)
section
variable {c:Cfg}{os:List Out}{room:Nat}{code:List Ins}{args:List Nat}{i:Ins}{r:Rr}{t:Tp}
theorem rgo_dead (h:t.need=true)(k:Nat):rgo c os room code args k r t=(t,r):=by
 cases k with
 | zero=>rfl
 | succ k=>unfold rgo;rw [if_neg (fun e=>by rw [h] at e;exact absurd e.2 (by decide))]
end
def XX (c:Cfg)(room:Nat)(code:List Ins):Mch Xm:=⟨Xm.ask c,Xm.tell c room code⟩
structure XR (r:Rr)(m:Xm):Prop where
 v:VR r.v m.v
 step:m.v.step=0
 nt:r.nt=m.p.nt
 nl:r.nl=m.p.nl
 puts:r.puts=m.puts
 regs:r.regs=m.x.regs
 pc:r.pc=m.x.pc
 steps:r.steps=m.x.steps
 writes:r.writes=m.x.writes
 news:r.news=m.news
 s:r.s=0∧m.x.s=0
 er:r.er=0
 val:r.val=0
 ns:m.v.s≠2
structure XE (r:Rr)(m:Xm):Prop where
 v:VR r.v m.v
 step:m.v.step=0
 s:r.s=m.x.s∧m.x.s≠0
 ok:m.x.s=1→r.er=m.x.rc∧r.val=m.x.rv∧r.news=m.news
 keeps:r.er=0→r.nt=m.p.nt∧r.nl=m.p.nl∧r.puts=m.puts
 ns:m.x.s=1→m.v.s≠2
def XK (r:Rr)(m:Xm):Prop:=m.x.waits=false∧XR r m∨XE r m
theorem XR.fail {r:Rr}{m:Xm}(h:XR r m){e:Int}(he:e≠0)(w:Nat):XE (Rr.fails { r with val:=w } e) (m.fail e w) :=
 ⟨h.v,h.step,⟨rfl,by show (1:Int)≠0;decide⟩,fun _=>⟨rfl,rfl,h.news⟩,fun e2=>absurd e2 he,fun _=>h.ns⟩
theorem XR.fail0 {r:Rr}{m:Xm}(h:XR r m){e:Int}(he:e≠0):XE (r.fails e) (m.fail e 0):=by
 have h2:=h.fail he 0
 have e2:({ r with val:=0 }:Rr)=r:=by rw [← h.val]
 rw [e2] at h2;exact h2
theorem XR.pay_f {c:Cfg}{r:Rr}{m:Xm}(h:XR r m)(hp:(m.pay c).2=false):(r.pay c m.x.i.op).2=false∧XE (r.pay c m.x.i.op).1 (m.pay c).1:=by
 unfold Xm.pay Rr.pay at *;rw [h.writes];split at hp
 ·rename_i hlt
  rw [if_pos hlt,if_pos hlt];exact ⟨rfl,h.fail0 (by decide)⟩
 ·cases hp
theorem XR.pay_t {c:Cfg}{r:Rr}{m:Xm}(h:XR r m)(hp:(m.pay c).2=true):(r.pay c m.x.i.op).2=true∧XR (r.pay c m.x.i.op).1 (m.pay c).1∧(m.pay c).1={ m with x:={ m.x with writes:=m.x.writes+costs m.x.i.op } }∧(r.pay c m.x.i.op).1={ r with writes:=r.writes+costs m.x.i.op }:=by
 unfold Xm.pay Rr.pay at *;rw [h.writes];split at hp
 ·cases hp
 ·rename_i hlt
  rw [if_neg hlt,if_neg hlt];exact ⟨rfl,⟨h.v,h.step,h.nt,h.nl,h.puts,h.regs,h.pc,h.steps,rfl,h.news,h.s,h.er,h.val,h.ns⟩,rfl,rfl⟩
theorem goOn_rel {c:Cfg}{room:Nat}{r:Rr}{m:Xm}(h:XR r m)(hw:m.x.waits=false)(val:Nat):XK (r.goOn c room m.x.i val) (m.goOn c room val):=by
 have hb:m.x.block c=rblk c m.x.i r.regs:=by rw [h.regs];rfl
 have hbn:m.x.bN c=(rblk c m.x.i r.regs).1.toNat:=by rw [← hb];rfl
 have hra:m.x.reg m.x.i.a=rreg r.regs m.x.i.a:=by rw [h.regs];rfl
 unfold Rr.goOn Xm.goOn;split
 ·exact .inl ⟨hw,h.v,h.step,h.nt,h.nl,h.puts,by dsimp only;rw [h.regs],h.pc,h.steps,h.writes,h.news,h.s,h.er,h.val,h.ns⟩
 split
 ·unfold Rr.taken Xm.taken
  split
  ·exact .inr (h.fail0 (by decide))
  ·refine .inl ⟨hw,h.v,h.step, ?_,h.nl, ?_, ?_,h.pc,h.steps,h.writes, ?_,h.s,h.er,h.val,h.ns⟩
   ·dsimp only;rw [h.nt,h.puts]
   ·dsimp only;rw [h.nt,h.puts]
   ·dsimp only;rw [h.regs]
   ·dsimp only;rw [h.news]
 split
 ·cases hp:(m.pay c).2 with
  | true =>
   obtain ⟨p1,p2,p3,p4⟩:=h.pay_t hp;rw [if_pos p1,if_pos rfl];refine .inl ⟨by rw [p3];exact hw,p2.v,p2.step,p2.nt,p2.nl, ?_,p2.regs,p2.pc,p2.steps,p2.writes,p2.news,p2.s,p2.er,p2.val,p2.ns⟩;dsimp only;rw [p2.puts,hb,hra]
  | false =>
   obtain ⟨p1,p2⟩:=h.pay_f hp;rw [if_neg (by rw [p1];decide),if_neg (by decide)];exact .inr p2
 split
 ·cases hp:(m.pay c).2 with
  | true =>
   obtain ⟨p1,p2,p3,p4⟩:=h.pay_t hp;rw [if_pos p1,if_pos rfl];refine .inl ⟨by rw [p3];exact hw,p2.v,p2.step,p2.nt, ?_, ?_,p2.regs,p2.pc,p2.steps,p2.writes,p2.news,p2.s,p2.er,p2.val,p2.ns⟩
   ·dsimp only
    rw [p2.puts,p2.nl,hbn]
   ·dsimp only
    rw [p2.puts,p2.nl,hbn]
  | false =>
   obtain ⟨p1,p2⟩:=h.pay_f hp;rw [if_neg (by rw [p1];decide),if_neg (by decide)];exact .inr p2
 ·exact .inl ⟨hw,h⟩
attribute [irreducible] rplay
end Go.Proofs.YthmbgodcpgkkeaaGreat
