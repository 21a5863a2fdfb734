/-
  Package tumblerref15: answer. Package tumblerref15: own, apply. BuildPlays, in plain terms: a transaction that is asked and told, and what the document says of it. What a transaction of the document's writes stands at cells that there are. A transaction of the document's: how many things it writes, 
-/
import Derived.Test.YthmbgodcpgkkeaaGreatId
import Derived.Test.YthmbgodcpgkkeaaGreatLg
import Derived.Test.YthmbgodcpgkkeaaGreatHf
import Derived.Test.YthmbgodcpgkkeaaGreatKi
import Derived.Test.YthmbgodcpgkkeaaGreatNr
import Derived.Test.YthmbgodcpgkkeaaGreatLw
set_option maxRecDepth 100000
namespace Go.Proofs.YthmbgodcpgkkeaaGreat
section
set_option maxHeartbeats 4000000 in
theorem answer15_t {q:HProp}{ov:Value}{os:List Out}(hov:ListR Out.v q ov os)(hos:os.length≤100000)(hosv:∀ o∈os,o.was.val<18446744073709551616){c:Cfg}(hc:Small c)(hf0:0≤c.fuel)(hfu:c.fuel≤1000){pv:Value}{progs:Progs}(hpr:ProgsR q pv progs)(hpi:∀ p∈progs,∀ i∈p,i.imm<18446744073709551616)(hpl:∀ p∈progs,p.length≤1000000)(p:Cp)(h4:p.args.length=4)(hav:∀ a∈p.args,a<18446744073709551616)(t:Tp)(ht:t.at_≤100000)(s:Rs)(ra:Option Addr)(rn rc:Nat)(seq:Nat) :
  Tri Tryz.prog 218 #[.agg ⟨cpV c p pv⟩, .agg ⟨rsV ov t s (.slice ra rn rc)⟩, .int .u64 (seq:Int)] [q]
   fun r L=>∃ q',Gr q q'∧r=.agg ⟨rsV ov (ranswer c os p progs s seq t).1 (ranswer c os p progs s seq t).2 (.slice ra rn rc)⟩∧L=[q']:=by
 obtain ⟨cad,ccp,hcode,hcr⟩:=code15_r hpr c p h4;have honly:=reads5_r q _ _ hcr (Cp.code_len hpl p);have h7:=rat_r c hc 7 p.who 0;have h8:=rat_r c hc 8 p.who 0;have h9:=rat_r c hc 9 p.who 0;have hl7:=load15_r hov hos t ht s ra rn rc (c.at 7 p.who 0);have hx7:=tdo_at hos ht (mop 0 (c.at 7 p.who 0) 0);generalize hX:ranswer c os p progs s seq t=X;unfold ranswer at hX;generalize tdo os t (mop 0 (c.at 7 p.who 0) 0)=y at hl7 hx7 hX;obtain ⟨t2,⟨⟨wv,ws⟩,wok⟩⟩:=y;dsimp only at hl7 hx7 hX;have hl8:=load15_r hov hos t2 hx7 s ra rn rc (c.at 8 p.who 0);have hx8:=tdo_at hos hx7 (mop 0 (c.at 8 p.who 0) 0);have hrd:=reads15_t hov hos hosv hc hf0 hfu hpr hpi p h4 hav t2 hx7 s ra rn rc seq;have hen:=end15_r;unfold ranswer1 at hX;generalize tdo os t2 (mop 0 (c.at 8 p.who 0) 0)=y2 at hl8 hx8 hX;obtain ⟨t3,⟨⟨cv,cs⟩,cok⟩⟩:=y2;dsimp only at hl8 hx8 hX;have hl9:=load15_r hov hos t3 hx8 s ra rn rc (c.at 9 p.who 0);generalize tdo os t3 (mop 0 (c.at 9 p.who 0) 0)=y3 at hl9 hX;obtain ⟨t4,⟨⟨vv,vs⟩,vok⟩⟩:=y3;dsimp only at hl9 hX;generalize rreads c os p progs s seq t2=Y at hrd hX;obtain ⟨t5,⟨s5,ag5⟩⟩:=Y;dsimp only at hrd hX;obtain ⟨adt,capt,rfl,_⟩:=id hov;obtain ⟨pad,pcp,rfl,_⟩:=id hpr;obtain ⟨who,tag,prog,args⟩:=p;obtain ⟨ta,⟨ak,oa,⟨ova,osa⟩,⟨nvb,nsb⟩⟩,tn⟩:=t;obtain ⟨ta2,⟨ak2,oa2,⟨ov2a,os2a⟩,⟨nv2b,ns2b⟩⟩,tn2⟩:=t2;obtain ⟨ta3,⟨ak3,oa3,⟨ov3a,os3a⟩,⟨nv3b,ns3b⟩⟩,tn3⟩:=t3;obtain ⟨ta4,⟨ak4,oa4,⟨ov4a,os4a⟩,⟨nv4b,ns4b⟩⟩,tn4⟩:=t4;obtain ⟨ta5,⟨ak5,oa5,⟨ov5a,os5a⟩,⟨nv5b,ns5b⟩⟩,tn5⟩:=t5;obtain ⟨al5,dn5,er5,vl5,lk5,sw5,rws5⟩:=s5
 dsimp only at h4 hx7 hx8 hX h7 h8 h9 hcode honly hrd;unfold Cfg.v at h7 h8 h9;unfold cpV Cfg.v g4 at hcode;dsimp only [List.cons_append,List.nil_append] at hcode
 cases tn2 with
 | true =>
  rw [if_pos rfl] at hX;subst hX;obtain ⟨al,dn,er,vl,lk,sw,rws⟩:=s;unfold rsV tpV Cell.v at hl7;unfold cpV rsV tpV Cfg.v g4;dsimp only [List.cons_append,List.nil_append] at hl7⊢
  refine TB (vs:=[_,_,_]) Tryz.func218 fun w0 F=>?_
  repeat' (first|refine Ga ?_|(refine Gb ?_;intro b)|(refine Dr 1 [(0,1),(1,0),(2,1),(3,0),(4,1),(5,1),(6,1),(7,0),(8,0),(9,0),(10,2),(11,3),(12,3)] [11,12] ?_)|refine Gl h7 ?_|refine Gl hl7 ?_|fail)
  all_goals exact St.d1 Tryz.func218 ⟨_,⟨q,Gr.refl q,rfl,rfl⟩,Ent.go⟩
 | false =>
  rw [if_neg Bool.false_ne_true] at hX
  by_cases hv:wv=tag
  ·subst hv
   rw [if_pos rfl] at hX;replace hen:=hen adt os.length capt ⟨ta4,⟨ak4,oa4,⟨ov4a,os4a⟩,⟨nv4b,ns4b⟩⟩,tn4⟩ s ra rn rc (IntKind.i64.wrap (cv:Int)) vv;generalize s.ends (IntKind.i64.wrap (cv:Int)) vv ⟨ta4,⟨ak4,oa4,⟨ov4a,os4a⟩,⟨nv4b,ns4b⟩⟩,tn4⟩=s2 at hen hX;subst hX;obtain ⟨al,dn,er,vl,lk,sw,rws⟩:=s;obtain ⟨al2,dn2,er2,vl2,lk2,sw2,rws2⟩:=s2;unfold rsV tpV Cell.v at hl7 hl8 hl9;unfold rsV tpV at hen;unfold cpV rsV tpV Cfg.v g4;dsimp only [List.cons_append,List.nil_append] at hl7 hl8 hl9 hen⊢
   refine TB (vs:=[_,_,_]) Tryz.func218 fun w0 F=>?_
   repeat' (first|refine Ga ?_|(refine Gb ?_;intro b)|(refine Dr 1 [(0,1),(1,0),(2,1),(3,0),(4,1),(5,1),(6,1),(7,0),(8,0),(9,0),(10,2),(11,3),(12,3)] [11,12] ?_)|(refine Dt 5 [(0,1),(1,0),(2,1),(3,0),(4,1),(5,1),(6,1),(7,0),(8,0),(9,0)] (.pick [(10,2),(11,2),(12,3),(13,3)] .done (.pick [(11,2),(10,2),(12,3),(13,3)] .done .nope)) [12,13] ?_)|(refine Dr 6 [(0,1),(1,0),(2,1),(3,0),(4,1),(5,1),(6,1),(7,0),(8,0),(9,0),(10,2),(11,3),(12,3)] [11,12] ?_)|apply StD.pick|exact StD.nope|refine Gl h7 ?_|refine Gl hl7 ?_|refine Gl h8 ?_|refine Gl hl8 ?_|refine Gl h9 ?_|refine Gl hl9 ?_|refine Gl hen ?_|(refine Ge ?_ ?_<;>intro h<;>try omega)|fail)
   all_goals exact St.d1 Tryz.func218 ⟨_,⟨q,Gr.refl q,rfl,rfl⟩,Ent.go⟩
  ·rw [if_neg hv] at hX
   have hv':¬ (wv:Int)=(tag:Int):=by omega
   by_cases hl:c.last≤seq
   ·have hl':(c.last:Int)≤(seq:Int):=by omega
    cases ho:onlyB _ with
    | true =>
     rw [ho] at honly;rw [if_pos ⟨hl,ho⟩] at hX;subst hX;obtain ⟨al,dn,er,vl,lk,sw,rws⟩:=s;unfold rsV tpV Cell.v at hl7;unfold cpV rsV tpV Cfg.v g4 at hrd;unfold cpV rsV tpV Cfg.v g4;dsimp only [List.cons_append,List.nil_append] at hl7 hrd⊢
     refine TB (vs:=[_,_,_]) Tryz.func218 fun w0 F=>?_
     repeat' (first|refine Ga ?_|(refine Gb ?_;intro b)|(refine Dr 1 [(0,1),(1,0),(2,1),(3,0),(4,1),(5,1),(6,1),(7,0),(8,0),(9,0),(10,2),(11,3),(12,3)] [11,12] ?_)|refine Gl h7 ?_|refine Gl hl7 ?_|refine Gl hcode ?_|refine Gl honly ?_|(refine Gt hrd ?_;rintro _ _ ⟨q5,hg5,rfl,rfl⟩)|(refine Ge ?_ ?_<;>intro h<;>try omega)|fail)
     all_goals exact St.d1 Tryz.func218 ⟨_,⟨q5,hg5,rfl,rfl⟩,Ent.go⟩
    | false =>
     rw [ho] at honly;rw [if_neg (fun e=>by rw [ho] at e;exact absurd e.2 Bool.false_ne_true),if_pos hl] at hX;replace hen:=hen adt os.length capt ⟨ta2,⟨ak2,oa2,⟨ov2a,os2a⟩,⟨nv2b,ns2b⟩⟩,false⟩ s ra rn rc 45 0;have hal:=alone15_r adt os.length capt ⟨ta2,⟨ak2,oa2,⟨ov2a,os2a⟩,⟨nv2b,ns2b⟩⟩,false⟩ (s.ends 45 0 ⟨ta2,⟨ak2,oa2,⟨ov2a,os2a⟩,⟨nv2b,ns2b⟩⟩,false⟩) ra rn rc;generalize s.ends 45 0 ⟨ta2,⟨ak2,oa2,⟨ov2a,os2a⟩,⟨nv2b,ns2b⟩⟩,false⟩=s2 at hen hal hX;generalize s2.lone=s3 at hal hX;subst hX;obtain ⟨al,dn,er,vl,lk,sw,rws⟩:=s;obtain ⟨al2,dn2,er2,vl2,lk2,sw2,rws2⟩:=s2;obtain ⟨al3,dn3,er3,vl3,lk3,sw3,rws3⟩:=s3;unfold rsV tpV Cell.v at hl7;unfold rsV tpV at hen hal;unfold cpV rsV tpV Cfg.v g4;dsimp only [List.cons_append,List.nil_append] at hl7 hen hal⊢
     refine TB (vs:=[_,_,_]) Tryz.func218 fun w0 F=>?_
     repeat' (first|refine Ga ?_|(refine Gb ?_;intro b)|(refine Dr 1 [(0,1),(1,0),(2,1),(3,0),(4,1),(5,1),(6,1),(7,0),(8,0),(9,0),(10,2),(11,3),(12,3)] [11,12] ?_)|refine Gl h7 ?_|refine Gl hl7 ?_|refine Gl hcode ?_|refine Gl honly ?_|refine Gl hen ?_|refine Gl hal ?_|(refine Ge ?_ ?_<;>intro h<;>try omega)|fail)
     all_goals exact St.d1 Tryz.func218 ⟨_,⟨q,Gr.refl q,rfl,rfl⟩,Ent.go⟩
   ·rw [if_neg (fun e=>hl e.1),if_neg hl] at hX
    have hl':¬ (c.last:Int)≤(seq:Int):=by omega
    subst hX;obtain ⟨al,dn,er,vl,lk,sw,rws⟩:=s;unfold rsV tpV Cell.v at hl7;unfold cpV rsV tpV Cfg.v g4;dsimp only [List.cons_append,List.nil_append] at hl7⊢
    refine TB (vs:=[_,_,_]) Tryz.func218 fun w0 F=>?_
    repeat' (first|refine Ga ?_|(refine Gb ?_;intro b)|(refine Dr 1 [(0,1),(1,0),(2,1),(3,0),(4,1),(5,1),(6,1),(7,0),(8,0),(9,0),(10,2),(11,3),(12,3)] [11,12] ?_)|refine Gl h7 ?_|refine Gl hl7 ?_|(refine Ge ?_ ?_<;>intro h<;>try omega)|fail)
    all_goals exact St.d1 Tryz.func218 ⟨_,⟨q,Gr.refl q,rfl,rfl⟩,Ent.go⟩
end
def row0:List Value:=[.int .i64 0, .int .u64 0, .int .i64 0, .int .u64 0, .slice none 0 0]
def rowO:Option RowH→List Value
 | some x=>rowV x
 | none=>row0
theorem rown_find (rl:List RowH)(who:Int):rown (rl.map (·.1)) who=(rl.find? fun x=>x.1.who == who).map (·.1):=by
 unfold rown
 induction rl with
 | nil=>rfl
 | cons x l ih =>
  rw [List.map_cons,List.find?_cons,List.find?_cons]
  cases x.1.who == who with
  | true=>rfl
  | false=>exact ih
section
set_option maxHeartbeats 2000000 in
theorem own15_r {q:HProp}{ra:Option Addr}{rn rc:Nat}{rl:List RowH}(hx:ListR rowV q (.slice ra rn rc) rl)(hn:rl.length≤1000000)(who:Int):RTri Tryz.prog 219 #[.slice ra rn rc, .int .i64 who] [q]
  (.tuple ⟨[.agg ⟨rowO (rl.find? fun x=>x.1.who == who)⟩, .bool (rl.find? fun x=>x.1.who == who).isSome]⟩):=by
 refine RTri.of_reads fun p hp=>?_
 replace hx:=hx.weak fun b l h=>RdC.of_sat hp (ReadsC.here h)
 obtain rfl:rn=rl.length:=hx.len;generalize hX:(rl.find? fun x=>x.1.who == who)=X
 refine TB (vs:=[_,_]) Tryz.func219 fun w0 F=>?_
 repeat' (first|refine Ga ?_|(refine Gb ?_;intro b)|fail)
 refine St.loopY (Lr:=?Lr1) (ι:={ k:Nat // k≤rl.length∧((rl.drop k).find? fun x=>x.1.who == who)=X }) (fun x=>rl.length - x.1) (fun x=>[(6, .int .i64 (x.1:Int))]) (fun _=>[]) ⟨0,Nat.zero_le _,hX⟩ ?hE1 ?hL1 ?round1
 case hE1=>exact Sub.go
 case hL1=>exact Takes.go
 case round1 =>
  rintro ⟨k,hk,hX⟩ IH;dsimp only at hk hX IH⊢
  by_cases hlt:k<rl.length
  ·obtain ⟨ab,ao,al,al1,rfl,hra,hda,hta⟩:=hx.at' rowV_len k hlt
   rw [drop_cons' hlt,List.find?_cons] at hX;generalize rl[k]=x at hta hX;obtain ⟨⟨w9,tag,rc9,rv9,news⟩,nad,ncp⟩:=x;have hta2:=hta;unfold rowV at hta;dsimp only at hta hX;have a0:NthN (ao+(k:Int).toNat * 5) al (.int .i64 w9):=NthN.part (j:=0) hda hta (NthN.of rfl)
   by_cases hw:w9=who
   ·rw [show (w9 == who)=true from beq_iff_eq.2 hw] at hX
    dsimp only at hX;subst hX;subst hw;clear IH;unfold rowO rowV;dsimp only [Option.isSome]
    repeat' (first|refine Ga ?_|(refine Ge ?_ ?_<;>intro h<;>try omega)|fail)
    all_goals exact St.d1 Tryz.func219 ⟨_,⟨rfl,rfl⟩,Ent.go⟩
   ·rw [show (w9 == who)=false from beq_eq_false_iff_ne.2 hw] at hX
    dsimp only at hX
    repeat' (first|refine Ga ?_|(refine Ge ?_ ?_<;>intro h<;>try omega)|fail)
    refine IH ⟨k+1,hlt,hX⟩ (by show rl.length - (k+1)<rl.length - k;omega) ?_ ?_
    ·exact Sub.go
    ·exact Ent.go
  ·obtain rfl:k=rl.length:=by omega
   clear IH;rw [List.drop_length,List.find?_nil] at hX;subst hX;unfold rowO row0;dsimp only [Option.isSome]
   repeat' (first|refine Ga ?_|(refine Ge ?_ ?_<;>intro h<;>try omega)|fail)
   all_goals exact St.d1 Tryz.func219 ⟨_,⟨rfl,rfl⟩,Ent.go⟩
theorem apply15_r {q:HProp}{ov:Value}{os:List Out}(hov:ListR Out.v q ov os)(hos:os.length≤100000){c:Cfg}(hc:Small c)(pad:Option Addr)(pn pcp:Nat)(p:Cp)(seq:Nat)(list:List (Int×Nat))(lv:Value)(hl:ListR entV q lv list)(hll:list.length≤1000000)(t:Tp)(ht:t.at_≤100000):RTri Tryz.prog 221 #[.agg ⟨cpV c p (.slice pad pn pcp)⟩, .int .u64 (seq:Int),lv, .agg ⟨tpV ov t⟩] [q]
  (.agg ⟨tpV ov (rapply c os p.who p.who seq list (-1) t)⟩):=by
 have hap:=rapply_r hov hos hc p.who p.who seq list lv hl hll t ht
 refine RTri.of_reads fun p1 hp=>?_
 replace hap:=hap.of_read hp;obtain ⟨adt,capt,rfl,_⟩:=id hov;obtain ⟨lad,lcp,rfl,_⟩:=id hl;generalize rapply c os p.who p.who seq list (-1) t=t2 at hap⊢;obtain ⟨who,tag,prog,args⟩:=p;obtain ⟨ta,⟨ak,oa,⟨ova,osa⟩,⟨nvb,nsb⟩⟩,tn⟩:=t;obtain ⟨ta2,⟨ak2,oa2,⟨ov2a,os2a⟩,⟨nv2b,ns2b⟩⟩,tn2⟩:=t2;dsimp only at hap;unfold tpV Cfg.v at hap;unfold cpV tpV Cfg.v g4;dsimp only [List.cons_append,List.nil_append] at hap⊢
 refine TB (vs:=[_,_,_,_]) Tryz.func221 fun w0 F=>?_
 repeat' (first|refine Ga ?_|(refine Gb ?_;intro b)|refine Gl hap ?_|fail)
 all_goals exact St.d1 Tryz.func221 ⟨_,⟨rfl,rfl⟩,Ent.go⟩
end
theorem Cfg.at_lt17 {c:Cfg}(hc:Small c){kind:Int}(hk:7≤kind∧kind≤16)(i k:Int):-1≤c.at kind i k∧c.at kind i k<c.f17:=by
 have hn:=hc.nums.f7;have:=hc.t0;have:=hc.b0;have:=hc.limit;obtain ⟨hf7,hf10,hf11,hf12,hf13,hf14,hf15,hf16,hf17,hstr⟩:=c.froms
 have key:∀ {n m b s:Int},c.cnt kind=(n,m)→c.base kind=b→c.stp kind=s→(0≤i→i<n→0≤k→k<m→-1≤b+i * s+k∧b+i * s+k<c.f17)→-1≤c.at kind i k∧c.at kind i k<c.f17:=fun {n m b s} h1 h2 h3 h=>by
  unfold Cfg.at;rw [h1,h2,h3];dsimp only;split
  ·rename_i g
   exact h g.1 g.2.1 g.2.2.1 g.2.2.2
  ·omega
 clear hc
 have h:kind=7∨kind=8∨kind=9∨kind=10∨kind=11∨kind=12∨kind=13∨kind=14∨kind=15∨kind=16:=by omega
 rcases h with rfl|rfl|rfl|rfl|rfl|rfl|rfl|rfl|rfl|rfl
 ·exact key (n:=c.threads) (m:=1) (b:=c.f7+(7 - 7)) (s:=3) rfl rfl rfl (by intros;omega)
 ·exact key (n:=c.threads) (m:=1) (b:=c.f7+(8 - 7)) (s:=3) rfl rfl rfl (by intros;omega)
 ·exact key (n:=c.threads) (m:=1) (b:=c.f7+(9 - 7)) (s:=3) rfl rfl rfl (by intros;omega)
 ·exact key (n:=16) (m:=1) (b:=c.f10) (s:=1) rfl rfl rfl (by intros;omega)
 ·exact key (n:=c.blocks) (m:=1) (b:=c.f11) (s:=1) rfl rfl rfl (by intros;omega)
 ·exact key (n:=1) (m:=1) (b:=c.f12) (s:=1) rfl rfl rfl (by intros;omega)
 ·exact key (n:=c.blocks) (m:=1) (b:=c.f13) (s:=1) rfl rfl rfl (by intros;omega)
 ·exact key (n:=1) (m:=1) (b:=c.f14) (s:=1) rfl rfl rfl (by intros;omega)
 ·exact key (n:=c.limit) (m:=1) (b:=c.f15) (s:=1) rfl rfl rfl (by intros;omega)
 ·exact key (n:=c.blocks) (m:=8) (b:=c.f16) (s:=8) rfl rfl rfl (by intros;omega)
def Kq (c:Cfg)(P:List (Int×Nat)):Prop:=∀ p∈P,-1≤p.1∧p.1<c.f17
theorem Kq.nil {c:Cfg}:Kq c []:=fun _ h=>by cases h
section
variable {c:Cfg}{P:List (Int×Nat)}{room:Nat}
theorem Kq.put (hc:Small c)(h:Kq c P){kind:Int}(hk:7≤kind∧kind≤16)(i k:Int)(v:Nat):Kq c (putP room P (c.at kind i k) v):=by
 unfold putP;split
 ·exact h
 ·intro p hp
  rcases List.mem_append.1 hp with hp|hp
  ·exact h p hp
  ·rw [List.mem_singleton] at hp;subst hp;exact Cfg.at_lt17 hc hk i k
theorem Kq.all (h:Kq c P):Kq c (allP P):=fun p hp=>by
 obtain ⟨x,hx,e⟩:=keysP_mem (P:=P) (List.mem_map_of_mem (f:=(·.1)) hp);have:=h x hx;omega
theorem Kq.takeN (hc:Small c)(h:Kq c P)(b:Nat):∀ k,Kq c (takeN c room P b k)
 | 0=>h.put hc (by decide) _ _ _
 | k+1=>(h.takeN hc b k).put hc (by decide) _ _ _
theorem Kq.takeP (hc:Small c)(h:Kq c P)(nt:Int)(b:Nat):Kq c (takeP c room nt P b).2:=by
 have h8:=h.takeN (room:=room) hc b 8;unfold Go.Proofs.YthmbgodcpgkkeaaGreat.takeP;generalize Go.Proofs.YthmbgodcpgkkeaaGreat.takeN c room P b 8=T at h8⊢;split
 ·exact h
 ·exact h8
theorem Kq.giveP (hc:Small c)(h:Kq c P)(nl:Int)(b:Nat):Kq c (giveP c room nl P b).2:=by
 unfold Go.Proofs.YthmbgodcpgkkeaaGreat.giveP;split
 ·exact h
 ·exact (h.put hc (by decide) _ _ _).put hc (by decide) _ _ _
theorem Kq.relP (hc:Small c)(h:Kq c P)(nt:Int)(b:Nat):Kq c (relP c room nt P b).2:=by
 unfold Go.Proofs.YthmbgodcpgkkeaaGreat.relP;split
 ·exact (h.put hc (by decide) _ _ _).put hc (by decide) _ _ _
 ·exact h.put hc (by decide) _ _ _
theorem Kq.endP (hc:Small c)(h:Kq c P)(p:Po):Kq c (endP c room p P):=by
 have h1:Kq c (if p.nt=p.wt then P else putP room P (c.at 12 0 0) p.nt.toNat):=by
  split
  ·exact h
  ·exact h.put hc (by decide) _ _ _
 unfold Go.Proofs.YthmbgodcpgkkeaaGreat.endP;split
 ·exact h1
 ·exact h1.put hc (by decide) _ _ _
theorem kq_setGo (hc:Small c)(names:List Nat):∀ (l:List Nat) (k:Nat) {s:SetS},Kq c s.puts→Kq c (setGo c room names k l s).puts
 | [],_,_,h=>h
 | b::l,k,s,h=>by
  refine kq_setGo hc names l (k+1) (s:=setStep c room names k b s) ?_;unfold setStep;split
  ·exact h
  split
  ·exact h.relP hc _ _
  ·dsimp only
   split
   ·exact h.put hc (by decide) _ _ _
   ·exact h
theorem Kq.rput3 (hc:Small c)(h:Kq c P)(r:BRow):Kq c (rput3 c room P r):=by
 unfold Go.Proofs.YthmbgodcpgkkeaaGreat.rput3;exact ((h.put hc (by decide) _ _ _).put hc (by decide) _ _ _).put hc (by decide) _ _ _
end
section
variable {c:Cfg}{room:Nat}{r:Rr}
theorem kq_goOn (hc:Small c)(h:Kq c r.puts)(i:Ins)(x:Nat):Kq c (r.goOn c room i x).puts:=by
 have hp:Kq c (r.pay c i.op).1.puts:=by rw [(pay_nt c r i.op).2.2.1];exact h
 unfold Rr.goOn;split
 ·exact h
 split
 ·unfold Rr.taken
  split
  ·exact h
  ·exact h.takeP hc _ _
 split
 ·split
  ·exact hp.put hc (by decide) _ _ _
  ·exact hp
 split
 ·split
  ·exact hp.giveP hc _ _
  ·exact hp
 ·exact h
theorem kq_ends (h:Kq c r.puts)(s:Int):Kq c (r.ends s).puts:=by
 unfold Rr.ends;split<;>exact h
theorem kq_after (hc:Small c)(h:Kq c r.puts)(i:Ins)(x:Rv×Nat×Int):Kq c (r.after c room i x).puts:=by
 unfold Rr.after;split
 ·exact kq_goOn (r:={ r with v:=x.1 }) hc h i _
 ·exact kq_ends (r:={ r with v:=x.1 }) h _
theorem kq_fetch (hc:Small c)(h:Kq c r.puts)(os:List Out)(i:Ins)(a:Int)(t:Tp):Kq c (rfetch c os room i r a t).2.puts:=by
 unfold rfetch;split
 ·exact kq_goOn hc h i _
 ·exact kq_after hc h i _
theorem kq_does (hc:Small c)(h:Kq c r.puts)(os:List Out)(args:List Nat)(i:Ins)(t:Tp):Kq c (rdoes c os room args i r t).2.puts:=by
 have hp:Kq c (r.pay c i.op).1.puts:=by rw [(pay_nt c r i.op).2.2.1];exact h
 unfold rdoes;split
 ·exact h
 split
 ·dsimp only;split<;>exact h
 split
 ·exact h
 split
 ·exact h
 split
 ·unfold rroot
  split
  ·exact h
  split
  ·dsimp only
   split
   ·exact hp.put hc (by decide) _ _ _
   ·exact hp
  ·exact kq_fetch hc h os i _ _
 split
 ·unfold rtouch
  split
  ·exact h
  split
  ·split
   ·exact kq_goOn hc h i _
   ·exact kq_after hc h i _
  split
  ·exact kq_goOn hc h i _
  ·exact kq_after hc h i _
 split
 ·unfold rfresh
  split
  ·split
   ·exact hp
   ·exact kq_fetch hc hp os i _ _
  ·exact hp
 ·exact h
theorem kq_step (hc:Small c)(h:Kq c r.puts)(os:List Out)(code:List Ins)(args:List Nat)(t:Tp):Kq c (rstep c os room code args r t).2.puts:=by
 unfold rstep;split
 ·exact h
 ·exact kq_does (r:={ r with steps:=r.steps+1,pc:=r.pc+1 }) hc h os args _ t
end
theorem kq_go {c:Cfg}{room:Nat}(hc:Small c)(os:List Out)(code:List Ins)(args:List Nat):∀ (k:Nat) {r:Rr} {t:Tp},Kq c r.puts→Kq c (rgo c os room code args k r t).2.puts
 | 0,_,_,h=>h
 | k+1,r,t,h=>by
  unfold rgo;split
  ·exact kq_go hc os code args k (kq_step hc h os code args t)
  ·exact h
theorem kq_play {c:Cfg}{room:Nat}(hc:Small c)(os:List Out)(code:List Ins)(args:List Nat)(v:Rv)(nt nl:Int){puts:List (Int×Nat)}(h:Kq c puts)(t:Tp):Kq c (rplay c os room code args v nt nl puts t).2.puts:=by
 unfold rplay;split
 ·have hg:=kq_go (room:=room) hc os code args (c.fuel.toNat+1) (r:=Rr.init v nt nl puts) (t:=t) h
  dsimp only;generalize (rgo c os room code args (c.fuel.toNat+1) (Rr.init v nt nl puts) t).2=r at hg⊢;unfold Rr.undo;split
  ·exact h
  ·exact hg
 ·exact h
theorem kq_rmk {c:Cfg}{room:Nat}(hc:Small c)(os:List Out)(progs:Progs)(p:Rp):∀ (k u:Nat) (b:Rb) (t:Tp),Kq c b.puts→Kq c (rmk c os room progs p k u b t).2.1
 | 0,_,_,_,h=>h.endP hc _
 | k+1,u,b,t,h=>by
  rw [rmk_succ];unfold rmkC;split
  ·exact Kq.nil
  split
  ·exact Kq.nil
  split
  ·exact kq_rmk hc os progs p k (u+1) _ _ h
  ·unfold rmkP
   split
   ·exact Kq.nil
   ·exact kq_rmk hc os progs p k (u+1) _ _ ((kq_play hc os _ _ _ _ _ h _).rput3 hc _)
theorem kq_rmake {c:Cfg}(hc:Small c)(os:List Out)(who:Int)(seq:Nat)(progs:Progs)(t:Tp):Kq c (rmake c os who seq progs t).2.1:=by
 unfold rmake;split
 ·exact Kq.nil
 ·exact kq_rmk hc os progs _ _ _ _ _ (kq_setGo hc _ _ _ Kq.nil)
theorem endP_le (c:Cfg)(room:Nat)(p:Po)(puts:List (Int×Nat)):(endP c room p puts).length≤puts.length+2:=by
 have h1:(if p.nt=p.wt then puts else putP room puts (c.at 12 0 0) p.nt.toNat).length≤puts.length+1:=by
  split
  ·omega
  ·exact putP_le _ _ _ _
 unfold endP;generalize (if p.nt=p.wt then puts else putP room puts (c.at 12 0 0) p.nt.toNat)=P at h1⊢;have h2:=putP_le room P (c.at 14 0 0) p.nl.toNat;split<;>omega
theorem rmk_num {c:Cfg}(hc:Small c){os:List Out}(hos:os.length≤100000)(hosv:∀ o∈os,o.was.val<18446744073709551616)(hoss:∀ o∈os,o.was.seq<18446744073709551616)(hf0:0≤c.fuel)(hfu:c.fuel≤1000){progs:Progs}(hpi:∀ p∈progs,∀ i∈p,i.imm<18446744073709551616)(p:Rp) :
  ∀ (k u:Nat) (b:Rb) {t:Tp},(∀ p∈b.puts,p.2<18446744073709551616)→0≤b.nt→0≤b.nl∧b.nl≤520→t.at_≤100000→(rmk c os c.cap.toNat progs p k u b t).2.1.length≤b.puts.length+k * 9003+2∧(rmk c os c.cap.toNat progs p k u b t).2.2.1.length≤b.rows.length+k
 | 0,_,b,_,_,_,_,_=>⟨by have:=endP_le c c.cap.toNat (p.po b.nt b.nl) b.puts;rw [rmk];dsimp only;omega,Nat.le_refl _⟩
 | k+1,u,b,t,hpv,hnt,hnl,ht=>by
  have hli:=hc.limit;have hb1:=hc.b1;rw [rmk_succ];have hcn:=rcall_num hos hosv hoss c b.v (u:Int) ht;generalize rcall c os b.v (u:Int) t=Y at hcn⊢;obtain ⟨t4,⟨v4,ann,args4,is4,s4⟩⟩:=Y;obtain ⟨hra4,hrv4,hrt4,hrs4⟩:=hcn;dsimp only at hra4 hrv4 hrt4 hrs4⊢;unfold rmkC;dsimp only;split
  ·exact ⟨Nat.zero_le _,Nat.zero_le _⟩
  split
  ·exact ⟨Nat.zero_le _,Nat.zero_le _⟩
  split
  ·have:=rmk_num hc hos hosv hoss hf0 hfu hpi p k (u+1) { b with v:=v4 } hpv hnt hnl hrt4
   dsimp only at this;omega
  ·have hpn:=rplay_num (room:=c.cap.toNat) (code:=progOf progs ann.val) (args:=args4) hosv (progOf_val hpi ann.val) hrv4 (by omega) hf0 (B:=520) (by omega) hpv v4 b.nt b.nl hnt hnl t4
   have hpt:=rplay_tat hos c c.cap.toNat (progOf progs ann.val) args4 v4 b.nt b.nl b.puts hrt4;generalize rplay c os c.cap.toNat (progOf progs ann.val) args4 v4 b.nt b.nl b.puts t4=Z at hpn hpt⊢;obtain ⟨t5,⟨v5,nt5,nl5,puts5,regs5,pc5,st5,wr5,news5,s5,er5,val5⟩⟩:=Z;obtain ⟨pn1,pn2,pn3,pn7,pn4,pn5,pn6⟩:=hpn;dsimp only at pn1 pn2 pn3 pn4 pn5 pn6 pn7 hpt⊢;unfold rmkP;dsimp only;split
   ·exact ⟨Nat.zero_le _,Nat.zero_le _⟩
   ·have hr3:=rput3_num (c:=c) (room:=c.cap.toNat) pn6 (rrow (u:Int) ann.seq ⟨v5,nt5,nl5,puts5,regs5,pc5,st5,wr5,news5,s5,er5,val5⟩) (by unfold rrow;dsimp only;omega) (by unfold rrow;exact pn7) (by unfold rrow;exact hrs4)
    have:=rmk_num hc hos hosv hoss hf0 hfu hpi p k (u+1) ⟨v5,nt5,nl5,rput3 c c.cap.toNat puts5 (rrow (u:Int) ann.seq ⟨v5,nt5,nl5,puts5,regs5,pc5,st5,wr5,news5,s5,er5,val5⟩),b.rows++[rrow (u:Int) ann.seq ⟨v5,nt5,nl5,puts5,regs5,pc5,st5,wr5,news5,s5,er5,val5⟩]⟩ (t:=t5) hr3.2 pn1.1 pn2 hpt;dsimp only at this;rw [List.length_append,List.length_singleton] at this;have h3:=hr3.1;omega
theorem rmake_num {c:Cfg}(hc:Small c){os:List Out}(hos:os.length≤100000)(hosv:∀ o∈os,o.was.val<18446744073709551616)(hoss:∀ o∈os,o.was.seq<18446744073709551616)(hf0:0≤c.fuel)(hfu:c.fuel≤1000){progs:Progs}(hpi:∀ p∈progs,∀ i∈p,i.imm<18446744073709551616)(who:Int)(seq:Nat){t:Tp}(ht:t.at_≤100000) :
  (rmake c os who seq progs t).2.1.length≤100000∧(rmake c os who seq progs t).2.2.1.length≤8:=by
 have ht1:=hc.t1;have ht0:=hc.t0;have hb1:=hc.b1;have hnum:=rread_num hc os seq t;have hxt:=rread_at hos c seq ht;unfold rmake;generalize rread c os seq t=X at hnum hxt⊢;obtain ⟨t1,⟨named,limbo,wt,wl⟩,s⟩:=X;dsimp only at hnum hxt⊢;obtain ⟨hn8,hl5,⟨hw0,hw1⟩,hwl0,hwl1⟩:=hnum;split
 ·exact ⟨Nat.zero_le _,Nat.zero_le _⟩
 ·have hsg:=setGo_ok hc c.cap.toNat named limbo 0 ⟨0,wt,[]⟩ ⟨hw0,hw1⟩
  have hsv:=setGo_val c (by omega) c.cap.toNat named limbo 0 ⟨0,wt,[]⟩ (fun _ h=>by cases h);dsimp only [List.length_nil] at hsg;generalize setGo c c.cap.toNat named 0 limbo ⟨0,wt,[]⟩=SG at hsg hsv⊢;obtain ⟨kept,snt,sputs⟩:=SG;dsimp only at hsg hsv⊢;have:=rmk_num hc hos hosv hoss hf0 hfu hpi ⟨named,limbo,wt,wl⟩ c.threads.toNat 0 ⟨.new who seq,snt,(kept:Int),sputs,[]⟩ hsv (by dsimp only;omega) (by dsimp only;omega) hxt;dsimp only [List.length_nil] at this;omega
end Go.Proofs.YthmbgodcpgkkeaaGreat
