/-
  Package tumblerref14: Make, the walk.
-/
import Derived.Test.YthmbgodcpgkkeaaGreatNr
import Derived.Test.YthmbgodcpgkkeaaGreatLp
set_option maxRecDepth 100000
namespace Go.Proofs.YthmbgodcpgkkeaaGreat
theorem rnamed_at {os:List Out}(hos:os.length≤100000)(c:Cfg):∀ (k u:Nat) (l:List Nat) {t:Tp},t.at_≤100000→(rnamed c os k u l t).1.at_≤100000
 | 0,_,_,_,h=>h
 | k+1,u,l,t,h=>by
  rw [rnamed];exact rnamed_at hos c k (u+1) _ (tdo_at hos h _)
theorem rlimbo_at {os:List Out}(hos:os.length≤100000)(c:Cfg)(seq:Nat):∀ (n k:Nat) (l:List Nat) {t:Tp},t.at_≤100000→(rlimbo c os seq n k l t).1.at_≤100000
 | 0,_,_,_,h=>h
 | n+1,k,l,t,h=>by
  rw [rlimbo];split
  ·exact tdo_at hos h _
  split
  ·exact tdo_at hos h _
  ·exact rlimbo_at hos c seq n (k+1) _ (tdo_at hos h _)
theorem rread_at {os:List Out}(hos:os.length≤100000)(c:Cfg)(seq:Nat){t:Tp}(ht:t.at_≤100000):(rread c os seq t).1.at_≤100000:=by
 have h1:=rnamed_at hos c c.threads.toNat 0 [] ht;unfold rread rread1;split
 ·exact tdo_at hos h1 _
 split
 ·exact tdo_at hos h1 _
 unfold rread2;split
 ·exact tdo_at hos (tdo_at hos h1 _) _
 split
 ·exact tdo_at hos (tdo_at hos h1 _) _
 unfold rread3;exact rlimbo_at hos c seq _ _ _ (tdo_at hos (tdo_at hos h1 _) _)
theorem ListR.none {α:Type}(f:α→List Value)(q:HProp):ListR f q (.slice none 0 0) []:=⟨Option.none,0,rfl,Nat.le_refl _, .inl rfl⟩
theorem St.haltR {P:Program}{C:Cx}{k:List Item}{E:Env}{L:List HProp}(id:Nat){ops:Array Oper}{d:Bool}(h:Halt (St P C (.code (.region id ops d)::k) E L)):St P C (.code (.region id ops d)::k) E L:=by unfold Halt at h;exact h
structure MkI (c:Cfg)(os:List Out)(progs:Progs)(p:Rp)(q:HProp)(R:Tp×RbE)(u:Nat)(b:Rb)(t:Tp)(q':HProp)(sa:Option Addr)(sc:Nat)(rl:List RowH):Prop where
 le:u≤c.threads.toNat
 gr:Gr q q'
 puts:ListR entV q' (.slice sa b.puts.length sc) b.puts
 rows:rl.map (·.1)=b.rows
 news:∀ x∈rl,ListR u1V q' (.slice x.2.1 x.1.news.length x.2.2) x.1.news
 len:b.puts.length≤2000+u * 10000
 pv:∀ p∈b.puts,p.2<18446744073709551616
 nt:0≤b.nt∧b.nt≤64
 nl:0≤b.nl∧b.nl≤520
 at_:t.at_≤100000
 go:rmk c os c.cap.toNat progs p (c.threads.toNat - u) u b t=R
 rlen:rl.length≤u
set_option maxHeartbeats 8000000 in
theorem rmake_t {q:HProp}{ov:Value}{os:List Out}(hov:ListR Out.v q ov os)(hos:os.length≤100000)(hosv:∀ o∈os,o.was.val<18446744073709551616)(hoss:∀ o∈os,o.was.seq<18446744073709551616){c:Cfg}(hc:Small c)(hf0:0≤c.fuel)(hfu:c.fuel≤1000)(who:Int)(seq:Nat){pv:Value}{progs:Progs}(hpr:ProgsR q pv progs)(hpi:∀ p∈progs,∀ i∈p,i.imm<18446744073709551616)(t:Tp)(ht:t.at_≤100000) :
  Tri Tryz.prog 39 #[.agg ⟨c.v⟩, .int .i64 who, .int .u64 (seq:Int),pv, .agg ⟨tpV ov t⟩] [q] (MakeQ c q ov (rmake c os who seq progs t)):=by
 have hb0:=hc.b0;have hb1:=hc.b1;have ht1:=hc.t1;have ht0:=hc.t0;have hli:=hc.limit;have hcc:=hc.cap;have hcap:=rcap_r c hc;have hread:=rread_t hov hos hc seq t ht;have hnum:=rread_num hc os seq t;have hxt:=rread_at hos c seq ht;have hrn:=rvnew_r c who seq;have hsn:=rsnew_r c.cap.toNat (by omega)
 have hcn:((c.cap.toNat:Nat):Int)=c.cap:=by omega
 have htn:((c.threads.toNat:Nat):Int)=c.threads:=by omega
 rw [← hcn] at hcap;generalize hR:rmake c os who seq progs t=R;unfold rmake at hR;generalize rread c os seq t=X at hread hnum hxt hR;obtain ⟨⟨ta1,⟨ak1,oa1,⟨ov1a,os1a⟩,⟨nv1b,ns1b⟩⟩,tn1⟩,⟨named,limbo,wt,wl⟩,s⟩:=X;dsimp only at hnum hxt hR;obtain ⟨hn8,hl5,⟨hw0,hw1⟩,hwl0,hwl1⟩:=hnum;obtain ⟨ta,⟨ak,oa,⟨ova,osa⟩,⟨nvb,nsb⟩⟩,tn⟩:=t;obtain ⟨oad,ocap,rfl,_⟩:=id hov;unfold ReadQ plV tpV Cfg.v at hread;unfold rvV Cfg.v at hrn;unfold tpV Cfg.v;dsimp only [List.cons_append,List.nil_append] at hread hrn⊢;unfold Cfg.v at hcap
 by_cases hs1:s≠1
 ·rw [if_pos hs1] at hR
  subst hR
  refine TB (vs:=[_,_,_,_,_]) Tryz.func39 fun w0 F=>?_
  repeat' (first|refine Ga ?_|(refine Gb ?_;intro b)|(refine Gt hread ?_;rintro _ _ ⟨q1,na,nc,ma,mc,hg1,hn1,hm1,rfl,rfl⟩)|(refine Ge ?_ ?_<;>intro h<;>try omega)|fail)
  all_goals exact St.d1 Tryz.func39 ⟨_,⟨q1,none,0,none,0,0,[],hg1,ListR.none _ _,rfl,(fun _ h=>nomatch h),ListR.none _ _,rfl,rfl⟩,Ent.go⟩
 rw [if_neg hs1] at hR;obtain rfl:s=1:=Classical.byContradiction hs1;clear hs1;have hsg:=setGo_ok hc c.cap.toNat named limbo 0 ⟨0,wt,[]⟩ ⟨hw0,hw1⟩;have hsv:=setGo_val c (by omega) c.cap.toNat named limbo 0 ⟨0,wt,[]⟩ (fun _ h=>by cases h);dsimp only [List.length_nil] at hsg
 have hrs:=fun {q1:HProp} {na:Option Addr} {nc:Nat} {ma:Option Addr} {mc:Nat} (hn1:ListR u1V q1 (.slice na named.length nc) named) (hm1:ListR u1V q1 (.slice ma limbo.length mc) limbo)=>rsettle_t (c:=c) hc (ListR.none entV q1) (Nat.zero_le _) c.cap.toNat (by omega) na named.length nc ma limbo.length mc hn1 (by omega) hm1 (by omega) wt wl wt wl (by omega)
 generalize setGo c c.cap.toNat named 0 limbo ⟨0,wt,[]⟩=SG at hR hsg hsv hrs;obtain ⟨kept,snt,sputs⟩:=SG;dsimp only at hR hsg hsv;unfold plV Cfg.v at hrs;simp only [List.cons_append,List.nil_append] at hrs
 refine TB (vs:=[_,_,_,_,_]) Tryz.func39 fun w0 F=>?_
 repeat' (first|refine Ga ?_|(refine Gb ?_;intro b)|(refine Dr 5 [(0,1),(1,1),(2,1),(3,1),(4,3),(5,0),(6,0),(7,0),(8,0),(9,3),(10,0),(11,3)] [4,9,11] ?_)|refine Gl hcap ?_|refine Gl hrn ?_|refine Gl hsn ?_|(refine Gt hread ?_;rintro _ _ ⟨q1,na,nc,ma,mc,hg1,hn1,hm1,rfl,rfl⟩)|(refine Gt ((hrs hn1 hm1)) ?_;rintro _ _ ⟨q2,sa,sn,sc,hg2,hl2,rfl,rfl⟩)|fail)
 rename_i b5 b9 b10 b11 b13;obtain ⟨sad9,scp9,e9,_⟩:=id hl2
 injection e9 with e9a e9b e9c
 subst e9b;refine St.conv ?_ (Sub.refl _) (Ent.trans (Ent.of_take (p:=bl b 233 []) Take.go) (Ent.row_bl (n:=0) (sz:=5) rfl (Nat.zero_le _)))
 refine St.loopY (Lr:=?Lr1) (ι:={ x:(Nat×Rb×Tp)×(HProp×Option Addr×Nat)×(Option Addr×Nat×List RowH) // MkI c os progs ⟨named,limbo,wt,wl⟩ q R x.1.1 x.1.2.1 x.1.2.2 x.2.1.1 x.2.1.2.1 x.2.1.2.2 x.2.2.2.2 }) (fun x=>c.threads.toNat - x.1.1.1)
  (fun x=>[(15, .int .i64 (x.1.1.1:Int)),(14, .slice x.1.2.2.1 x.1.2.2.2.2.length x.1.2.2.2.1)])
  (fun x=>[x.1.2.1.1,bl b13 63 (evV c x.1.1.2.1.v ⟨na,named.length,nc,none,0,0,wt,wl,x.1.1.2.1.nt,x.1.1.2.1.nl,c.cap.toNat,x.1.2.1.2.1,x.1.1.2.1.puts.length,x.1.2.1.2.2⟩),bl b9 43 (tpV (.slice oad os.length ocap) x.1.1.2.2),Row (.slice x.1.2.2.1 x.1.2.2.2.2.length x.1.2.2.2.1) 233 5 x.1.2.2.2.2.length (x.1.2.2.2.2.flatMap rowV)])
  ⟨((0,(⟨.new who seq,snt,(kept:Int),sputs,[]⟩:Rb),(⟨ta1,⟨ak1,oa1,⟨ov1a,os1a⟩,⟨nv1b,ns1b⟩⟩,tn1⟩:Tp)),(q2,sa,sc),(some ⟨b,0,none⟩,0,[])),⟨Nat.zero_le _,hg1.trans hg2,hl2,rfl,(fun _ h=>nomatch h),by dsimp only;omega,hsv,hsg.1,⟨by dsimp only;omega,by dsimp only;omega⟩,hxt,hR,Nat.le_refl _⟩⟩ ?hE1 ?hL1 ?round1
 case hE1=>exact Sub.go
 case hL1=>exact Takes.go
 case round1 =>
  rintro ⟨⟨⟨u,⟨⟨vw,vs,vh,vst⟩,bnt,bnl,bputs,brows⟩,t⟩,⟨q3,sa3,sc3⟩,⟨ra,rc,rl⟩⟩,⟨hu,hg3,hl3,hrl,hnw,hpl,hpv,hnt,hnl,hta,hgo,hrll⟩⟩ IH;dsimp only at hu hg3 hl3 hrl hnw hpl hpv hnt hnl hta hgo hrll IH⊢
  by_cases hlt:u<c.threads.toNat
  ·rw [show c.threads.toNat - u=(c.threads.toNat - (u+1))+1 by omega,rmk_succ] at hgo
   have hcall:=rcall_r (hov.gr hg3) hos hc ⟨vw,vs,vh,vst⟩ ⟨na,named.length,nc,none,0,0,wt,wl,bnt,bnl,c.cap.toNat,sa3,bputs.length,sc3⟩ t hta (u:Int);have hcn:=rcall_num hos hosv hoss c ⟨vw,vs,vh,vst⟩ (u:Int) hta;dsimp only at hgo;generalize rcall c os ⟨vw,vs,vh,vst⟩ (u:Int) t=Y at hcall hcn hgo;obtain ⟨⟨ta4,⟨ak4,oa4,⟨ov4a,os4a⟩,⟨nv4b,ns4b⟩⟩,tn4⟩,⟨⟨vw4,vs4,vh4,vst4⟩,⟨av,sq⟩,args4,is4,s4⟩⟩:=Y;obtain ⟨ta3,⟨ak3,oa3,⟨ov3a,os3a⟩,⟨nv3b,ns3b⟩⟩,tn3⟩:=t;obtain ⟨hra4,hrv4,hrt4,hrs4⟩:=hcn;dsimp only at hra4 hrv4 hrt4 hrs4 hgo;unfold rmkC at hgo;dsimp only at hgo;unfold evV rvV plV tpV Cfg.v Cell.v at hcall;unfold evV rvV plV tpV Cfg.v;dsimp only [List.cons_append,List.nil_append] at hcall⊢
   by_cases hs2:s4=2
   ·rw [if_pos hs2] at hgo
    subst hgo hs2
    repeat' (first|refine Ga ?_|(refine Gb ?_;intro b)|refine Gl hcall ?_|(refine Ge ?_ ?_<;>intro h<;>try omega)|fail)
    all_goals exact St.d1 Tryz.func39 ⟨_,⟨q3,none,0,none,0,0,[],hg3,ListR.none _ _,rfl,(fun _ h=>nomatch h),ListR.none _ _,rfl,rfl⟩,Ent.go⟩
   rw [if_neg hs2] at hgo
   cases tn4 with
   | true =>
    rw [if_pos rfl] at hgo;subst hgo
    repeat' (first|refine Ga ?_|(refine Gb ?_;intro b)|refine Gl hcall ?_|(refine Ge ?_ ?_<;>intro h<;>try omega)|fail)
    all_goals exact St.d1 Tryz.func39 ⟨_,⟨q3,none,0,none,0,0,[],hg3,ListR.none _ _,rfl,(fun _ h=>nomatch h),ListR.none _ _,rfl,rfl⟩,Ent.go⟩
   | false =>
   rw [if_neg Bool.false_ne_true] at hgo
   cases is4 with
   | false =>
    rw [if_pos rfl] at hgo
    repeat' (first|refine Ga ?_|(refine Gb ?_;intro b)|refine Gl hcall ?_|(refine Ge ?_ ?_<;>intro h<;>try omega)|fail)
    all_goals refine IH ⟨((u+1,(⟨⟨vw4,vs4,vh4,vst4⟩,bnt,bnl,bputs,brows⟩:Rb),(⟨ta4,⟨ak4,oa4,⟨ov4a,os4a⟩,⟨nv4b,ns4b⟩⟩,false⟩:Tp)),(q3,sa3,sc3),(ra,rc,rl)),⟨hlt,hg3,hl3,hrl,hnw,by dsimp only;omega,hpv,hnt,hnl,hrt4,hgo,by dsimp only;omega⟩⟩ (by show c.threads.toNat - (u+1)<c.threads.toNat - u;omega) ?_ ?_
    all_goals first|exact Sub.go|exact Ent.go
   | true =>
   rw [if_neg (by decide)] at hgo;obtain ⟨cad,ccp,hprog,hins⟩:=rprog_r (hpr.gr hg3) av;have hplay:=rplay_t (hov.gr hg3) hos hosv hc ⟨na,named.length,nc,none,0,0,wt,wl,bnt,bnl,c.cap.toNat,sa3,bputs.length,sc3⟩ ⟨ta4,⟨ak4,oa4,⟨ov4a,os4a⟩,⟨nv4b,ns4b⟩⟩,false⟩ hrt4 ⟨vw4,vs4,vh4,vst4⟩ bputs rfl hl3 (by dsimp only;omega) (by omega) hpv (by dsimp only;omega) (by dsimp only;omega) hf0 hfu (progOf progs av) _ hins (progOf_val hpi av) args4 hra4 hrv4;have hpn:=rplay_num (room:=c.cap.toNat) (code:=progOf progs av) (args:=args4) hosv (progOf_val hpi av) hrv4 (by omega) hf0 (B:=520) (by omega) hpv ⟨vw4,vs4,vh4,vst4⟩ bnt bnl hnt.1 hnl ⟨ta4,⟨ak4,oa4,⟨ov4a,os4a⟩,⟨nv4b,ns4b⟩⟩,false⟩;have hpt:=rplay_tat hos c c.cap.toNat (progOf progs av) args4 ⟨vw4,vs4,vh4,vst4⟩ bnt bnl bputs (t:=⟨ta4,⟨ak4,oa4,⟨ov4a,os4a⟩,⟨nv4b,ns4b⟩⟩,false⟩) hrt4;dsimp only at hplay;generalize rplay c os c.cap.toNat (progOf progs av) args4 ⟨vw4,vs4,vh4,vst4⟩ bnt bnl bputs _=Z at hplay hpn hpt hgo;obtain ⟨⟨ta5,⟨ak5,oa5,⟨ov5a,os5a⟩,⟨nv5b,ns5b⟩⟩,tn5⟩,⟨⟨vw5,vs5,vh5,vst5⟩,nt5,nl5,puts5,regs5,pc5,st5,wr5,news5,s5,er5,val5⟩⟩:=Z;obtain ⟨pn1,pn2,pn3,pn7,pn4,pn5,pn6⟩:=hpn;unfold rmkP at hgo;dsimp only at pn1 pn2 pn3 pn4 pn5 pn6 pn7 hpt hgo;unfold RunO rnV evV rvV plV tpV Cfg.v at hplay;dsimp only [List.cons_append,List.nil_append,id] at hplay
   by_cases hs5:s5≠1
   ·rw [if_pos hs5] at hgo
    subst hgo
    repeat' (first|refine Ga ?_|(refine Gb ?_;intro b)|(refine St.drawa (id:=18) [(0,1),(1,1),(2,0),(3,0),(4,1),(5,1),(6,1),(7,3)] [(9,3)] [7,9] 8 mixed rfl (by intro w;rfl) (by kernel_rfl) ?_)|refine Gl hcall ?_|refine Gl hprog ?_|(refine Gt hplay ?_;rintro _ _ ⟨q5,sa5,sc5,wa5,wc5,hg5,hl5,hn5,rfl,rfl⟩)|(refine Ge ?_ ?_<;>intro h<;>try omega)|fail)
    all_goals exact St.d1 Tryz.func39 ⟨_,⟨q5,none,0,none,0,0,[],hg3.trans hg5,ListR.none _ _,rfl,(fun _ h=>nomatch h),ListR.none _ _,rfl,rfl⟩,Ent.go⟩
   rw [if_neg hs5] at hgo;obtain rfl:s5=1:=Classical.byContradiction hs5;clear hs5
   repeat' (first|refine St.haltR 24 ?_|refine Ga ?_|(refine Gb ?_;intro b)|(refine Gc ?_;intro ad cap)|(refine St.drawa (id:=18) [(0,1),(1,1),(2,0),(3,0),(4,1),(5,1),(6,1),(7,3)] [(9,3)] [7,9] 8 mixed rfl (by intro w;rfl) (by kernel_rfl) ?_)|refine Gl hcall ?_|refine Gl hprog ?_|(refine Gt hplay ?_;rintro _ _ ⟨q5,sa5,sc5,wa5,wc5,hg5,hl5,hn5,rfl,rfl⟩)|(refine Ge ?_ ?_<;>intro h<;>try omega)|fail)
   refine Halt.go ?_;refine St.conv ?_ (Sub.refl _) (Ent.of_take (p:=Row (.slice ad (rl.length+1) cap) 233 5 (rl.length+1) (rl.flatMap rowV++rowV (⟨(u:Int),sq,er5,val5,news5⟩,wa5,wc5))) Take.go)
   refine St.rowF (by omega) fun g lcp rest hv hrf=>?_
   injection hv with hv1 hv2 hv3
   subst hv1 hv3
   have hdr:DropN ((((rl.length+1:Nat):Int) - 1).toNat * 5) (rl.flatMap rowV++rowV (⟨(u:Int),sq,er5,val5,news5⟩,wa5,wc5)++rest) (rowV (⟨(u:Int),sq,er5,val5,news5⟩,wa5,wc5)++rest):=by
    rw [show (((rl.length+1:Nat):Int) - 1).toNat * 5=(rl.flatMap rowV).length by rw [flat_len rowV_len];omega,List.append_assoc];exact DropN.all _ _
   have htk:TakeN 5 (rowV (⟨(u:Int),sq,er5,val5,news5⟩,wa5,wc5)++rest) (rowV (⟨(u:Int),sq,er5,val5,news5⟩,wa5,wc5)):=TakeN.app (rowV (⟨(u:Int),sq,er5,val5,news5⟩,wa5,wc5)) _;have hput:=rput14_t hc hl5 (by omega) c.cap.toNat (by omega) ⟨(u:Int),sq,er5,val5,news5⟩ (by dsimp only;omega) wa5 news5.length wc5;unfold Cfg.v at hput;unfold rowV at htk hdr;dsimp only at hput htk hdr;have hr3:=rput3_num (c:=c) (room:=c.cap.toNat) pn6 ⟨(u:Int),sq,er5,val5,news5⟩ (by dsimp only;omega) pn7 hrs4;unfold rrow at hgo;dsimp only at hgo;generalize rput3 c c.cap.toNat puts5 ⟨(u:Int),sq,er5,val5,news5⟩=puts6 at hput hr3 hgo
   have e3:(rl++[((⟨(u:Int),sq,er5,val5,news5⟩:BRow),wa5,wc5)]).flatMap rowV=rl.flatMap rowV++rowV (⟨(u:Int),sq,er5,val5,news5⟩,wa5,wc5):=by rw [List.flatMap_append,List.flatMap_cons,List.flatMap_nil,List.append_nil]
   have e4:(rl++[((⟨(u:Int),sq,er5,val5,news5⟩:BRow),wa5,wc5)]).length=rl.length+1:=by rw [List.length_append];rfl
   repeat' (first|refine Ga ?_|(refine Dr 24 [(0,0),(1,1),(2,1),(3,0),(4,0),(5,0),(6,0),(7,0),(8,1),(9,3),(10,0),(11,3)] [9,11] ?_)|(refine Gt hput ?_;rintro _ _ ⟨q6,sa6,sn6,sc6,hg6,hl6,rfl,rfl⟩)|fail)
   obtain ⟨sad6,scp6,e6,_⟩:=id hl6
   injection e6 with e6a e6b e6c
   subst e6b;refine IH ⟨((u+1,(⟨⟨vw5,vs5,vh5,vst5⟩,nt5,nl5,puts6,brows++[⟨(u:Int),sq,er5,val5,news5⟩]⟩:Rb),(⟨ta5,⟨ak5,oa5,⟨ov5a,os5a⟩,⟨nv5b,ns5b⟩⟩,tn5⟩:Tp)),(q6,sa6,sc6),(some ⟨g,0,none⟩,cap,rl++[((⟨(u:Int),sq,er5,val5,news5⟩:BRow),wa5,wc5)])),⟨hlt,(hg3.trans hg5).trans hg6,hl6,by dsimp only;rw [List.map_append,hrl];rfl,(fun x hx=>?_),by have:=hr3.1;dsimp only;omega,hr3.2,⟨pn1.1,by dsimp only;omega⟩,pn2,hpt,hgo,by dsimp only;rw [e4];omega⟩⟩ (by show c.threads.toNat - (u+1)<c.threads.toNat - u;omega) ?_ ?_
   ·rcases List.mem_append.1 hx with hx|hx
    ·exact (hnw x hx).gr (hg5.trans hg6)
    ·obtain rfl:=List.mem_singleton.1 hx
     exact hn5.gr hg6
   ·dsimp only
    rw [e4];exact Sub.go
   ·dsimp only
    rw [e4,e3];exact Ent.trans (Ent.of_take (p:=bl g 233 (rl.flatMap rowV++rowV (⟨(u:Int),sq,er5,val5,news5⟩,wa5,wc5)++rest)) Take.go) (Ent.trans (Ent.rowF hrf) Ent.go)
  ·clear IH
   obtain rfl:u=c.threads.toNat:=by omega
   rw [Nat.sub_self] at hgo;unfold rmk at hgo;have hend:=rend_t hc hl3 (by omega) c.cap.toNat (by omega) na named.length nc none 0 0 (Rp.po ⟨named,limbo,wt,wl⟩ bnt bnl) (by show 0≤bnt∧bnt≤1000000;omega) (by show 0≤bnl∧bnl≤1000000;omega);unfold plV Cfg.v at hend;unfold evV rvV plV tpV Cfg.v;dsimp only [List.cons_append,List.nil_append,Rp.po] at hend hgo⊢
   repeat' (first|refine Ga ?_|(refine Dt 25 [(1,0),(3,0),(6,0)] (.pick [(0,3)] (.pick [(2,3),(4,3),(5,3),(7,0),(8,3)] .done (.pick [(4,3),(2,3),(5,3),(7,0),(8,3)] .done .nope)) (.pick [(2,3)] (.pick [(0,3),(4,3),(5,3),(7,0),(8,3)] .done (.pick [(4,3)] (.pick [(0,3),(5,3),(7,0),(8,3)] .done (.pick [(5,3),(0,3),(7,0),(8,3)] .done .nope)) .nope)) (.pick [(4,3)] (.pick [(0,3),(2,3),(5,3),(7,0),(8,3)] .done (.pick [(2,3)] (.pick [(0,3),(5,3),(7,0),(8,3)] .done (.pick [(5,3),(0,3),(7,0),(8,3)] .done .nope)) .nope)) .nope))) [0,2,4,5,8] ?_)|apply StD.pick|exact StD.nope|(refine Gt hend ?_;rintro _ _ ⟨q6,sa6,sn6,sc6,hg6,hl6,rfl,rfl⟩)|(refine StD.ok3 rfl (OpOk.ofW OpV.go) rfl ?_;rintro _ _ ⟨rfl,rfl⟩)|(refine Ge ?_ ?_<;>intro h<;>try omega)|fail)
   all_goals subst hgo
   all_goals obtain ⟨sad6,scp6,e6,_⟩:=id hl6
   all_goals injection e6 with e6a e6b e6c
   all_goals subst e6b
   all_goals refine St.conv ?_ (Sub.refl _) (Ent.of_take (p:=Row (.slice ra rl.length rc) 233 5 rl.length (rl.flatMap rowV)) Take.go)
   all_goals refine St.rowL rfl fun R2 hR2=>?_
   all_goals refine St.conv ?_ (Sub.refl _) (Ent.trans (Ent.of_take (p:=q6) Take.go) (Ent.star_in [q6,R2]))
   all_goals exact St.d1 Tryz.func39 ⟨_,⟨star [q6,R2],sa6,sc6,ra,rc,(c.cap.toNat:Int),rl,(hg3.trans hg6).trans (Gr.star R2 q6),hl6.gr (Gr.star R2 q6),hrl,(fun x hx=>(hnw x hx).gr (hg6.trans (Gr.star R2 q6))),hR2.weak fun b l h=>RdC.star (L:=[q6,R2]) (List.mem_cons_of_mem _ (List.mem_cons_self ..)) h,rfl,rfl⟩,Ent.go⟩
end Go.Proofs.YthmbgodcpgkkeaaGreat
