/-
  Package tumblerref15: Play. Package tumblerlaw15: CallPlays. Package tumblerlaw15: CallPlays, a round that asks for something.
-/
import Derived.Test.YthmbgodcpgkkeaaGreatIr
import Derived.Test.YthmbgodcpgkkeaaGreatKn
set_option maxRecDepth 100000
namespace Go.Proofs.YthmbgodcpgkkeaaGreat
theorem St.loopZ {P:Program}{C:Cx}{k k':List Item}{E:Env}{L:List HProp}{ι κ:Type}{c:Code}(μ:ι→Nat)(mods:ι→Env)(ps:ι→List HProp)(i0:ι)(mx:κ→Env)(px:κ→List HProp){Lr:List HProp}(hE:Sub E (mods i0))(hL:Takes (ps i0) L Lr)
  (round:∀ i,(∀ (j:ι) {E':Env} {L':List HProp},μ j<μ i→Sub E' (mods j++strip (keys (mods i0)) E)→Ent L' (ps j++Lr)→St P C (.inLoop c::k) E' L')→
   (∀ (x:κ) {E':Env} {L':List HProp},Sub E' (mx x++strip (keys (mods i0)) E)→Ent L' (px x++Lr)→St P C k' E' L')→St P C (.code c::.inLoop c::k) (mods i++strip (keys (mods i0)) E) (ps i++Lr))
  (after:∀ x:κ,St P C k' (mx x++strip (keys (mods i0)) E) (px x++Lr)):St P C (.code (.loop c)::k) E L :=
 St.loopY μ mods ps i0 hE hL fun i IH=>round i IH fun x _ _ h1 h2=>(after x).conv h1 h2
theorem St.joinZ {P:Program}{C:Cx}{k k':List Item}{E:Env}{L:List HProp}{κ:Type}(mx:κ→Env)(px:κ→List HProp){Lr:List HProp}
  (round:(∀ (x:κ) {E':Env} {L':List HProp},Sub E' (mx x)→Ent L' (px x++Lr)→St P C k' E' L')→St P C k E L)
  (after:∀ x:κ,St P C k' (mx x) (px x++Lr)):St P C k E L :=
 round fun x _ _ h1 h2=>(after x).conv h1 h2
theorem tdo_le {os:List Out}:∀ (t:Tp) (o:MOp),t.at_≤os.length→(tdo os t o).1.at_≤os.length:=fun t o h=>by
 unfold tdo;split
 ·exact h
 split
 ·exact h
 ·dsimp only;omega
theorem tdo_more {os:List Out}{n:Nat}:∀ (t:Tp) (o:MOp),(t.at_≤os.length∧(t.need=true∨n+1≤t.at_))→((tdo os t o).1.at_≤os.length∧((tdo os t o).1.need=true∨n+1≤(tdo os t o).1.at_)):=fun t o ⟨h1,h2⟩=>by
 refine ⟨tdo_le t o h1, ?_⟩;unfold tdo;split
 ·exact h2
 split
 ·exact .inl rfl
 ·rename_i h3 _
  rcases h2 with h2|h2
  ·exact absurd h2 h3
  ·exact .inr (by dsimp only;omega)
theorem tdo_one {os:List Out}{t:Tp}(o:MOp)(h:t.at_≤os.length):(tdo os t o).1.at_≤os.length∧((tdo os t o).1.need=true∨t.at_+1≤(tdo os t o).1.at_):=by
 refine ⟨tdo_le t o h, ?_⟩;unfold tdo;split
 ·rename_i hn;exact .inl hn
 split
 ·exact .inl rfl
 ·exact .inr (Nat.le_refl _)
theorem rlook_g2 {c:Cfg}{os:List Out}{G:Tp→Prop}(hG:∀ t o,G t→G (tdo os t o).1){t:Tp}(p:Cp)(progs:Progs)(s:Rs)(h:G (tdo os t (mop 0 (c.at 0 0 0) 0)).1):G (rlook c os p progs s t).1:=by
 unfold rlook rlook1;split
 ·exact h
 split
 ·exact h
 ·unfold rlook2
  dsimp only;split
  ·exact rhelp_g hG (hG _ _ h) _ _ _
  ·exact hG _ _ h
def Own1 (c:Cfg)(os:List Out)(p:Cp)(progs:Progs)(ow:Bool)(R:Tp×Rs)(q:HProp)(m tries:Nat)(s:Rs)(t:Tp)(q1:HProp):Prop :=
 Gr q q1∧t.at_≤os.length∧s.rows=[]∧tries≤2∧((m=3 - tries∧s.done=false∧t.need=false∧∃ kk,rownL c os p progs kk s t=R∧(ow=true→kk=2 - tries)∧(ow=false→kk=0))∨(m=0∧(s.done=true∨t.need=true)∧(t,s)=R))
section
set_option maxHeartbeats 8000000 in
theorem cplay15_t {q:HProp}{ov:Value}{os:List Out}(hov:ListR Out.v q ov os)(hos:os.length≤100000)(hosv:∀ o∈os,o.was.val<18446744073709551616)(hoss:∀ o∈os,o.was.seq<18446744073709551616){c:Cfg}(hc:Small c)(hf0:0≤c.fuel)(hfu:c.fuel≤1000)(hlast:c.last≤140737488355328){pv:Value}{progs:Progs}(hpr:ProgsR q pv progs)(hpi:∀ p∈progs,∀ i∈p,i.imm<18446744073709551616)(hpl:∀ p∈progs,p.length≤1000000)(p:Cp)(h4:p.args.length=4)(hav:∀ a∈p.args,a<18446744073709551616)(hw:0≤p.who∧p.who≤1000) :
  Tri Tryz.prog 62 #[.agg ⟨cpV c p pv⟩,ov] [q]
   fun r L=>∃ q' ra rc rl,Gr q q'∧RowsQ q' (rcplay c os p progs (.live 0)).2.rows ra rc rl∧r=.agg ⟨rsV ov (rcplay c os p progs (.live 0)).1 (rcplay c os p progs (.live 0)).2 (.slice ra rl.length rc)⟩∧L=[q']:=by
 obtain ⟨cad,ccp,hcode,hcr⟩:=code15_r hpr c p h4;have hright:=right5_r q _ _ hcr;have honly:=reads5_r q _ _ hcr (Cp.code_len hpl p);obtain ⟨adt,capt,rfl,_⟩:=id hov;obtain ⟨pad,pcp,rfl,_⟩:=id hpr
 have hlk:=fun q1 (g:Gr q q1) t (ht:t.at_≤os.length) s ra rn rc=>look15_r (hov.gr g) hos hosv hc (hpr.gr g) p h4 t (by omega) s ra rn rc
 have hrd:=fun q1 (g:Gr q q1) t (ht:t.at_≤os.length) s ra rn rc sq=>reads15_t (hov.gr g) hos hosv hc hf0 hfu (hpr.gr g) hpi p h4 hav t (by omega) s ra rn rc sq
 have han:=fun q1 (g:Gr q q1) t (ht:t.at_≤os.length) s ra rn rc=>ann15_r (hov.gr g) hos hc pad progs.length pcp p t (by omega) s ra rn rc
 have htr:=fun q1 (g:Gr q q1) t (ht:t.at_≤os.length) s ra rc rl hq now=>try15_t (hov.gr g) hos hosv hoss hc hf0 hfu hlast (hpr.gr g) hpi hpl p h4 hav hw t (by omega) s ra rc rl hq now
 generalize hX:rcplay c os p progs (.live 0)=X
 obtain ⟨kk0,R,hR,hX2,hkk⟩:∃ kk R,rownL c os p progs kk .new (.live 0)=R∧rcplay2 c os p progs R.2 R.1=X∧kk=(if ownB p progs=true then 2 else 0):=by
  unfold rcplay at hX
  by_cases ho:ownB p progs=true
  ·rw [if_pos ho] at hX
   exact ⟨2,_,rfl,hX,by rw [if_pos ho]⟩
  ·rw [if_neg ho] at hX
   exact ⟨0,(.live 0, .new),rfl,hX,by rw [if_neg ho]⟩
 clear hX
 have hcV:∃ l,cpV c p (.slice pad progs.length pcp)=l:=⟨_,rfl⟩
 unfold cpV Cfg.v g4;dsimp only [List.cons_append,List.nil_append];unfold cpV Cfg.v g4 at hcode;dsimp only [List.cons_append,List.nil_append] at hcode
 refine TB (vs:=[_,_]) Tryz.func62 fun w0 F=>?_
 repeat' (first|refine St.halt 2 ?_|refine Ga ?_|(refine Gb ?_;intro b)|fail)
 refine Halt.go ?_;rename_i b2 b4;revert b;intro b5;refine St.joinZ (Lr:=F) (k':=?kj) (κ:={ ow:Bool // ow=ownB p progs }) (fun x=>[(6, .bool x.1),(2, .pointer (some ⟨b2,0,none⟩)),(4, .pointer (some ⟨b4,0,none⟩)),(5, .pointer (some ⟨b5,0,none⟩))]) (fun _=>[q,bl b5 142 (rsV (.slice adt os.length capt) (.live 0) .new (.slice none 0 0)),bl b2 140 (cpV c p (.slice pad progs.length pcp)),bl b4 142 [.slice none 0 0, .int .i64 0, .int .i64 0, .int .i64 0, .int .u64 0, .int .u64 0, .int .u64 0, .int .u64 0, .bool false, .bool false, .bool false, .int .i64 0, .int .u64 0, .int .i64 0, .int .i64 0, .slice none 0 0]]) ?r ?a
 case r =>
  intro JZ
  cases hrb:rightB (p.code progs) with
  | false =>
   rw [hrb] at hright
   repeat' (first|refine St.halt 3 ?_|refine Ga ?_|refine Gl hcode ?_|refine Gl hright ?_|fail)
   refine Halt.go ?_;refine JZ ⟨true,by unfold ownB;rw [hrb];rfl⟩ ?_ ?_
   ·exact Sub.go
   ·exact Ent.go
  | true =>
   rw [hrb] at hright
   have how:onlyB (p.code progs)=ownB p progs:=by unfold ownB;rw [hrb];rfl
   rw [how] at honly
   repeat' (first|refine St.halt 3 ?_|refine Ga ?_|refine Gl hcode ?_|refine Gl hright ?_|refine Gl honly ?_|fail)
   refine Halt.go ?_;refine JZ ⟨ownB p progs,rfl⟩ ?_ ?_
   ·exact Sub.go
   ·exact Ent.go
 case a =>
  rintro ⟨ow,how⟩;dsimp only;rw [← how] at hkk;clear how hright honly hcode hcr hcV
  have hcpv:∀ (t:Tp) (s:Rs),t=t∧s=s:=fun _ _=>⟨rfl,rfl⟩
  clear hcpv
  have hs0:Own1 c os p progs ow R q 3 0 .new (.live 0) q:=⟨Gr.refl q,Nat.zero_le _,rfl,Nat.zero_le _, .inl ⟨rfl,rfl,rfl,kk0,hR,fun e=>by rw [hkk,if_pos e],fun e=>by rw [hkk,if_neg (by rw [e];exact Bool.false_ne_true)]⟩⟩
  clear hR hkk
  repeat' (first|refine Ga ?_|fail)
  refine St.loopZ (Lr:=?Lr1) (k':=?kx1) (ι:={ x:(Nat×Nat)×(Rs×Tp)×HProp // Own1 c os p progs ow R q x.1.1 x.1.2 x.2.1.1 x.2.1.2 x.2.2 }) (κ:={ x:(Rs×Tp)×HProp // Gr q x.2∧x.1.2.at_≤os.length∧x.1.1.rows=[]∧(x.1.2,x.1.1)=R }) (fun x=>x.1.1.1) (fun x=>[(7, .int .i64 (x.1.1.2:Int))])
   (fun x=>[x.1.2.2,bl b5 142 (rsV (.slice adt os.length capt) x.1.2.1.2 x.1.2.1.1 (.slice none 0 0))]) ⟨((3,0),(.new, .live 0),q),hs0⟩
   (fun _=>[]) (fun x=>[x.1.2,bl b5 142 (rsV (.slice adt os.length capt) x.1.1.2 x.1.1.1 (.slice none 0 0))]) ?hE1 ?hL1 ?round1 ?after1
  case hE1=>exact Sub.go
  case hL1=>exact Takes.go
  case round1 =>
   rintro ⟨⟨⟨m,tries⟩,⟨s,t⟩,q1⟩,⟨hg,hta,hrw,htr2,hcase⟩⟩ IH EX;dsimp only at hg hta hrw htr2 hcase IH EX⊢
   rcases hcase with ⟨hm,hdn,htn,kk,hgo,hk1,hk2⟩|⟨hm,hfin,hR⟩
   ·by_cases hgoOn:ow=true∧tries<2
    ·obtain ⟨how,hlt⟩:=hgoOn
     subst how;have hk1:=hk1 rfl;rw [show kk=(1 - tries)+1 by omega,rownL] at hgo;have hl:=hlk q1 hg t hta s none 0 0;have hx1:=rlook_g (G:=fun t=>t.at_≤os.length) (c:=c) tdo_le hta p progs s;have hr1:=rlook_rows c os p progs s t;generalize rlook c os p progs s t=Y at hl hx1 hr1 hgo;obtain ⟨t1,⟨s1,⟨nv,ns⟩⟩⟩:=Y;dsimp only at hl hx1 hr1 hgo;unfold rownL1 at hgo;dsimp only at hgo;rw [hrw] at hr1;have hrd1:=hrd q1 hg t1 hx1 s1 none 0 0 ns;have hx2:=rreads_g (G:=fun t=>t.at_≤os.length) (c:=c) tdo_le hx1 p progs s1 ns;have hr2:=rreads_rows c os p progs s1 ns t1;have he:=rreads_end c os p progs s1 ns t1;generalize rreads c os p progs s1 ns t1=Y2 at hrd1 hx2 hr2 he hgo;obtain ⟨t2,⟨s2,ag⟩⟩:=Y2;unfold rownL2 at hgo;dsimp only at hrd1 hx2 hr2 he hgo;obtain ⟨ta,⟨ak,oa,⟨ova,osa⟩,⟨nvb,nsb⟩⟩,tn⟩:=t;obtain ⟨ta1,⟨ak1,oa1,⟨ov1a,os1a⟩,⟨nv1b,ns1b⟩⟩,tn1⟩:=t1;obtain ⟨ta2,⟨ak2,oa2,⟨ov2a,os2a⟩,⟨nv2b,ns2b⟩⟩,tn2⟩:=t2;obtain ⟨al,dn,er,vl,lk,sw,rws⟩:=s;obtain ⟨al1,dn1,er1,vl1,lk1,sw1,rws1⟩:=s1;obtain ⟨al2,dn2,er2,vl2,lk2,sw2,rws2⟩:=s2;dsimp only at hdn htn hrw hr1 hr2 hx1 hx2 hta he hgo;subst hdn htn hrw hr1 hr2;unfold cpV rsV tpV Cfg.v Cell.v g4 at hl;unfold cpV rsV tpV Cfg.v g4 at hrd1;unfold cpV rsV tpV Cfg.v g4;dsimp only [List.cons_append,List.nil_append] at hl hrd1⊢
     by_cases hst:dn1=true∨tn1=true
     ·rw [if_pos hst] at hgo
      subst hgo;unfold rcplay2 at hX2;dsimp only at hX2;rw [if_pos hst] at hX2;subst hX2
      cases dn1 with
      | true =>
       repeat' (first|refine Ga ?_|(refine Gb ?_;intro b)|refine Gl hl ?_|(refine Ge ?_ ?_<;>intro h<;>try omega)|fail)
       exact St.d1 Tryz.func62 ⟨_,⟨q1,none,0,[],hg,RowsQ.nil q1,rfl,rfl⟩,Ent.go⟩
      | false =>
       obtain rfl:tn1=true:=hst.resolve_left Bool.false_ne_true
       repeat' (first|refine Ga ?_|(refine Gb ?_;intro b)|refine Gl hl ?_|(refine Ge ?_ ?_<;>intro h<;>try omega)|fail)
       exact St.d1 Tryz.func62 ⟨_,⟨q1,none,0,[],hg,RowsQ.nil q1,rfl,rfl⟩,Ent.go⟩
     ·rw [if_neg hst] at hgo
      have hd1:dn1=false:=by
       cases dn1 with
       | true=>exact absurd (.inl rfl) hst
       | false=>rfl
      have hn1:tn1=false:=by
       cases tn1 with
       | true=>exact absurd (.inr rfl) hst
       | false=>rfl
      subst hd1 hn1
      cases ag with
      | true =>
       obtain ⟨rfl,rfl,rfl,rfl,rfl,rfl,_⟩:=(Rs.mk.injEq ..).mp (he.1 rfl);rw [if_pos rfl] at hgo
       repeat' (first|refine Ga ?_|(refine Gb ?_;intro b)|refine Gl hl ?_|(refine Gt hrd1 ?_;rintro _ _ ⟨q2,hg2,rfl,rfl⟩)|(refine Ge ?_ ?_<;>intro h<;>try omega)|fail)
       cases tn2 with
       | true =>
        rw [rownL_dead rfl] at hgo;refine IH ⟨((0,tries+1),(⟨al2,false,er2,vl2,lk2,sw2,[]⟩,⟨ta2,⟨ak2,oa2,⟨ov2a,os2a⟩,⟨nv2b,ns2b⟩⟩,true⟩),q2),⟨hg.trans hg2,hx2,rfl,by dsimp only;omega, .inr ⟨rfl, .inr rfl,hgo⟩⟩⟩ (by dsimp only;omega) ?_ ?_
        ·exact Sub.go
        ·exact Ent.go
       | false =>
        refine IH ⟨((m - 1,tries+1),(⟨al2,false,er2,vl2,lk2,sw2,[]⟩,⟨ta2,⟨ak2,oa2,⟨ov2a,os2a⟩,⟨nv2b,ns2b⟩⟩,false⟩),q2),⟨hg.trans hg2,hx2,rfl,by dsimp only;omega, .inl ⟨by dsimp only;omega,rfl,rfl,1 - tries,hgo,fun _=>by dsimp only;omega,fun e=>by cases e⟩⟩⟩ (by dsimp only;omega) ?_ ?_
        ·exact Sub.go
        ·exact Ent.go
      | false =>
       have he2:=he.2 rfl;rw [if_neg Bool.false_ne_true] at hgo
       repeat' (first|refine Ga ?_|(refine Gb ?_;intro b)|refine Gl hl ?_|(refine Gt hrd1 ?_;rintro _ _ ⟨q2,hg2,rfl,rfl⟩)|(refine Ge ?_ ?_<;>intro h<;>try omega)|fail)
       refine IH ⟨((0,tries),(⟨al2,dn2,er2,vl2,lk2,sw2,[]⟩,⟨ta2,⟨ak2,oa2,⟨ov2a,os2a⟩,⟨nv2b,ns2b⟩⟩,tn2⟩),q2),⟨hg.trans hg2,hx2,rfl,htr2, .inr ⟨rfl,he2,hgo⟩⟩⟩ (by dsimp only;omega) ?_ ?_
       ·exact Sub.go
       ·exact Ent.go
    ·have hk0:kk=0:=by
      cases ow with
      | false=>exact hk2 rfl
      | true=>have:=hk1 rfl;have:¬ tries<2:=fun e=>hgoOn ⟨rfl,e⟩;omega
     subst hk0;have hgo:(t,s)=R:=hgo
     cases ow with
     | false =>
      repeat' (first|refine St.halt 13 ?_|refine Ga ?_|fail)
      refine Halt.go ?_;refine EX ⟨((s,t),q1),hg,hta,hrw,hgo⟩ ?_ ?_
      ·exact Sub.go
      ·exact Ent.go
     | true =>
      have hge:¬ tries<2:=fun e=>hgoOn ⟨rfl,e⟩
      repeat' (first|refine St.halt 13 ?_|refine Ga ?_|(refine Ge ?_ ?_<;>intro h<;>try omega)|fail)
      refine Halt.go ?_;refine EX ⟨((s,t),q1),hg,hta,hrw,hgo⟩ ?_ ?_
      ·exact Sub.go
      ·exact Ent.go
   ·clear IH
    obtain ⟨ta,⟨ak,oa,⟨ova,osa⟩,⟨nvb,nsb⟩⟩,tn⟩:=t;obtain ⟨al,dn,er,vl,lk,sw,rws⟩:=s;dsimp only at hfin hrw hta
    have hEX:=fun {E'} {L'}=>EX ⟨((⟨al,dn,er,vl,lk,sw,rws⟩,⟨ta,⟨ak,oa,⟨ova,osa⟩,⟨nvb,nsb⟩⟩,tn⟩),q1),hg,hta,hrw,hR⟩ (E':=E') (L':=L')
    clear EX;unfold rsV tpV at hEX⊢;dsimp only [List.cons_append,List.nil_append] at hEX⊢
    cases ow with
    | false =>
     repeat' (first|refine St.halt 13 ?_|refine Ga ?_|fail)
     refine Halt.go ?_;refine hEX ?_ ?_
     ·exact Sub.go
     ·exact Ent.go
    | true =>
     by_cases hlt:tries<2
     ·cases dn with
      | true =>
       repeat' (first|refine St.halt 13 ?_|refine Ga ?_|(refine Ge ?_ ?_<;>intro h<;>try omega)|fail)
       refine Halt.go ?_;refine hEX ?_ ?_
       ·exact Sub.go
       ·exact Ent.go
      | false =>
       obtain rfl:tn=true:=hfin.resolve_left Bool.false_ne_true
       repeat' (first|refine St.halt 13 ?_|refine Ga ?_|(refine Ge ?_ ?_<;>intro h<;>try omega)|fail)
       refine Halt.go ?_;refine hEX ?_ ?_
       ·exact Sub.go
       ·exact Ent.go
     ·repeat' (first|refine St.halt 13 ?_|refine Ga ?_|(refine Ge ?_ ?_<;>intro h<;>try omega)|fail)
      refine Halt.go ?_;refine hEX ?_ ?_
      ·exact Sub.go
      ·exact Ent.go
  case after1 =>
   rintro ⟨⟨⟨s,t⟩,q1⟩,hg,hta,hrw,hR⟩;dsimp only at hg hta hrw hR⊢;subst hR;unfold rcplay2 at hX2;dsimp only at hX2;clear hrd;have hlk2:=hlk;clear hlk
   by_cases hst:s.done=true∨t.need=true
   ·rw [if_pos hst] at hX2
    subst hX2;obtain ⟨ta,⟨ak,oa,⟨ova,osa⟩,⟨nvb,nsb⟩⟩,tn⟩:=t;obtain ⟨al,dn,er,vl,lk,sw,rws⟩:=s;dsimp only at hst hrw hta;subst hrw;unfold rsV tpV;dsimp only [List.cons_append,List.nil_append]
    cases dn with
    | true =>
     repeat' (first|refine Ga ?_|fail)
     exact St.d1 Tryz.func62 ⟨_,⟨q1,none,0,[],hg,RowsQ.nil q1,rfl,rfl⟩,Ent.go⟩
    | false =>
     obtain rfl:tn=true:=hst.resolve_left Bool.false_ne_true
     repeat' (first|refine Ga ?_|fail)
     exact St.d1 Tryz.func62 ⟨_,⟨q1,none,0,[],hg,RowsQ.nil q1,rfl,rfl⟩,Ent.go⟩
   ·rw [if_neg hst] at hX2
    have hd:s.done=false:=by
     cases e:s.done with
     | true=>exact absurd (.inl e) hst
     | false=>rfl
    have hn:t.need=false:=by
     cases e:t.need with
     | true=>exact absurd (.inr e) hst
     | false=>rfl
    have han1:=han q1 hg t hta s none 0 0;have hx1:=ranL_g (G:=fun t=>t.at_≤os.length) (c:=c) tdo_le p 4 0 hta;generalize ranL c os p 4 0 t=t1 at han1 hx1 hX2
    have hinit:Gr q q1∧t1.at_≤os.length∧(t1.need=false→os.length<t1.at_+(os.length+1))∧RowsQ q1 s.rows none 0 []∧rloop c os p progs (os.length+1) s t1=X:=⟨hg,hx1,fun _=>by omega,by rw [hrw];exact RowsQ.nil q1,hX2⟩
    obtain ⟨ta,⟨ak,oa,⟨ova,osa⟩,⟨nvb,nsb⟩⟩,tn⟩:=t;obtain ⟨ta1,⟨ak1,oa1,⟨ov1a,os1a⟩,⟨nv1b,ns1b⟩⟩,tn1⟩:=t1;obtain ⟨al,dn,er,vl,lk,sw,rws⟩:=s;dsimp only at hd hn;subst hd hn;unfold cpV rsV tpV Cfg.v g4 at han1;unfold cpV rsV tpV Cfg.v g4;dsimp only [List.cons_append,List.nil_append] at han1⊢
    repeat' (first|refine Ga ?_|refine Gl han1 ?_|fail)
    refine St.loopY (Lr:=?Lr2) (ι:={ x:(Nat×Rs×Tp)×HProp×(Option Addr×Nat)×List RowH // Gr q x.2.1∧x.1.2.2.at_≤os.length∧(x.1.2.2.need=false→os.length<x.1.2.2.at_+x.1.1)∧RowsQ x.2.1 x.1.2.1.rows x.2.2.1.1 x.2.2.1.2 x.2.2.2∧rloop c os p progs x.1.1 x.1.2.1 x.1.2.2=X }) (fun x=>x.1.1.1) (fun _=>[])
     (fun x=>[x.1.2.1,bl b5 142 (rsV (.slice adt os.length capt) x.1.1.2.2 x.1.1.2.1 (.slice x.1.2.2.1.1 x.1.2.2.2.length x.1.2.2.1.2))]) ⟨((os.length+1,(⟨al,false,er,vl,lk,sw,rws⟩:Rs),(⟨ta1,⟨ak1,oa1,⟨ov1a,os1a⟩,⟨nv1b,ns1b⟩⟩,tn1⟩:Tp)),(q1,(none,0),[])),hinit⟩ ?hE2 ?hL2 ?round2
    case hE2=>exact Sub.go
    case hL2=>exact Takes.go
    case round2 =>
     clear hinit hX2 han1 han hx1 hta hg;rintro ⟨⟨⟨k,s,t⟩,q2,⟨ra,rc⟩,rl⟩,hg,hta,hk,hrq,hgo⟩ IH;dsimp only at hg hta hk hrq hgo IH⊢
     by_cases hst:s.done=true∨t.need=true
     ·clear IH
      have hgo:(t,s)=X:=by
       cases k with
       | zero=>exact hgo
       | succ k=>rw [rloop,if_pos hst] at hgo;exact hgo
      subst hgo;obtain ⟨ta,⟨ak,oa,⟨ova,osa⟩,⟨nvb,nsb⟩⟩,tn⟩:=t;obtain ⟨al,dn,er,vl,lk,sw,rws⟩:=s;dsimp only at hst hrq;unfold rsV tpV;dsimp only [List.cons_append,List.nil_append]
      cases dn with
      | true =>
       repeat' (first|refine Ga ?_|fail)
       exact St.d1 Tryz.func62 ⟨_,⟨q2,ra,rc,rl,hg,hrq,rfl,rfl⟩,Ent.go⟩
      | false =>
       obtain rfl:tn=true:=hst.resolve_left Bool.false_ne_true
       repeat' (first|refine Ga ?_|fail)
       exact St.d1 Tryz.func62 ⟨_,⟨q2,ra,rc,rl,hg,hrq,rfl,rfl⟩,Ent.go⟩
     ·have hn:t.need=false:=by
       cases e:t.need with
       | true=>exact absurd (.inr e) hst
       | false=>rfl
      have hd:s.done=false:=by
       cases e:s.done with
       | true=>exact absurd (.inl e) hst
       | false=>rfl
      have hk:=hk hn
      obtain ⟨k,rfl⟩:∃ k',k=k'+1:=⟨k - 1,by omega⟩
      rw [rloop,if_neg hst] at hgo;clear hst;have hl:=hlk2 q2 hg t hta s ra rl.length rc;have hx1:=rlook_g2 (c:=c) (tdo_more (os:=os) (n:=t.at_)) p progs s (tdo_one (os:=os) (mop 0 (c.at 0 0 0) 0) hta);have hr1:=rlook_rows c os p progs s t;generalize rlook c os p progs s t=Y at hl hx1 hr1 hgo;obtain ⟨t1,⟨s1,⟨nv,ns⟩⟩⟩:=Y;dsimp only at hl hx1 hr1 hgo;rw [← hr1] at hrq;unfold rloop1 at hgo;dsimp only at hgo;have htr1:=htr q2 hg t1 hx1.1 s1 ra rc rl hrq ⟨nv,ns⟩;have hx3:=rtry_g (c:=c) (tdo_more (os:=os) (n:=t.at_)) hx1 p progs s1 ⟨nv,ns⟩;generalize rtry c os p progs s1 ⟨nv,ns⟩ t1=Y3 at htr1 hx3 hgo;obtain ⟨t3,s3⟩:=Y3;dsimp only at htr1 hx3 hgo;obtain ⟨ta,⟨ak,oa,⟨ova,osa⟩,⟨nvb,nsb⟩⟩,tn⟩:=t;obtain ⟨ta1,⟨ak1,oa1,⟨ov1a,os1a⟩,⟨nv1b,ns1b⟩⟩,tn1⟩:=t1;obtain ⟨ta3,⟨ak3,oa3,⟨ov3a,os3a⟩,⟨nv3b,ns3b⟩⟩,tn3⟩:=t3;obtain ⟨al,dn,er,vl,lk,sw,rws⟩:=s;obtain ⟨al1,dn1,er1,vl1,lk1,sw1,rws1⟩:=s1;obtain ⟨al3,dn3,er3,vl3,lk3,sw3,rws3⟩:=s3;dsimp only at hd hn hrq hx1 hx3 hta hk htr1 hgo;subst hd hn;unfold cpV rsV tpV Cfg.v Cell.v g4 at hl htr1;unfold rsV tpV;dsimp only [List.cons_append,List.nil_append] at hl htr1⊢
      by_cases hst:dn1=true∨tn1=true
      ·rw [if_pos hst] at hgo
       subst hgo;clear IH;dsimp only
       cases dn1 with
       | true =>
        repeat' (first|refine Ga ?_|(refine Gb ?_;intro b)|refine Gl hl ?_|fail)
        exact St.d1 Tryz.func62 ⟨_,⟨q2,ra,rc,rl,hg,hrq,rfl,rfl⟩,Ent.go⟩
       | false =>
        obtain rfl:tn1=true:=hst.resolve_left Bool.false_ne_true
        repeat' (first|refine Ga ?_|(refine Gb ?_;intro b)|refine Gl hl ?_|fail)
        exact St.d1 Tryz.func62 ⟨_,⟨q2,ra,rc,rl,hg,hrq,rfl,rfl⟩,Ent.go⟩
      ·rw [if_neg hst] at hgo
       have hd1:dn1=false:=by
        cases dn1 with
        | true=>exact absurd (.inl rfl) hst
        | false=>rfl
       have hn1:tn1=false:=by
        cases tn1 with
        | true=>exact absurd (.inr rfl) hst
        | false=>rfl
       subst hd1 hn1
       repeat' (first|refine Ga ?_|(refine Gb ?_;intro b)|refine Gl hl ?_|(refine Gt htr1 ?_;rintro _ _ ⟨q3,ra3,rc3,rl3,hg3,hrq3,rfl,rfl⟩)|fail)
       refine IH ⟨((k,(⟨al3,dn3,er3,vl3,lk3,sw3,rws3⟩:Rs),(⟨ta3,⟨ak3,oa3,⟨ov3a,os3a⟩,⟨nv3b,ns3b⟩⟩,tn3⟩:Tp)),(q3,(ra3,rc3),rl3)),⟨hg.trans hg3,hx3.1,fun e=>?_,hrq3,hgo⟩⟩ (by dsimp only;omega) ?_ ?_
       ·dsimp only at e⊢
        rcases hx3.2 with h|h
        ·rw [e] at h;cases h
        ·omega
       ·exact Sub.go
       ·exact Ent.go
end
def cplayQ (q:HProp)(v:Value)(L:List HProp):Prop:=v=.bool true∧L=[q]
theorem cplays_few (c:Cfg)(who:Int)(tag:Nat)(q:HProp)(pv ov:Value)(progs:Progs)(jp:Int)(ja:List Nat)(outs:List Out)(hpv:ProgsG q pv progs)(hov:ListR Out.v q ov outs)(hb:¬ (few14B c progs=true∧outs.length≤120)) :
  Tri Tryz.prog 7 #[.agg ⟨c.v⟩, .int .i64 who, .int .u64 (tag:Int),pv, .agg ⟨.int .i64 jp::g4 ja⟩,ov] [q] (cplayQ q):=by
 have hfew:=few15_r c q pv progs hpv;have hal:=alive15_t;obtain ⟨oad,ocap,rfl,hor⟩:=hov;unfold g4
 cases hb1:few14B c progs with
 | false =>
  rw [hb1] at hfew
  refine TB (vs:=[_,_,_,_,_,_]) Tryz.func7 fun w0 F=>?_
  repeat' (first|refine Ga ?_|(refine Gb ?_;intro b)|refine Gl hfew ?_|(refine Gt hal ?_;rintro _ _ ⟨rfl,rfl⟩)|fail)
  refine St.d1 Tryz.func7 ⟨_,⟨rfl,rfl⟩,Ent.go⟩
 | true =>
  rw [hb1] at hfew
  have hbig:¬ outs.length≤120:=fun h=>hb ⟨hb1,h⟩
  refine TB (vs:=[_,_,_,_,_,_]) Tryz.func7 fun w0 F=>?_
  repeat' (first|refine Ga ?_|(refine Gb ?_;intro b)|refine Gl hfew ?_|(refine Gt hal ?_;rintro _ _ ⟨rfl,rfl⟩)|(refine Ge ?_ ?_<;>intro h<;>try omega)|fail)
  refine St.d1 Tryz.func7 ⟨_,⟨rfl,rfl⟩,Ent.go⟩
theorem Cm.ask_not {c:Cfg}{p:Cp}{m:Cm}(h:m.s.next=13):m.ask c p=(op0,false):=by
 unfold Cm.ask
 repeat rw [if_neg (by omega)]
 rfl
set_option maxHeartbeats 8000000 in
theorem cplays_fin1 {c:Cfg}(hc:Small c){q:HProp}{pad:Option Addr}{pcp:Nat}{progs:Progs}(hpr:ProgsR q (.slice pad progs.length pcp) progs){wh:Int}{tag:Nat}{jp:Int}{ja:List Nat}(hw:0≤wh∧wh≤1000)(hlast:c.last≤140737488355328){oad:Option Addr}{outs:List Out}{ocap k:Nat}(hk:k≤outs.length)(hol:outs.length≤120)(hoc:outs.length≤ocap){m:Cm}(hi:Cinv c ⟨wh,tag,jp,ja⟩ progs m){t9:Tp}{s9:Rs}
  (hplay:Tri Tryz.prog 62 #[.agg ⟨cpV c ⟨wh,tag,jp,ja⟩ (.slice pad progs.length pcp)⟩, .slice oad k ocap] [q] fun r L=>∃ q' ra rc rl,Gr q q'∧RowsQ q' s9.rows ra rc rl∧r=.agg ⟨rsV (.slice oad k ocap) t9 s9 (.slice ra rl.length rc)⟩∧L=[q']) (hct:CT s9 m k) (ht9:t9=.live k) (hcd:CD s9 m)
  (Cb Y:Nat) (w0:World) (F:List HProp) (kk:List Item) :
  St Tryz.prog ⟨7,Tryz.f7,w0,cplayQ q,F,[]⟩ (.code (codeAt Tryz.f7 10)::kk)
   [(61, .int .i64 (k:Int)),(60, .int .i64 ((outs.length:Int)+1)),(5, .slice oad outs.length ocap),(15, .pointer (some ⟨Cb,0,none⟩)),(16, .pointer (some ⟨Y,0,none⟩))]
   (ClE Cb c (.slice pad progs.length pcp) ⟨wh,tag,jp,ja⟩ q progs m::q::bl Y 140 (cpV c ⟨wh,tag,jp,ja⟩ (.slice pad progs.length pcp))::F):=by
 have hask:=cask_r Cb c hc (.slice pad progs.length pcp) ⟨wh,tag,jp,ja⟩ q progs hw hlast m hi;have hdn:=cdone_e Cb c (.slice pad progs.length pcp) ⟨wh,tag,jp,ja⟩ q progs m;have hlkd:=clooked_e Cb c (.slice pad progs.length pcp) ⟨wh,tag,jp,ja⟩ q progs m;have hres:=cresult_e Cb c (.slice pad progs.length pcp) ⟨wh,tag,jp,ja⟩ q progs m;have hal1:=calone_e Cb c (.slice pad progs.length pcp) ⟨wh,tag,jp,ja⟩ q progs m;have hrows:=crows_z Cb c hc (.slice pad progs.length pcp) ⟨wh,tag,jp,ja⟩ q progs hpr m hi;have hrlen:=crows_len hc hi;have hrnw:=crows_news hi
 have hrw9:(m.s.did=true→0≤s9.swap∧s9.swap+1=k∧s9.rows=m.rows)∧(m.s.did=false→(s9.swap+1<k∨s9.swap = -1)∧m.rows=[]):=by
  refine ⟨fun h=>?_,fun h=>⟨hct.w2 h, ?_⟩⟩
  ·obtain ⟨h1,h2,b,h3,h4⟩:=hct.w1 h
   refine ⟨h1,h2, ?_⟩;unfold Cm.rows;rw [if_pos h,h3];exact h4.symm
  ·unfold Cm.rows
   rw [if_neg (by rw [h];exact Bool.false_ne_true)]
 have hcf1:=hct.f1;have hcf2:=hct.f2;clear hct;unfold cpV rsV tpV Cfg.v g4 at hplay;unfold cpV Cfg.v g4;dsimp only [List.cons_append,List.nil_append] at hplay⊢;obtain ⟨al,dn,er,vl,lk,sw,rws⟩:=s9;dsimp only at hplay hrw9 hcf1 hcf2
 have hLk:(m.s.fresh=true→0<k∧lk=(k:Int) - 1)∧(m.s.fresh=false→lk+1<k∨k=0):=⟨fun e=>⟨(hcf1 e).1,by have:=(hcf1 e).2;omega⟩,hcf2⟩
 clear hcf1 hcf2;generalize m.s.fresh=fr at hLk hlkd
 have hrsl:∀ {rs:List RowH},rs.map (·.1)=m.rows→rs.length≤1000000:=fun {rs} e=>by
  have:=congrArg List.length e;rw [List.length_map] at this;omega
 have hrsn:∀ {rs:List RowH},rs.map (·.1)=m.rows→∀ x∈rs,x.1.news.length≤1000000:=fun {rs} e x hx=>by
  have:=hrnw x.1 (by rw [← e];exact List.mem_map_of_mem hx);omega
 have hE:∀ {q9:HProp} (b:Nat),ListR rowV q9 (.slice (some ⟨b,0,none⟩) 0 0) []:=fun b=>⟨some ⟨b,0,none⟩,0,rfl,Nat.le_refl _, .inl rfl⟩
 have hE0:∀ {q9:HProp},∀ x∈([]:List RowH),ListR u1V q9 (.slice x.2.1 x.1.news.length x.2.2) x.1.news:=fun _ h=>by cases h
 generalize m.s.did=dd at hrw9;subst ht9;have e13:=hcd.nx;rw [Cm.ask_not e13] at hask;rw [decide_eq_true e13] at hdn;have e1:=hcd.done;have e2:=hcd.e;have e3:=hcd.val;have e4:=hcd.alone;dsimp only at e1 e2 e3 e4;subst e1 e2 e3 e4;clear hcd;unfold op0 mop MOp.v at hask;dsimp only [Tp.live,op0,mop] at hplay hask
 cases fr with
 | true =>
  obtain ⟨hk0,rfl⟩:=hLk.1 rfl
  cases dd with
  | true =>
   obtain ⟨hs0,hs1,rfl⟩:=hrw9.1 rfl
   obtain rfl:sw=(k:Int) - 1:=by omega
   clear hrw9 hLk
   repeat' (first|refine Ga ?_|(refine Gb ?_;intro b)|(refine St.drawa (id:=12) [(0,1),(1,0),(2,0),(3,0),(4,3)] [(6,3)] [4,6] 5 mixed rfl (by intro w;rfl) (by kernel_rfl) ?_)|(refine Dr 14 [(0,0),(1,0),(2,0),(3,1),(4,0),(5,0),(6,1),(7,0),(8,0),(9,1),(10,0),(11,0),(12,0),(13,0),(14,1),(15,0),(16,1),(17,0),(18,0),(19,0),(20,0),(21,0),(22,1),(23,0),(24,0)] [] ?_)|(refine Dr 21 [(0,0),(1,1),(2,0),(3,0),(4,1),(5,0),(6,0),(7,1),(8,0),(9,0),(10,0),(11,1),(12,0),(13,0),(14,1),(15,0),(16,0),(17,0),(18,0),(19,1),(20,0),(21,1),(22,0),(23,0),(24,0)] [] ?_)|refine Gl hask ?_|refine Gl hdn ?_|refine Gl hlkd ?_|refine Gl hres ?_|refine Gl hal1 ?_|refine Gl (same14_r hR2 hrq.2.1 (hrs.trans hrq.1.symm) hN1 hrq.2.2 (hrsl hrs) (hrsn hrs)) ?_|(refine Gt hplay ?_;rintro _ _ ⟨q9,ra,rc,rl,hg,hrq,rfl,rfl⟩)|(refine Gt hrows ?_;rintro _ _ ⟨R1,ad1,cp1,rs,hrs,hR1,hN1,rfl,rfl⟩)|(refine Gt ((rows15_t hR1 (hrsl hrs))) ?_;rintro _ _ ⟨R2,ad2,cp2,hR2,rfl,rfl⟩)|(refine Ge ?_ ?_<;>intro h<;>try omega)|fail)
   all_goals first|(exfalso;simp at h;done)|(exfalso;simp at h;omega)|skip
   all_goals refine St.conv ?_ (Sub.refl _) (Ent.trans (Ent.of_take (p:=q9) Take.go) (hg.1 _))
   all_goals exact St.d1 Tryz.func7 ⟨_,⟨rfl,rfl⟩,Ent.go⟩
  | false =>
   obtain ⟨hs1,hr0⟩:=hrw9.2 rfl;clear hrw9 hLk
   repeat' (first|refine Ga ?_|(refine Gb ?_;intro b)|(refine St.drawa (id:=12) [(0,1),(1,0),(2,0),(3,0),(4,3)] [(6,3)] [4,6] 5 mixed rfl (by intro w;rfl) (by kernel_rfl) ?_)|(refine Dr 14 [(0,0),(1,0),(2,0),(3,1),(4,0),(5,0),(6,1),(7,0),(8,0),(9,1),(10,0),(11,0),(12,0),(13,0),(14,1),(15,0),(16,1),(17,0),(18,0),(19,0),(20,0),(21,0),(22,1),(23,0),(24,0)] [] ?_)|(refine Dr 21 [(0,0),(1,1),(2,0),(3,0),(4,1),(5,0),(6,0),(7,1),(8,0),(9,0),(10,0),(11,1),(12,0),(13,0),(14,1),(15,0),(16,0),(17,0),(18,0),(19,1),(20,0),(21,1),(22,0),(23,0),(24,0)] [] ?_)|refine Gl hask ?_|refine Gl hdn ?_|refine Gl hlkd ?_|refine Gl hres ?_|refine Gl hal1 ?_|refine Gl (same14_r hR2 (hE _) (hrs.trans hr0) hN1 hE0 (hrsl hrs) (hrsn hrs)) ?_|(refine Gt hplay ?_;rintro _ _ ⟨q9,ra,rc,rl,hg,hrq,rfl,rfl⟩)|(refine Gt hrows ?_;rintro _ _ ⟨R1,ad1,cp1,rs,hrs,hR1,hN1,rfl,rfl⟩)|(refine Gt ((rows15_t hR1 (hrsl hrs))) ?_;rintro _ _ ⟨R2,ad2,cp2,hR2,rfl,rfl⟩)|(refine Ge ?_ ?_<;>intro h<;>try omega)|fail)
   all_goals first|(exfalso;simp at h;done)|(exfalso;simp at h;omega)|skip
   all_goals refine St.conv ?_ (Sub.refl _) (Ent.trans (Ent.of_take (p:=q9) Take.go) (hg.1 _))
   all_goals exact St.d1 Tryz.func7 ⟨_,⟨rfl,rfl⟩,Ent.go⟩
 | false =>
  have hlf:=hLk.2 rfl
  cases dd with
  | true =>
   obtain ⟨hs0,hs1,rfl⟩:=hrw9.1 rfl
   obtain rfl:sw=(k:Int) - 1:=by omega
   clear hrw9 hLk
   repeat' (first|refine Ga ?_|(refine Gb ?_;intro b)|(refine St.drawa (id:=12) [(0,1),(1,0),(2,0),(3,0),(4,3)] [(6,3)] [4,6] 5 mixed rfl (by intro w;rfl) (by kernel_rfl) ?_)|(refine Dr 14 [(0,0),(1,0),(2,0),(3,1),(4,0),(5,0),(6,1),(7,0),(8,0),(9,1),(10,0),(11,0),(12,0),(13,0),(14,1),(15,0),(16,1),(17,0),(18,0),(19,0),(20,0),(21,0),(22,1),(23,0),(24,0)] [] ?_)|(refine Dr 21 [(0,0),(1,1),(2,0),(3,0),(4,1),(5,0),(6,0),(7,1),(8,0),(9,0),(10,0),(11,1),(12,0),(13,0),(14,1),(15,0),(16,0),(17,0),(18,0),(19,1),(20,0),(21,1),(22,0),(23,0),(24,0)] [] ?_)|refine Gl hask ?_|refine Gl hdn ?_|refine Gl hlkd ?_|refine Gl hres ?_|refine Gl hal1 ?_|refine Gl (same14_r hR2 hrq.2.1 (hrs.trans hrq.1.symm) hN1 hrq.2.2 (hrsl hrs) (hrsn hrs)) ?_|(refine Gt hplay ?_;rintro _ _ ⟨q9,ra,rc,rl,hg,hrq,rfl,rfl⟩)|(refine Gt hrows ?_;rintro _ _ ⟨R1,ad1,cp1,rs,hrs,hR1,hN1,rfl,rfl⟩)|(refine Gt ((rows15_t hR1 (hrsl hrs))) ?_;rintro _ _ ⟨R2,ad2,cp2,hR2,rfl,rfl⟩)|(refine Ge ?_ ?_<;>intro h<;>try omega)|fail)
   all_goals first|(exfalso;simp at h;done)|(exfalso;simp at h;omega)|skip
   all_goals refine St.conv ?_ (Sub.refl _) (Ent.trans (Ent.of_take (p:=q9) Take.go) (hg.1 _))
   all_goals exact St.d1 Tryz.func7 ⟨_,⟨rfl,rfl⟩,Ent.go⟩
  | false =>
   obtain ⟨hs1,hr0⟩:=hrw9.2 rfl;clear hrw9 hLk
   repeat' (first|refine Ga ?_|(refine Gb ?_;intro b)|(refine St.drawa (id:=12) [(0,1),(1,0),(2,0),(3,0),(4,3)] [(6,3)] [4,6] 5 mixed rfl (by intro w;rfl) (by kernel_rfl) ?_)|(refine Dr 14 [(0,0),(1,0),(2,0),(3,1),(4,0),(5,0),(6,1),(7,0),(8,0),(9,1),(10,0),(11,0),(12,0),(13,0),(14,1),(15,0),(16,1),(17,0),(18,0),(19,0),(20,0),(21,0),(22,1),(23,0),(24,0)] [] ?_)|(refine Dr 21 [(0,0),(1,1),(2,0),(3,0),(4,1),(5,0),(6,0),(7,1),(8,0),(9,0),(10,0),(11,1),(12,0),(13,0),(14,1),(15,0),(16,0),(17,0),(18,0),(19,1),(20,0),(21,1),(22,0),(23,0),(24,0)] [] ?_)|refine Gl hask ?_|refine Gl hdn ?_|refine Gl hlkd ?_|refine Gl hres ?_|refine Gl hal1 ?_|refine Gl (same14_r hR2 (hE _) (hrs.trans hr0) hN1 hE0 (hrsl hrs) (hrsn hrs)) ?_|(refine Gt hplay ?_;rintro _ _ ⟨q9,ra,rc,rl,hg,hrq,rfl,rfl⟩)|(refine Gt hrows ?_;rintro _ _ ⟨R1,ad1,cp1,rs,hrs,hR1,hN1,rfl,rfl⟩)|(refine Gt ((rows15_t hR1 (hrsl hrs))) ?_;rintro _ _ ⟨R2,ad2,cp2,hR2,rfl,rfl⟩)|(refine Ge ?_ ?_<;>intro h<;>try omega)|fail)
   all_goals first|(exfalso;simp at h;done)|(exfalso;simp at h;omega)|skip
   all_goals refine St.conv ?_ (Sub.refl _) (Ent.trans (Ent.of_take (p:=q9) Take.go) (hg.1 _))
   all_goals exact St.d1 Tryz.func7 ⟨_,⟨rfl,rfl⟩,Ent.go⟩
set_option maxHeartbeats 8000000 in
theorem cplays_fin2 {c:Cfg}(hc:Small c){q:HProp}{pad:Option Addr}{pcp:Nat}{progs:Progs}(hpr:ProgsR q (.slice pad progs.length pcp) progs){wh:Int}{tag:Nat}{jp:Int}{ja:List Nat}(hw:0≤wh∧wh≤1000)(hlast:c.last≤140737488355328){oad:Option Addr}{outs:List Out}{ocap k:Nat}(_hk:k≤outs.length)(hol:outs.length≤120)(hoc:outs.length≤ocap){m:Cm}(hi:Cinv c ⟨wh,tag,jp,ja⟩ progs m){t9:Tp}{s9:Rs}
  (hplay:Tri Tryz.prog 62 #[.agg ⟨cpV c ⟨wh,tag,jp,ja⟩ (.slice pad progs.length pcp)⟩, .slice oad k ocap] [q] fun r L=>∃ q' ra rc rl,Gr q q'∧RowsQ q' s9.rows ra rc rl∧r=.agg ⟨rsV (.slice oad k ocap) t9 s9 (.slice ra rl.length rc)⟩∧L=[q']) (hct:CT s9 m k) (hkl:k=outs.length) (h2:(m.ask c ⟨wh,tag,jp,ja⟩).2=true) (ht9:t9=⟨k,(m.ask c ⟨wh,tag,jp,ja⟩).1,true⟩) (hcg:CG s9)
  (Cb Y:Nat) (w0:World) (F:List HProp) (kk:List Item) :
  St Tryz.prog ⟨7,Tryz.f7,w0,cplayQ q,F,[]⟩ (.code (codeAt Tryz.f7 10)::kk)
   [(61, .int .i64 (k:Int)),(60, .int .i64 ((outs.length:Int)+1)),(5, .slice oad outs.length ocap),(15, .pointer (some ⟨Cb,0,none⟩)),(16, .pointer (some ⟨Y,0,none⟩))]
   (ClE Cb c (.slice pad progs.length pcp) ⟨wh,tag,jp,ja⟩ q progs m::q::bl Y 140 (cpV c ⟨wh,tag,jp,ja⟩ (.slice pad progs.length pcp))::F):=by
 have hask:=cask_r Cb c hc (.slice pad progs.length pcp) ⟨wh,tag,jp,ja⟩ q progs hw hlast m hi;have hdn:=cdone_e Cb c (.slice pad progs.length pcp) ⟨wh,tag,jp,ja⟩ q progs m;have hlkd:=clooked_e Cb c (.slice pad progs.length pcp) ⟨wh,tag,jp,ja⟩ q progs m;have hres:=cresult_e Cb c (.slice pad progs.length pcp) ⟨wh,tag,jp,ja⟩ q progs m;have hal1:=calone_e Cb c (.slice pad progs.length pcp) ⟨wh,tag,jp,ja⟩ q progs m;have hrows:=crows_z Cb c hc (.slice pad progs.length pcp) ⟨wh,tag,jp,ja⟩ q progs hpr m hi;have hrlen:=crows_len hc hi;have hrnw:=crows_news hi
 have hrw9:(m.s.did=true→0≤s9.swap∧s9.swap+1=k∧s9.rows=m.rows)∧(m.s.did=false→(s9.swap+1<k∨s9.swap = -1)∧m.rows=[]):=by
  refine ⟨fun h=>?_,fun h=>⟨hct.w2 h, ?_⟩⟩
  ·obtain ⟨h1,h2,b,h3,h4⟩:=hct.w1 h
   refine ⟨h1,h2, ?_⟩;unfold Cm.rows;rw [if_pos h,h3];exact h4.symm
  ·unfold Cm.rows
   rw [if_neg (by rw [h];exact Bool.false_ne_true)]
 have hcf1:=hct.f1;have hcf2:=hct.f2;clear hct;unfold cpV rsV tpV Cfg.v g4 at hplay;unfold cpV Cfg.v g4;dsimp only [List.cons_append,List.nil_append] at hplay⊢;obtain ⟨al,dn,er,vl,lk,sw,rws⟩:=s9;dsimp only at hplay hrw9 hcf1 hcf2
 have hLk:(m.s.fresh=true→0<k∧lk=(k:Int) - 1)∧(m.s.fresh=false→lk+1<k∨k=0):=⟨fun e=>⟨(hcf1 e).1,by have:=(hcf1 e).2;omega⟩,hcf2⟩
 clear hcf1 hcf2;generalize m.s.fresh=fr at hLk hlkd
 have hrsl:∀ {rs:List RowH},rs.map (·.1)=m.rows→rs.length≤1000000:=fun {rs} e=>by
  have:=congrArg List.length e;rw [List.length_map] at this;omega
 have hrsn:∀ {rs:List RowH},rs.map (·.1)=m.rows→∀ x∈rs,x.1.news.length≤1000000:=fun {rs} e x hx=>by
  have:=hrnw x.1 (by rw [← e];exact List.mem_map_of_mem hx);omega
 have hE:∀ {q9:HProp} (b:Nat),ListR rowV q9 (.slice (some ⟨b,0,none⟩) 0 0) []:=fun b=>⟨some ⟨b,0,none⟩,0,rfl,Nat.le_refl _, .inl rfl⟩
 have hE0:∀ {q9:HProp},∀ x∈([]:List RowH),ListR u1V q9 (.slice x.2.1 x.1.news.length x.2.2) x.1.news:=fun _ h=>by cases h
 generalize m.s.did=dd at hrw9;subst ht9
 have e13:¬ m.s.next=13:=fun e=>by
  rw [Cm.ask_not e] at h2
  cases h2
 rw [decide_eq_false e13] at hdn;have e1:=hcg.done;have e4:=hcg.alone;dsimp only at e1 e4;subst e1 e4;clear hcg e13;generalize m.ask c ⟨wh,tag,jp,ja⟩=a at hask h2 hplay;obtain ⟨⟨ak,aa,⟨ao1,ao2⟩,⟨an1,an2⟩⟩,ab⟩:=a;dsimp only at h2 hask hplay;subst h2;unfold MOp.v at hask;dsimp only at hask
 cases fr with
 | true =>
  obtain ⟨hk0,rfl⟩:=hLk.1 rfl
  cases dd with
  | true =>
   obtain ⟨hs0,hs1,rfl⟩:=hrw9.1 rfl
   obtain rfl:sw=(k:Int) - 1:=by omega
   clear hrw9 hLk
   repeat' (first|refine Ga ?_|(refine Gb ?_;intro b)|(refine St.drawa (id:=12) [(0,1),(1,0),(2,0),(3,0),(4,3)] [(6,3)] [4,6] 5 mixed rfl (by intro w;rfl) (by kernel_rfl) ?_)|(refine Dr 14 [(0,0),(1,0),(2,0),(3,1),(4,0),(5,0),(6,1),(7,0),(8,0),(9,1),(10,0),(11,0),(12,0),(13,0),(14,1),(15,0),(16,1),(17,0),(18,0),(19,0),(20,0),(21,0),(22,1),(23,0),(24,0)] [] ?_)|(refine Dr 21 [(0,0),(1,1),(2,0),(3,0),(4,1),(5,0),(6,0),(7,1),(8,0),(9,0),(10,0),(11,1),(12,0),(13,0),(14,1),(15,0),(16,0),(17,0),(18,0),(19,1),(20,0),(21,1),(22,0),(23,0),(24,0)] [] ?_)|refine Gl hask ?_|refine Gl hdn ?_|refine Gl hlkd ?_|refine Gl (same14_r hR2 hrq.2.1 (hrs.trans hrq.1.symm) hN1 hrq.2.2 (hrsl hrs) (hrsn hrs)) ?_|(refine Gt hplay ?_;rintro _ _ ⟨q9,ra,rc,rl,hg,hrq,rfl,rfl⟩)|(refine Gt hrows ?_;rintro _ _ ⟨R1,ad1,cp1,rs,hrs,hR1,hN1,rfl,rfl⟩)|(refine Gt ((rows15_t hR1 (hrsl hrs))) ?_;rintro _ _ ⟨R2,ad2,cp2,hR2,rfl,rfl⟩)|(refine Ge ?_ ?_<;>intro h<;>try omega)|fail)
   all_goals first|(exfalso;simp at h;done)|(exfalso;simp at h;omega)|skip
   all_goals refine St.conv ?_ (Sub.refl _) (Ent.trans (Ent.of_take (p:=q9) Take.go) (hg.1 _))
   all_goals exact St.d1 Tryz.func7 ⟨_,⟨rfl,rfl⟩,Ent.go⟩
  | false =>
   obtain ⟨hs1,hr0⟩:=hrw9.2 rfl;clear hrw9 hLk
   repeat' (first|refine Ga ?_|(refine Gb ?_;intro b)|(refine St.drawa (id:=12) [(0,1),(1,0),(2,0),(3,0),(4,3)] [(6,3)] [4,6] 5 mixed rfl (by intro w;rfl) (by kernel_rfl) ?_)|(refine Dr 14 [(0,0),(1,0),(2,0),(3,1),(4,0),(5,0),(6,1),(7,0),(8,0),(9,1),(10,0),(11,0),(12,0),(13,0),(14,1),(15,0),(16,1),(17,0),(18,0),(19,0),(20,0),(21,0),(22,1),(23,0),(24,0)] [] ?_)|(refine Dr 21 [(0,0),(1,1),(2,0),(3,0),(4,1),(5,0),(6,0),(7,1),(8,0),(9,0),(10,0),(11,1),(12,0),(13,0),(14,1),(15,0),(16,0),(17,0),(18,0),(19,1),(20,0),(21,1),(22,0),(23,0),(24,0)] [] ?_)|refine Gl hask ?_|refine Gl hdn ?_|refine Gl hlkd ?_|refine Gl (same14_r hR2 (hE _) (hrs.trans hr0) hN1 hE0 (hrsl hrs) (hrsn hrs)) ?_|(refine Gt hplay ?_;rintro _ _ ⟨q9,ra,rc,rl,hg,hrq,rfl,rfl⟩)|(refine Gt hrows ?_;rintro _ _ ⟨R1,ad1,cp1,rs,hrs,hR1,hN1,rfl,rfl⟩)|(refine Gt ((rows15_t hR1 (hrsl hrs))) ?_;rintro _ _ ⟨R2,ad2,cp2,hR2,rfl,rfl⟩)|(refine Ge ?_ ?_<;>intro h<;>try omega)|fail)
   all_goals first|(exfalso;simp at h;done)|(exfalso;simp at h;omega)|skip
   all_goals refine St.conv ?_ (Sub.refl _) (Ent.trans (Ent.of_take (p:=q9) Take.go) (hg.1 _))
   all_goals exact St.d1 Tryz.func7 ⟨_,⟨rfl,rfl⟩,Ent.go⟩
 | false =>
  have hlf:=hLk.2 rfl
  cases dd with
  | true =>
   obtain ⟨hs0,hs1,rfl⟩:=hrw9.1 rfl
   obtain rfl:sw=(k:Int) - 1:=by omega
   clear hrw9 hLk
   repeat' (first|refine Ga ?_|(refine Gb ?_;intro b)|(refine St.drawa (id:=12) [(0,1),(1,0),(2,0),(3,0),(4,3)] [(6,3)] [4,6] 5 mixed rfl (by intro w;rfl) (by kernel_rfl) ?_)|(refine Dr 14 [(0,0),(1,0),(2,0),(3,1),(4,0),(5,0),(6,1),(7,0),(8,0),(9,1),(10,0),(11,0),(12,0),(13,0),(14,1),(15,0),(16,1),(17,0),(18,0),(19,0),(20,0),(21,0),(22,1),(23,0),(24,0)] [] ?_)|(refine Dr 21 [(0,0),(1,1),(2,0),(3,0),(4,1),(5,0),(6,0),(7,1),(8,0),(9,0),(10,0),(11,1),(12,0),(13,0),(14,1),(15,0),(16,0),(17,0),(18,0),(19,1),(20,0),(21,1),(22,0),(23,0),(24,0)] [] ?_)|refine Gl hask ?_|refine Gl hdn ?_|refine Gl hlkd ?_|refine Gl (same14_r hR2 hrq.2.1 (hrs.trans hrq.1.symm) hN1 hrq.2.2 (hrsl hrs) (hrsn hrs)) ?_|(refine Gt hplay ?_;rintro _ _ ⟨q9,ra,rc,rl,hg,hrq,rfl,rfl⟩)|(refine Gt hrows ?_;rintro _ _ ⟨R1,ad1,cp1,rs,hrs,hR1,hN1,rfl,rfl⟩)|(refine Gt ((rows15_t hR1 (hrsl hrs))) ?_;rintro _ _ ⟨R2,ad2,cp2,hR2,rfl,rfl⟩)|(refine Ge ?_ ?_<;>intro h<;>try omega)|fail)
   all_goals first|(exfalso;simp at h;done)|(exfalso;simp at h;omega)|skip
   all_goals refine St.conv ?_ (Sub.refl _) (Ent.trans (Ent.of_take (p:=q9) Take.go) (hg.1 _))
   all_goals exact St.d1 Tryz.func7 ⟨_,⟨rfl,rfl⟩,Ent.go⟩
  | false =>
   obtain ⟨hs1,hr0⟩:=hrw9.2 rfl;clear hrw9 hLk
   repeat' (first|refine Ga ?_|(refine Gb ?_;intro b)|(refine St.drawa (id:=12) [(0,1),(1,0),(2,0),(3,0),(4,3)] [(6,3)] [4,6] 5 mixed rfl (by intro w;rfl) (by kernel_rfl) ?_)|(refine Dr 14 [(0,0),(1,0),(2,0),(3,1),(4,0),(5,0),(6,1),(7,0),(8,0),(9,1),(10,0),(11,0),(12,0),(13,0),(14,1),(15,0),(16,1),(17,0),(18,0),(19,0),(20,0),(21,0),(22,1),(23,0),(24,0)] [] ?_)|(refine Dr 21 [(0,0),(1,1),(2,0),(3,0),(4,1),(5,0),(6,0),(7,1),(8,0),(9,0),(10,0),(11,1),(12,0),(13,0),(14,1),(15,0),(16,0),(17,0),(18,0),(19,1),(20,0),(21,1),(22,0),(23,0),(24,0)] [] ?_)|refine Gl hask ?_|refine Gl hdn ?_|refine Gl hlkd ?_|refine Gl (same14_r hR2 (hE _) (hrs.trans hr0) hN1 hE0 (hrsl hrs) (hrsn hrs)) ?_|(refine Gt hplay ?_;rintro _ _ ⟨q9,ra,rc,rl,hg,hrq,rfl,rfl⟩)|(refine Gt hrows ?_;rintro _ _ ⟨R1,ad1,cp1,rs,hrs,hR1,hN1,rfl,rfl⟩)|(refine Gt ((rows15_t hR1 (hrsl hrs))) ?_;rintro _ _ ⟨R2,ad2,cp2,hR2,rfl,rfl⟩)|(refine Ge ?_ ?_<;>intro h<;>try omega)|fail)
   all_goals first|(exfalso;simp at h;done)|(exfalso;simp at h;omega)|skip
   all_goals refine St.conv ?_ (Sub.refl _) (Ent.trans (Ent.of_take (p:=q9) Take.go) (hg.1 _))
   all_goals exact St.d1 Tryz.func7 ⟨_,⟨rfl,rfl⟩,Ent.go⟩
end Go.Proofs.YthmbgodcpgkkeaaGreat
