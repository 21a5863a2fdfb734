/-
  Package tumblerref11: Play. Package tumblerref14: program, Entries. Package tumblerref10: held, names. Package tumblerref10: Settle.
-/
import Derived.Test.YthmbgodcpgkkeaaGreatMi
import Derived.Test.YthmbgodcpgkkeaaGreatLs
import Derived.Test.YthmbgodcpgkkeaaGreatLl
import Derived.Test.YthmbgodcpgkkeaaGreatKk
import Derived.Test.YthmbgodcpgkkeaaGreatKc
set_option maxRecDepth 100000
namespace Go.Proofs.YthmbgodcpgkkeaaGreat
theorem rgo_stop {c:Cfg}{os:List Out}{room:Nat}{code:List Ins}{args:List Nat}{r:Rr}{t:Tp}(h:r.s≠0∨t.need=true)(k:Nat):rgo c os room code args k r t=(t,r):=by
 cases k with
 | zero=>rfl
 | succ k =>
  unfold rgo;rw [if_neg];rintro ⟨a,b⟩
  rcases h with h|h
  ·exact h a
  ·rw [h] at b;cases b
theorem InsR.gr {q q':HProp}{v:Value}{code:List Ins}(h:InsR q v code)(g:Gr q q'):InsR q' v code:=by
 obtain ⟨ad,cap,h1,h2|⟨b,o,l,rest,h3,h4,h5⟩⟩:=h
 ·exact ⟨ad,cap,h1, .inl h2⟩
 ·exact ⟨ad,cap,h1, .inr ⟨b,o,l,rest,h3,g.2 _ _ h4,h5⟩⟩
section
set_option maxHeartbeats 4000000 in
theorem rplay_t {q:HProp}{ov:Value}{os:List Out}(hov:ListR Out.v q ov os)(hos:os.length≤100000)(hosv:∀ o∈os,o.was.val<18446744073709551616){c:Cfg}(hc:Small c)(x:Px)(t:Tp)(ht:t.at_≤100000)(v:Rv)(puts:List (Int×Nat))(hxs:x.sn=puts.length)(hl:ListR entV q (.slice x.sa x.sn x.sc) puts)(hroom:x.room≤1000000)(hpl:puts.length≤800000)(hpv:∀ p∈puts,p.2<18446744073709551616)(hnt:0≤x.nt∧x.nt≤1000)(hnl:0≤x.nl∧x.nl≤1000)(hf0:0≤c.fuel)(hfu:c.fuel≤1000)
  (code:List Ins) (cv:Value) (hcv:InsR q cv code) (hci:∀ i∈code,i.imm<18446744073709551616) (args:List Nat) (ha4:args.length=4) (hav:∀ a∈args,a<18446744073709551616) :
  Tri Tryz.prog 28 #[.agg ⟨evV c v x⟩, .agg ⟨tpV ov t⟩,cv, .agg ⟨g4 args⟩] [q] (RunO c q ov x (rplay c os x.room code args v x.nt x.nl puts t).1 (rplay c os x.room code args v x.nt x.nl puts t).2 id):=by
 have hb1:=hc.b1;have hri:=right5_r q cv code hcv;obtain ⟨who,seq,held,stale⟩:=v;obtain ⟨ta,⟨ak,oa,⟨ova,osa⟩,⟨nvb,nsb⟩⟩,tn⟩:=t;obtain ⟨xna,xnn,xnc,xma,xmn,xmc,xwt,xwl,xnt,xnl,xroom,xsa,xsn,xsc⟩:=x;dsimp only at hxs hl hroom hnt hnl ht⊢;subst hxs;obtain ⟨oad,ocp,rfl,_⟩:=id hov;obtain ⟨cad,ccp,rfl,hcr⟩:=id hcv
 have hn0:ListR u1V q (.slice none 0 0) []:=⟨none,0,rfl,Nat.le_refl _, .inl rfl⟩
 unfold evV rvV plV tpV Cfg.v;dsimp only [List.cons_append,List.nil_append];unfold rplay
 cases hr:rightB code with
 | false =>
  rw [hr] at hri;rw [if_neg Bool.false_ne_true];have hf:=rfails_r c oad os.length ocp ⟨xna,xnn,xnc,xma,xmn,xmc,xwt,xwl,xnt,xnl,xroom,xsa,puts.length,xsc⟩ none 0 0 ⟨ta,⟨ak,oa,⟨ova,osa⟩,⟨nvb,nsb⟩⟩,tn⟩ (Rr.init ⟨who,seq,held,stale⟩ xnt xnl puts) 30
  refine TB (vs:=[_,_,_,_]) Tryz.func28 fun w0 F=>?_
  repeat' (first|refine Ga ?_|(refine Gb ?_;intro b)|refine Gl hri ?_|refine Gl hf ?_|fail)
  all_goals exact St.d1 Tryz.func28 ⟨_,⟨q,xsa,xsc,none,0,Gr.refl q,hl,hn0,rfl,rfl⟩,Ent.go⟩
 | true =>
  rw [hr] at hri;rw [if_pos rfl];obtain ⟨hcl0,hcl1,_⟩:=right_at hr;have hinit:=RI.init (c:=c) (n:=code.length) (nt0:=xnt) (nl0:=xnl) hosv hf0 hpv hcl0 ⟨who,seq,held,stale⟩ hnt.1;generalize hR:rgo c os xroom code args (c.fuel.toNat+1) (Rr.init ⟨who,seq,held,stale⟩ xnt xnl puts) ⟨ta,⟨ak,oa,⟨ova,osa⟩,⟨nvb,nsb⟩⟩,tn⟩=R
  refine TB (vs:=[_,_,_,_]) Tryz.func28 fun w0 F=>?_
  repeat' (first|refine Ga ?_|(refine Gb ?_;intro b)|refine Gl hri ?_|fail)
  revert b;intro RB
  refine St.loopY (Lr:=?Lr1) (ι:={ x:(Nat×Rr×Tp)×HProp×(Option Addr×Nat)×(Option Addr×Nat) // Gr q x.2.1∧ListR entV x.2.1 (.slice x.2.2.1.1 x.1.2.1.puts.length x.2.2.1.2) x.1.2.1.puts∧ListR u1V x.2.1 (.slice x.2.2.2.1 x.1.2.1.news.length x.2.2.2.2) x.1.2.1.news∧RI c code.length puts.length xnt xnl x.1.2.1∧(x.1.2.1.s=0→(c.fuel - x.1.2.1.steps).toNat<x.1.1)∧x.1.2.2.at_≤100000∧rgo c os xroom code args x.1.1 x.1.2.1 x.1.2.2=R }) (fun x=>x.1.1.1) (fun _=>[])
   (fun x=>[x.1.2.1,bl RB 75 (rnV c (.slice oad os.length ocp) ⟨xna,xnn,xnc,xma,xmn,xmc,xwt,xwl,xnt,xnl,xroom,x.1.2.2.1.1,x.1.1.2.1.puts.length,x.1.2.2.1.2⟩ (.slice x.1.2.2.2.1 x.1.1.2.1.news.length x.1.2.2.2.2) x.1.1.2.2 x.1.1.2.1)]) ⟨((c.fuel.toNat+1,Rr.init ⟨who,seq,held,stale⟩ xnt xnl puts,⟨ta,⟨ak,oa,⟨ova,osa⟩,⟨nvb,nsb⟩⟩,tn⟩),q,(xsa,xsc),(none,0)),Gr.refl q,hl,hn0,hinit,fun _=>by show (c.fuel - 0).toNat<c.fuel.toNat+1;omega,ht,hR⟩ ?hE1 ?hL1 ?round1
  case hE1=>exact Sub.go
  case hL1=>exact Takes.go
  case round1 =>
   rintro ⟨⟨⟨k,r,t9⟩,qk,⟨sa,sc⟩,⟨wa,wc⟩⟩,hg,hlk,hnk,hri9,hkk,ht9,hgo⟩ IH;dsimp only at hg hlk hnk hri9 hkk ht9 hgo IH⊢
   have stop:r.s≠0∨t9.need=true→R=(t9,r):=fun h=>by rw [← hgo];exact rgo_stop h k
   obtain ⟨ta9,ask9,tn9⟩:=t9;dsimp only at ht9 stop
   by_cases hs0:r.s=0
   ·cases tn9 with
    | false =>
     cases k with
     | zero=>exact absurd (hkk hs0) (Nat.not_lt_zero _)
     | succ m =>
      rw [rgo,if_pos ⟨hs0,rfl⟩] at hgo;have hstep:=rstep_t (hov.gr hg) hos hc ⟨xna,xnn,xnc,xma,xmn,xmc,xwt,xwl,xnt,xnl,xroom,sa,r.puts.length,sc⟩ wa wc ⟨ta9,ask9,false⟩ ht9 r rfl hlk hnk hroom puts.length hpl xnt xnl hnt.2 hnl hfu code (.slice cad code.length ccp) hr (hcv.gr hg) args ha4 hri9 hs0;have hnx:=hri9.step hosv xroom rfl hr hci args hav (by omega) hs0 ⟨ta9,ask9,false⟩;have hst:=rstep_steps (c:=c) (os:=os) (r:=r) xroom code args ⟨ta9,ask9,false⟩;have hat:=rstep_at (t:=⟨ta9,ask9,false⟩) hos ht9 c xroom code args r;have hst0:=hri9.st;dsimp only at hstep;generalize rstep c os xroom code args r ⟨ta9,ask9,false⟩=y at hstep hnx hst hat hgo;obtain ⟨t2,r2⟩:=y;dsimp only at hstep hnx hst hat hgo
      repeat' (first|refine Ga ?_|(refine Gt hstep ?_;rintro _ _ ⟨q',sa',sc',wa',wc',hgr,hl',hn',rfl,rfl⟩)|(refine Ge ?_ ?_<;>intro h<;>try omega)|fail)
      all_goals refine IH ⟨((m,r2,t2),q',(sa',sc'),(wa',wc')),hg.trans hgr,hl',hn',hnx,fun h0=>by have:=hst h0;have:=hkk hs0;have:=hnx.st;dsimp only at *;omega,hat,hgo⟩ (Nat.lt_succ_self m) ?_ ?_
      all_goals first|(exact Sub.go)|(exact Ent.go)
    | true =>
     have e:=stop (.inr rfl);subst e;clear IH;unfold Rr.undo
     by_cases her:r.er≠0
     ·rw [if_pos her]
      repeat' (first|refine Ga ?_|(refine Ge ?_ ?_<;>intro h<;>try omega)|fail)
      all_goals exact St.d1 Tryz.func28 ⟨_,⟨qk,xsa,xsc,wa,wc,hg,hl.gr hg,hnk,rfl,rfl⟩,Ent.go⟩
     ·rw [if_neg her]
      repeat' (first|refine Ga ?_|(refine Ge ?_ ?_<;>intro h<;>try omega)|fail)
      all_goals exact St.d1 Tryz.func28 ⟨_,⟨qk,sa,sc,wa,wc,hg,hlk,hnk,rfl,rfl⟩,Ent.go⟩
   ·have e:=stop (.inl hs0)
    subst e;clear IH;unfold Rr.undo
    by_cases her:r.er≠0
    ·rw [if_pos her]
     repeat' (first|refine Ga ?_|(refine Ge ?_ ?_<;>intro h<;>try omega)|fail)
     all_goals exact St.d1 Tryz.func28 ⟨_,⟨qk,xsa,xsc,wa,wc,hg,hl.gr hg,hnk,rfl,rfl⟩,Ent.go⟩
    ·rw [if_neg her]
     repeat' (first|refine Ga ?_|(refine Ge ?_ ?_<;>intro h<;>try omega)|fail)
     all_goals exact St.d1 Tryz.func28 ⟨_,⟨qk,sa,sc,wa,wc,hg,hlk,hnk,rfl,rfl⟩,Ent.go⟩
end
theorem rprog_r {q:HProp}{pv:Value}{progs:Progs}(h:ProgsR q pv progs)(n:Nat):∃ ad cp,RTri Tryz.prog 127 #[pv, .int .u64 (n:Int)] [q] (.slice ad (progOf progs n).length cp)∧InsR q (.slice ad (progOf progs n).length cp) (progOf progs n):=by
 obtain ⟨pad,pcap,rfl,hl,h⟩:=h;unfold progOf
 by_cases hn:n<progs.length
 ·obtain ⟨b,o,l,cv,rfl,hrd,hnth,hi⟩:=h n hn
  have e:progs.getD n []=progs[n]:=by rw [List.getD_eq_getElem?_getD,List.getElem?_eq_getElem hn];rfl
  rw [e];obtain ⟨cad,ccp,rfl,_⟩:=id hi;refine ⟨cad,ccp, ?_,hi⟩
  refine RTri.of_reads fun p hp=>?_
  have hrd:=RdC.of_sat hp (ReadsC.here hrd);generalize progs[n]=code at hnth
  refine TB (vs:=[_,_]) Tryz.func127 fun w0 F=>?_
  repeat' (first|refine Ga ?_|(refine Ge ?_ ?_<;>intro h<;>try omega)|fail)
  all_goals exact St.d1 Tryz.func127 ⟨_,⟨rfl,rfl⟩,Ent.go⟩
 ·have e:progs.getD n []=[]:=by rw [List.getD_eq_getElem?_getD,List.getElem?_eq_none (by omega)];rfl
  rw [e];refine ⟨none,0, ?_,none,0,rfl, .inl rfl⟩
  refine RTri.of_reads fun p hp=>?_
  refine TB (vs:=[_,_]) Tryz.func127 fun w0 F=>?_
  repeat' (first|refine Ga ?_|(refine Ge ?_ ?_<;>intro h<;>try omega)|fail)
  all_goals exact St.d1 Tryz.func127 ⟨_,⟨rfl,rfl⟩,Ent.go⟩
theorem entB_ref {c:Cfg}(hc:Small c)(P:List (Int×Nat))(e:Int×Nat)(h17:e.1<c.f17):entB c P e=if e.1<c.f16 then true else !((mget (allP P) (c.at 11 ((e.1 - c.f16) / 8) 0)).isSome && ((((mget (allP P) (c.at 11 ((e.1 - c.f16) / 8) 0)).getD 0:Nat):Int) != 1)):=by
 by_cases h7:c.f7≤e.1
 ·have hk:=Cfg.kblock hc (p:=e.1) (fun h=>by have:=(Cfg.kwhat7 hc e.1).1 h;omega)
  unfold entB;unfold rblock at hk
  by_cases h:e.1<c.f16
  ·rw [if_pos h] at hk⊢
   rw [if_neg (fun e=>by have:=hk.1.1 e;omega)]
  ·rw [if_neg h] at hk⊢
   have h16:(c.what e.1).1=16:=hk.1.2 (Int.ediv_nonneg (by omega) (by decide));rw [if_pos h16,hk.2 h16]
 ·have hw:=(Cfg.kwhat7 hc e.1).2 (.inl (by omega))
  have hn:=hc.nums.f7;have:=hc.t0;have:=hc.b0;have:=hc.limit;obtain ⟨hf7,hf10,hf11,hf12,hf13,hf14,hf15,hf16,hf17,hstr⟩:=c.froms;unfold entB;rw [if_neg (by omega),if_pos (by omega)]
theorem filter_snoc2 (g:Int×Nat→Bool)(l:List (Int×Nat))(k:Nat)(hk:k<l.length):(l.take (k+1)).filter g=(l.take k).filter g++if g l[k]=true then [l[k]] else []:=by
 rw [List.take_succ_eq_append_getElem hk,List.filter_append]
 congr 1
 by_cases h:g l[k]=true
 ·simp [h]
 ·simp [h]
set_option maxHeartbeats 4000000 in
theorem rentries_t {q:HProp}{lv:Value}{puts:List (Int×Nat)}{c:Cfg}(hc:Small c)(hl:ListR entV q lv puts)(hll:puts.length≤1000000)(hk:∀ p∈allP puts,-1≤p.1∧p.1<c.f17)(room:Int):Tri Tryz.prog 48 #[.agg ⟨c.v⟩, .agg ⟨[.int .i64 room,lv]⟩] [q]
  fun r L=>∃ ad cap,r=.slice ad (entriesOf c puts).length cap∧L=[Row (.slice ad (entriesOf c puts).length cap) 225 2 (entriesOf c puts).length ((entriesOf c puts).flatMap entV),q]:=by
 have hget:=fun a=>rget_r hl hll room a
 have hall:=rall_t hl hll room;have hal:=allP_le puts
 have hat:=fun b=>rat_r c hc 11 b 0
 have h16:RTri Tryz.prog 133 #[.agg ⟨c.v⟩, .int .i64 16] [] (.int .i64 c.f16):=rfrom_16 c hc
 have hent:=fun e h17=>entB_ref hc puts e h17
 have hbd:=hc.nums.f17;have hbd7:=hc.nums.f7
 have hb16:0≤c.f16:=by
  have:=hc.limit;have:=hc.t0;have:=hc.b0;unfold Cfg.f16 Cfg.f15 Cfg.f14 Cfg.f13 Cfg.f12 Cfg.f11 Cfg.f10;omega
 unfold entriesOf;generalize hA:allP puts=A at hall hal hk⊢;obtain ⟨lad,lcap,rfl,_⟩:=id hl;unfold Cfg.v at hat h16⊢
 refine TB (vs:=[_,_]) Tryz.func48 fun w0 F=>?_
 repeat' (first|refine Ga ?_|(refine Gb ?_;intro b)|(refine Gt hall ?_;rintro _ _ ⟨aad,acap,rfl,rfl⟩)|fail)
 refine St.conv ?_ (Sub.refl _) (Ent.of_take (p:=Row (.slice aad A.length acap) 225 2 A.length (A.flatMap entV)) Take.go)
 refine St.rowL rfl fun R hR=>?_
 obtain ⟨aad2,acap2,e2,_⟩:=id hR
 injection e2 with e2a e2b e2c
 subst e2a e2c;refine St.conv ?_ (Sub.refl _) (Ent.trans (Ent.of_take (p:=bl b 225 []) Take.go) (Ent.row_bl (n:=0) (sz:=2) rfl (Nat.zero_le _)));refine St.loopY (Lr:=?Lr1) (ι:={ x:Nat×Option Addr×Nat // x.1≤A.length }) (fun x=>A.length - x.1.1) (fun x=>[(7, .int .i64 (x.1.1:Int)),(5, .slice x.1.2.1 ((A.take x.1.1).filter (entB c puts)).length x.1.2.2)]) (fun x=>[Row (.slice x.1.2.1 ((A.take x.1.1).filter (entB c puts)).length x.1.2.2) 225 2 ((A.take x.1.1).filter (entB c puts)).length (((A.take x.1.1).filter (entB c puts)).flatMap entV)]) ⟨(0,some ⟨b,0,none⟩,0),Nat.zero_le _⟩ ?hE1 ?hL1 ?round1
 case hE1=>exact Sub.go
 case hL1=>exact Takes.go
 case round1 =>
  rintro ⟨⟨k,wad,wcap⟩,hkl⟩ IH;dsimp only at hkl IH⊢;have hfl:((A.take k).filter (entB c puts)).length≤k:=Nat.le_trans (List.length_filter_le _ _) (by rw [List.length_take];omega)
  by_cases hlt:k<A.length
  ·obtain ⟨ab,ao,al,al1,rfl,hra9,hda,hta⟩:=hR.at' entV_len k hlt
   have hs:=filter_snoc2 (entB c puts) A k hlt;obtain ⟨k7,k17⟩:=hk A[k] (List.getElem_mem hlt);have hb:=hent A[k] k17;have hn0:NthN (ao+(k:Int).toNat * 2) al (.int .i64 A[k].1):=NthN.part (j:=0) hda hta (NthN.of rfl);generalize A[k]=e at hta hs k7 k17 hb hn0;obtain ⟨ek,ev⟩:=e;unfold entV at hta;dsimp only at k7 k17 hb hn0
   by_cases h1:ek<c.f16
   ·rw [if_pos h1] at hb
    rw [if_pos hb] at hs
    repeat' (first|refine Ga ?_|(refine Gb ?_;intro b)|(refine Gc ?_;intro ad cap)|refine Gl h16 ?_|(refine Ge ?_ ?_<;>intro h<;>try omega)|fail)
    (refine IH ⟨(k+1,ad,cap),hlt⟩ (by show _ - (k+1)<_ - k;omega) ?_ ?_;(dsimp only;rw [hs,List.length_append];exact Sub.go);(dsimp only;rw [hs,List.length_append,List.flatMap_append];exact Ent.go))
   ·rw [if_neg h1] at hb
    have hg:=hget (c.at 11 ((ek - c.f16) / 8) 0);have ha:=hat ((ek - c.f16) / 8);have hq0:0≤(ek - c.f16) / 8:=Int.ediv_nonneg (by omega) (by decide);have hq1:(ek - c.f16) / 8≤ek - c.f16:=Int.ediv_le_self _ (by omega);rw [hA] at hb hg;generalize mget A (c.at 11 ((ek - c.f16) / 8) 0)=gl at hb hg
    cases gl with
    | none =>
     rw [if_pos (by rw [hb];rfl)] at hs;dsimp only [Option.isSome,Option.getD] at hg
     repeat' (first|refine Ga ?_|(refine Gb ?_;intro b)|(refine Gc ?_;intro ad cap)|(refine Dr 8 [(0,1),(1,1),(2,0),(3,0),(4,0),(5,0),(6,1),(7,0),(8,0),(9,0),(10,1),(11,1),(12,0),(13,0),(14,0),(15,0),(16,0)] [] ?_)|refine Gl h16 ?_|refine Gl ha ?_|refine Gl hg ?_|(refine Ge ?_ ?_<;>intro h<;>try omega)|fail)
     (refine IH ⟨(k+1,ad,cap),hlt⟩ (by show _ - (k+1)<_ - k;omega) ?_ ?_;(dsimp only;rw [hs,List.length_append];exact Sub.go);(dsimp only;rw [hs,List.length_append,List.flatMap_append];exact Ent.go))
    | some y =>
     dsimp only [Option.isSome,Option.getD] at hg
     by_cases hy:y=1
     ·subst hy
      rw [if_pos (by rw [hb];rfl)] at hs
      repeat' (first|refine Ga ?_|(refine Gb ?_;intro b)|(refine Gc ?_;intro ad cap)|(refine Dr 8 [(0,1),(1,1),(2,0),(3,0),(4,0),(5,0),(6,1),(7,0),(8,0),(9,0),(10,1),(11,1),(12,0),(13,0),(14,0),(15,0),(16,0)] [] ?_)|refine Gl h16 ?_|refine Gl ha ?_|refine Gl hg ?_|(refine Ge ?_ ?_<;>intro h<;>try omega)|fail)
      (refine IH ⟨(k+1,ad,cap),hlt⟩ (by show _ - (k+1)<_ - k;omega) ?_ ?_;(dsimp only;rw [hs,List.length_append];exact Sub.go);(dsimp only;rw [hs,List.length_append,List.flatMap_append];exact Ent.go))
     ·have hy':¬ ((y:Nat):Int)=1:=by omega
      rw [if_neg (by rw [hb];simp;omega),List.append_nil] at hs
      repeat' (first|refine Ga ?_|(refine Dr 8 [(0,1),(1,1),(2,0),(3,0),(4,0),(5,0),(6,1),(7,0),(8,0),(9,0),(10,1),(11,1),(12,0),(13,0),(14,0),(15,0),(16,0)] [] ?_)|refine Gl h16 ?_|refine Gl ha ?_|refine Gl hg ?_|(refine Ge ?_ ?_<;>intro h<;>try omega)|fail)
      (refine IH ⟨(k+1,wad,wcap),hlt⟩ (by show _ - (k+1)<_ - k;omega) ?_ ?_;(dsimp only;rw [hs];exact Sub.go);(dsimp only;rw [hs];exact Ent.go))
  ·obtain rfl:k=A.length:=by omega
   clear IH;rw [List.take_length]
   repeat' (first|refine Ga ?_|(refine Ge ?_ ?_<;>intro h<;>try omega)|fail)
   exact St.d1 Tryz.func48 ⟨_,⟨wad,wcap,rfl,rfl⟩,Ent.go⟩
theorem rheld_r (n:Nat)(most:Int)(h0:0≤most)(h1:most≤1000000):RTri Tryz.prog 108 #[.int .u64 (n:Int), .int .i64 most] [] (.int .i64 (minI n most)):=by
 apply RTri.of_pure;unfold minI
 by_cases h:most<(n:Int)
 ·rw [if_pos h]
  refine TB (vs:=[_,_]) Tryz.func108 fun w0 F=>?_
  repeat' (first|refine Ga ?_|(refine Ge ?_ ?_<;>intro h<;>try omega)|fail)
  all_goals first|(exfalso;omega)|exact St.d1 Tryz.func108 ⟨_,⟨rfl,rfl⟩,Ent.go⟩|skip
 ·rw [if_neg h]
  refine TB (vs:=[_,_]) Tryz.func108 fun w0 F=>?_
  repeat' (first|refine Ga ?_|(refine Ge ?_ ?_<;>intro h<;>try omega)|fail)
  all_goals first|(exfalso;omega)|exact St.d1 Tryz.func108 ⟨_,⟨rfl,rfl⟩,Ent.go⟩|skip
set_option maxHeartbeats 2000000 in
theorem rnames_r {q:HProp}{named:List Nat}(c:Cfg)(na:Option Addr)(nn nc:Nat)(ma:Option Addr)(mn mc:Nat)(wt wl nt nl:Int)(hn:ListR u1V q (.slice na nn nc) named)(hnl:named.length≤1000000)(B:Nat)(hb:B≤1000000):RTri Tryz.prog 113 #[.agg ⟨plV c na nn nc ma mn mc wt wl nt nl⟩, .int .u64 (B:Int)] [q]
  (.bool (decide (B+1∈named))):=by
 refine RTri.of_reads fun p1 hp=>?_
 replace hn:=hn.weak fun b l h=>RdC.of_sat hp (ReadsC.here h)
 obtain ⟨_,_,hnn,_⟩:=id hn
 injection hnn with _ hnn _
 subst hnn;unfold plV Cfg.v;dsimp only [List.cons_append,List.nil_append];generalize hR:decide (B+1∈named)=R;replace hR:decide (B+1∈named.drop 0)=R:=hR
 refine TB (vs:=[_,_]) Tryz.func113 fun w0 F=>?_
 repeat' (first|refine Ga ?_|(refine Gb ?_;intro b)|fail)
 refine St.loopY (Lr:=?Lr1) (ι:={ x:Nat // x≤named.length∧decide (B+1∈named.drop x)=R }) (fun x=>named.length - x.1) (fun x=>[(5, .int .i64 (x.1:Int))]) (fun x=>[]) ⟨0,Nat.zero_le _,hR⟩ ?hE1 ?hL1 ?round1
 case hE1=>exact Sub.go
 case hL1=>exact Takes.go
 case round1 =>
  rintro ⟨k,hk,hgo⟩ IH;dsimp only at hk hgo IH⊢
  by_cases hlt:k<named.length
  ·obtain ⟨lb,lo,ll,l1,rfl,hrd,hdr,htk⟩:=hn.at' u1V_len k hlt
   rw [List.drop_eq_getElem_cons hlt] at hgo;generalize named[k]=e at htk hgo;unfold u1V at htk;have hn0:NthN (lo+(k:Int).toNat * 1) ll (.int .u64 (e:Int)):=NthN.part (j:=0) hdr htk (NthN.of rfl)
   by_cases he:e=B+1
   ·have hgo:R=true:=by rw [← hgo];subst he;exact decide_eq_true (List.mem_cons_self ..)
    subst hgo
    repeat' (first|refine Ga ?_|(refine Ge ?_ ?_<;>intro h<;>try omega)|fail)
    all_goals first|(exfalso;omega)|exact St.d1 Tryz.func113 ⟨_,⟨rfl,rfl⟩,Ent.go⟩|skip
   ·have hgo:decide (B+1∈named.drop (k+1))=R:=by
     rw [← hgo];refine decide_eq_decide.2 ⟨fun h=>List.mem_cons_of_mem _ h,fun h=>?_⟩
     rcases List.mem_cons.1 h with h|h
     ·exact absurd h.symm he
     ·exact h
    repeat' (first|refine Ga ?_|(refine Ge ?_ ?_<;>intro h<;>try omega)|fail)
    refine IH ⟨k+1,hlt,hgo⟩ (by show named.length - (k+1)<named.length - k;omega) ?_ ?_
    ·exact Sub.go
    ·exact Ent.go
  ·have hgo:R=false:=by rw [← hgo,List.drop_of_length_le (by omega)];exact decide_eq_false (fun h=>by cases h)
   subst hgo
   repeat' (first|refine Ga ?_|(refine Ge ?_ ?_<;>intro h<;>try omega)|fail)
   all_goals first|(exfalso;omega)|exact St.d1 Tryz.func113 ⟨_,⟨rfl,rfl⟩,Ent.go⟩|skip
theorem cnt_mem (l:List Nat)(b:Nat):cnt l ((b:Int)+1)=0↔b+1∉l:=by
 have h:cnt l ((b:Int)+1)=0↔List.countP (fun (x:Nat)=>decide ((x:Int)=(b:Int)+1)) l=0:=by
  unfold cnt;omega
 rw [h,List.countP_eq_zero];refine ⟨fun h hm=>?_,fun h x hx=>?_⟩
 ·have:=h _ hm
  simp at this
 ·simp only [decide_eq_true_eq]
  intro e;exact h (by rw [show b+1=x by omega];exact hx)
section
set_option maxHeartbeats 4000000 in
theorem rsettle_t {c:Cfg}(hc:Small c){q:HProp}{lv:Value}{puts:List (Int×Nat)}{named limbo:List Nat}(hl:ListR entV q lv puts)(hll:puts.length≤10000)(room:Nat)(hroom:room≤1000000)(na:Option Addr)(nn nc:Nat)(ma:Option Addr)(mn mc:Nat)(hn:ListR u1V q (.slice na nn nc) named)(hnl:named.length≤1000000)(hm:ListR u1V q (.slice ma mn mc) limbo)(hml:limbo.length≤10000)(wt wl nt nl:Int)(h0:0≤nt∧nt≤1000000):Tri Tryz.prog 25 #[.agg ⟨plV c na nn nc ma mn mc wt wl nt nl⟩, .agg ⟨[.int .i64 (room:Int),lv]⟩] [q]
  fun r L=>∃ q' ad n cap,Gr q q'∧ListR entV q' (.slice ad n cap) (setGo c room named 0 limbo ⟨0,nt,puts⟩).puts∧r=.tuple ⟨[.agg ⟨plV c na nn nc none 0 0 wt wl (setGo c room named 0 limbo ⟨0,nt,puts⟩).nt ((setGo c room named 0 limbo ⟨0,nt,puts⟩).kept:Int)⟩, .agg ⟨[.int .i64 (room:Int), .slice ad n cap]⟩]⟩∧L=[q']:=by
 have hcb:=hc.b1;have hcb0:=hc.b0
 have hat:=fun k i j=>rat_r c hc k i j
 have hput:=fun {q':HProp} {lv':Value} {puts':List (Int×Nat)} (h':ListR entV q' lv' puts') (hb:puts'.length≤1000000) a x=>rput0_t h' hb room hroom a x
 have hnm:=fun {q':HProp} (h':ListR u1V q' (.slice na nn nc) named) nt nl B hB=>rnames_r c na nn nc ma mn mc wt wl nt nl h' hnl B hB
 obtain ⟨lad,lcap,rfl,hlc,_⟩:=id hl;obtain ⟨_,_,hmm,_⟩:=id hm
 injection hmm with _ hmm _
 subst hmm;generalize hR:setGo c room named 0 limbo ⟨0,nt,puts⟩=R;unfold plV Cfg.v at hnm;unfold Cfg.v at hat;unfold plV Cfg.v;dsimp only [List.cons_append,List.nil_append] at hnm⊢
 refine TB (vs:=[_,_]) Tryz.func25 fun w0 F=>?_
 repeat' (first|refine Ga ?_|(refine Gb ?_;intro b)|fail)
 rename_i b2 b1 b0
 refine St.loopY (Lr:=?Lr1) (ι:={ x:Nat×(HProp×Option Addr×Nat×Nat)×SetS // x.1≤limbo.length∧Gr q x.2.1.1∧ListR entV x.2.1.1 (.slice x.2.1.2.1 x.2.1.2.2.1 x.2.1.2.2.2) x.2.2.puts∧(x.2.2.kept≤x.1∧x.2.2.puts.length≤10000+2 * x.1)∧(0≤x.2.2.nt∧x.2.2.nt≤1000000)∧setGo c room named x.1 (limbo.drop x.1) x.2.2=R }) (fun x=>limbo.length - x.1.1) (fun x=>[(6, .int .i64 (x.1.1:Int))])
  (fun x=>[x.1.2.1.1,bl b1 61 [.int .i64 (room:Int), .slice x.1.2.1.2.1 x.1.2.1.2.2.1 x.1.2.1.2.2.2],bl b2 37 [.int .i64 c.threads, .int .i64 c.blocks, .int .i64 c.writes, .int .i64 c.fuel, .int .u64 (c.first:Int), .int .u64 (c.last:Int), .slice na nn nc, .slice ma limbo.length mc, .int .i64 wt, .int .i64 wl, .int .i64 x.1.2.2.nt, .int .i64 (x.1.2.2.kept:Int)]])
  ⟨(0,(q,lad,puts.length,lcap),⟨0,nt,puts⟩),Nat.zero_le _,Gr.refl q,hl,⟨Nat.le_refl _,by dsimp only;omega⟩,h0,hR⟩ ?hE1 ?hL1 ?round1
 case hE1=>exact Sub.go
 case hL1=>exact Takes.go
 case round1 =>
  rintro ⟨⟨k,⟨qk,kad,kn,kcap⟩,⟨kept,knt,kputs⟩⟩,hk,hgk,hlk,⟨hkk,hkp⟩,hkt,hgo⟩ IH;dsimp only at hk hgk hlk hkk hkp hkt hgo IH⊢
  by_cases hlt:k<limbo.length
  ·obtain ⟨lb,lo,ll,l1,rfl,hrd,hdr,htk⟩:=(hm.gr hgk).at' u1V_len k hlt
   rw [List.drop_eq_getElem_cons hlt,setGo] at hgo;generalize limbo[k]=B at htk hgo;unfold u1V at htk;have hn0:NthN (lo+(k:Int).toNat * 1) ll (.int .u64 (B:Int)):=NthN.part (j:=0) hdr htk (NthN.of rfl);unfold setStep at hgo
   by_cases hbb:c.blocks≤(B:Int)
   ·rw [if_pos hbb] at hgo
    repeat' (first|refine Ga ?_|(refine Ge ?_ ?_<;>intro h<;>try omega)|fail)
    refine IH ⟨(k+1,(qk,kad,kn,kcap),⟨kept,knt,kputs⟩),hlt,hgk,hlk,⟨by dsimp only;omega,by dsimp only;omega⟩,hkt,hgo⟩ (by show limbo.length - (k+1)<limbo.length - k;omega) ?_ ?_
    ·exact Sub.go
    ·exact Ent.go
   rw [if_neg hbb] at hgo;have hnames:=hnm (hn.gr hgk) knt kept B (by omega)
   by_cases hmem:B+1∈named
   ·rw [if_neg (fun e=>(cnt_mem named B).1 e hmem)] at hgo
    rw [decide_eq_true hmem] at hnames
    by_cases hkk2:kept=k
    ·rw [if_neg (fun e=>e hkk2)] at hgo
     subst hkk2
     repeat' (first|refine Ga ?_|refine Gl hnames ?_|(refine Ge ?_ ?_<;>intro h<;>try omega)|fail)
     refine IH ⟨(kept+1,(qk,kad,kn,kcap),⟨kept+1,knt,kputs⟩),hlt,hgk,hlk,⟨by dsimp only;omega,by dsimp only;omega⟩,hkt,hgo⟩ (by show limbo.length - (kept+1)<limbo.length - kept;omega) ?_ ?_
     ·exact Sub.go
     ·exact Ent.go
    ·rw [if_pos hkk2] at hgo
     have h15:=hat 15 kept 0;have hp:=hput hlk (by omega) (c.at 15 kept 0) B;have hple:=putP_le room kputs (c.at 15 kept 0) B
     repeat' (first|refine Ga ?_|(refine Dr 9 [(0,1),(1,0),(2,1),(3,0),(4,1),(5,1),(6,0),(7,3),(8,3)] [7,8] ?_)|refine Gl hnames ?_|refine Gl h15 ?_|(refine Gt hp ?_;rintro _ _ ⟨q2',ad2',n2',cap2',hg2,hl2',rfl,rfl⟩)|(refine Ge ?_ ?_<;>intro h<;>try omega)|fail)
     refine IH ⟨(k+1,(q2',ad2',n2',cap2'),⟨kept+1,knt,putP room kputs (c.at 15 kept 0) B⟩),hlt,hgk.trans hg2,hl2',⟨by dsimp only;omega,by dsimp only;omega⟩,hkt,hgo⟩ (by show limbo.length - (k+1)<limbo.length - k;omega) ?_ ?_
     ·exact Sub.go
     ·exact Ent.go
   ·rw [if_pos ((cnt_mem named B).2 hmem)] at hgo
    rw [decide_eq_false hmem] at hnames;have h11:=hat 11 B 0;have h13:=hat 13 knt 0;have hp:=hput hlk (by omega) (c.at 11 B 0) 0;have hple:=putP_le room kputs (c.at 11 B 0) 0;unfold relP at hgo
    by_cases hnb:knt<c.blocks
    ·rw [if_pos hnb] at hgo
     repeat' (first|refine St.halt 12 ?_|refine Ga ?_|(refine Dr 11 [(0,1),(1,0),(2,1),(3,0),(4,0),(5,1),(6,3),(7,3)] [6,7] ?_)|refine Gl hnames ?_|refine Gl h11 ?_|(refine Gt hp ?_;rintro _ _ ⟨q2',ad2',n2',cap2',hg2,hl2',rfl,rfl⟩)|(refine Ge ?_ ?_<;>intro h<;>try omega)|fail)
     have hp2:=hput hl2' (by omega) (c.at 13 knt 0) B;have hple2:=putP_le room (putP room kputs (c.at 11 B 0) 0) (c.at 13 knt 0) B;refine Halt.go ?_
     repeat' (first|refine Ga ?_|(refine Dr 13 [(0,1),(1,0),(2,1),(3,0),(4,1),(5,1),(6,0),(7,3),(8,3)] [7,8] ?_)|refine Gl h13 ?_|(refine Gt hp2 ?_;rintro _ _ ⟨q3',ad3',n3',cap3',hg3,hl3',rfl,rfl⟩)|(refine Ge ?_ ?_<;>intro h<;>try omega)|fail)
     refine IH ⟨(k+1,(q3',ad3',n3',cap3'),⟨kept,knt+1,putP room (putP room kputs (c.at 11 B 0) 0) (c.at 13 knt 0) B⟩),hlt,(hgk.trans hg2).trans hg3,hl3',⟨by dsimp only;omega,by dsimp only;omega⟩,⟨by dsimp only;omega,by dsimp only;omega⟩,hgo⟩ (by show limbo.length - (k+1)<limbo.length - k;omega) ?_ ?_
     ·exact Sub.go
     ·exact Ent.go
    ·rw [if_neg hnb] at hgo
     repeat' (first|refine Ga ?_|(refine Dr 11 [(0,1),(1,0),(2,1),(3,0),(4,0),(5,1),(6,3),(7,3)] [6,7] ?_)|refine Gl hnames ?_|refine Gl h11 ?_|(refine Gt hp ?_;rintro _ _ ⟨q2',ad2',n2',cap2',hg2,hl2',rfl,rfl⟩)|(refine Ge ?_ ?_<;>intro h<;>try omega)|fail)
     refine IH ⟨(k+1,(q2',ad2',n2',cap2'),⟨kept,knt,putP room kputs (c.at 11 B 0) 0⟩),hlt,hgk.trans hg2,hl2',⟨by dsimp only;omega,by dsimp only;omega⟩,hkt,hgo⟩ (by show limbo.length - (k+1)<limbo.length - k;omega) ?_ ?_
     ·exact Sub.go
     ·exact Ent.go
  ·rw [List.drop_of_length_le (by omega),setGo] at hgo
   subst hgo
   repeat' (first|refine Ga ?_|(refine Dt 16 [] (.pick [(0,3)] (.pick [(1,3),(2,3),(3,3)] .done (.pick [(2,3),(1,3),(3,3)] .done .nope)) (.pick [(1,3),(0,3),(2,3),(3,3)] .done .nope)) [0,1,2,3] ?_)|apply StD.pick|exact StD.nope|(refine StD.ok3 rfl (OpOk.ofW OpV.go) rfl ?_;rintro _ _ ⟨rfl,rfl⟩)|(refine Ge ?_ ?_<;>intro h<;>try omega)|fail)
   all_goals exact St.d1 Tryz.func25 ⟨_,⟨qk,_,_,_,hgk,hlk,rfl,rfl⟩,Ent.go⟩
end
end Go.Proofs.YthmbgodcpgkkeaaGreat
