/-
  Package tumblerref12: Copy. Package tumblerref12: Help. Package tumblerref15, in plain terms: how far a tape goes. Package tumblerref05: Reads. Package tumblerref15: look. Package tumblerref15: announce. Package tumblerref15: reads.
-/
import Derived.Test.YthmbgodcpgkkeaaGreatLg
import Derived.Test.YthmbgodcpgkkeaaGreatLf
import Derived.Test.YthmbgodcpgkkeaaGreatLw
import Derived.Test.YthmbgodcpgkkeaaGreatMb
import Derived.Test.YthmbgodcpgkkeaaGreatLp
import Derived.Test.YthmbgodcpgkkeaaGreatNr
set_option maxRecDepth 100000
namespace Go.Proofs.YthmbgodcpgkkeaaGreat
section
set_option maxHeartbeats 4000000 in
theorem rcopy_t {q:HProp}{ov:Value}{os:List Out}(hov:ListR Out.v q ov os)(hos:os.length≤100000){c:Cfg}(hc:Small c)(owner:Int)(t:Tp)(ht:t.at_≤100000):Tri Tryz.prog 271 #[.agg ⟨c.v⟩, .int .i64 owner, .agg ⟨tpV ov t⟩] [q]
  fun r L=>∃ ad cap,r=.tuple ⟨[.agg ⟨tpV ov (rcopy c os owner t).1⟩, .slice ad (rcopy c os owner t).2.length cap]⟩∧L=[Row (.slice ad (rcopy c os owner t).2.length cap) 225 2 (rcopy c os owner t).2.length ((rcopy c os owner t).2.flatMap entV),q]:=by
 have hcap:=rcap_r c hc;have hcc:=hc.cap;have hat5:=rat_r c hc 5 owner 0
 have hat6:=fun k=>rat_r c hc 6 owner k
 have hld:=fun t ht a=>rld_r hov hos t ht a
 have hcn:((c.cap.toNat:Nat):Int)=c.cap:=by omega
 obtain ⟨adt,capt,rfl,_⟩:=hov;unfold Cfg.v at hat5 hat6 hcap;unfold Cfg.v rcopy;have hl1:=hld t ht (c.at 5 owner 0);have hx1:=tdo_at hos ht (mop 0 (c.at 5 owner 0) 0);generalize tdo os t (mop 0 (c.at 5 owner 0) 0)=y at hl1 hx1⊢;obtain ⟨t1,⟨⟨nv,ns⟩,qok⟩⟩:=y;dsimp only at hl1 hx1⊢;generalize hM:min nv c.cap.toNat=M;generalize hR:rcopyL c os owner M 0 [] t1=R;have h1:tpV (.slice adt os.length capt) t1=tpV (.slice adt os.length capt) t1:=rfl;obtain ⟨ta,⟨ak,oa,⟨ova,osa⟩,⟨nvb,nsb⟩⟩,tn⟩:=t
 obtain ⟨t1e,ht1e⟩:∃ t1e,t1e=t1:=⟨t1,rfl⟩
 obtain ⟨ta1,⟨ak1,oa1,⟨ov1a,os1a⟩,⟨nv1b,ns1b⟩⟩,tn1⟩:=t1;unfold tpV Cell.v at hl1;unfold tpV;dsimp only at hl1⊢
 refine TB (vs:=[_,_,_]) Tryz.func271 fun w0 F=>?_
 repeat' (first|refine Ga ?_|(refine Gb ?_;intro b)|(refine Dr 1 [(0,1),(1,1),(2,0),(3,1),(4,1),(5,0),(6,0),(7,0),(8,2),(9,3),(10,3)] [9,10] ?_)|refine Gl hat5 ?_|refine Gl hl1 ?_|fail)
 rename_i b2 b1 b0;refine St.conv ?_ (Sub.refl _) (Ent.row_bl (b:=b) (e:=225) (sz:=2) (n:=0) rfl (by decide));refine St.loopY (Lr:=?Lr1) (ι:={ x:(Nat×List (Int×Nat)×Tp)×Option Addr×Nat // x.1.1≤M∧x.1.2.1.length=x.1.1∧x.1.2.2.at_≤100000∧rcopyL c os owner (M - x.1.1) x.1.1 x.1.2.1 x.1.2.2=R }) (fun x=>M - x.1.1.1) (fun x=>[(10, .int .i64 (x.1.1.1:Int)),(9, .slice x.1.2.1 x.1.1.2.1.length x.1.2.2)]) (fun x=>[bl b2 43 (tpV (.slice adt os.length capt) x.1.1.2.2),Row (.slice x.1.2.1 x.1.1.2.1.length x.1.2.2) 225 2 x.1.1.2.1.length (x.1.1.2.1.flatMap entV)]) ⟨((0,[],t1e),some ⟨b,0,none⟩,0),Nat.zero_le _,rfl,by rw [ht1e];exact hx1,by rw [ht1e];exact hR⟩ ?hE1 ?hL1 ?round1
 case hE1=>exact Sub.go
 case hL1=>subst ht1e;exact Takes.go
 case round1 =>
  rintro ⟨⟨⟨k,l,t9⟩,lad,lcap⟩,hk,hlk,ht9,hgo⟩ IH;dsimp only at hk hlk ht9 hgo IH⊢;obtain ⟨ta9,⟨ak9,oa9,⟨ov9a,os9a⟩,⟨nv9b,ns9b⟩⟩,tn9⟩:=t9;unfold tpV;dsimp only at ht9 hgo⊢
  by_cases hlt:k<M
  ·obtain ⟨m,hm⟩:∃ m,M - k=m+1:=⟨M - k - 1,by omega⟩
   rw [hm,rcopyL] at hgo
   cases tn9 with
   | true =>
    rw [if_pos rfl] at hgo;subst hgo
    repeat' (first|refine Ga ?_|refine Gl hcap ?_|(refine Ge ?_ ?_<;>intro h<;>try omega)|fail)
    refine St.d1 Tryz.func271 ⟨_,⟨lad,lcap,rfl,rfl⟩, ?_⟩;dsimp only [tpV];exact Ent.go
   | false =>
    rw [if_neg Bool.false_ne_true] at hgo;have hat:=hat6 k;have hl2:=hld ⟨ta9,⟨ak9,oa9,⟨ov9a,os9a⟩,⟨nv9b,ns9b⟩⟩,false⟩ ht9 (c.at 6 owner k);have hx2:=tdo_at hos (t:=⟨ta9,⟨ak9,oa9,⟨ov9a,os9a⟩,⟨nv9b,ns9b⟩⟩,false⟩) ht9 (mop 0 (c.at 6 owner k) 0);generalize tdo os ⟨ta9,⟨ak9,oa9,⟨ov9a,os9a⟩,⟨nv9b,ns9b⟩⟩,false⟩ (mop 0 (c.at 6 owner k) 0)=y at hl2 hx2 hgo;obtain ⟨t2,⟨⟨wv,ws⟩,qok2⟩⟩:=y;dsimp only at hl2 hx2 hgo;obtain ⟨ta2,⟨ak2,oa2,⟨ov2a,os2a⟩,⟨nv2b,ns2b⟩⟩,tn2⟩:=t2;unfold tpV Cell.v at hl2;dsimp only at hl2
    have hmk:M - (k+1)=m:=by omega
    unfold placeOf at hgo
    by_cases hw:ws<65536
    ·rw [if_neg (by omega)] at hgo
     repeat' (first|refine Ga ?_|(refine Gb ?_;intro b)|(refine Gc ?_;intro ad cap)|(refine Dt 6 [(0,1),(1,1),(2,0),(3,0),(4,1),(5,1),(6,0),(7,0),(8,0)] (.pick [(9,2),(10,2),(11,3),(12,3)] .done (.pick [(10,2),(9,2),(11,3),(12,3)] .done .nope)) [11,12] ?_)|apply StD.pick|exact StD.nope|refine Gl hcap ?_|refine Gl hat ?_|refine Gl hl2 ?_|(refine Ge ?_ ?_<;>intro h<;>try omega)|fail)
     all_goals refine IH ⟨((k+1,l++[((ws:Int),wv)],⟨ta2,⟨ak2,oa2,⟨ov2a,os2a⟩,⟨nv2b,ns2b⟩⟩,tn2⟩),ad,cap),by dsimp only;omega,by dsimp only;rw [List.length_append,hlk];rfl,hx2,by dsimp only;rw [hmk];exact hgo⟩ (by show M - (k+1)<M - k;omega) ?_ ?_
     all_goals dsimp only;rw [List.length_append];first|(exact Sub.go)|(rw [List.flatMap_append];exact Ent.go)
    ·rw [if_pos (by omega)] at hgo
     repeat' (first|refine Ga ?_|(refine Gb ?_;intro b)|(refine Gc ?_;intro ad cap)|(refine Dt 6 [(0,1),(1,1),(2,0),(3,0),(4,1),(5,1),(6,0),(7,0),(8,0)] (.pick [(9,2),(10,2),(11,3),(12,3)] .done (.pick [(10,2),(9,2),(11,3),(12,3)] .done .nope)) [11,12] ?_)|apply StD.pick|exact StD.nope|refine Gl hcap ?_|refine Gl hat ?_|refine Gl hl2 ?_|(refine Ge ?_ ?_<;>intro h<;>try omega)|fail)
     all_goals refine IH ⟨((k+1,l++[((-1:Int),wv)],⟨ta2,⟨ak2,oa2,⟨ov2a,os2a⟩,⟨nv2b,ns2b⟩⟩,tn2⟩),ad,cap),by dsimp only;omega,by dsimp only;rw [List.length_append,hlk];rfl,hx2,by dsimp only;rw [hmk];exact hgo⟩ (by show M - (k+1)<M - k;omega) ?_ ?_
     all_goals dsimp only;rw [List.length_append];first|(exact Sub.go)|(rw [List.flatMap_append];exact Ent.go)
  ·rw [show M - k=0 by omega,rcopyL] at hgo
   subst hgo
   by_cases hkc:(k:Int)<c.cap
   ·repeat' (first|refine Ga ?_|refine Gl hcap ?_|(refine Ge ?_ ?_<;>intro h<;>try omega)|fail)
    refine St.d1 Tryz.func271 ⟨_,⟨lad,lcap,rfl,rfl⟩, ?_⟩;dsimp only [tpV];exact Ent.go
   ·repeat' (first|refine Ga ?_|refine Gl hcap ?_|(refine Ge ?_ ?_<;>intro h<;>try omega)|fail)
    refine St.d1 Tryz.func271 ⟨_,⟨lad,lcap,rfl,rfl⟩, ?_⟩;dsimp only [tpV];exact Ent.go
end
theorem rcopyL_len (c:Cfg)(os:List Out)(owner:Int):∀ (m k:Nat) (l:List (Int×Nat)) (t:Tp),(rcopyL c os owner m k l t).2.length≤l.length+m
 | 0,_,_,_=>Nat.le_refl _
 | m+1,k,l,t=>by
  rw [rcopyL];split
  ·dsimp only;omega
  ·refine Nat.le_trans (rcopyL_len c os owner m _ _ _) ?_
   rw [List.length_append,List.length_singleton];omega
theorem rcopyL_at {os:List Out}(hos:os.length≤100000)(c:Cfg)(owner:Int):∀ (m k:Nat) (l:List (Int×Nat)) {t:Tp} (_:t.at_≤100000),(rcopyL c os owner m k l t).1.at_≤100000
 | 0,_,_,_,ht=>ht
 | m+1,k,l,t,ht=>by
  rw [rcopyL];split
  ·exact ht
  ·exact rcopyL_at hos c owner m _ _ (tdo_at hos ht _)
theorem rcopy_at {os:List Out}(hos:os.length≤100000)(c:Cfg)(owner:Int){t:Tp}(ht:t.at_≤100000):(rcopy c os owner t).1.at_≤100000:=rcopyL_at hos c owner _ _ _ (tdo_at hos ht _)
theorem rcopy_len {c:Cfg}(hc:Small c)(os:List Out)(owner:Int)(t:Tp):(rcopy c os owner t).2.length≤1000000:=by
 have h:=rcopyL_len c os owner (min (tdo os t (mop 0 (c.at 5 owner 0) 0)).2.was.val c.cap.toNat) 0 [] (tdo os t (mop 0 (c.at 5 owner 0) 0)).1;have:=hc.cap;unfold rcopy;rw [List.length_nil] at h;omega
section
set_option maxHeartbeats 4000000 in
theorem rhelp_r {q:HProp}{ov:Value}{os:List Out}(hov:ListR Out.v q ov os)(hos:os.length≤100000){c:Cfg}(hc:Small c)(who owner:Int)(seq:Nat)(t:Tp)(ht:t.at_≤100000):RTri Tryz.prog 216 #[.agg ⟨c.v⟩, .int .i64 who, .int .i64 owner, .int .u64 (seq:Int), .agg ⟨tpV ov t⟩] [q]
  (.agg ⟨tpV ov (rhelp c os who owner seq t)⟩):=by
 refine RTri.of_reads fun p1 hp=>?_
 have hov:=hov.weak fun b l h=>RdC.of_sat hp (ReadsC.here h)
 have hcp:=rcopy_t hov hos hc owner t ht;have hx1:=rcopy_at hos c owner ht;have hlen:=rcopy_len hc os owner t
 have hap:=fun (q2:HProp) (h2:ListR Out.v q2 ov os) lv (hl:ListR entV q2 lv (rcopy c os owner t).2) t2 ht2=>rapply_r h2 hos hc who owner seq _ lv hl hlen t2 ht2
 unfold rhelp;generalize rcopy c os owner t=y at hcp hx1 hlen hap⊢;obtain ⟨t1,l⟩:=y;dsimp only at hcp hx1 hlen hap⊢
 have hop:=fun (q2:HProp) (h2:ListR Out.v q2 ov os)=>ropen_r h2 hos hc owner seq t1 hx1
 have hx2:=ropen_at hos hx1 c owner seq;generalize ropen c os owner seq t1=y2 at hop hx2⊢;obtain ⟨t2,is⟩:=y2;dsimp only at hop hx2⊢
 have hap:=fun (q2:HProp) (h2:ListR Out.v q2 ov os) lv (hl:ListR entV q2 lv l)=>hap q2 h2 lv hl t2 hx2
 generalize rapply c os who owner seq l (-1) t2=t3 at hap⊢;have hov2:=hov;obtain ⟨ad,cap,rfl,_⟩:=hov2;obtain ⟨ta,⟨ak,oa,⟨ova,osa⟩,⟨nvb,nsb⟩⟩,tn⟩:=t;obtain ⟨ta1,⟨ak1,oa1,⟨ov1a,os1a⟩,⟨nv1b,ns1b⟩⟩,tn1⟩:=t1;obtain ⟨ta2,⟨ak2,oa2,⟨ov2a,os2a⟩,⟨nv2b,ns2b⟩⟩,tn2⟩:=t2;obtain ⟨ta3,⟨ak3,oa3,⟨ov3a,os3a⟩,⟨nv3b,ns3b⟩⟩,tn3⟩:=t3;unfold tpV Cfg.v at hcp hop hap;unfold tpV Cfg.v;dsimp only at hcp hop hap⊢
 cases tn2 with
 | true =>
  rw [if_pos (.inl rfl)]
  refine TB (vs:=[_,_,_,_,_]) Tryz.func216 fun w0 F=>?_
  repeat' (first|refine St.halt 2 ?_|refine Ga ?_|(refine Gb ?_;intro b)|(refine Gt hcp ?_;rintro _ _ ⟨lad,lcap,rfl,rfl⟩)|fail)
  refine Halt.go ?_;refine St.conv ?_ (Sub.refl _) (Ent.of_take (p:=Row (.slice lad l.length lcap) 225 2 l.length (l.flatMap entV)) Take.go)
  refine St.rowL rfl fun R hR=>?_
  refine St.conv ?_ (Sub.refl _) (Ent.trans (Ent.of_take (p:=p1) Take.go) (Ent.star_in [p1,R]))
  have hq1:=hov.weak fun b l h=>RdC.star (L:=[p1,R]) (List.mem_cons_self ..) h
  have hq2:=hR.weak fun b l h=>RdC.star (L:=[p1,R]) (List.mem_cons_of_mem _ (List.mem_cons_self ..)) h
  have hop:=hop _ hq1;have hap:=hap _ hq1 _ hq2
  repeat' (first|refine Ga ?_|refine Gl hop ?_|fail)
  refine St.d1 Tryz.func216 ⟨_,⟨rfl,rfl⟩, ?_⟩;refine Ent.trans (Ent.of_take (p:=star [p1,R]) Take.go) (Ent.trans Ent.star_out ?_);exact Ent.go
 | false =>
  cases is with
  | false =>
   rw [if_pos (.inr rfl)]
   refine TB (vs:=[_,_,_,_,_]) Tryz.func216 fun w0 F=>?_
   repeat' (first|refine St.halt 2 ?_|refine Ga ?_|(refine Gb ?_;intro b)|(refine Gt hcp ?_;rintro _ _ ⟨lad,lcap,rfl,rfl⟩)|fail)
   refine Halt.go ?_;refine St.conv ?_ (Sub.refl _) (Ent.of_take (p:=Row (.slice lad l.length lcap) 225 2 l.length (l.flatMap entV)) Take.go)
   refine St.rowL rfl fun R hR=>?_
   refine St.conv ?_ (Sub.refl _) (Ent.trans (Ent.of_take (p:=p1) Take.go) (Ent.star_in [p1,R]))
   have hq1:=hov.weak fun b l h=>RdC.star (L:=[p1,R]) (List.mem_cons_self ..) h
   have hq2:=hR.weak fun b l h=>RdC.star (L:=[p1,R]) (List.mem_cons_of_mem _ (List.mem_cons_self ..)) h
   have hop:=hop _ hq1;have hap:=hap _ hq1 _ hq2
   repeat' (first|refine Ga ?_|refine Gl hop ?_|fail)
   refine St.d1 Tryz.func216 ⟨_,⟨rfl,rfl⟩, ?_⟩;refine Ent.trans (Ent.of_take (p:=star [p1,R]) Take.go) (Ent.trans Ent.star_out ?_);exact Ent.go
  | true =>
   rw [if_neg (by simp)]
   refine TB (vs:=[_,_,_,_,_]) Tryz.func216 fun w0 F=>?_
   repeat' (first|refine St.halt 2 ?_|refine Ga ?_|(refine Gb ?_;intro b)|(refine Gt hcp ?_;rintro _ _ ⟨lad,lcap,rfl,rfl⟩)|fail)
   refine Halt.go ?_;refine St.conv ?_ (Sub.refl _) (Ent.of_take (p:=Row (.slice lad l.length lcap) 225 2 l.length (l.flatMap entV)) Take.go)
   refine St.rowL rfl fun R hR=>?_
   refine St.conv ?_ (Sub.refl _) (Ent.trans (Ent.of_take (p:=p1) Take.go) (Ent.star_in [p1,R]))
   have hq1:=hov.weak fun b l h=>RdC.star (L:=[p1,R]) (List.mem_cons_self ..) h
   have hq2:=hR.weak fun b l h=>RdC.star (L:=[p1,R]) (List.mem_cons_of_mem _ (List.mem_cons_self ..)) h
   have hop:=hop _ hq1;have hap:=hap _ hq1 _ hq2
   repeat' (first|refine Ga ?_|refine Gl hop ?_|refine Gl hap ?_|fail)
   refine St.d1 Tryz.func216 ⟨_,⟨rfl,rfl⟩, ?_⟩;refine Ent.trans (Ent.of_take (p:=star [p1,R]) Take.go) (Ent.trans Ent.star_out ?_);exact Ent.go
end
section
variable {c:Cfg}{os:List Out}{t:Tp}
theorem rlog_at (hos:os.length≤100000)(who:Int):∀ (k:Nat) (l:List (Int×Nat)) {t:Tp},t.at_≤100000→(rlog c os who k l t).at_≤100000
 | _,[],_,ht=>ht
 | k,e::l,t,ht=>by
  rw [rlog];exact rlog_at hos who (k+1) l (tdo_at hos ht _)
theorem rwrite_at (hos:os.length≤100000)(ht:t.at_≤100000)(who:Int)(seq:Nat)(list:List (Int×Nat)):(rwrite c os who seq list t).at_≤100000:=by
 unfold rwrite;exact tdo_at hos (tdo_at hos (rlog_at hos who _ _ ht) _) _
theorem rreads_at (hos:os.length≤100000)(ht:t.at_≤100000)(p:Cp)(progs:Progs)(s:Rs)(seq:Nat):(rreads c os p progs s seq t).1.at_≤100000:=by
 unfold rreads rreads1;split
 all_goals exact rplay_tat hos _ _ _ _ _ _ _ _ ht
theorem ranswer_at (hos:os.length≤100000)(ht:t.at_≤100000)(p:Cp)(progs:Progs)(s:Rs)(seq:Nat):(ranswer c os p progs s seq t).1.at_≤100000:=by
 unfold ranswer ranswer1;split
 ·exact tdo_at hos ht _
 split
 ·exact tdo_at hos (tdo_at hos (tdo_at hos ht _) _) _
 split
 ·exact rreads_at hos (tdo_at hos ht _) _ _ _ _
 split
 all_goals exact tdo_at hos ht _
theorem rcall_tat (hos:os.length≤100000)(ht:t.at_≤100000)(v:Rv)(u:Int):(rcall c os v u t).1.at_≤100000:=by
 unfold rcall rcall1;split
 ·exact tdo_at hos ht _
 ·unfold rcall2
  split
  ·exact rcell_at hos (tdo_at hos ht _) _ _ _
  ·exact rargs_at hos _ _ _ _ _ (rcell_at hos (tdo_at hos ht _) _ _ _)
theorem rmk_at (hos:os.length≤100000)(room:Nat)(progs:Progs)(p:Rp):∀ (k u:Nat) (b:Rb) {t:Tp},t.at_≤100000→(rmk c os room progs p k u b t).1.at_≤100000
 | 0,_,_,_,ht=>ht
 | k+1,u,b,t,ht=>by
  rw [rmk_succ];have h1:=rcall_tat (c:=c) hos ht b.v u;unfold rmkC;split
  ·exact h1
  split
  ·exact h1
  split
  ·exact rmk_at hos room progs p k (u+1) _ h1
  ·unfold rmkP
   split
   ·exact rplay_tat hos _ _ _ _ _ _ _ _ h1
   ·exact rmk_at hos room progs p k (u+1) _ (rplay_tat hos _ _ _ _ _ _ _ _ h1)
theorem rmake_tat (hos:os.length≤100000)(ht:t.at_≤100000)(who:Int)(seq:Nat)(progs:Progs):(rmake c os who seq progs t).1.at_≤100000:=by
 unfold rmake;split
 ·exact rread_at hos c seq ht
 ·exact rmk_at hos _ _ _ _ _ _ (rread_at hos c seq ht)
end
set_option maxHeartbeats 1000000 in
theorem reads5_r (q:HProp)(cv:Value)(code:List Ins)(hcv:InsR q cv code)(hl:code.length≤1000000):RTri Tryz.prog 151 #[cv] [q] (.bool (onlyB code)):=by
 refine RTri.of_reads fun p hp=>?_
 have hins:InsR p cv code:=by
  obtain ⟨ad,cap,h1,h2|⟨b,o,l,rest,h3,h4,h5⟩⟩:=hcv
  ·exact ⟨ad,cap,h1, .inl h2⟩
  ·exact ⟨ad,cap,h1, .inr ⟨b,o,l,rest,h3,RdC.of_sat hp (ReadsC.here h4),h5⟩⟩
 have hri:=right5_r p cv code hins;obtain ⟨ad,cap,rfl,hr⟩:=hins
 refine TB (vs:=[_]) Tryz.func151 fun w0 F=>?_
 repeat' (first|refine Ga ?_|fail)
 refine St.loopY (Lr:=?Lr1) (ι:={ x:Nat // x≤code.length∧onlyB code=((code.drop x).all (fun i=>!wrB i) && rightB code) }) (fun x=>code.length - x.1) (fun x=>[(3, .int .i64 (x.1:Int))]) (fun _=>[]) ⟨0,Nat.zero_le _,rfl⟩ ?hE1 ?hL1 ?round1
 case hE1=>exact Sub.go
 case hL1=>exact Takes.go
 case round1 =>
  rintro ⟨k,hk,ha⟩ IH;dsimp only at hk ha IH⊢
  by_cases hlt:k<code.length
  ·obtain ⟨bf,o,l,l1,rfl,hrd,hdr,htk⟩:=InsR.at hr k hlt
   rw [drop_cons' hlt,List.all_cons] at ha;generalize code[k]=i at htk ha;unfold Ins.v at htk;have hwr:=writes5_r i.op;have hn0:NthN (o+(k:Int).toNat * 5) l (.int .i64 i.op):=NthN.part (j:=0) hdr htk (NthN.of rfl)
   cases hw:wrB i with
   | true =>
    rw [hw] at ha;have hw:=of_decide_eq_true hw
    have hcw:0<costs i.op:=by
     unfold costs
     repeat' split
     all_goals omega
    rw [ha];clear IH
    repeat' (first|refine Ga ?_|refine Gl hwr ?_|(refine Ge ?_ ?_<;>intro h<;>try omega)|fail)
    all_goals refine St.d1 Tryz.func151 ⟨_,⟨rfl,rfl⟩,Ent.go⟩
   | false =>
    rw [hw] at ha;have hw:=of_decide_eq_false hw
    have hcw:costs i.op=0:=by
     unfold costs
     repeat' split
     all_goals omega
    repeat' (first|refine Ga ?_|refine Gl hwr ?_|(refine Ge ?_ ?_<;>intro h<;>try omega)|fail)
    refine IH ⟨k+1,hlt,by rw [ha];rfl⟩ (by show code.length - (k+1)<code.length - k;omega) ?_ ?_
    ·exact Sub.go
    ·exact Ent.go
  ·obtain rfl:k=code.length:=by omega
   rw [List.drop_length] at ha;rw [ha];clear IH
   repeat' (first|refine Ga ?_|refine Gl hri ?_|(refine Ge ?_ ?_<;>intro h<;>try omega)|fail)
   refine St.d1 Tryz.func151 ⟨_,⟨rfl,rfl⟩,Ent.go⟩
theorem Cp.code_len {progs:Progs}(h:∀ p∈progs,p.length≤1000000)(p:Cp):(p.code progs).length≤1000000:=by
 unfold Cp.code;split
 ·exact Nat.zero_le _
 ·rw [List.getD_eq_getElem?_getD]
  cases e:progs[p.prog.toNat]? with
  | none=>exact Nat.zero_le _
  | some x=>exact h x (List.mem_of_getElem? e)
theorem Cfg.at0 {c:Cfg}(hc:Small c):c.at 0 0 0=0:=by
 have:=hc.t0;unfold Cfg.at;rw [show c.cnt 0=(1,1) from rfl,show c.base 0=0 from rfl];dsimp only;rw [if_pos (by omega)];omega
section
set_option maxHeartbeats 4000000 in
theorem look15_r {q:HProp}{ov:Value}{os:List Out}(hov:ListR Out.v q ov os)(hos:os.length≤100000)(hosv:∀ o∈os,o.was.val<18446744073709551616){c:Cfg}(hc:Small c){pv:Value}{progs:Progs}(hpr:ProgsR q pv progs)(p:Cp)(h4:p.args.length=4)(t:Tp)(ht:t.at_≤100000)(s:Rs)(ra:Option Addr)(rn rc:Nat) :
  RTri Tryz.prog 152 #[.agg ⟨cpV c p pv⟩, .agg ⟨rsV ov t s (.slice ra rn rc)⟩] [q] (.tuple ⟨[.agg ⟨rsV ov (rlook c os p progs s t).1 (rlook c os p progs s t).2.1 (.slice ra rn rc)⟩, .agg ⟨(rlook c os p progs s t).2.2.v⟩]⟩):=by
 have ht0:=hc.t0;have ht1:=hc.t1;obtain ⟨cad,ccp,hcode,hcr⟩:=code15_r hpr c p h4;have hright:=right5_r q _ _ hcr
 have hld:=fun t ht s a=>load15_r hov hos t ht s ra rn rc a
 have h0:=hld t ht s (c.at 0 0 0);rw [Cfg.at0 hc] at h0
 have h4a:=fun i=>rat_r c hc 4 i 0
 have hhp:=fun w o sq t ht=>rhelp_r hov hos hc w o sq t ht
 have hx1:=tdo_at hos ht (mop 0 (c.at 0 0 0) 0);have hv1:=tdo_lt hosv t (mop 0 (c.at 0 0 0) 0)
 refine RTri.of_reads fun p1 hp=>?_
 replace hcode:=hcode.of_read hp;replace hright:=hright.of_read hp
 replace hld:=fun t ht s a=>(hld t ht s a).of_read hp
 replace h0:=h0.of_read hp
 replace hhp:=fun w o sq t ht=>(hhp w o sq t ht).of_read hp
 obtain ⟨adt,capt,rfl,_⟩:=id hov;obtain ⟨pad,pcp,rfl,_⟩:=id hpr;generalize hX:rlook c os p progs s t=X;unfold rlook at hX;rw [Cfg.at0 hc] at hX hx1 hv1;generalize tdo os t (mop 0 0 0)=y at h0 hx1 hv1 hX;obtain ⟨t2,⟨⟨nv,ns⟩,nok⟩⟩:=y;dsimp only at h0 hx1 hv1 hX;unfold rlook1 at hX
 have hen:=fun e v s=>end15_r adt os.length capt t2 s ra rn rc e v
 have hal:=fun s=>alone15_r adt os.length capt t2 s ra rn rc
 have how0:=Int.emod_nonneg (nv:Int) (show c.threads≠0 by omega);have how1:=Int.emod_lt_of_pos (nv:Int) (show 0<c.threads by omega);have h4o:=h4a (Cp.owner c ⟨nv,ns⟩)
 have hl2:=fun s=>hld t2 hx1 s (c.at 4 (Cp.owner c ⟨nv,ns⟩) 0)
 have hx2:=tdo_at hos hx1 (mop 0 (c.at 4 (Cp.owner c ⟨nv,ns⟩) 0) 0);have hhp2:=hhp p.who (Cp.owner c ⟨nv,ns⟩) ns _ hx2;unfold rlook2 at hX;dsimp only at hX;generalize tdo os t2 (mop 0 (c.at 4 (Cp.owner c ⟨nv,ns⟩) 0) 0)=y2 at hl2 hx2 hhp2 hX;unfold Cp.owner at h4o hhp2 hl2 hX;dsimp only at h4o hhp2 hl2 hX;generalize c.at 4 ((nv:Int) % c.threads) 0=a4 at h4o hl2;obtain ⟨t3,⟨⟨qv,qs⟩,qok⟩⟩:=y2;dsimp only at hl2 hx2 hhp2 hX;generalize rhelp c os p.who ((nv:Int) % c.threads) ns t3=t4 at hhp2 hX;obtain ⟨who,tag,prog,args⟩:=p;dsimp only at h4 hhp2 hcode hright hX
 match args,h4 with
 | [a0,a1,a2,a3],_ =>
 obtain ⟨ta,⟨ak,oa,⟨ova,osa⟩,⟨nvb,nsb⟩⟩,tn⟩:=t;obtain ⟨ta2,⟨ak2,oa2,⟨ov2a,os2a⟩,⟨nv2b,ns2b⟩⟩,tn2⟩:=t2;obtain ⟨ta3,⟨ak3,oa3,⟨ov3a,os3a⟩,⟨nv3b,ns3b⟩⟩,tn3⟩:=t3;obtain ⟨ta4,⟨ak4,oa4,⟨ov4a,os4a⟩,⟨nv4b,ns4b⟩⟩,tn4⟩:=t4;obtain ⟨al,dn,er,vl,lk,sw,rws⟩:=s;dsimp only at hx1 hx2 hX
 cases tn2 with
 | true =>
  rw [if_pos rfl] at hX;subst hX;unfold rsV tpV Cell.v at h0⊢;unfold cpV Cfg.v g4;dsimp only [List.cons_append,List.nil_append] at h0⊢
  refine TB (vs:=[_,_]) Tryz.func152 fun w0 F=>?_
  repeat' (first|refine Ga ?_|(refine Gb ?_;intro b)|(refine St.drawS 4 5 (id:=3) [(0,1),(1,1),(2,2),(3,2)] .done [] mixed (by kernel_rfl) (by rfl) Take.go (by rfl) Take.go ?_)|refine Gl h0 ?_|(apply Zq;rfl;exact Ob;exact Ent.go)|fail)
  all_goals exact St.d1 Tryz.func152 ⟨_,⟨rfl,rfl⟩,Ent.go⟩
 | false =>
  rw [if_neg Bool.false_ne_true] at hX
  cases hrb:rightB _ with
  | false =>
   rw [hrb] at hright;rw [if_pos hrb] at hX;replace hen:=hen 30 0 ⟨al,dn,er,vl,(ta2:Int) - 1,sw,rws⟩;have hal:=hal (Rs.ends ⟨al,dn,er,vl,(ta2:Int) - 1,sw,rws⟩ 30 0 ⟨ta2,⟨ak2,oa2,⟨ov2a,os2a⟩,⟨nv2b,ns2b⟩⟩,false⟩);generalize Rs.ends ⟨al,dn,er,vl,(ta2:Int) - 1,sw,rws⟩ 30 0 ⟨ta2,⟨ak2,oa2,⟨ov2a,os2a⟩,⟨nv2b,ns2b⟩⟩,false⟩=s2 at hen hal hX;generalize Rs.lone s2=s3 at hal hX;obtain ⟨al2,dn2,er2,vl2,lk2,sw2,rws2⟩:=s2;obtain ⟨al3,dn3,er3,vl3,lk3,sw3,rws3⟩:=s3;subst hX;unfold rsV tpV Cell.v at h0;unfold rsV tpV at hen hal;unfold cpV Cfg.v g4 at hcode;unfold rsV tpV Cell.v;unfold cpV Cfg.v g4;dsimp only [List.cons_append,List.nil_append] at h0 hen hal hcode⊢
   refine TB (vs:=[_,_]) Tryz.func152 fun w0 F=>?_
   repeat' (first|refine Ga ?_|(refine Gb ?_;intro b)|(refine St.drawS 4 5 (id:=6) [(0,1),(1,1),(2,1),(3,1),(4,2),(5,2)] .done [] mixed (by kernel_rfl) (by rfl) Take.go (by rfl) Take.go ?_)|refine Gl h0 ?_|refine Gl hcode ?_|refine Gl hright ?_|refine Gl hen ?_|refine Gl hal ?_|(apply Zq;rfl;exact Ob;exact Ent.go)|fail)
   all_goals exact St.d1 Tryz.func152 ⟨_,⟨rfl,rfl⟩,Ent.go⟩
  | true =>
   rw [hrb] at hright;rw [if_neg (by rw [hrb];exact Bool.noConfusion)] at hX;replace hl2:=hl2 ⟨al,dn,er,vl,(ta2:Int) - 1,sw,rws⟩
   by_cases hh:tn3=false∧(⟨qv,qs⟩:Cell)=⟨1,ns⟩
   ·rw [if_pos hh] at hX
    obtain ⟨rfl,hq⟩:=hh
    injection hq with hq1 hq2
    subst hq1 hq2;subst hX;unfold rsV tpV Cell.v at h0 hl2;unfold tpV at hhp2;unfold cpV Cfg.v g4 at hcode;unfold Cfg.v at h4o hhp2;unfold rsV tpV Cell.v;unfold cpV Cfg.v g4;dsimp only [List.cons_append,List.nil_append] at h0 hl2 hhp2 hcode⊢
    refine TB (vs:=[_,_]) Tryz.func152 fun w0 F=>?_
    repeat' (first|refine Ga ?_|(refine Gb ?_;intro b)|(refine Dr 8 [(0,1),(1,0),(2,1),(3,0),(4,1),(5,1),(6,0),(7,0),(8,0),(9,2),(10,3),(11,3)] [10,11] ?_)|(refine St.drawS 4 5 (id:=11) [(0,1),(1,1),(2,2),(3,2)] .done [] mixed (by kernel_rfl) (by rfl) Take.go (by rfl) Take.go ?_)|refine Gl h0 ?_|refine Gl hcode ?_|refine Gl hright ?_|refine Gl h4o ?_|refine Gl hl2 ?_|refine Gl hhp2 ?_|(apply Zq;rfl;exact Ob;exact Ent.go)|(refine Ge ?_ ?_<;>intro h<;>try omega)|fail)
    all_goals exact St.d1 Tryz.func152 ⟨_,⟨rfl,rfl⟩,Ent.go⟩
   ·rw [if_neg hh] at hX
    have hh2:tn3=false→¬ (qv=1∧qs=ns):=fun e h=>hh ⟨e,by rw [h.1,h.2]⟩
    clear hh;subst hX;unfold rsV tpV Cell.v at h0 hl2;unfold cpV Cfg.v g4 at hcode;unfold Cfg.v at h4o;unfold rsV tpV Cell.v;unfold cpV Cfg.v g4;dsimp only [List.cons_append,List.nil_append] at h0 hl2 hcode⊢
    cases tn3 with
    | true =>
     refine TB (vs:=[_,_]) Tryz.func152 fun w0 F=>?_
     repeat' (first|refine Ga ?_|(refine Gb ?_;intro b)|(refine Dr 8 [(0,1),(1,0),(2,1),(3,0),(4,1),(5,1),(6,0),(7,0),(8,0),(9,2),(10,3),(11,3)] [10,11] ?_)|(refine St.drawS 4 5 (id:=11) [(0,1),(1,1),(2,2),(3,2)] .done [] mixed (by kernel_rfl) (by rfl) Take.go (by rfl) Take.go ?_)|refine Gl h0 ?_|refine Gl hcode ?_|refine Gl hright ?_|refine Gl h4o ?_|refine Gl hl2 ?_|(apply Zq;rfl;exact Ob;exact Ent.go)|fail)
     all_goals exact St.d1 Tryz.func152 ⟨_,⟨rfl,rfl⟩,Ent.go⟩
    | false =>
     have hh3:=hh2 rfl;clear hh2
     refine TB (vs:=[_,_]) Tryz.func152 fun w0 F=>?_
     repeat' (first|refine Ga ?_|(refine Gb ?_;intro b)|(refine Dr 8 [(0,1),(1,0),(2,1),(3,0),(4,1),(5,1),(6,0),(7,0),(8,0),(9,2),(10,3),(11,3)] [10,11] ?_)|(refine St.drawS 4 5 (id:=11) [(0,1),(1,1),(2,2),(3,2)] .done [] mixed (by kernel_rfl) (by rfl) Take.go (by rfl) Take.go ?_)|refine Gl h0 ?_|refine Gl hcode ?_|refine Gl hright ?_|refine Gl h4o ?_|refine Gl hl2 ?_|(apply Zq;rfl;exact Ob;exact Ent.go)|(refine Ge ?_ ?_<;>intro h<;>try omega)|fail)
     all_goals exact St.d1 Tryz.func152 ⟨_,⟨rfl,rfl⟩,Ent.go⟩
end
section
set_option maxHeartbeats 4000000 in
theorem ann15_r {q:HProp}{ov:Value}{os:List Out}(hov:ListR Out.v q ov os)(hos:os.length≤100000){c:Cfg}(hc:Small c)(pad:Option Addr)(pn pcp:Nat)(p:Cp)(t:Tp)(ht:t.at_≤100000)(s:Rs)(ra:Option Addr)(rn rc:Nat) :
  RTri Tryz.prog 154 #[.agg ⟨cpV c p (.slice pad pn pcp)⟩, .agg ⟨rsV ov t s (.slice ra rn rc)⟩] [q] (.agg ⟨rsV ov (ranL c os p 4 0 t) s (.slice ra rn rc)⟩):=by
 have h2:=fun k=>rat_r c hc 2 p.who k
 have h1:=rat_r c hc 1 p.who 0
 have hst:=fun t ht a x=>rst_r hov hos t ht a x
 refine RTri.of_reads fun p1 hp=>?_
 replace hst:=fun t ht a x=>(hst t ht a x).of_read hp
 obtain ⟨adt,capt,rfl,_⟩:=id hov;generalize hR:ranL c os p 4 0 t=R;obtain ⟨who,tag,prog,args⟩:=p;obtain ⟨al,dn,er,vl,lk,sw,rws⟩:=s;dsimp only at h1 h2;unfold Cfg.v at h1 h2;unfold rsV;unfold cpV Cfg.v g4;dsimp only [List.cons_append,List.nil_append]
 refine TB (vs:=[_,_]) Tryz.func154 fun w0 F=>?_
 repeat' (first|refine Ga ?_|(refine Gb ?_;intro b)|fail)
 rename_i b2 b3;refine St.loopY (Lr:=?Lr1) (ι:={ x:Nat×Tp // x.1≤4∧x.2.at_≤100000∧ranL c os ⟨who,tag,prog,args⟩ (4 - x.1) x.1 x.2=R }) (fun x=>4 - x.1.1) (fun x=>[(5, .int .i64 (x.1.1:Int))]) (fun x=>[bl b3 142 (tpV (.slice adt os.length capt) x.1.2++[.bool al, .bool dn, .int .i64 er, .int .u64 (vl:Int), .int .i64 lk, .int .i64 sw, .slice ra rn rc])]) ⟨(0,t),Nat.zero_le _,ht,hR⟩ ?hE1 ?hL1 ?round1
 case hE1=>exact Sub.go
 case hL1=>exact Takes.go
 case round1 =>
  rintro ⟨⟨k,t⟩,hk,ht,hgo⟩ IH;dsimp only at hk ht hgo IH⊢
  by_cases hlt:k<4
  ·have hsk:=hst t ht (c.at 2 who k) ⟨args.getD k 0,0⟩
   have hx:=tdo_at hos ht ⟨1,c.at 2 who k,⟨0,0⟩,⟨args.getD k 0,0⟩⟩;have h2k:=h2 k
   have hn:NthN (0+10+(k:Int).toNat * 1) ([.int .i64 c.threads, .int .i64 c.blocks, .int .i64 c.writes, .int .i64 c.fuel, .int .u64 (c.first:Int), .int .u64 (c.last:Int), .int .i64 who, .int .u64 (tag:Int), .slice pad pn pcp, .int .i64 prog, .int .u64 ((args.getD 0 0:Nat):Int), .int .u64 ((args.getD 1 0:Nat):Int), .int .u64 ((args.getD 2 0:Nat):Int), .int .u64 ((args.getD 3 0:Nat):Int)]:List Value) (.int .u64 ((args.getD k 0:Nat):Int)):=by
    have h:k=0∨k=1∨k=2∨k=3:=by omega
    rcases h with rfl|rfl|rfl|rfl<;>exact NthN.of rfl
   rw [show 4 - k=(4 - (k+1))+1 by omega,ranL] at hgo;dsimp only at hgo;generalize tdo os t ⟨1,c.at 2 who k,⟨0,0⟩,⟨args.getD k 0,0⟩⟩=y at hsk hx hgo;obtain ⟨⟨ta5,⟨ak5,oa5,⟨ov5a,os5a⟩,⟨nv5b,ns5b⟩⟩,tn5⟩,o5⟩:=y;obtain ⟨ta4,⟨ak4,oa4,⟨ov4a,os4a⟩,⟨nv4b,ns4b⟩⟩,tn4⟩:=t;dsimp only at hsk hx hgo;unfold tpV Cell.v at hsk;unfold tpV;dsimp only [List.cons_append,List.nil_append] at hsk⊢;generalize args.getD k 0=ag at hsk hn
   repeat' (first|refine Ga ?_|(refine Dr 4 [(0,0),(1,1),(2,0),(3,1),(4,0),(5,1),(6,0),(7,1),(8,0),(9,0),(10,0),(11,1),(12,0),(13,1),(14,0),(15,3)] [15] ?_)|refine Gl h2k ?_|refine Gl hsk ?_|(refine Ge ?_ ?_<;>intro h<;>try omega)|fail)
   all_goals refine IH ⟨(k+1,⟨ta5,⟨ak5,oa5,⟨ov5a,os5a⟩,⟨nv5b,ns5b⟩⟩,tn5⟩),hlt,hx,hgo⟩ (by show 4 - (k+1)<4 - k;omega) ?_ ?_
   all_goals first|exact Sub.go|exact Ent.go
  ·obtain rfl:k=4:=by omega
   clear IH;have hsk:=hst t ht (c.at 1 who 0) ⟨(IntKind.u64.wrap prog).toNat,tag⟩;have hgo:(tdo os t ⟨1,c.at 1 who 0,⟨0,0⟩,⟨(IntKind.u64.wrap prog).toNat,tag⟩⟩).1=R:=hgo;generalize tdo os t ⟨1,c.at 1 who 0,⟨0,0⟩,⟨(IntKind.u64.wrap prog).toNat,tag⟩⟩=y at hsk hgo;subst hgo;obtain ⟨⟨ta5,⟨ak5,oa5,⟨ov5a,os5a⟩,⟨nv5b,ns5b⟩⟩,tn5⟩,o5⟩:=y;obtain ⟨ta4,⟨ak4,oa4,⟨ov4a,os4a⟩,⟨nv4b,ns4b⟩⟩,tn4⟩:=t
   have hw0:0≤IntKind.u64.wrap prog:=by simp [IntKind.wrap,IntKind.bits,IntKind.signed];omega
   unfold tpV Cell.v at hsk;unfold tpV;dsimp only [List.cons_append,List.nil_append] at hsk⊢;rw [Int.toNat_of_nonneg hw0] at hsk
   repeat' (first|refine Ga ?_|(refine Dr 5 [(0,0),(1,1),(2,0),(3,1),(4,0),(5,1),(6,1),(7,0),(8,1),(9,0),(10,0),(11,1),(12,0),(13,1),(14,0),(15,3)] [15] ?_)|refine Gl h1 ?_|refine Gl hsk ?_|fail)
   all_goals exact St.d1 Tryz.func154 ⟨_,⟨rfl,rfl⟩,Ent.go⟩
end
theorem Cp.code_imm {progs:Progs}(h:∀ p∈progs,∀ i∈p,i.imm<18446744073709551616)(p:Cp):∀ i∈p.code progs,i.imm<18446744073709551616:=by
 unfold Cp.code;split
 ·intro i hi;cases hi
 ·exact progOf_val h p.prog.toNat
section
set_option maxHeartbeats 4000000 in
theorem reads15_t {q:HProp}{ov:Value}{os:List Out}(hov:ListR Out.v q ov os)(hos:os.length≤100000)(hosv:∀ o∈os,o.was.val<18446744073709551616){c:Cfg}(hc:Small c)(hf0:0≤c.fuel)(hfu:c.fuel≤1000){pv:Value}{progs:Progs}(hpr:ProgsR q pv progs)(hpi:∀ p∈progs,∀ i∈p,i.imm<18446744073709551616)(p:Cp)(h4:p.args.length=4)(hav:∀ a∈p.args,a<18446744073709551616)(t:Tp)(ht:t.at_≤100000)(s:Rs)(ra:Option Addr)(rn rc:Nat)(seq:Nat) :
  Tri Tryz.prog 153 #[.agg ⟨cpV c p pv⟩, .agg ⟨rsV ov t s (.slice ra rn rc)⟩, .int .u64 (seq:Int)] [q]
   fun r L=>∃ q',Gr q q'∧r=.tuple ⟨[.agg ⟨rsV ov (rreads c os p progs s seq t).1 (rreads c os p progs s seq t).2.1 (.slice ra rn rc)⟩, .bool (rreads c os p progs s seq t).2.2]⟩∧L=[q']:=by
 obtain ⟨cad,ccp,hcode,hcr⟩:=code15_r hpr c p h4;have hnew:=rvnew_r c p.who seq;have hplay:=rplay_t hov hos hosv hc ⟨none,0,0,none,0,0,0,0,0,0,0,none,0,0⟩ t ht (Rv.new p.who seq) [] rfl ⟨none,0,rfl,Nat.le_refl _, .inl rfl⟩ (by dsimp only;omega) (by rw [List.length_nil];omega) (fun _ h=>by cases h) (by dsimp only;omega) (by dsimp only;omega) hf0 hfu (p.code progs) _ hcr (Cp.code_imm hpi p) p.args h4 hav;dsimp only at hplay;generalize hX:rreads c os p progs s seq t=X;unfold rreads at hX;generalize rplay c os 0 (p.code progs) p.args (Rv.new p.who seq) 0 0 [] t=Z at hplay hX;obtain ⟨⟨ta2,⟨ak2,oa2,⟨ov2a,os2a⟩,⟨nv2b,ns2b⟩⟩,tn2⟩,⟨rv',nt',nl',puts',regs',pc',st',wr',news',s',er',val'⟩⟩:=Z;unfold rreads1 at hX;obtain ⟨adt,capt,rfl,_⟩:=id hov;obtain ⟨pad,pcp,rfl,_⟩:=id hpr;obtain ⟨who,tag,prog,args⟩:=p;obtain ⟨ta,⟨ak,oa,⟨ova,osa⟩,⟨nvb,nsb⟩⟩,tn⟩:=t;dsimp only at hX hnew hcode hplay⊢;have hen:=end15_r adt os.length capt ⟨ta2,⟨ak2,oa2,⟨ov2a,os2a⟩,⟨nv2b,ns2b⟩⟩,tn2⟩ s ra rn rc er' val';have hal:=alone15_r adt os.length capt ⟨ta2,⟨ak2,oa2,⟨ov2a,os2a⟩,⟨nv2b,ns2b⟩⟩,tn2⟩ (s.ends er' val' ⟨ta2,⟨ak2,oa2,⟨ov2a,os2a⟩,⟨nv2b,ns2b⟩⟩,tn2⟩) ra rn rc;generalize s.ends er' val' ⟨ta2,⟨ak2,oa2,⟨ov2a,os2a⟩,⟨nv2b,ns2b⟩⟩,tn2⟩=s2 at hen hal hX;generalize s2.lone=s3 at hal hX;obtain ⟨al,dn,er,vl,lk,sw,rws⟩:=s;obtain ⟨al2,dn2,er2,vl2,lk2,sw2,rws2⟩:=s2;obtain ⟨al3,dn3,er3,vl3,lk3,sw3,rws3⟩:=s3;unfold rvV Rv.new Cfg.v at hnew;unfold cpV Cfg.v g4 at hcode;unfold RunO rnV evV rvV plV tpV Rv.new Cfg.v g4 at hplay;unfold rsV tpV at hen hal
 dsimp only [List.cons_append,List.nil_append,id] at hnew hcode hplay hen hal
 by_cases hs:s'=1
 ·rw [if_pos hs] at hX
  subst hs;subst hX;unfold cpV rsV tpV Cfg.v g4;dsimp only [List.cons_append,List.nil_append]
  refine TB (vs:=[_,_,_]) Tryz.func153 fun w0 F=>?_
  repeat' (first|refine Ga ?_|(refine Gb ?_;intro b)|(refine Dr 1 [(0,0),(1,1),(2,0),(3,1),(4,0),(5,1),(6,0),(7,1),(8,0),(9,0),(10,2),(11,3)] [11] ?_)|(refine St.drawa (id:=2) [(0,1),(1,0),(2,1),(3,1),(4,1),(5,0),(6,1),(7,3)] [(9,3)] [7,9] 8 mixed rfl (by intro w;rfl) (by kernel_rfl) ?_)|refine Gl hnew ?_|refine Gl hcode ?_|refine Gl hen ?_|refine Gl hal ?_|(refine Gt hplay ?_;rintro _ _ ⟨q5,sa5,sc5,wa5,wc5,hg5,hl5,hn5,rfl,rfl⟩)|fail)
  all_goals exact St.d1 Tryz.func153 ⟨_,⟨_,hg5,rfl,rfl⟩,Ent.go⟩
 ·rw [if_neg hs] at hX
  subst hX;unfold cpV rsV tpV Cfg.v g4;dsimp only [List.cons_append,List.nil_append]
  refine TB (vs:=[_,_,_]) Tryz.func153 fun w0 F=>?_
  repeat' (first|refine Ga ?_|(refine Gb ?_;intro b)|(refine Dr 1 [(0,0),(1,1),(2,0),(3,1),(4,0),(5,1),(6,0),(7,1),(8,0),(9,0),(10,2),(11,3)] [11] ?_)|(refine St.drawa (id:=2) [(0,1),(1,0),(2,1),(3,1),(4,1),(5,0),(6,1),(7,3)] [(9,3)] [7,9] 8 mixed rfl (by intro w;rfl) (by kernel_rfl) ?_)|(refine Dt 6 [(1,0)] (.pick [(0,3)] (.pick [(2,3),(3,0),(4,3),(5,0)] .done (.pick [(4,3),(2,3),(3,0),(5,0)] .done .nope)) (.pick [(2,3),(3,0),(0,3),(4,3),(5,0)] .done .nope)) [0,2,4] ?_)|apply StD.pick|exact StD.nope|refine Gl hnew ?_|refine Gl hcode ?_|(refine Gt hplay ?_;rintro _ _ ⟨q5,sa5,sc5,wa5,wc5,hg5,hl5,hn5,rfl,rfl⟩)|(refine StD.ok3 rfl (OpOk.ofW OpV.go) rfl ?_;rintro _ _ ⟨rfl,rfl⟩)|(refine Ge ?_ ?_<;>intro h<;>try omega)|fail)
  all_goals exact St.d1 Tryz.func153 ⟨_,⟨_,hg5,rfl,rfl⟩,Ent.go⟩
end
end Go.Proofs.YthmbgodcpgkkeaaGreat
