/-
  Packages call, tumblerlaw15: rows, as what can be read of them. Package tumblerref15, in plain terms: a call looks, and reads, as the program's does. Package tumblerref15, in plain terms: a program that only reads; the answer; a transaction of one's own. Package tumblerref15, in plain terms: a call 
-/
import Derived.Test.YthmbgodcpgkkeaaGreatHf
import Derived.Test.YthmbgodcpgkkeaaGreatVx
import Derived.Test.YthmbgodcpgkkeaaGreatKk
set_option maxRecDepth 100000
namespace Go.Proofs.YthmbgodcpgkkeaaGreat
theorem and_le15 (a:Int)(m:Nat)(hm:m<9223372036854775808):0≤IntKind.i64.wrap ((BitVec.ofInt IntKind.i64.bits a &&& BitVec.ofInt IntKind.i64.bits m).toNat:Int)∧IntKind.i64.wrap ((BitVec.ofInt IntKind.i64.bits a &&& BitVec.ofInt IntKind.i64.bits m).toNat:Int)≤m:=by
 have h1:(BitVec.ofInt IntKind.i64.bits a &&& BitVec.ofInt IntKind.i64.bits m).toNat≤m:=by
  rw [BitVec.toNat_and];refine Nat.le_trans Nat.and_le_right ?_;rw [BitVec.toNat_ofInt];have:(2:Nat) ^ IntKind.i64.bits=18446744073709551616:=rfl;rw [this];omega
 generalize (BitVec.ofInt IntKind.i64.bits a &&& BitVec.ofInt IntKind.i64.bits m).toNat=n at h1
 have:IntKind.i64.wrap (n:Int)=n:=by simp [IntKind.wrap,IntKind.bits,IntKind.signed];omega
 rw [this];omega
theorem few15_r (c:Cfg)(q:HProp)(v:Value)(progs:Progs)(hv:ProgsG q v progs):RTri Tryz.prog 60 #[.agg ⟨c.v⟩,v] [q] (.bool (few14B c progs)):=by
 apply RTri.of_reads;intro p hp;have hr0:=right14_r c
 obtain ⟨ad,cap,rfl,hn,hr⟩:=hv.of (p:=p) fun h=>RdC.of_sat hp (ReadsC.here h)
 refine TB (vs:=[_,_]) Tryz.func60 fun w0 F=>?_
 repeat' (first|refine Ga ?_|(refine Gb ?_;intro b)|fail)
 refine St.loopY (Lr:=?Lr) (ι:={ k:Nat // k≤progs.length∧short14 progs=short14 (progs.drop k) }) (fun k=>progs.length - k.1)
  (fun k=>[(9, .int .i64 (k.1:Int))]) (fun k=>[]) ⟨0,Nat.zero_le _,rfl⟩ ?hE ?hL ?round
 case hE=>exact Sub.go
 case hL=>exact Takes.go
 case round =>
  rintro ⟨k,hk,hgo⟩ IH;dsimp only at hk hgo⊢
  by_cases hlt:k<progs.length
  ·obtain ⟨bj,o,l,cv,rfl,hrd,hnth,hins⟩:=hr k hlt
   rw [List.drop_eq_getElem_cons hlt] at hgo;generalize progs[k]=pk at hgo hins;obtain ⟨cad,ccap,rfl,_⟩:=hins
   by_cases he:pk.length≤40
   ·repeat' (first|refine Ga ?_|(refine Ge ?_ ?_<;>intro h<;>try omega)|fail)
    refine IH ⟨k+1,hlt, ?_⟩ (by show _ - (k+1)<_ - k;omega) ?_ ?_
    ·rw [hgo];unfold short14;rw [List.all_cons,decide_eq_true he,Bool.true_and]
    ·exact Sub.go
    ·exact Ent.go
   ·have e:few14B c progs=false:=by
     unfold few14B;rw [hgo];unfold short14;rw [List.all_cons,decide_eq_false he];rfl
    rw [e]
    repeat' (first|refine Ga ?_|(refine Ge ?_ ?_<;>intro h<;>try omega)|fail)
    refine St.dn Tryz.func60 ⟨?_,rfl⟩ Ent.go;rfl
  ·have e:few14B c progs=(c.right && decide (c.fuel≤200) && decide (progs.length≤8)):=by
    unfold few14B;rw [hgo,List.drop_eq_nil_of_le (by omega)];rfl
   rw [e];clear IH
   cases hcr:c.right with
   | false =>
    rw [hcr] at hr0
    repeat' (first|refine Ga ?_|refine Gl hr0 ?_|(refine Ge ?_ ?_<;>intro h<;>try omega)|fail)
    refine St.dn Tryz.func60 ⟨?_,rfl⟩ Ent.go;rfl
   | true =>
    rw [hcr] at hr0
    by_cases hf:c.fuel≤200
    ·repeat' (first|refine Ga ?_|refine Gl hr0 ?_|(refine Ge ?_ ?_<;>intro h<;>try omega)|fail)
     all_goals refine St.dn Tryz.func60 ⟨?_,rfl⟩ Ent.go
     all_goals refine congrArg Value.bool ?_
     all_goals rw [decide_eq_true hf,Bool.true_and,Bool.true_and,decide_eq_decide]
     all_goals omega
    ·rw [decide_eq_false hf]
     repeat' (first|refine Ga ?_|refine Gl hr0 ?_|(refine Ge ?_ ?_<;>intro h<;>try omega)|fail)
     all_goals refine St.dn Tryz.func60 ⟨?_,rfl⟩ Ent.go
     all_goals rfl
set_option maxHeartbeats 2000000 in
theorem rows15_t {q:HProp}{ad:Option Addr}{n cap:Nat}{xs:List RowH}(hx:ListR rowV q (.slice ad n cap) xs)(hn:xs.length≤1000000):Tri Tryz.prog 66 #[.slice ad n cap] [q]
  fun r L=>∃ R oa oc,ListR rowV R (.slice oa xs.length oc) xs∧r=.slice oa xs.length oc∧L=[R,q]:=by
 obtain rfl:n=xs.length:=hx.len
 refine TB (vs:=[_]) Tryz.func66 fun w0 F=>?_
 repeat' (first|refine Ga ?_|(refine Gb ?_;intro b)|fail)
 refine St.conv ?_ (Sub.refl _) (Ent.trans (Ent.of_take (p:=bl b 233 []) Take.go) (Ent.row_bl (n:=0) (sz:=5) rfl (Nat.zero_le _)));refine St.loopY (Lr:=?Lr1) (ι:={ x:Nat×Option Addr×Nat // x.1≤xs.length }) (fun x=>xs.length - x.1.1) (fun x=>[(9, .int .i64 (x.1.1:Int)),(3, .slice x.1.2.1 x.1.1 x.1.2.2)]) (fun x=>[Row (.slice x.1.2.1 x.1.1 x.1.2.2) 233 5 x.1.1 ((xs.take x.1.1).flatMap rowV)]) ⟨(0,some ⟨b,0,none⟩,0),Nat.zero_le _⟩ ?hE1 ?hL1 ?round1
 case hE1=>exact Sub.go
 case hL1=>exact Takes.go
 case round1 =>
  rintro ⟨⟨k,wad,wcap⟩,hk⟩ IH;dsimp only at hk IH⊢
  by_cases hlt:k<xs.length
  ·obtain ⟨ab,ao,al,al1,rfl,hra9,hda,hta⟩:=hx.at' rowV_len k hlt
   have e3:(xs.take (k+1)).flatMap rowV=(xs.take k).flatMap rowV++rowV xs[k]:=by
    rw [List.take_succ_eq_append_getElem hlt,List.flatMap_append,List.flatMap_cons,List.flatMap_nil,List.append_nil]
   generalize xs[k]=x at hta e3;obtain ⟨⟨who,tag,rc,rv,news⟩,nad,ncp⟩:=x;unfold rowV at hta;dsimp only at hta
   repeat' (first|refine Ga ?_|(refine Gb ?_;intro b)|(refine Gc ?_;intro ad cap)|(refine Ge ?_ ?_<;>intro h<;>try omega)|fail)
   refine IH ⟨(k+1,ad,cap),hlt⟩ (by show xs.length - (k+1)<xs.length - k;omega) ?_ ?_
   ·exact Sub.go
   ·dsimp only
    rw [e3];exact Ent.go
  ·obtain rfl:k=xs.length:=by omega
   clear IH;rw [List.take_length]
   repeat' (first|refine Ga ?_|(refine Ge ?_ ?_<;>intro h<;>try omega)|fail)
   refine St.conv ?_ (Sub.refl _) (Ent.of_take (p:=Row (.slice wad xs.length wcap) 233 5 xs.length (xs.flatMap rowV)) Take.go)
   refine St.rowL rfl fun R2 hR2=>?_
   exact St.d1 Tryz.func66 ⟨_,⟨R2,wad,wcap,hR2,rfl,rfl⟩,Ent.go⟩
theorem crows_z (Cb:Nat)(c:Cfg)(hc:Small c)(pv:Value)(p:Cp)(q:HProp)(progs:Progs)(hpv:ProgsR q pv progs)(m:Cm)(hi:Cinv c p progs m):Tri Tryz.prog 67 #[.pointer (some ⟨Cb,0,none⟩)] [ClE Cb c pv p q progs m]
  fun r L=>∃ R ad cap rs,rs.map (·.1)=m.rows∧ListR rowV R (.slice ad rs.length cap) rs∧(∀ x∈rs,ListR u1V R (.slice x.2.1 x.1.news.length x.2.2) x.1.news)∧r=.slice ad rs.length cap∧L=[ClE Cb c pv p q progs m,R]:=by
 refine Tri.frz_out (crows_t Cb c hc pv p q progs hpv m hi) ?_;rintro v L' ⟨ad,cap,rfl,rfl⟩;refine ⟨_,_,Ent.refl _,fun H hH=>?_⟩;obtain ⟨⟨ad2,cap2,rs,hrs,e⟩,hs⟩:=sat_ex hH
 have hl:rs.length=m.rows.length:=by rw [← hrs,List.length_map]
 have hs2:Sat (Row (.slice ad m.rows.length cap) 128 5 m.rows.length (rs.flatMap rowV)::(rs.map rowP++[])) H:=by
  have h:=Ent.cons (p:=Row (.slice ad m.rows.length cap) 128 5 m.rows.length (rs.flatMap rowV)) (Ent.star_out (L:=rs.map rowP) (M:=[]));unfold Ent at h;exact h _ hs
 refine ⟨_,ad,cap,rs,hrs, ?_,fun x hx=>?_,by rw [hl],rfl⟩
 ·rw [hl]
  exact ListR.frz hl hs2 (List.mem_cons_self ..)
 ·refine ListR.frz (e:=22) (sz:=1) (n:=x.1.news.length) rfl hs2 (List.mem_cons_of_mem _ (List.mem_append_left _ ?_))
  rw [← u64s_flat14];exact List.mem_map_of_mem hx
theorem crows_news {c:Cfg}{p:Cp}{progs:Progs}{m:Cm}(hi:Cinv c p progs m):∀ r∈m.rows,r.news.length≤1000:=by
 have hd:=hi.did;unfold Cm.rows;split
 ·rename_i h
  obtain ⟨b,hb,hbi⟩:=hd h;rw [hb]
  exact fun r hr=>(hbi.gen.news r hr).1
 ·intro r hr;cases hr
structure Rs where
 alone:Bool
 done:Bool
 e:Int
 val:Nat
 look:Int
 swap:Int
 rows:List BRow
def Rs.new:Rs:=⟨false,false,0,0,-1,-1,[]⟩
def Rs.ends (s:Rs)(e:Int)(v:Nat)(t:Tp):Rs:=if t.need=true then s else { s with done:=true,e:=e,val:=v }
def Rs.lone (s:Rs):Rs:={ s with alone:=s.done }
def Cp.owner (c:Cfg)(now:Cell):Int:=(now.val:Int) % c.threads
def rlook2 (c:Cfg)(os:List Out)(p:Cp)(now:Cell)(s:Rs)(op:Cell)(t:Tp):Tp×(Rs×Cell) :=
 (if t.need=false∧op=⟨1,now.seq⟩ then rhelp c os p.who (Cp.owner c now) now.seq t else t,(s,now))
def rlook1 (c:Cfg)(os:List Out)(p:Cp)(progs:Progs)(s:Rs)(now:Cell)(t:Tp):Tp×(Rs×Cell) :=
 if t.need=true then (t,(s,now)) else
 if rightB (p.code progs)=false then (t,(Rs.lone (Rs.ends { s with look:=(t.at_:Int) - 1 } 30 0 t),now)) else
 rlook2 c os p now { s with look:=(t.at_:Int) - 1 } (tdo os t (mop 0 (c.at 4 (Cp.owner c now) 0) 0)).2.was (tdo os t (mop 0 (c.at 4 (Cp.owner c now) 0) 0)).1
def rlook (c:Cfg)(os:List Out)(p:Cp)(progs:Progs)(s:Rs)(t:Tp):Tp×(Rs×Cell):=rlook1 c os p progs s (tdo os t (mop 0 (c.at 0 0 0) 0)).2.was (tdo os t (mop 0 (c.at 0 0 0) 0)).1
def rreads1 (s:Rs)(r:Rr)(t:Tp):Tp×(Rs×Bool):=if r.s=1 then (t,(Rs.lone (Rs.ends s r.er r.val t),false)) else (t,(s,decide (r.s=2)))
def rreads (c:Cfg)(os:List Out)(p:Cp)(progs:Progs)(s:Rs)(seq:Nat)(t:Tp):Tp×(Rs×Bool) :=
 rreads1 s (rplay c os 0 (p.code progs) p.args (.new p.who seq) 0 0 [] t).2 (rplay c os 0 (p.code progs) p.args (.new p.who seq) 0 0 [] t).1
section
variable {c:Cfg}{os:List Out}{p:Cp}{progs:Progs}{s:Rs}{t:Tp}
theorem rlook2_dead (h:t.need=true)(now op:Cell):rlook2 c os p now s op t=(t,(s,now)):=by
 unfold rlook2;rw [if_neg (fun e=>by rw [h] at e;exact absurd e.1 (by decide))]
theorem rlook_dead (h:t.need=true):(rlook c os p progs s t).1=t:=by
 unfold rlook rlook1;rw [tdo_dead h,if_pos h]
end
attribute [irreducible] rlook1 rlook2 rreads1
def XC (c:Cfg)(p:Cp)(progs:Progs):Mch Cm:=⟨Cm.ask c p,Cm.tell c p progs⟩
theorem XC_ask (c:Cfg)(p:Cp)(progs:Progs)(m:Cm):(XC c p progs).ask m=m.ask c p:=rfl
theorem XC_tell (c:Cfg)(p:Cp)(progs:Progs)(m:Cm)(o:Out):(XC c p progs).tell m o=m.tell c p progs o:=rfl
structure CT (s:Rs)(m:Cm)(k:Nat):Prop where
 f1:m.s.fresh=true→0<k∧s.look+1=k
 f2:m.s.fresh=false→s.look+1<k∨k=0
 w1:m.s.did=true→0≤s.swap∧s.swap+1=k∧∃ b,m.b=some b∧b.rows=s.rows
 w2:m.s.did=false→s.swap+1<k∨s.swap = -1
 l1:s.look+1≤k
 l2:s.swap+1≤k
structure CD (s:Rs)(m:Cm):Prop where
 nx:m.s.next=13
 done:s.done=true
 e:s.e=m.s.rc
 val:s.val=m.s.rv
 alone:s.alone=m.s.alone
structure CG (s:Rs):Prop where
 done:s.done=false
 alone:s.alone=false
theorem CT.quiet {s:Rs}{m m':Cm}{n k:Nat}(h:CT s m n)(hk:n<k)(hf:m'.s.fresh=false)(hd:m'.s.did=false):CT s m' k:=by
 have h1:=h.l1;have h2:=h.l2;exact ⟨fun e=>(by rw [hf] at e;cases e),fun _=>.inl (by omega),fun e=>(by rw [hd] at e;cases e),fun _=>.inl (by omega),by omega,by omega⟩
theorem CT.more {s:Rs}{m m':Cm}{n k:Nat}(h:CT s m n)(hk:n≤k)(h0:0<n)(hm:m.s.fresh=false∧m.s.did=false)(hf:m'.s.fresh=false)(hd:m'.s.did=false):CT s m' k:=by
 have h1:=h.l1;have h2:=h.l2;have h3:=h.f2 hm.1;have h4:=h.w2 hm.2;exact ⟨fun e=>(by rw [hf] at e;cases e),fun _=>.inl (by omega),fun e=>(by rw [hd] at e;cases e),fun _=>(by omega),by omega,by omega⟩
theorem touch_id {s:Cs}(h2:s.next≠2)(hf:s.fresh=false)(hd:s.did=false):s.touch=s:=by
 obtain ⟨nx,gi,tr,ak,now,fr,did,oc,ov,rc,rv,al⟩:=s;dsimp only at h2 hf hd;subst hf hd;unfold Cs.touch;dsimp only;rw [beq_eq_false_iff_ne.2 h2]
theorem lone_ends (s:Rs)(e:Int)(v n:Nat):Rs.lone (Rs.ends s e v (.live n))={ s with done:=true,e:=e,val:=v,alone:=true }:=rfl
section
variable {c:Cfg}{os:List Out}{p:Cp}{progs:Progs}
theorem chelp_sim {R:Tp→Tp×Unit}{h0:Hm}{n:Nat}(hh:Sim (XH c) os R (fun _ m' _=>m'.next=8) (fun _ _=>True) h0 n){m:Cm}(h4:m.s.next=4∨m.s.next=12)(hf:m.s.fresh=false)(hd:m.s.did=false) :
  Sim (XC c p progs) os R (fun _ m' _=>∃ h',m'=Cm.helped c p progs { m with work:=.hp h' } h'∧h'.next=8) (fun _ m'=>∃ h',m'={ m with work:=.hp h' }) (Cm.helped c p progs { m with work:=.hp h0 } h0) n:=by
 have ht:m.s.touch=m.s:=touch_id (by omega) hf hd
 have hl:=hh.lift (Y:=XC c p progs) (fun h=>Cm.helped c p progs { m with work:=.hp h } h) (fun _=>True) (fun _ _ _ _=>trivial) (fun x _ ha=>by
  have hx:x.next≠8:=fun e=>by
   rw [XH_ask] at ha;unfold Hm.ask at ha;rw [if_neg (by omega),if_neg (by omega),if_neg (by omega),if_neg (by omega),if_neg (by omega),if_neg (by omega),if_neg (by omega)] at ha
   cases ha
  have er:Cm.helped c p progs { m with work:=.hp x } x={ m with work:=.hp x }:=by
   unfold Cm.helped;rw [if_pos hx]
  rw [er];refine ⟨?_,fun o=>?_⟩
  ·rw [XC_ask]
   unfold Cm.ask;dsimp only;rw [if_neg (by omega),if_neg (by omega),if_neg (by omega),if_neg (by omega),if_neg (by omega),if_pos (by omega)];rfl
  ·rw [XC_tell]
   unfold Cm.tell Cm.go;dsimp only;rw [ht];rw [if_neg (by omega),if_neg (by omega),if_neg (by omega),if_neg (by omega),if_neg (by omega),if_neg (by omega),if_neg (by omega)]
   rfl) trivial
 refine hl.mono (fun _ m' k hx=>?_) (fun _ m' hx=>?_)
 ·obtain ⟨h',e,_,h8⟩:=hx
  exact ⟨h',e,h8⟩
 ·obtain ⟨h',e,_,ha,_⟩:=hx
  have hx:h'.next≠8:=fun e=>by
   rw [XH_ask] at ha;unfold Hm.ask at ha;rw [if_neg (by omega),if_neg (by omega),if_neg (by omega),if_neg (by omega),if_neg (by omega),if_neg (by omega),if_neg (by omega)] at ha
   cases ha
  refine ⟨h', ?_⟩;rw [e];unfold Cm.helped;rw [if_pos hx]
inductive LK (c:Cfg) (p:Cp) (progs:Progs) (m:Cm) (s:Rs) (n:Nat) (x:Rs×Cell) (m':Cm) (k:Nat):Prop
 | done (h:CD x.1 m') (ht:CT x.1 m' k)
 | try_ (m2:Cm) (h:m'=m2.try_ c p progs) (hr:rightB (p.code progs)=true) (hs:∃ l,x.1={ s with look:=l }) (hn:m2.s.now=x.2) (ha:m2.s.asked=m.s.asked) (htr:m2.s.tried=m.s.tried) (hg:m2.s.given=m.s.given) (hf:m2.s.fresh=false) (hd:m2.s.did=false) (h0:n<k) (ht:CT x.1 m2 k)
theorem rlook_sim (hc:Small c){s:Rs}{m:Cm}(h2:m.s.next=2){n:Nat}(hn:n≤os.length)(ht:CT s m n)(hg:CG s) :
  Sim (XC c p progs) os (rlook c os p progs s) (fun x m' k=>LK c p progs m s n x m' k) (fun x m'=>CG x.1∧CT x.1 m' os.length) m n:=by
 have ht0:=hc.t0
 have hask:(XC c p progs).ask m=(mop 0 (c.at 0 0 0) 0,true):=by
  rw [XC_ask];unfold Cm.ask;rw [if_neg (by omega),if_neg (by omega),if_pos h2]
 have hdo:=Sim.do' hask hn
 have a1:∀ (o:Out) (t:Tp),t.need=true→(rlook1 c os p progs s o.was t).1=t:=fun o t hd=>by unfold rlook1;rw [if_pos hd]
 have a2:∀ (o:Out) (m':Cm) (t:Tp),t.need=true→o=out0∧m'=m∧n=os.length→CG (rlook1 c os p progs s o.was t).2.1∧CT (rlook1 c os p progs s o.was t).2.1 m' os.length:=fun o m' t hd he=>by
  unfold rlook1;rw [if_pos hd];obtain ⟨_,rfl,e1⟩:=he;exact ⟨hg,by rw [← e1];exact ht⟩
 suffices a3:∀ (o:Out) (m':Cm) (k:Nat),n≤k→k≤os.length→m'=(XC c p progs).tell m o∧k=n+1∧k≤os.length→Sim (XC c p progs) os (fun t=>rlook1 c os p progs s o.was t) (fun x m' k=>LK c p progs m s n x m' k) (fun x m'=>CG x.1∧CT x.1 m' os.length) m' k by
  have hb:=hdo.bind (K:=fun x m' k=>LK c p progs m s n x m' k) (N:=fun x m'=>CG x.1∧CT x.1 m' os.length) hn (S:=fun o t=>rlook1 c os p progs s o.was t) a1 a2 a3;exact hb
 intro o m' i hi hin he;obtain ⟨rfl,rfl,hk2⟩:=he;have hl1:=ht.l1;have hl2:=ht.l2
 have hat:((Tp.live (n+1)).at_:Int) - 1=(n:Int):=by show ((n+1:Nat):Int) - 1=_;omega
 have hnd:¬ (Tp.live (n+1)).need=true:=Bool.false_ne_true
 have e1:(XC c p progs).tell m o={ m with s:=Cs.looks { m.s.touch with now:=o.was } (rightB (p.code progs)) }:=by
  rw [XC_tell];unfold Cm.tell Cm.go;have h2':m.s.touch.next=2:=h2;dsimp only;rw [if_neg (by omega),if_neg (by omega),if_neg (by omega),if_pos h2']
 have hfr:m.s.touch.fresh=true:=by show (m.s.next == 2)=true;rw [h2];rfl
 rw [e1]
 have hCT:∀ (s':Rs) (m':Cm),s'.look=(n:Int)→s'.swap=s.swap→m'.s.fresh=true→m'.s.did=false→CT s' m' (n+1):=fun s' m' g1 g2 g3 g4 =>
  ⟨fun _=>⟨Nat.succ_pos n,by rw [g1];omega⟩,fun e=>(by rw [g3] at e;cases e),fun e=>(by rw [g4] at e;cases e),fun _=>.inl (by omega),by omega,by omega⟩
 unfold Cs.looks
 cases hr:rightB (p.code progs) with
 | false =>
  rw [if_neg (by decide)];refine (Sim.ret (a:=({ s with look:=(n:Int),done:=true,e:=30,val:=0,alone:=true },o.was)) (LK.done ⟨rfl,rfl,rfl,rfl,rfl⟩ (hCT _ _ rfl rfl hfr rfl))).eq ?_;unfold rlook1;rw [if_neg hnd,if_pos hr,hat,lone_ends]
 | true =>
  rw [if_pos rfl]
  have hask2:(XC c p progs).ask { m with s:={ m.s.touch with now:=o.was,next:=3 } }=(mop 0 (c.at 4 (Cp.owner c o.was) 0) 0,true):=by
   rw [XC_ask];unfold Cm.ask;dsimp only;rw [if_neg (by decide),if_neg (by decide),if_neg (by decide),if_pos rfl];rfl
  refine ((Sim.do' hask2 hk2).bind (K:=fun x m' k=>LK c p progs m s n x m' k) (N:=fun x m'=>CG x.1∧CT x.1 m' os.length) hk2 (S:=fun o2 t=>rlook2 c os p o.was { s with look:=(n:Int) } o2.was t) (fun o2 t hd=>by rw [rlook2_dead hd]) (fun o2 m' t hd he=>?_) (fun o2 m' i hi hin he=>?_)).eq ?_
  ·obtain ⟨_,rfl,e2⟩:=he
   rw [rlook2_dead hd];exact ⟨⟨hg.done,hg.alone⟩,by rw [← e2];exact hCT _ _ rfl rfl hfr rfl⟩
  ·obtain ⟨rfl,rfl,hk3⟩:=he
   have hnd2:(Tp.live (n+1+1)).need=false:=rfl;rw [XC_tell];unfold Cm.tell Cm.go Cm.opened;have hto:Cs.touch { m.s.touch with now:=o.was,next:=3 }={ m.s with now:=o.was,next:=3,fresh:=false,did:=false }:=rfl;dsimp only;rw [hto];dsimp only;rw [if_neg (by decide),if_neg (by decide),if_neg (by decide),if_neg (by decide),if_pos rfl];have hq:CT { s with look:=(n:Int) } { m with s:={ m.s with now:=o.was,next:=3,fresh:=false,did:=false } } (n+1+1):=(hCT { s with look:=(n:Int) } { m with s:={ m.s.touch with now:=o.was,next:=3 } } rfl rfl hfr rfl).quiet (by omega) rfl rfl
   by_cases hop:o2.was=⟨1,o.was.seq⟩
   ·rw [if_pos hop]
    have hh:=chelp_sim (c:=c) (p:=p) (progs:=progs) (rhelp_sim (os:=os) hc p.who (Cp.owner c o.was) o.was.seq hk3) (m:={ m with s:={ m.s with now:=o.was,next:=4,fresh:=false,did:=false } }) (.inl rfl) rfl rfl
    have e0:Cm.helped c p progs { m with s:={ m.s with now:=o.was,next:=4,fresh:=false,did:=false },work:=.hp (Hm.new p.who (Cp.owner c o.was) o.was.seq) } (Hm.new p.who (Cp.owner c o.was) o.was.seq)={ m with s:={ m.s with now:=o.was,next:=4,fresh:=false,did:=false },work:=.hp (Hm.new p.who (Cp.owner c o.was) o.was.seq) }:=by
     unfold Cm.helped;rw [if_pos (by show (0:Int)≠8;decide)]
    rw [e0] at hh;refine (hh.bind (K:=fun x m' k=>LK c p progs m s n x m' k) (N:=fun x m'=>CG x.1∧CT x.1 m' os.length) hk3 (S:=fun _ t=>(t,({ s with look:=(n:Int) },o.was))) (fun _ _ _=>rfl) (fun _ m' t hd he=>?_) (fun _ m' j hj hjn he=>?_)).eq ?_
    ·obtain ⟨h',rfl⟩:=he
     exact ⟨⟨hg.done,hg.alone⟩,hq.more (by omega) (by omega) ⟨rfl,rfl⟩ rfl rfl⟩
    ·obtain ⟨h',rfl,h8⟩:=he
     refine Sim.ret (LK.try_ (c:=c) (m:=m) (s:=s) { m with s:={ m.s with now:=o.was,next:=4,fresh:=false,did:=false },work:=.hp h' } ?_ hr ⟨_,rfl⟩ rfl rfl rfl rfl rfl rfl (by omega) (hq.more (by omega) (by omega) ⟨rfl,rfl⟩ rfl rfl));unfold Cm.helped;rw [if_neg (fun e=>e h8),if_neg (by show ¬ ((4:Int)=12);decide)]
    ·unfold rlook2 un
     rw [if_pos ⟨hnd2,hop⟩]
   ·rw [if_neg hop]
    refine (Sim.ret (a:=({ s with look:=(n:Int) },o.was)) (LK.try_ (c:=c) (m:=m) (s:=s) { m with s:={ m.s with now:=o.was,next:=3,fresh:=false,did:=false } } rfl hr ⟨_,rfl⟩ rfl rfl rfl rfl rfl rfl (by omega) hq)).eq ?_;unfold rlook2;rw [if_neg (fun e=>hop e.2)]
  ·unfold rlook1
   rw [if_neg hnd,if_neg (by rw [hr];decide),hat]
end
inductive RK (m2:Cm) (s:Rs) (x:Rs×Bool) (m':Cm) (k:Nat):Prop
 | done (h:CD x.1 m') (ha:x.2=false) (ht:CT x.1 m' k)
 | again (ha:x.2=true) (hs:x.1=s) (wk:Wk) (h:m'=⟨Cs.stale { m2.s with next:=8 },wk,m2.b⟩)
theorem CT.of_s {s s':Rs}{m m':Cm}{k:Nat}(h:CT s m k)(h1:s'.look=s.look)(h2:s'.swap=s.swap)(h3:s'.rows=s.rows)(g1:m'.s.fresh=m.s.fresh)(g2:m'.s.did=m.s.did)(g3:m'.b=m.b):CT s' m' k :=
 ⟨fun e=>by rw [h1];exact h.f1 (by rw [← g1];exact e),fun e=>by rw [h1];exact h.f2 (by rw [← g1];exact e),fun e=>by rw [h2,h3,g3];exact h.w1 (by rw [← g2];exact e),fun e=>by rw [h2];exact h.w2 (by rw [← g2];exact e),by rw [h1];exact h.l1,by rw [h2];exact h.l2⟩
section
variable {c:Cfg}{os:List Out}{p:Cp}{progs:Progs}
theorem rreads_sim (hc:Small c)(hf:0≤c.fuel∧c.fuel≤1000)(ha:p.args.length=4){s:Rs}{m2:Cm}(hfr:m2.s.fresh=false)(hd:m2.s.did=false){n:Nat}(hn:n≤os.length)(h0:0<n)(ht:CT s m2 n)(hg:CG s) :
  Sim (XC c p progs) os (rreads c os p progs s m2.s.now.seq) (fun x m' k=>RK m2 s x m' k) (fun x m'=>CG x.1∧CT x.1 m' os.length) (m2.run c p progs) n:=by
 have hS:Start c [] 0 0:=⟨hc,hf.2,Nat.zero_le _,by decide,by decide⟩
 have hp:=play_sim (os:=os) (room:=0) (code:=p.code progs) hS hf.1 p.args ha (VR.new p.who m2.s.now.seq) rfl (by show (1:Int)≠2;decide) (Vgo.new _ _) (by show (0:Int)≤0∧(0:Int)≤1000;decide) (Po.new m2.s.now.seq) rfl rfl hn;have hto:({ m2.s with next:=8 }:Cs).touch={ m2.s with next:=8 }:=touch_id (by show (8:Int)≠2;decide) hfr hd
 have hl:=hp.lift (Y:=XC c p progs) (fun e=>({ m2 with s:=Cs.read { m2.s with next:=8 } e.x,work:=.ex e }:Cm)) (fun _=>True) (fun _ _ _ _=>trivial) (fun x _ hx=>by
  have hx:x.x.s=0:=by
   have hx:(x.ask c).2=true:=hx;unfold Xm.ask at hx
   by_cases h:x.x.s=0
   ·exact h
   ·rw [if_pos h] at hx;cases hx
  have er:Cs.read { m2.s with next:=8 } x.x={ m2.s with next:=8 }:=by
   unfold Cs.read;rw [if_neg (by omega),if_neg (by omega)]
  rw [er];refine ⟨?_,fun o=>?_⟩
  ·rw [XC_ask]
   unfold Cm.ask;dsimp only;rw [if_neg (by decide),if_neg (by decide),if_neg (by decide),if_neg (by decide),if_neg (by decide),if_pos (.inr (.inr (.inl rfl)))];rfl
  ·rw [XC_tell]
   unfold Cm.tell Cm.go;dsimp only;rw [hto];dsimp only;rw [if_neg (by decide),if_neg (by decide),if_neg (by decide),if_neg (by decide),if_neg (by decide),if_neg (by decide),if_neg (by decide)]
   rfl) trivial
 have e0:m2.run c p progs={ m2 with s:=Cs.read { m2.s with next:=8 } (Xm.start c 0 (p.code progs) (Vw.new p.who m2.s.now.seq) (Po.new m2.s.now.seq) [] p.args).x,work:=.ex (Xm.start c 0 (p.code progs) (Vw.new p.who m2.s.now.seq) (Po.new m2.s.now.seq) [] p.args) }:=rfl;rw [e0]
 have a1:∀ (r:Rr) (t:Tp),t.need=true→(rreads1 s r t).1=t:=fun r t _=>by unfold rreads1;split<;>rfl
 have hquiet:∀ e:Xm,(Cs.read { m2.s with next:=8 } e.x).fresh=false∧(Cs.read { m2.s with next:=8 } e.x).did=false:=fun e=>by
  unfold Cs.read;split
  ·exact ⟨hfr,hd⟩
  split
  ·unfold Cs.stale
   split<;>exact ⟨hfr,hd⟩
  ·exact ⟨hfr,hd⟩
 refine (hl.bind (K:=fun x m' k=>RK m2 s x m' k) (N:=fun x m'=>CG x.1∧CT x.1 m' os.length) hn (S:=fun r t=>rreads1 s r t) a1 (fun r m' t hd2 hh=>?_) (fun r m' k hk hkn hh=>?_)).eq (by unfold rreads;rfl)
 ·obtain ⟨e,rfl,_,_,hN⟩:=hh
  unfold rreads1;rw [if_neg (by omega)];obtain ⟨q1,q2⟩:=hquiet e;exact ⟨hg,ht.more hn h0 ⟨hfr,hd⟩ q1 q2⟩
 ·obtain ⟨e,rfl,_,hx,_⟩:=hh
  obtain ⟨q1,q2⟩:=hquiet e
  rcases hx.s.2 with h1|h2
  ·obtain ⟨k1,k2,_⟩:=hx.ok h1
   have hrd:Cs.read { m2.s with next:=8 } e.x=Cs.end { m2.s with next:=8 } e.x.rc e.x.rv true:=by
    unfold Cs.read;rw [if_pos h1]
   refine (Sim.ret (a:=({ s with done:=true,e:=r.er,val:=r.val,alone:=true },false)) (RK.done ?_ rfl ?_)).eq ?_
   ·dsimp only
    rw [hrd];exact ⟨rfl,rfl,k1,k2,rfl⟩
   ·exact (ht.more (m':=⟨Cs.read { m2.s with next:=8 } e.x, .ex e,m2.b⟩) hk h0 ⟨hfr,hd⟩ q1 q2).of_s rfl rfl rfl rfl rfl rfl
   ·unfold rreads1
    rw [if_pos (by rw [hx.s.1];exact h1),lone_ends]
  ·have hrd:Cs.read { m2.s with next:=8 } e.x=Cs.stale { m2.s with next:=8 }:=by
    unfold Cs.read;rw [if_neg (by omega),if_pos h2]
   refine (Sim.ret (a:=(s,true)) (RK.again rfl rfl (.ex e) (by dsimp only;rw [hrd]))).eq ?_;have:=hx.s.1;unfold rreads1;rw [if_neg (by omega),decide_eq_true (by omega)]
end
def ranL (c:Cfg)(os:List Out)(p:Cp):Nat→Nat→Tp→Tp
 | 0,_,t=>(tdo os t ⟨1,c.at 1 p.who 0,⟨0,0⟩,⟨(IntKind.u64.wrap p.prog).toNat,p.tag⟩⟩).1
 | k+1,j,t=>ranL c os p k (j+1) (tdo os t ⟨1,c.at 2 p.who j,⟨0,0⟩,⟨p.args.getD j 0,0⟩⟩).1
def ranswer1 (c:Cfg)(os:List Out)(p:Cp)(progs:Progs)(s:Rs)(seq val:Nat)(t:Tp):Tp×Rs :=
 if t.need=true then (t,s) else
 if val=p.tag then ((tdo os (tdo os t (mop 0 (c.at 8 p.who 0) 0)).1 (mop 0 (c.at 9 p.who 0) 0)).1,s.ends (IntKind.i64.wrap ((tdo os t (mop 0 (c.at 8 p.who 0) 0)).2.was.val:Int)) (tdo os (tdo os t (mop 0 (c.at 8 p.who 0) 0)).1 (mop 0 (c.at 9 p.who 0) 0)).2.was.val (tdo os (tdo os t (mop 0 (c.at 8 p.who 0) 0)).1 (mop 0 (c.at 9 p.who 0) 0)).1) else
 if c.last≤seq∧onlyB (p.code progs)=true then ((rreads c os p progs s seq t).1,(rreads c os p progs s seq t).2.1) else
 if c.last≤seq then (t,(s.ends 45 0 t).lone) else (t,s)
def ranswer (c:Cfg)(os:List Out)(p:Cp)(progs:Progs)(s:Rs)(seq:Nat)(t:Tp):Tp×Rs:=ranswer1 c os p progs s seq (tdo os t (mop 0 (c.at 7 p.who 0) 0)).2.was.val (tdo os t (mop 0 (c.at 7 p.who 0) 0)).1
attribute [irreducible] ranswer1
section
variable {c:Cfg}{os:List Out}{p:Cp}{progs:Progs}{s:Rs}{t:Tp}
theorem ranL_dead (h:t.need=true):∀ (k j:Nat),ranL c os p k j t=t
 | 0,_=>tdo_dead h _
 | k+1,j=>by unfold ranL;rw [tdo_dead h];exact ranL_dead h k _
theorem ranswer1_dead (h:t.need=true)(seq val:Nat):ranswer1 c os p progs s seq val t=(t,s):=by unfold ranswer1;rw [if_pos h]
theorem ranL_sim:∀ (k j:Nat) {m:Cm},j+k=4→(k=0→m.s.next=1)→(k≠0→m.s.next=0∧m.s.given=(j:Int))→∀ {n:Nat},n≤os.length→CT s m n→
  Sim (XC c p progs) os (un (ranL c os p k j)) (fun _ m' i=>m'.s.next=2∧m'.s.asked=true∧CT s m' i) (fun _ m'=>CT s m' os.length) m n
 | 0,j,m,hj,h0,_,n,hn,ht=>by
  have h1:=h0 rfl
  have hask:(XC c p progs).ask m=(⟨1,c.at 1 p.who 0,⟨0,0⟩,⟨(IntKind.u64.wrap p.prog).toNat,p.tag⟩⟩,true):=by
   rw [XC_ask];unfold Cm.ask;rw [if_neg (by omega),if_pos h1]
  refine ((Sim.do' hask hn).bind (K:=fun _ m' i=>m'.s.next=2∧m'.s.asked=true∧CT s m' i) (N:=fun _ m'=>CT s m' os.length) hn (S:=fun _ t=>(t,())) (fun _ _ _=>rfl) (fun _ m' t _ he=>by obtain ⟨_,rfl,e⟩:=he;rw [← e];exact ht) (fun o m' i hi hin he=>?_)).eq (R':=un (ranL c os p 0 j)) rfl;obtain ⟨rfl,rfl,hk2⟩:=he
  have e:(XC c p progs).tell m o={ m with s:={ m.s.touch with asked:=true,next:=2 } }:=by
   rw [XC_tell];unfold Cm.tell Cm.go;have h1':m.s.touch.next=1:=h1;dsimp only;rw [if_neg (by omega),if_neg (by omega),if_pos h1']
  rw [e]
  have hfr:m.s.touch.fresh=false:=by show (m.s.next == 2)=false;rw [h1];rfl
  exact Sim.ret (a:=()) ⟨rfl,rfl,ht.quiet (by omega) hfr rfl⟩
 | k+1,j,m,hj,_,h1,n,hn,ht=>by
  obtain ⟨h0,hg⟩:=h1 (by omega)
  have hask:(XC c p progs).ask m=(⟨1,c.at 2 p.who j,⟨0,0⟩,⟨p.args.getD j 0,0⟩⟩,true):=by
   rw [XC_ask];unfold Cm.ask;rw [if_pos h0,hg];rfl
  refine ((Sim.do' hask hn).bind (K:=fun _ m' i=>m'.s.next=2∧m'.s.asked=true∧CT s m' i) (N:=fun _ m'=>CT s m' os.length) hn (S:=fun _ t=>un (ranL c os p k (j+1)) t) (fun _ t h=>ranL_dead h _ _) (fun _ m' t _ he=>by obtain ⟨_,rfl,e⟩:=he;rw [← e];exact ht) (fun o m' i hi hin he=>?_)).eq (R':=un (ranL c os p (k+1) j)) rfl;obtain ⟨rfl,rfl,hk2⟩:=he
  have hfr:m.s.touch.fresh=false:=by show (m.s.next == 2)=false;rw [h0];rfl
  have e:(XC c p progs).tell m o=if (j:Int)+1=4 then { m with s:={ m.s.touch with given:=(j:Int)+1,next:=1 } } else { m with s:={ m.s.touch with given:=(j:Int)+1 } }:=by
   rw [XC_tell];unfold Cm.tell Cm.go;have h0':m.s.touch.next=0:=h0;have hg':m.s.touch.given=(j:Int):=hg;dsimp only;rw [if_neg (by omega),if_pos h0',hg']
  rw [e]
  by_cases h4:(j:Int)+1=4
  ·rw [if_pos h4]
   exact ranL_sim k (j+1) (m:={ m with s:={ m.s.touch with given:=(j:Int)+1,next:=1 } }) (by omega) (fun _=>rfl) (fun hk=>by omega) hk2 (ht.quiet (by omega) hfr rfl)
  ·rw [if_neg h4]
   exact ranL_sim k (j+1) (m:={ m with s:={ m.s.touch with given:=(j:Int)+1 } }) (by omega) (fun hk=>by omega) (fun _=>⟨h0,by show (j:Int)+1=((j+1:Nat):Int);omega⟩) hk2 (ht.quiet (by omega) hfr rfl)
inductive AK (c:Cfg) (p:Cp) (m:Cm) (s:Rs) (x:Rs) (m':Cm) (k:Nat):Prop
 | done (h:CD x m') (ht:CT x m' k)
 | make (hs:x=s) (hl:m.s.now.seq<c.last) (h:m'={ m with s:={ m.s with next:=9 },work:=.bd (Bm.new p.who m.s.now.seq) }) (ht:CT s m' k)
 | again (hs:x=s) (hl:c.last≤m.s.now.seq) (h:m'.s.next=2) (ha:m'.s.asked=true) (ht:CT s m' k)
theorem ranswer_sim (hc:Small c)(hf:0≤c.fuel∧c.fuel≤1000)(ha4:p.args.length=4){m:Cm}(h5:m.s.next=5)(has:m.s.asked=true)(hfr:m.s.fresh=false)(hd:m.s.did=false){n:Nat}(hn:n≤os.length)(h0:0<n)(ht:CT s m n)(hg:CG s) :
  Sim (XC c p progs) os (ranswer c os p progs s m.s.now.seq) (fun x m' k=>AK c p m s x m' k) (fun x m'=>CG x∧CT x m' os.length) m n:=by
 have hto:m.s.touch=m.s:=touch_id (by omega) hfr hd
 have hask:(XC c p progs).ask m=(mop 0 (c.at 7 p.who 0) 0,true):=by
  rw [XC_ask];unfold Cm.ask;rw [if_neg (by omega),if_neg (by omega),if_neg (by omega),if_neg (by omega),if_pos (.inl h5),h5];rfl
 refine ((Sim.do' hask hn).bind (K:=fun x m' k=>AK c p m s x m' k) (N:=fun x m'=>CG x∧CT x m' os.length) hn (S:=fun o t=>ranswer1 c os p progs s m.s.now.seq o.was.val t) (fun o t h=>by rw [ranswer1_dead h]) (fun o m' t h he=>?_) (fun o m' i hi hin he=>?_)).eq (by unfold ranswer;rfl)
 ·obtain ⟨_,rfl,e⟩:=he
  rw [ranswer1_dead h];exact ⟨hg,by rw [← e];exact ht⟩
 obtain ⟨rfl,rfl,hk2⟩:=he;have hnd:¬ (Tp.live (n+1)).need=true:=Bool.false_ne_true;rw [XC_tell]
 have e1:m.tell c p progs o=m.answer c p progs o.was.val:=by
  unfold Cm.tell Cm.go;dsimp only;rw [hto,if_neg (by omega),if_neg (by omega),if_neg (by omega),if_neg (by omega),if_neg (by omega),if_pos (.inl h5)]
 rw [e1];unfold Cm.answer;rw [if_neg (by omega),if_neg (by omega)]
 by_cases hv:o.was.val=p.tag
 ·rw [if_pos hv]
  have hask2:(XC c p progs).ask { m with s:={ m.s with next:=6 } }=(mop 0 (c.at 8 p.who 0) 0,true):=by
   rw [XC_ask];unfold Cm.ask;dsimp only;rw [if_neg (by decide),if_neg (by decide),if_neg (by decide),if_neg (by decide),if_pos (.inr (.inl rfl))];rfl
  have hq1:CT s { m with s:={ m.s with next:=6 } } (n+1):=ht.quiet (by omega) hfr hd;refine ((Sim.do' hask2 hk2).bind (K:=fun x m' k=>AK c p m s x m' k) (N:=fun x m'=>CG x∧CT x m' os.length) hk2 (S:=fun o2 t=>((tdo os t (mop 0 (c.at 9 p.who 0) 0)).1,s.ends (IntKind.i64.wrap (o2.was.val:Int)) (tdo os t (mop 0 (c.at 9 p.who 0) 0)).2.was.val (tdo os t (mop 0 (c.at 9 p.who 0) 0)).1)) (fun o2 t h=>tdo_dead h _) (fun o2 m' t h he=>?_) (fun o2 m' i hi hin he=>?_)).eq (by unfold ranswer1;rw [if_neg hnd,if_pos hv])
  ·obtain ⟨_,rfl,e⟩:=he
   rw [tdo_dead h];unfold Rs.ends;rw [if_pos h];exact ⟨hg,by rw [← e];exact hq1⟩
  obtain ⟨rfl,rfl,hk3⟩:=he
  have e2:(XC c p progs).tell { m with s:={ m.s with next:=6 } } o2={ m with s:={ m.s with next:=7,oc:=IntKind.i64.wrap (o2.was.val:Int) } }:=by
   have hto2:({ m.s with next:=6 }:Cs).touch={ m.s with next:=6 }:=touch_id (by show (6:Int)≠2;decide) hfr hd;rw [XC_tell];unfold Cm.tell Cm.go Cm.answer;dsimp only;rw [hto2];dsimp only;rw [if_neg (by decide),if_neg (by decide),if_neg (by decide),if_neg (by decide),if_neg (by decide),if_pos (.inr (.inl rfl)),if_pos rfl]
  rw [e2];have hq2:CT s { m with s:={ m.s with next:=7,oc:=IntKind.i64.wrap (o2.was.val:Int) } } (n+1+1):=ht.quiet (by omega) hfr hd
  have hask3:(XC c p progs).ask { m with s:={ m.s with next:=7,oc:=IntKind.i64.wrap (o2.was.val:Int) } }=(mop 0 (c.at 9 p.who 0) 0,true):=by
   rw [XC_ask];unfold Cm.ask;dsimp only;rw [if_neg (by decide),if_neg (by decide),if_neg (by decide),if_neg (by decide),if_pos (.inr (.inr rfl))];rfl
  refine ((Sim.do' hask3 hk3).bind (K:=fun x m' k=>AK c p m s x m' k) (N:=fun x m'=>CG x∧CT x m' os.length) hk3 (S:=fun o3 t=>(t,s.ends (IntKind.i64.wrap (o2.was.val:Int)) o3.was.val t)) (fun _ _ _=>rfl) (fun o3 m' t h he=>?_) (fun o3 m' i hi hin he=>?_)).eq (by rfl)
  ·obtain ⟨_,rfl,e⟩:=he
   unfold Rs.ends;rw [if_pos h];exact ⟨hg,by rw [← e];exact hq2⟩
  obtain ⟨rfl,rfl,hk4⟩:=he
  have e3:(XC c p progs).tell { m with s:={ m.s with next:=7,oc:=IntKind.i64.wrap (o2.was.val:Int) } } o3={ m with s:=Cs.end { m.s with next:=7,oc:=IntKind.i64.wrap (o2.was.val:Int),ov:=o3.was.val } (IntKind.i64.wrap (o2.was.val:Int)) o3.was.val false }:=by
   have hto3:({ m.s with next:=7,oc:=IntKind.i64.wrap (o2.was.val:Int) }:Cs).touch={ m.s with next:=7,oc:=IntKind.i64.wrap (o2.was.val:Int) }:=touch_id (by show (7:Int)≠2;decide) hfr hd;rw [XC_tell];unfold Cm.tell Cm.go Cm.answer;dsimp only;rw [hto3];dsimp only;rw [if_neg (by decide),if_neg (by decide),if_neg (by decide),if_neg (by decide),if_neg (by decide),if_pos (.inr (.inr rfl)),if_neg (by decide),if_pos rfl]
  rw [e3];refine (Sim.ret (a:={ s with done:=true,e:=IntKind.i64.wrap (o2.was.val:Int),val:=o3.was.val }) (AK.done ⟨rfl,rfl,rfl,rfl,hg.alone⟩ ?_)).eq rfl;exact ((hq2.quiet (k:=n+1+1+1) (by omega) (m':={ m with s:=Cs.end { m.s with next:=7,oc:=IntKind.i64.wrap (o2.was.val:Int),ov:=o3.was.val } (IntKind.i64.wrap (o2.was.val:Int)) o3.was.val false }) hfr hd)).of_s rfl rfl rfl rfl rfl rfl
 rw [if_neg hv]
 by_cases hl:c.last≤m.s.now.seq
 ·rw [if_pos hl]
  have hq:CT s m (n+1):=ht.quiet (by omega) hfr hd
  by_cases ho:onlyB (p.code progs)=true
  ·rw [if_pos ho]
   have hrs:=rreads_sim (os:=os) (p:=p) (progs:=progs) hc hf ha4 hfr hd hk2 (by omega) hq hg;refine (hrs.bind (K:=fun x m' k=>AK c p m s x m' k) (N:=fun x m'=>CG x∧CT x m' os.length) hk2 (S:=fun x t=>(t,x.1)) (fun _ _ _=>rfl) (fun x m' t h he=>he) (fun x m' i hi hin he=>?_)).eq (by unfold ranswer1;rw [if_neg hnd,if_neg hv,if_pos ⟨hl,ho⟩])
   cases he with
   | done h1 h2 h3=>exact Sim.ret (AK.done h1 h3)
   | again h1 h2 wk h3 =>
    have e:m'.s.next=2∧m'.s.asked=true∧m'.s.fresh=false∧m'.s.did=false:=by
     rw [h3];unfold Cs.stale;dsimp only;rw [if_neg (fun x=>by rw [has] at x;exact absurd x.2 (by decide))];exact ⟨rfl,has,hfr,hd⟩
    refine Sim.ret (AK.again h2 hl e.1 e.2.1 ?_);exact ht.quiet (by omega) e.2.2.1 e.2.2.2
  ·rw [if_neg ho]
   refine (Sim.ret (a:={ s with done:=true,e:=45,val:=0,alone:=true }) (AK.done ⟨rfl,rfl,rfl,rfl,rfl⟩ ?_)).eq (by unfold ranswer1;rw [if_neg hnd,if_neg hv,if_neg (fun x=>ho x.2),if_pos hl];rfl);exact (ht.quiet (k:=n+1) (by omega) (m':={ m with s:=m.s.end 45 0 true }) hfr hd).of_s rfl rfl rfl rfl rfl rfl
 ·rw [if_neg hl]
  refine (Sim.ret (a:=s) (AK.make rfl (by omega) rfl ?_)).eq (by unfold ranswer1;rw [if_neg hnd,if_neg hv,if_neg (fun x=>hl x.1),if_neg hl]);exact ht.quiet (by omega) hfr hd
end
end Go.Proofs.YthmbgodcpgkkeaaGreat
