/-
  What a call touches, in plain terms: places. Package tumblerref14, in plain terms: a transaction, from its beginning to its end. Package tumblerref14, in plain terms: Make.
-/
import Derived.Test.YthmbgodcpgkkeaaGreatVa
import Derived.Test.YthmbgodcpgkkeaaGreatLs
set_option maxRecDepth 100000
namespace Go.Proofs.YthmbgodcpgkkeaaGreat
theorem at_rest {c:Cfg}(hc:Small c){kind i k:Int}(hk:7≤kind∧kind≤16)(hi:0≤i∧i<(c.cnt kind).1)(h:0≤k∧k<(c.cnt kind).2):c.what (c.at kind i k)=(kind,i,k):=by
 have hcap:=hc.cap;have hts:=hc.ts;have h7:c.f7=1+c.threads * c.stride:=rfl;have hb0:=hc.b0;have hl0:=hc.limit;have ht0:=hc.t0;have h10:c.f10=c.f7+c.threads * 3:=rfl;have h11:c.f11=c.f10+16:=rfl;have h12:c.f12=c.f11+c.blocks:=rfl;have h13:c.f13=c.f12+1:=rfl;have h14:c.f14=c.f13+c.blocks:=rfl;have h15:c.f15=c.f14+1:=rfl;have h16:c.f16=c.f15+c.limit:=rfl;have h17:c.f17=c.f16+c.blocks * 8:=rfl;unfold Cfg.at;rw [if_pos ⟨hi.1,hi.2,h.1,h.2⟩]
 have hk10:kind=7∨kind=8∨kind=9∨kind=10∨kind=11∨kind=12∨kind=13∨kind=14∨kind=15∨kind=16:=by omega
 unfold Cfg.what
 rcases hk10 with rfl|rfl|rfl|rfl|rfl|rfl|rfl|rfl|rfl|rfl
 ·have hi:0≤i∧i<c.threads:=hi
  have h:0≤k∧k<1:=h;rw [show c.base 7=c.f7+0 from rfl,show c.stp 7=3 from rfl,if_neg (by omega),if_neg (by omega),if_neg (by omega),if_pos (by omega)]
  congr 1
  ·omega
  ·congr 1<;>omega
 ·have hi:0≤i∧i<c.threads:=hi
  have h:0≤k∧k<1:=h;rw [show c.base 8=c.f7+1 from rfl,show c.stp 8=3 from rfl,if_neg (by omega),if_neg (by omega),if_neg (by omega),if_pos (by omega)]
  congr 1
  ·omega
  ·congr 1<;>omega
 ·have hi:0≤i∧i<c.threads:=hi
  have h:0≤k∧k<1:=h;rw [show c.base 9=c.f7+2 from rfl,show c.stp 9=3 from rfl,if_neg (by omega),if_neg (by omega),if_neg (by omega),if_pos (by omega)]
  congr 1
  ·omega
  ·congr 1<;>omega
 ·have hi:0≤i∧i<16:=hi
  have h:0≤k∧k<1:=h;rw [show c.base 10=c.f10 from rfl,show c.stp 10=1 from rfl,if_neg (by omega),if_neg (by omega),if_neg (by omega),if_neg (by omega),if_neg (by omega),if_neg (by omega),if_neg (by omega),if_neg (by omega),if_neg (by omega),if_neg (by omega)]
  congr 2<;>omega
 ·have hi:0≤i∧i<c.blocks:=hi
  have h:0≤k∧k<1:=h;rw [show c.base 11=c.f11 from rfl,show c.stp 11=1 from rfl,if_neg (by omega),if_neg (by omega),if_neg (by omega),if_neg (by omega),if_neg (by omega),if_neg (by omega),if_neg (by omega),if_neg (by omega),if_neg (by omega),if_pos (by omega)]
  congr 2<;>omega
 ·have hi:0≤i∧i<1:=hi
  have h:0≤k∧k<1:=h;rw [show c.base 12=c.f12 from rfl,show c.stp 12=1 from rfl,if_neg (by omega),if_neg (by omega),if_neg (by omega),if_neg (by omega),if_neg (by omega),if_neg (by omega),if_neg (by omega),if_neg (by omega),if_pos (by omega)]
  congr 2<;>omega
 ·have hi:0≤i∧i<c.blocks:=hi
  have h:0≤k∧k<1:=h;rw [show c.base 13=c.f13 from rfl,show c.stp 13=1 from rfl,if_neg (by omega),if_neg (by omega),if_neg (by omega),if_neg (by omega),if_neg (by omega),if_neg (by omega),if_neg (by omega),if_pos (by omega)]
  congr 2<;>omega
 ·have hi:0≤i∧i<1:=hi
  have h:0≤k∧k<1:=h;rw [show c.base 14=c.f14 from rfl,show c.stp 14=1 from rfl,if_neg (by omega),if_neg (by omega),if_neg (by omega),if_neg (by omega),if_neg (by omega),if_neg (by omega),if_pos (by omega)]
  congr 2<;>omega
 ·have hi:0≤i∧i<c.limit:=hi
  have h:0≤k∧k<1:=h;rw [show c.base 15=c.f15 from rfl,show c.stp 15=1 from rfl,if_neg (by omega),if_neg (by omega),if_neg (by omega),if_neg (by omega),if_neg (by omega),if_pos (by omega)]
  congr 2<;>omega
 ·have hi:0≤i∧i<c.blocks:=hi
  have h:0≤k∧k<8:=h;rw [show c.base 16=c.f16 from rfl,show c.stp 16=8 from rfl,if_neg (by omega),if_neg (by omega),if_neg (by omega),if_neg (by omega),if_pos (by omega)]
  congr 1
  congr 1<;>omega
section
variable {c:Cfg}{os:List Out}{progs:Progs}{p:Rp}
theorem binv_fed (hc:Small c)(hf:0≤c.fuel∧c.fuel≤1000){m m':Bm}{n k:Nat}(h:Fed (XB c progs) os m n m' k)(hi:Binv c progs m):Binv c progs m':=by
 induction h with
 | nil=>exact hi
 | cons _ _ _ ih=>exact ih (Binv.tell hc hf hi _)
theorem Sim.binv (hc:Small c)(hf:0≤c.fuel∧c.fuel≤1000){α:Type}{R:Tp→Tp×α}{K:α→Bm→Nat→Prop}{N:α→Bm→Prop}{m:Bm}{n:Nat}(h:Sim (XB c progs) os R K N m n)(hi:Binv c progs m):Sim (XB c progs) os R (fun a m' k=>K a m' k∧Binv c progs m') N m n:=by
 obtain ⟨m',k,hf1,h⟩:=h;refine ⟨m',k,hf1, ?_⟩
 rcases h with ⟨h1,h2⟩|h
 ·exact .inl ⟨h1,h2,binv_fed hc hf hf1 hi⟩
 ·exact .inr h
theorem rargs_sim {u:Int}{m:Bm}(hu:m.b.u=u)(hs:m.b.s=0):∀ (k j:Nat) (l r:List Nat),j+(k+1)=4→l.length=4→r.length=4→l.take j=r.take j→∀ {n:Nat},n≤os.length→
  Sim (XB c progs) os (rargs c os u (k+1) j l) (fun l' m' _=>m'=Bm.begin c c.cap.toNat progs { m with b:={ m.b with next:=3,given:=4,args:=l' } }∧l'.length=4) (fun _ _=>True) { m with b:={ m.b with next:=3,given:=(j:Int),args:=r } } n
 | k,j,l,r,hj,hl,hr,hlr,n,hn=>by
  have hask:(XB c progs).ask { m with b:={ m.b with next:=3,given:=(j:Int),args:=r } }=(mop 0 (c.at 2 u j) 0,true):=by
   rw [XB_ask];unfold Bm.ask;dsimp only;rw [if_neg (fun e=>e hs),if_neg (by decide),if_neg (by decide),if_neg (by decide),if_pos rfl,hu]
  refine ((Sim.do hask hn).bind hn (S:=fun o t=>rargs c os u k (j+1) (l.set j o.was.val) t) (fun o t h=>rargs_dead h _ _ _ _) (fun _ _ _ _ _=>trivial) (fun o m' i hi hin e=>?_)).eq rfl;obtain ⟨rfl,rfl,hk2,ho⟩:=e;rw [XB_tell];unfold Bm.tell;dsimp only;rw [if_neg (fun e=>e hs),if_neg (by decide),if_neg (by decide),if_neg (by decide),if_pos rfl,show ((j:Int)).toNat=j from rfl];have ht:=take_set hl hr (by omega) hlr o.was.val
  cases k with
  | zero =>
   have e4:(j:Int)+1=4:=by omega
   have ej:j+1=4:=by omega
   rw [ej] at ht;have el:=getD_set4 (l.set j o.was.val) (r.set j o.was.val) (by rw [List.length_set];exact hl) (by rw [List.length_set];exact hr) ht;rw [if_pos e4,e4,← el];exact Sim.ret (a:=l.set j o.was.val) ⟨rfl,by rw [List.length_set];exact hl⟩
  | succ k =>
   rw [if_neg (by omega)];exact rargs_sim hu hs k (j+1) (l.set j o.was.val) (r.set j o.was.val) (by omega) (by rw [List.length_set];exact hl) (by rw [List.length_set];exact hr) ht hk2
inductive RCK (c:Cfg) (progs:Progs) (p:Rp) (u:Nat) (b:Rb) (x:Rc) (m':Bm):Prop
 | stale (h:x.s=2) (hs:m'.b.s=2)
 | none (h:x.s=1) (hi:x.is=false) (hk:BK c progs p (u+1) { b with v:=x.v } m')
 | some (h:x.s=1) (hi:x.is=true) (ha:x.args.length=4) (m2:Bm) (hm:m'=Bm.begin c c.cap.toNat progs m2) (hu:m2.b.u=u) (hs:m2.b.s=0) (hann:m2.b.ann=x.ann) (harg:m2.b.args=x.args) (hv:VR x.v m2.e.v) (hst:m2.e.v.step=0) (hns:m2.e.v.s=1)
   (hb:0≤m2.e.v.block∧m2.e.v.block≤1000) (h2:b.nt=m2.e.p.nt∧b.nl=m2.e.p.nl∧m2.e.p.wt=p.wt∧m2.e.p.wl=p.wl∧b.puts=m2.e.puts∧b.rows=m2.rows)
theorem VR.ns {r:Rv}{v:Vw}(h:VR r v)(hs:v.s≠2):r.stale=false:=by
 cases e:r.stale with
 | false=>rfl
 | true=>exact absurd (h.stale.1 e) hs
def ldR (v:Rv)(o:Out)(t:Tp):Rv×Nat×Int:=if t.need=true then (v,0,0) else if v.seq<o.was.seq then ({ v with stale:=true },0,2) else (v,o.was.val,1)
theorem rload_ldR (os:List Out)(v:Rv)(a:Int)(t:Tp):rload os v a t=((tdo os t (mop 0 a 0)).1,ldR v (tdo os t (mop 0 a 0)).2 (tdo os t (mop 0 a 0)).1):=by
 unfold rload ldR;split
 ·rfl
 split<;>rfl
theorem ldR_live (v:Rv)(o:Out)(n:Nat):ldR v o (.live n)=if v.seq<o.was.seq then ({ v with stale:=true },0,2) else (v,o.was.val,1):=rfl
theorem ldR_need (v:Rv)(o:Out){t:Tp}(h:t.need=true):ldR v o t=(v,0,0):=by unfold ldR;rw [if_pos h]
theorem rcall_sim (hc:Small c)(hf:0≤c.fuel∧c.fuel≤1000){u:Nat}{b:Rb}{m:Bm}(h:BR c progs p u b m)(hu:(u:Int)<c.threads){n:Nat}(hn:n≤os.length) :
  Sim (XB c progs) os (rcall c os b.v u) (fun x m' _=>RCK c progs p u b x m') (fun x _=>x.s≠2) m n:=by
 have hask:(XB c progs).ask m=(mop 0 (c.at 1 u 0) 0,true):=by
  rw [XB_ask];unfold Bm.ask;have:=h.nx;rw [if_neg (fun e=>e h.s),if_neg (by omega),if_pos h.nx,h.u]
 refine ((Sim.do hask hn).bind hn (S:=fun o t=>rcall1 c os b.v u o.was t) (fun o t ht=>by unfold rcall1;rw [if_pos (.inl ht)]) (fun o _ t ht _=>by unfold rcall1;rw [if_pos (.inl ht)];exact (by decide:(1:Int)≠2)) (fun o m' i hi hin e=>?_)).eq rfl;obtain ⟨rfl,rfl,hk2,ho⟩:=e;have hb1:Binv c progs ((XB c progs).tell m o):=Binv.tell hc hf h.inv o
 have e1:(XB c progs).tell m o=Bm.announce c c.cap.toNat { m with b:={ m.b with ann:=o.was } }:=by
  rw [XB_tell];unfold Bm.tell;have:=h.nx;rw [if_neg (fun e=>e h.s),if_neg (by omega),if_pos h.nx]
 rw [e1] at hb1⊢;unfold Bm.announce at hb1⊢;dsimp only at hb1⊢
 by_cases ha:o.was.seq=0
 ·rw [if_pos ha] at hb1⊢
  refine (Sim.ret (a:=(⟨b.v,o.was,args0,false,1⟩:Rc)) (RCK.none rfl rfl ?_)).eq (by unfold rcall1;rw [if_pos (.inr ha)]);exact bpass (m:={ m with b:={ m.b with ann:=o.was } }) hu ⟨h.u,h.s,h.v,h.step,h.nt,h.nl,h.wt,h.wl,h.puts,h.rows,h.ns⟩ hb1
 rw [if_neg ha] at hb1⊢;have h7:c.what (c.at 7 u 0)=(7,(u:Int),0):=at_rest hc (kind:=7) ⟨by decide,by decide⟩ ⟨by omega,by show (u:Int)<c.threads;exact hu⟩ ⟨by decide,(by show (0:Int)<1;decide)⟩;have hin7:c.f7≤c.at 7 u 0∧c.at 7 u 0<c.f16:=(Cfg.kwhat hc _).1 (by rw [h7];exact ⟨(by decide:(7:Int)≤7),(by decide:(7:Int)<16)⟩);have hst:=h.v.ns h.ns
 have ecell:m.e.v.cell c (c.at 7 u 0)={ m.e.v with val:=0,step:=3,s:=0,at_:=c.at 7 u 0 }:=by
  unfold Vw.cell Vw.begB Vw.beg;rw [if_neg h.ns,if_neg h.ns,h7];rfl
 have hcu:c.at 7 m.b.u 0=c.at 7 u 0:=by rw [h.u]
 rw [hcu,ecell] at hb1⊢;have hnd:¬ (Tp.live (n+1)).need=true:=Bool.false_ne_true
 have hask2:(XB c progs).ask { m with b:={ m.b with ann:=o.was,next:=2 },e:={ m.e with v:={ m.e.v with val:=0,step:=3,s:=0,at_:=c.at 7 u 0 } } }=(mop 0 (c.at 7 u 0) 0,true):=by
  rw [XB_ask];unfold Bm.ask;dsimp only;rw [if_neg (fun e=>e h.s),if_neg (by decide),if_neg (by decide),if_pos rfl];unfold Vw.ask;dsimp only;rw [if_neg (by decide),if_neg (by decide),if_pos rfl]
 refine ((Sim.do hask2 hk2).bind hk2 (S:=fun o2 t=>rcall2 c os o.was u (ldR b.v o2 t) t) (fun o2 t ht=>rcall2_dead ht _ _ _) (fun o2 _ t ht _=>?_) (fun o2 m' i hi hin e=>?_)).eq ?_
 ·unfold rcall2
  rw [ldR_need _ _ ht,if_pos (.inl (by show (0:Int)≠1;decide))];exact (by decide:(0:Int)≠2)
 ·obtain ⟨rfl,rfl,hk3,ho2⟩:=e
  have hb2:=Binv.tell hc hf hb1 o2;have hnd2:¬ (Tp.live (n+1+1)).need=true:=Bool.false_ne_true;rw [← XB_tell] at hb2
  have e2:(XB c progs).tell { m with b:={ m.b with ann:=o.was,next:=2 },e:={ m.e with v:={ m.e.v with val:=0,step:=3,s:=0,at_:=c.at 7 u 0 } } } o2=Bm.tag c c.cap.toNat { m with b:={ m.b with ann:=o.was,next:=2 },e:={ m.e with v:=(if m.e.v.seq<o2.was.seq then { m.e.v with val:=0,step:=0,s:=2,at_:=c.at 7 u 0 } else { m.e.v with val:=o2.was.val,step:=0,s:=1,at_:=c.at 7 u 0 }) } }:=by
   rw [XB_tell];unfold Bm.tell;dsimp only;rw [if_neg (fun e=>e h.s),if_neg (by decide),if_neg (by decide),if_pos rfl];unfold Vw.tell;dsimp only;rw [if_neg (by decide),if_pos (.inr rfl)];unfold Vw.loaded;dsimp only
   by_cases hs:m.e.v.seq<o2.was.seq
   ·rw [if_pos hs,if_pos hs]
   ·rw [if_neg hs,if_neg hs,if_pos rfl]
  rw [e2] at hb2⊢;unfold Bm.tag at hb2⊢
  by_cases hs:m.e.v.seq<o2.was.seq
  ·rw [if_pos hs] at hb2⊢
   dsimp only at hb2⊢;rw [if_pos rfl] at hb2⊢;refine (Sim.ret (a:=(⟨{ b.v with stale:=true },o.was,args0,false,2⟩:Rc)) (RCK.stale rfl rfl)).eq ?_;rw [ldR_live,if_pos (by rw [h.v.seq];exact hs)];unfold rcall2;rw [if_pos (.inl (by show (2:Int)≠1;decide))]
  rw [if_neg hs] at hb2⊢;dsimp only at hb2⊢;rw [if_neg (show ¬ ((1:Int)=2) by decide)] at hb2⊢
  have hvr:VR b.v { m.e.v with val:=o2.was.val,step:=0,s:=1,at_:=c.at 7 u 0 }:=⟨h.v.who,h.v.seq,h.v.held,by rw [hst];simp⟩
  have hr:ldR b.v o2 (.live (n+1+1))=(b.v,o2.was.val,1):=by rw [ldR_live,if_neg (by rw [h.v.seq];exact hs)]
  by_cases hv:o2.was.val=o.was.seq
  ·rw [if_pos hv] at hb2⊢
   refine (Sim.ret (a:=(⟨b.v,o.was,args0,false,1⟩:Rc)) (RCK.none rfl rfl ?_)).eq ?_
   ·exact bpass (m:={ m with b:={ m.b with ann:=o.was,next:=2 },e:={ m.e with v:={ m.e.v with val:=o2.was.val,step:=0,s:=1,at_:=c.at 7 u 0 } } }) hu ⟨h.u,h.s,hvr,rfl,h.nt,h.nl,h.wt,h.wl,h.puts,h.rows,by show (1:Int)≠2;decide⟩ hb2
   ·rw [hr]
    unfold rcall2;rw [if_pos (.inr hv)]
  ·rw [if_neg hv] at hb2⊢
   have hra:=rargs_sim (os:=os) (progs:=progs) (c:=c) (u:=(u:Int)) (m:={ m with b:={ m.b with ann:=o.was,next:=2 },e:={ m.e with v:={ m.e.v with val:=o2.was.val,step:=0,s:=1,at_:=c.at 7 u 0 } } }) h.u h.s 3 0 args0 m.b.args rfl rfl h.inv.gen.args rfl hk3;refine (hra.bind hk3 (S:=fun l t=>(t,(⟨b.v,o.was,l,!t.need,1⟩:Rc))) (fun _ _ _=>rfl) (fun _ _ _ _ _=>(by decide:(1:Int)≠2)) (fun l m' i hi hin e=>?_)).eq ?_
   ·obtain ⟨rfl,hl⟩:=e
    refine Sim.ret (a:=(⟨b.v,o.was,l,true,1⟩:Rc)) ?_;have hvb:=h.inv.gen.vb;exact RCK.some rfl rfl hl _ rfl h.u h.s rfl rfl hvr rfl rfl hvb ⟨h.nt,h.nl,h.wt,h.wl,h.puts,h.rows⟩
   ·rw [hr]
    unfold rcall2;rw [if_neg (fun e=>e.elim (fun e=>e rfl) hv)]
 ·have e3:rcell c os b.v (c.at 7 u 0) (.live (n+1))=rload os b.v (c.at 7 u 0) (.live (n+1)):=by
   unfold rcell;rw [if_neg (by rw [hst];decide),if_neg (by omega)]
  unfold rcall1;rw [if_neg (fun e=>e.elim hnd ha),e3,rload_ldR]
end
def wtl (p:Po):Int×Int:=(p.wt,p.wl)
theorem once_wt (c:Cfg)(room:Nat)(code:List Ins)(m:Xm):wtl (m.once c room code).p=wtl m.p:=by
 have hp:∀ x:Xm,wtl (x.pay c).1.p=wtl x.p:=fun x=>by unfold Xm.pay Xm.fail;split<;>rfl
 have hg:∀ (x:Xm) (v:Nat),wtl (x.goOn c room v).p=wtl x.p:=fun x v=>by
  unfold Xm.goOn;split
  ·rfl
  split
  ·unfold Xm.taken Xm.fail
   split<;>rfl
  split
  ·split<;>exact hp x
  split
  ·split<;>exact hp x
  ·rfl
 have hf:∀ (x:Xm) (a:Int),wtl (x.fetch c room a).p=wtl x.p:=fun x a=>by
  unfold Xm.fetch;split
  ·exact hg x _
  ·rfl
 unfold Xm.once;split
 ·unfold Xm.step
  split
  ·rfl
  ·show wtl (Xm.does c room (m.begun _)).p=wtl (m.begun (code.getD m.x.pc.toNat ins0)).p
   generalize m.begun (code.getD m.x.pc.toNat ins0)=x;unfold Xm.does;split
   ·rfl
   split
   ·split<;>rfl
   split
   ·rfl
   split
   ·rfl
   split
   ·unfold Xm.root
    split
    ·rfl
    split
    ·split<;>exact hp x
    ·exact hf x _
   split
   ·unfold Xm.touch
    split
    ·rfl
    split
    ·split
     ·exact hg x _
     ·rfl
    split
    ·exact hg x _
    ·rfl
   split
   ·unfold Xm.fresh
    split
    ·split
     ·exact (hf _ _).trans (hp x)
     ·exact hp x
    ·exact hp x
   ·rfl
 split
 ·rfl
 split
 ·rfl
 ·exact hg _ _
theorem run_wt (c:Cfg)(room:Nat)(code:List Ins):∀ (k:Nat) (m:Xm),wtl (Xm.runN c room code k m).p=wtl m.p
 | 0,_=>rfl
 | k+1,m=>by
  unfold Xm.runN;split
  ·rfl
  ·rw [run_wt c room code k,once_wt]
section
variable {c:Cfg}{os:List Out}{progs:Progs}{p:Rp}
theorem begin_sim (_hc:Small c)(hf:0≤c.fuel∧c.fuel≤1000){m2:Bm}(hs:m2.b.s=0)(hargs:m2.b.args.length=4){rv:Rv}(hv:VR rv m2.e.v)(h0:m2.e.v.step=0)(hs1:m2.e.v.s=1)(hvb:0≤m2.e.v.block∧m2.e.v.block≤1000)(hS:Start c m2.e.puts m2.e.p.nt m2.e.p.nl){n:Nat}(hn:n≤os.length) :
  Sim (XB c progs) os (rplay c os c.cap.toNat (progOf progs m2.b.ann.val) m2.b.args rv m2.e.p.nt m2.e.p.nl m2.e.puts)
   (fun r m' _=>∃ e',m'=Bm.ran c c.cap.toNat { m2 with b:={ m2.b with next:=4 },e:=e' }∧XP r e' m2.e.puts m2.e.p.nt m2.e.p.nl∧(0≤e'.x.rc∧e'.x.rc≤100)∧e'.p.wt=m2.e.p.wt∧e'.p.wl=m2.e.p.wl) (fun r _=>r.s=0) (Bm.begin c c.cap.toNat progs m2) n:=by
 have hgo:Vgo m2.e.v:=fun e=>by omega
 have hp:=play_sim (os:=os) (room:=c.cap.toNat) (code:=progOf progs m2.b.ann.val) hS hf.1 m2.b.args hargs hv h0 (by omega) hgo hvb m2.e.p rfl rfl hn
 have hk:=hp.keep (f:=fun x:Xm=>wtl x.p) (fun x o=>by
  show wtl (Xm.tell c c.cap.toNat (progOf progs m2.b.ann.val) x o).p=wtl x.p;unfold Xm.tell;split
  ·exact run_wt c _ _ _ _
  ·rfl)
 have hl:=hk.lift (Y:=XB c progs) (fun e=>Bm.ran c c.cap.toNat { m2 with b:={ m2.b with next:=4 },e:=e }) (fun _=>True) (fun _ _ _ _=>trivial) (fun x _ ha=>by
  have hx:x.x.s=0:=by
   have ha:(x.ask c).2=true:=ha;unfold Xm.ask at ha
   by_cases h:x.x.s=0
   ·exact h
   ·rw [if_pos h] at ha;cases ha
  have er:Bm.ran c c.cap.toNat { m2 with b:={ m2.b with next:=4 },e:=x }={ m2 with b:={ m2.b with next:=4 },e:=x }:=by
   unfold Bm.ran;dsimp only;rw [if_neg (by omega),if_neg (by omega)]
  dsimp only;rw [er];refine ⟨?_,fun o=>?_⟩
  ·rw [XB_ask]
   unfold Bm.ask;dsimp only;rw [if_neg (fun e=>e hs),if_neg (by decide),if_neg (by decide),if_neg (by decide),if_neg (by decide)];rfl
  ·rw [XB_tell]
   unfold Bm.tell;dsimp only;rw [if_neg (fun e=>e hs),if_neg (by decide),if_neg (by decide),if_neg (by decide),if_neg (by decide)]
   rfl) trivial
 refine hl.mono (fun r m' k hh=>?_) (fun r m' hh=>?_)
 ·obtain ⟨e',e1,_,⟨hx,j,hr⟩,hw⟩:=hh
  have hnum:=hr.num hS
  have hw0:wtl (Xm.start c c.cap.toNat (progOf progs m2.b.ann.val) m2.e.v m2.e.p m2.e.puts m2.b.args).p=wtl m2.e.p:=by
   unfold Xm.start;split
   ·exact run_wt c _ _ _ _
   ·rfl
  have hw:=hw.trans hw0
  injection hw with hw1 hw2
  exact ⟨e',e1,hx,hnum.1,hw1,hw2⟩
 ·obtain ⟨_,_,_,_,hN,_⟩:=hh
  exact hN
theorem rmkP_dead {room:Nat}{k u:Nat}{rows:List BRow}{tag:Nat}{r:Rr}{t:Tp}(h:t.need=true):(rmkP c os room progs p k u rows tag r t).1=t:=by
 unfold rmkP;split
 ·rfl
 ·exact rmk_dead h
theorem rmk_sim (hc:Small c)(hf:0≤c.fuel∧c.fuel≤1000):∀ (k u:Nat) (b:Rb) (m:Bm),u+k=c.threads.toNat→BK c progs p u b m→∀ {n:Nat},n≤os.length→
  Sim (XB c progs) os (rmk c os c.cap.toNat progs p k u b) (fun x m' _=>BE x m') (fun x _=>x.2.2=0) m n
 | 0,u,b,m,hk,hb,n,hn=>by
  have ht:=hc.t0
  rcases hb with ⟨h,_⟩|⟨_,h1,h2,h3⟩
  ·omega
  ·exact Sim.ret (a:=(endP c c.cap.toNat (p.po b.nt b.nl) b.puts,b.rows,1)) ⟨h1, .inl rfl,fun _=>⟨h2,h3⟩⟩
 | k+1,u,b,m,hk,hb,n,hn=>by
  have ht:=hc.t0
  rcases hb with ⟨hu,h⟩|⟨h,_⟩
  rotate_left
  ·omega
  refine (((rcall_sim hc hf h hu hn).binv hc hf h.inv).bind hn (S:=fun x t=>rmkC c os c.cap.toNat progs p k u b x t) (fun x t ht=>(rmkC_dead ht).1) (fun x _ t ht hx=>(rmkC_dead ht).2 hx) (fun x m' i hi hin e=>?_)).eq (rmk_succ _ _ _ _ _ _ _ _ _);obtain ⟨e,hbi⟩:=e;have hnd:¬ (Tp.live i).need=true:=Bool.false_ne_true
  cases e with
  | stale h1 h2 =>
   refine (Sim.ret (a:=(([],[],2):RbE)) ⟨h2, .inr rfl,fun e=>absurd (show (2:Int)=1 from e) (by decide)⟩).eq ?_;unfold rmkC;rw [if_pos h1]
  | none h1 h2 h3 =>
   refine (rmk_sim hc hf k (u+1) { b with v:=x.v } m' (by omega) h3 hin).eq ?_;unfold rmkC;rw [if_neg (by omega),if_neg hnd,if_pos h2]
  | some h1 h2 h3 m2 h4 h5 h6 h7 h8 h9 h10 h11 h12 h13 =>
   obtain ⟨g1,g2,g3,g4,g5,g6⟩:=h13
   have hS:Start c m2.e.puts m2.e.p.nt m2.e.p.nl:=⟨hc,hf.2,by rw [← g5,h.puts];have:=h.inv.len;omega,by rw [← g1,h.nt];exact h.inv.gen.nt,by rw [← g2,h.nl];exact h.inv.gen.nl⟩
   rw [h4] at hbi⊢;have hbs:=(begin_sim (os:=os) (progs:=progs) hc hf h6 (by rw [h8];exact h3) h9 h10 h11 h12 hS hin).binv hc hf hbi;refine (hbs.bind hin (S:=fun r t=>rmkP c os c.cap.toNat progs p k u b.rows x.ann.seq r t) (fun r t ht=>rmkP_dead ht) (fun r _ t ht hr=>?_) (fun r m3 l hl hln e=>?_)).eq ?_
   ·unfold rmkP
    rw [if_pos (by omega)];exact hr
   ·obtain ⟨⟨e',rfl,hx,hrc,hw1,hw2⟩,hb3⟩:=e
    have hs:=hx.s;unfold Bm.ran at hb3⊢;dsimp only at hb3⊢
    rcases hs.2 with e1|e2
    ·have a1:¬ e'.x.s=2:=by omega
     rw [if_neg a1,if_pos e1] at hb3⊢;obtain ⟨k1,k2,k3,k4,k5,k6⟩:=hx.ok e1
     have hrow:rrow u x.ann.seq r=(⟨m2.b.u,m2.b.ann.seq,e'.x.rc,e'.x.rv,e'.news⟩:BRow):=by
      unfold rrow;rw [k1,k2,k3,h5,h7]
     refine (rmk_sim hc hf k (u+1) ⟨r.v,r.nt,r.nl,rput3 c c.cap.toNat r.puts (rrow u x.ann.seq r),b.rows++[rrow u x.ann.seq r]⟩ _ (by omega) (bpass (m:=Bm.told c c.cap.toNat { m2 with b:={ m2.b with next:=4 },e:=e' }) hu ⟨h5,h6,hx.v,hx.step,k4,k5,hw1.trans g3,hw2.trans g4, ?_, ?_,hx.ns e1⟩ hb3) hln).eq ?_
     ·show rput3 c c.cap.toNat r.puts (rrow u x.ann.seq r)=putP c.cap.toNat (putP c.cap.toNat (putP c.cap.toNat e'.puts (c.at 8 m2.b.u 0) e'.x.rc.toNat) (c.at 9 m2.b.u 0) e'.x.rv) (c.at 7 m2.b.u 0) m2.b.ann.seq
      rw [hrow,k6];rfl
     ·show b.rows++[rrow u x.ann.seq r]=m2.rows++[⟨m2.b.u,m2.b.ann.seq,e'.x.rc,e'.x.rv,e'.news⟩]
      rw [hrow,g6]
     ·unfold rmkP
      rw [if_neg (by omega)]
    ·rw [if_pos e2] at hb3⊢
     refine (Sim.ret (a:=(([],[],2):RbE)) ⟨rfl, .inr rfl,fun e=>absurd (show (2:Int)=1 from e) (by decide)⟩).eq ?_
     have a2:r.s=2:=by omega
     unfold rmkP;rw [a2,if_pos (by decide)]
   ·unfold rmkC
    rw [if_neg (by omega),if_neg hnd,if_neg (by rw [h2];decide),h7,h8,g1,g2,g5]
theorem rmake_sim (hc:Small c)(hf:0≤c.fuel∧c.fuel≤1000)(who:Int)(seq:Nat){n:Nat}(hn:n≤os.length) :
  Sim (XB c progs) os (rmake c os who seq progs) (fun x m' _=>BE x m'∧Binv c progs m') (fun x _=>x.2.2=0) (Bm.new who seq) n:=by
 have ht:=hc.t0;have hi0:Binv c progs (Bm.new who seq):=Binv.new hc who seq
 have hg0:(Bm.pooled c c.cap.toNat { Bm.new who seq with e:={ (Bm.new who seq).e with p:=Po.new seq } })=Bm.new who seq:=by
  unfold Bm.pooled;rw [if_neg (by show ¬ ((0:Int)=2);decide),if_neg (by show ¬ ((0:Int)=1);decide)];rfl
 have hl:=(rread_sim (os:=os) hc seq hn).lift (Y:=XB c progs) (fun q=>Bm.pooled c c.cap.toNat { Bm.new who seq with e:={ (Bm.new who seq).e with p:=q } }) (fun _=>True) (fun _ _ _ _=>trivial) (fun q _ ha=>by
  have hq:q.s=0:=by
   rw [XPo_ask] at ha;unfold Po.ask at ha
   by_cases h:q.s=0
   ·exact h
   ·rw [if_pos h] at ha;cases ha
  have er:Bm.pooled c c.cap.toNat { Bm.new who seq with e:={ (Bm.new who seq).e with p:=q } }={ Bm.new who seq with e:={ (Bm.new who seq).e with p:=q } }:=by
   unfold Bm.pooled;dsimp only;rw [if_neg (by omega),if_neg (by omega)]
  dsimp only;rw [er];refine ⟨?_,fun o=>?_⟩
  ·rw [XB_ask]
   unfold Bm.ask;rw [if_neg (by show ¬ ((0:Int)≠0);decide),if_pos (by show (0:Int)=0;rfl)];rfl
  ·rw [XB_tell]
   unfold Bm.tell;rw [if_neg (by show ¬ ((0:Int)≠0);decide),if_pos (by show (0:Int)=0;rfl)]
   rfl) trivial
 dsimp only at hl;rw [hg0] at hl;refine Sim.binv hc hf ?_ hi0;refine ((hl.binv hc hf hi0).bind hn (S:=fun x t=>if x.2≠1 then (t,([],[],x.2)) else rmk c os c.cap.toNat progs x.1 c.threads.toNat 0 ⟨.new who seq,(setGo c c.cap.toNat x.1.named 0 x.1.limbo ⟨0,x.1.wt,[]⟩).nt,((setGo c c.cap.toNat x.1.named 0 x.1.limbo ⟨0,x.1.wt,[]⟩).kept:Int),(setGo c c.cap.toNat x.1.named 0 x.1.limbo ⟨0,x.1.wt,[]⟩).puts,[]⟩ t) (fun x t h=>?_) (fun x _ t h hx=>?_) (fun x m' i hi hin e=>?_)).eq (by unfold rmake;rfl)
 ·split
  ·rfl
  ·exact rmk_dead h
 ·obtain ⟨q,_,_,_,hx⟩:=hx
  rw [if_pos (by omega)];exact hx
 ·obtain ⟨⟨q,rfl,_,hq⟩,hb⟩:=e
  unfold Bm.pooled at hb⊢;dsimp only at hb⊢
  rcases hq.s2 with h1|h2
  ·obtain ⟨k1,k2,k3,k4,k5,k6⟩:=hq.ok h1
   have a1:¬ q.s=2:=by have:=hq.s;omega
   have a2:q.s=1:=by have:=hq.s;omega
   rw [if_neg a1,if_pos a2] at hb⊢
   have hgp:(setGo c c.cap.toNat q.names 0 q.limbo ⟨0,q.nt,(Bm.new who seq).e.puts⟩)=setGo c c.cap.toNat x.1.named 0 x.1.limbo ⟨0,x.1.wt,[]⟩:=by rw [k1,k2,k5];rfl
   refine (rmk_sim hc hf c.threads.toNat 0 ⟨.new who seq,(setGo c c.cap.toNat x.1.named 0 x.1.limbo ⟨0,x.1.wt,[]⟩).nt,((setGo c c.cap.toNat x.1.named 0 x.1.limbo ⟨0,x.1.wt,[]⟩).kept:Int),(setGo c c.cap.toNat x.1.named 0 x.1.limbo ⟨0,x.1.wt,[]⟩).puts,[]⟩ _ (by omega) (.inl ⟨by show (0:Int)<c.threads;omega,⟨rfl,rfl,rfl,VR.new who seq,rfl, ?_, ?_,k3,k4, ?_,rfl,(by show (1:Int)≠2;decide),hb⟩⟩) hin).eq ?_
   ·show _=(setGo c c.cap.toNat q.names 0 q.limbo ⟨0,q.nt,(Bm.new who seq).e.puts⟩).nt
    rw [hgp]
   ·show _=((setGo c c.cap.toNat q.names 0 q.limbo ⟨0,q.nt,(Bm.new who seq).e.puts⟩).kept:Int)
    rw [hgp]
   ·show _=(setGo c c.cap.toNat q.names 0 q.limbo ⟨0,q.nt,(Bm.new who seq).e.puts⟩).puts
    rw [hgp]
   ·rw [if_neg (by omega)]
  ·have a1:q.s=2:=by have:=hq.s;omega
   rw [if_pos a1] at hb⊢;refine (Sim.ret (a:=(([],[],2):RbE)) ⟨rfl, .inr rfl,fun e=>absurd (show (2:Int)=1 from e) (by decide)⟩).eq ?_;rw [h2,if_pos (by decide)]
end
end Go.Proofs.YthmbgodcpgkkeaaGreat
