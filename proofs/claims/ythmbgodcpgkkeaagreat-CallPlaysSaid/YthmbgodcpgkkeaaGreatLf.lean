/-
  Package tumblerref15, in plain terms: Play. Package tumblerref15: Code, load, end, alone. Packages tumblerref12, tumblerref13: open, block, Write. Package tumblerref13: Write.
-/
import Derived.Test.YthmbgodcpgkkeaaGreatKp
import Derived.Test.YthmbgodcpgkkeaaGreatLb
import Derived.Test.YthmbgodcpgkkeaaGreatRefb
import Derived.Test.YthmbgodcpgkkeaaGreatLl
import Derived.Test.YthmbgodcpgkkeaaGreatKk
set_option maxRecDepth 100000
namespace Go.Proofs.YthmbgodcpgkkeaaGreat
def rownL2 (_x:Rs)(k:Rs→Tp→Tp×Rs)(y:Rs×Bool)(t:Tp):Tp×Rs:=if y.2=true then k y.1 t else (t,y.1)
def rownL1 (c:Cfg)(os:List Out)(p:Cp)(progs:Progs)(k:Rs→Tp→Tp×Rs)(x:Rs×Cell)(t:Tp):Tp×Rs :=
 if x.1.done=true∨t.need=true then (t,x.1) else rownL2 x.1 k (rreads c os p progs x.1 x.2.seq t).2 (rreads c os p progs x.1 x.2.seq t).1
def rownL (c:Cfg)(os:List Out)(p:Cp)(progs:Progs):Nat→Rs→Tp→Tp×Rs
 | 0,s,t=>(t,s)
 | k+1,s,t=>rownL1 c os p progs (rownL c os p progs k) (rlook c os p progs s t).2 (rlook c os p progs s t).1
def rloop1 (c:Cfg)(os:List Out)(p:Cp)(progs:Progs)(k:Rs→Tp→Tp×Rs)(x:Rs×Cell)(t:Tp):Tp×Rs :=
 if x.1.done=true∨t.need=true then (t,x.1) else k (rtry c os p progs x.1 x.2 t).2 (rtry c os p progs x.1 x.2 t).1
def rloop (c:Cfg)(os:List Out)(p:Cp)(progs:Progs):Nat→Rs→Tp→Tp×Rs
 | 0,s,t=>(t,s)
 | k+1,s,t=>if s.done=true∨t.need=true then (t,s) else rloop1 c os p progs (rloop c os p progs k) (rlook c os p progs s t).2 (rlook c os p progs s t).1
def ownB (p:Cp)(progs:Progs):Bool:=!rightB (p.code progs) || onlyB (p.code progs)
def rcplay2 (c:Cfg)(os:List Out)(p:Cp)(progs:Progs)(s:Rs)(t:Tp):Tp×Rs:=if s.done=true∨t.need=true then (t,s) else rloop c os p progs (os.length+1) s (ranL c os p 4 0 t)
def rcplay (c:Cfg)(os:List Out)(p:Cp)(progs:Progs)(t:Tp):Tp×Rs :=
 if ownB p progs=true then rcplay2 c os p progs (rownL c os p progs 2 .new t).2 (rownL c os p progs 2 .new t).1 else rcplay2 c os p progs .new t
section
variable {c:Cfg}{os:List Out}{p:Cp}{progs:Progs}{s:Rs}{t:Tp}
theorem rownL1_dead (h:t.need=true)(k:Rs→Tp→Tp×Rs)(x:Rs×Cell):rownL1 c os p progs k x t=(t,x.1):=by unfold rownL1;rw [if_pos (.inr h)]
theorem rloop1_dead (h:t.need=true)(k:Rs→Tp→Tp×Rs)(x:Rs×Cell):rloop1 c os p progs k x t=(t,x.1):=by unfold rloop1;rw [if_pos (.inr h)]
theorem rloop_dead (h:t.need=true)(k:Nat):rloop c os p progs k s t=(t,s):=by
 cases k with
 | zero=>rfl
 | succ k=>unfold rloop;rw [if_pos (.inr h)]
theorem rcplay2_dead (h:t.need=true):rcplay2 c os p progs s t=(t,s):=by unfold rcplay2;rw [if_pos (.inr h)]
end
theorem rlook_dead2 {c:Cfg}{os:List Out}{p:Cp}{progs:Progs}{s:Rs}{t:Tp}(h:t.need=true):(rlook c os p progs s t).2.1=s:=by
 unfold rlook rlook1;rw [tdo_dead h,if_pos h]
theorem rownL_dead {c:Cfg}{os:List Out}{p:Cp}{progs:Progs}{s:Rs}{t:Tp}(h:t.need=true)(k:Nat):rownL c os p progs k s t=(t,s):=by
 cases k with
 | zero=>rfl
 | succ k=>rw [rownL,rownL1_dead (by rw [rlook_dead h];exact h),rlook_dead h,rlook_dead2 h]
attribute [irreducible] rownL1 rloop1 rcplay2
section
variable {c:Cfg}{os:List Out}{p:Cp}{progs:Progs}
theorem rownL_sim (hc:Small c)(hf:0≤c.fuel∧c.fuel≤1000)(ha4:p.args.length=4):∀ (k:Nat) {s:Rs} {m:Cm},m.s.next=2→m.s.asked=false→m.s.tried+k+1=2→0≤m.s.tried→m.s.given=0→∀ {n:Nat},n≤os.length→CT s m n→CG s→
  Sim (XC c p progs) os (rownL c os p progs (k+1) s) (fun x m' i=>(CD x m'∧CT x m' i)∨(CG x∧m'.s.next=0∧m'.s.given=0∧CT x m' i)) (fun x m'=>CG x∧CT x m' os.length) m n:=by
 intro k
 induction k with
 | zero =>
  intro s m h2 has htr htr0 hgi n hn ht hg;refine ((rlook_sim hc h2 hn ht hg).bind (K:=fun x m' i=>(CD x m'∧CT x m' i)∨(CG x∧m'.s.next=0∧m'.s.given=0∧CT x m' i)) (N:=fun x m'=>CG x∧CT x m' os.length) hn (S:=fun x t=>rownL1 c os p progs (rownL c os p progs 0) x t) (fun x t h=>by rw [rownL1_dead h]) (fun x m' t h he=>by rw [rownL1_dead h];exact he) (fun x m' i hi hin he=>?_)).eq (by unfold rownL;rfl);have hnd:¬ (Tp.live i).need=true:=Bool.false_ne_true
  cases he with
  | done h1 h3=>exact (Sim.ret (a:=x.1) (.inl ⟨h1,h3⟩)).eq (by unfold rownL1;rw [if_pos (.inl h1.done)])
  | try_ m2 h1 hr hs hnw ha htd hgv hfr hd h0 ht2 =>
   obtain ⟨l,hs⟩:=hs
   have hg2:CG x.1:=by rw [hs];exact ⟨hg.done,hg.alone⟩
   have et:m2.try_ c p progs=m2.run c p progs:=by unfold Cm.try_;rw [if_neg (by rw [ha,has];decide)]
   rw [h1,et];have hrs:=rreads_sim (os:=os) (p:=p) (progs:=progs) hc hf ha4 hfr hd hin (by omega) ht2 hg2;rw [hnw] at hrs;refine (hrs.bind (K:=fun x m' i=>(CD x m'∧CT x m' i)∨(CG x∧m'.s.next=0∧m'.s.given=0∧CT x m' i)) (N:=fun x m'=>CG x∧CT x m' os.length) hin (S:=fun y t=>rownL2 x.1 (rownL c os p progs 0) y t) (fun y t _=>by unfold rownL2;split<;>rfl) (fun y m' t h he=>by unfold rownL2;split<;>exact he) (fun y m' j hj hjn he=>?_)).eq (by unfold rownL1;rw [if_neg (fun e=>e.elim (fun e=>by rw [hg2.done] at e;cases e) hnd)])
   cases he with
   | done g1 g2 g3=>exact (Sim.ret (a:=y.1) (.inl ⟨g1,g3⟩)).eq (by unfold rownL2;rw [if_neg (by rw [g2];decide)])
   | again g1 g2 wk g3 =>
    have e:m'.s.next=0∧m'.s.given=0∧m'.s.fresh=false∧m'.s.did=false:=by
     rw [g3];unfold Cs.stale;dsimp only;rw [htd,if_pos ⟨by rw [show m.s.tried+1=2 by omega];decide,ha.trans has⟩];exact ⟨rfl,hgv.trans hgi,hfr,hd⟩
    refine (Sim.ret (a:=y.1) (.inr ⟨by rw [g2];exact hg2,e.1,e.2.1, ?_⟩)).eq (by unfold rownL2;rw [if_pos g1];rfl);rw [g2];exact ht2.more hj (by omega) ⟨hfr,hd⟩ e.2.2.1 e.2.2.2
 | succ k ih =>
  intro s m h2 has htr htr0 hgi n hn ht hg;refine ((rlook_sim hc h2 hn ht hg).bind (K:=fun x m' i=>(CD x m'∧CT x m' i)∨(CG x∧m'.s.next=0∧m'.s.given=0∧CT x m' i)) (N:=fun x m'=>CG x∧CT x m' os.length) hn (S:=fun x t=>rownL1 c os p progs (rownL c os p progs (k+1)) x t) (fun x t h=>by rw [rownL1_dead h]) (fun x m' t h he=>by rw [rownL1_dead h];exact he) (fun x m' i hi hin he=>?_)).eq (by rw [rownL]);have hnd:¬ (Tp.live i).need=true:=Bool.false_ne_true
  cases he with
  | done h1 h3=>exact (Sim.ret (a:=x.1) (.inl ⟨h1,h3⟩)).eq (by unfold rownL1;rw [if_pos (.inl h1.done)])
  | try_ m2 h1 hr hs hnw ha htd hgv hfr hd h0 ht2 =>
   obtain ⟨l,hs⟩:=hs
   have hg2:CG x.1:=by rw [hs];exact ⟨hg.done,hg.alone⟩
   have et:m2.try_ c p progs=m2.run c p progs:=by unfold Cm.try_;rw [if_neg (by rw [ha,has];decide)]
   rw [h1,et];have hrs:=rreads_sim (os:=os) (p:=p) (progs:=progs) hc hf ha4 hfr hd hin (by omega) ht2 hg2;rw [hnw] at hrs;refine (hrs.bind (K:=fun x m' i=>(CD x m'∧CT x m' i)∨(CG x∧m'.s.next=0∧m'.s.given=0∧CT x m' i)) (N:=fun x m'=>CG x∧CT x m' os.length) hin (S:=fun y t=>rownL2 x.1 (rownL c os p progs (k+1)) y t) (fun y t h=>?_) (fun y m' t h he=>?_) (fun y m' j hj hjn he=>?_)).eq (by unfold rownL1;rw [if_neg (fun e=>e.elim (fun e=>by rw [hg2.done] at e;cases e) hnd)])
   ·unfold rownL2
    split
    ·rw [rownL_dead h]
    ·rfl
   ·unfold rownL2
    split
    ·rw [rownL_dead h];exact he
    ·exact he
   ·cases he with
    | done g1 g2 g3=>exact (Sim.ret (a:=y.1) (.inl ⟨g1,g3⟩)).eq (by unfold rownL2;rw [if_neg (by rw [g2];decide)])
    | again g1 g2 wk g3 =>
     have e:m'.s.next=2∧m'.s.asked=false∧m'.s.tried=m.s.tried+1∧m'.s.given=0∧m'.s.fresh=false∧m'.s.did=false:=by
      rw [g3];unfold Cs.stale;dsimp only;have hw:IntKind.i64.wrap (m.s.tried+1)=m.s.tried+1:=wrap_fits (kd:=.i64) (by simp only [fits];omega);rw [htd,hw,if_neg (fun e=>by omega)];exact ⟨rfl,ha.trans has,rfl,hgv.trans hgi,hfr,hd⟩
     have hih:=ih (s:=y.1) (m:=m') e.1 e.2.1 (by rw [e.2.2.1];omega) (by rw [e.2.2.1];omega) e.2.2.2.1 hjn (by rw [g2];exact ht2.more hj (by omega) ⟨hfr,hd⟩ e.2.2.2.2.1 e.2.2.2.2.2) (by rw [g2];exact hg2);exact hih.eq (by unfold rownL2;rw [if_pos g1])
theorem rloop_sim (hc:Small c)(hf:0≤c.fuel∧c.fuel≤1000)(ha4:p.args.length=4):∀ (k:Nat) {s:Rs} {m:Cm},m.s.next=2→m.s.asked=true→∀ {n:Nat},n≤os.length→os.length - n<k→CT s m n→CG s→
  Sim (XC c p progs) os (rloop c os p progs k s) (fun x m' i=>CD x m'∧CT x m' i) (fun x m'=>CG x∧CT x m' os.length) m n:=by
 intro k
 induction k with
 | zero=>intro s m _ _ n _ hk;exact absurd hk (Nat.not_lt_zero _)
 | succ k ih =>
  intro s m h2 has n hn hk ht hg;refine ((rlook_sim hc h2 hn ht hg).bind (K:=fun x m' i=>CD x m'∧CT x m' i) (N:=fun x m'=>CG x∧CT x m' os.length) hn (S:=fun x t=>rloop1 c os p progs (rloop c os p progs k) x t) (fun x t h=>by rw [rloop1_dead h]) (fun x m' t h he=>by rw [rloop1_dead h];exact he) (fun x m' i hi hin he=>?_)).eq ?_
  ·have hnd:¬ (Tp.live i).need=true:=Bool.false_ne_true
   cases he with
   | done h1 h3=>exact (Sim.ret (a:=x.1) ⟨h1,h3⟩).eq (by unfold rloop1;rw [if_pos (.inl h1.done)])
   | try_ m2 h1 hr hs hnw ha htd hgv hfr hd h0 ht2 =>
    obtain ⟨l,hs⟩:=hs
    have hg2:CG x.1:=by rw [hs];exact ⟨hg.done,hg.alone⟩
    have et:m2.try_ c p progs={ m2 with s:={ m2.s with next:=5 } }:=by unfold Cm.try_;rw [if_pos (by rw [ha,has])]
    rw [h1,et];have hty:=rtry_sim (os:=os) (p:=p) (progs:=progs) hc hf ha4 (s:=x.1) (m:={ m2 with s:={ m2.s with next:=5 } }) rfl (ha.trans has) hfr hd hin (by omega) (ht2.more (Nat.le_refl i) (by omega) ⟨hfr,hd⟩ hfr hd) hg2
    have e:rtry c os p progs x.1 m2.s.now=rtry c os p progs x.1 x.2:=by rw [hnw]
    dsimp only at hty;rw [e] at hty;refine (hty.bind (K:=fun x m' i=>CD x m'∧CT x m' i) (N:=fun x m'=>CG x∧CT x m' os.length) hin (S:=fun z t=>rloop c os p progs k z t) (fun z t h=>by rw [rloop_dead h]) (fun z m' t h he=>by rw [rloop_dead h];exact he) (fun z m' j hj hjn he=>?_)).eq (R':=fun t=>rloop1 c os p progs (rloop c os p progs k) x t) (by unfold rloop1;rw [if_neg (fun e=>e.elim (fun e=>by rw [hg2.done] at e;cases e) hnd)])
    cases he with
    | done g1 g2 =>
     refine (Sim.ret (a:=z) ⟨g1,g2⟩).eq ?_
     cases k with
     | zero=>rfl
     | succ k=>rw [rloop,if_pos (.inl g1.done)]
    | again g1 g2 g3 g4=>exact ih g2 g3 hjn (by omega) g4 g1
  ·show rloop c os p progs (k+1) s (.live n)=_
   rw [rloop,if_neg (fun e=>e.elim (fun e=>by rw [hg.done] at e;cases e) (show ¬ (Tp.live n).need=true from Bool.false_ne_true))]
theorem rcplay2_sim (hc:Small c)(hf:0≤c.fuel∧c.fuel≤1000)(ha4:p.args.length=4){s:Rs}{m:Cm}(h0:m.s.next=0)(hgv:m.s.given=0){n:Nat}(hn:n≤os.length)(ht:CT s m n)(hg:CG s) :
  Sim (XC c p progs) os (rcplay2 c os p progs s) (fun x m' i=>CD x m'∧CT x m' i) (fun x m'=>CG x∧CT x m' os.length) m n:=by
 refine ((ranL_sim (c:=c) (os:=os) (progs:=progs) 4 0 rfl (fun e=>by cases e) (fun _=>⟨h0,hgv⟩) hn ht).bind (K:=fun x m' i=>CD x m'∧CT x m' i) (N:=fun x m'=>CG x∧CT x m' os.length) hn (S:=fun _ t=>rloop c os p progs (os.length+1) s t) (fun _ t h=>by rw [rloop_dead h]) (fun _ m' t h he=>by rw [rloop_dead h];exact ⟨hg,he⟩) (fun _ m' i hi hin he=>?_)).eq ?_
 ·exact rloop_sim hc hf ha4 (os.length+1) he.1 he.2.1 hin (by omega) he.2.2 hg
 ·unfold rcplay2
  rw [if_neg (fun e=>e.elim (fun e=>by rw [hg.done] at e;cases e) (show ¬ (Tp.live n).need=true from Bool.false_ne_true))];rfl
theorem rcplay_sim (hc:Small c)(hf:0≤c.fuel∧c.fuel≤1000)(ha4:p.args.length=4) :
  Sim (XC c p progs) os (rcplay c os p progs) (fun x m' i=>CD x m'∧CT x m' i) (fun x m'=>CG x∧CT x m' os.length) (Cm.new p progs) 0:=by
 have ht:CT .new (Cm.new p progs) 0:=⟨fun e=>(by cases e),fun _=>.inr rfl,fun e=>(by cases e),fun _=>.inr rfl,by show (-1:Int)+1≤0;decide,by show (-1:Int)+1≤0;decide⟩
 have hg:CG .new:=⟨rfl,rfl⟩
 show SimV (XC c p progs) os (rcplay c os p progs (.live 0)) (fun x m' i=>CD x m'∧CT x m' i) (fun x m'=>CG x∧CT x m' os.length) (Cm.new p progs) 0;unfold rcplay
 by_cases ho:ownB p progs=true
 ·have h2:(Cm.new p progs).s.next=2:=by
   unfold ownB at ho;unfold Cm.new;dsimp only;rw [if_neg];rintro ⟨a,b⟩;rw [a,b] at ho
   cases ho
  rw [if_pos ho]
  have hb:=(rownL_sim (os:=os) (progs:=progs) hc hf ha4 1 (s:=.new) (m:=Cm.new p progs) h2 rfl rfl (Int.le_refl 0) rfl (Nat.zero_le _) ht hg).bind (K:=fun x m' i=>CD x m'∧CT x m' i) (N:=fun x m'=>CG x∧CT x m' os.length) (Nat.zero_le _) (S:=fun x t=>rcplay2 c os p progs x t) (fun x t h=>by rw [rcplay2_dead h]) (fun x m' t h he=>by rw [rcplay2_dead h];exact he) (fun x m' i hi hin he=>by
   rcases he with ⟨h1,h3⟩|⟨g1,g2,g3,g4⟩
   ·exact (Sim.ret (a:=x) ⟨h1,h3⟩).eq (by unfold rcplay2;rw [if_pos (.inl h1.done)])
   ·exact rcplay2_sim hc hf ha4 g2 g3 hin g4 g1)
  exact hb
 ·have h0:(Cm.new p progs).s.next=0:=by
   unfold ownB at ho;unfold Cm.new;dsimp only;rw [if_pos];simp only [Bool.or_eq_true,Bool.not_eq_true',not_or,Bool.not_eq_false] at ho;exact ⟨ho.1,by cases e:onlyB (p.code progs) with|true=>exact absurd e ho.2|false=>rfl⟩
  rw [if_neg ho];exact rcplay2_sim hc hf ha4 h0 rfl (Nat.zero_le _) ht hg
theorem rcplay_at (hc:Small c)(hf:0≤c.fuel∧c.fuel≤1000)(ha4:p.args.length=4)(hall:∀ i,i<os.length→((XC c p progs).ask (fedM (XC c p progs) os (Cm.new p progs) i)).2=true) :
  ((rcplay c os p progs (.live 0)).1=.live os.length∧((XC c p progs).ask (fedM (XC c p progs) os (Cm.new p progs) os.length)).2=false∧CD (rcplay c os p progs (.live 0)).2 (fedM (XC c p progs) os (Cm.new p progs) os.length)∧CT (rcplay c os p progs (.live 0)).2 (fedM (XC c p progs) os (Cm.new p progs) os.length) os.length)∨
  (((XC c p progs).ask (fedM (XC c p progs) os (Cm.new p progs) os.length)).2=true∧(rcplay c os p progs (.live 0)).1=⟨os.length,((XC c p progs).ask (fedM (XC c p progs) os (Cm.new p progs) os.length)).1,true⟩∧CG (rcplay c os p progs (.live 0)).2∧CT (rcplay c os p progs (.live 0)).2 (fedM (XC c p progs) os (Cm.new p progs) os.length) os.length):=by
 obtain ⟨m',k,hf1,h⟩:=rcplay_sim (os:=os) (p:=p) (progs:=progs) hc hf ha4;obtain ⟨rfl,hask⟩:=fed_at hf1 (Cm.new p progs) rfl;have hkl:=hf1.len (Nat.zero_le _)
 rcases h with ⟨h1,h2,h3⟩|⟨rfl,h2,h3,h4,h5⟩
 ·have hno:((XC c p progs).ask (fedM (XC c p progs) os (Cm.new p progs) k)).2=false:=by
   rw [XC_ask];unfold Cm.ask;have:=h2.nx;rw [if_neg (by omega),if_neg (by omega),if_neg (by omega),if_neg (by omega),if_neg (by omega),if_neg (by omega),if_neg (by omega)]
  have hk:k=os.length:=by
   rcases Nat.lt_or_ge k os.length with hlt|hge
   ·rw [hall k hlt] at hno;cases hno
   ·omega
  subst hk;exact .inl ⟨h1,hno,h2,h3⟩
 ·exact .inr ⟨h2,h3,h4,h5⟩
end
theorem St.drawS {P:Program}{C:Cx}{k:List Item}{E:Env}{L L1 L0:List HProp}(r1 r2:Nat){b1 b2:Nat}{e1 e2:TypeId}{l1 l2:List Value}{id:Nat}{l:List Oper}(acts:List (Nat×Nat))(T:Then)(bs:List Nat)(hm:P.follows .mixedOrders=true)
  (hok:(Region.noSelect l.toArray && okA l.toArray bs (okT l.toArray bs T true) acts l.toArray.size (Array.replicate l.toArray.size false))=true)
  (_g1:get E r1=some (.pointer (some ⟨b1,0,none⟩))) (_t1:Take (bl b1 e1 l1) L L1) (_g2:get E r2=some (.pointer (some ⟨b2,0,none⟩))) (_t2:Take (bl b2 e2 l2) L1 L0)
  (h:StD P C l.toArray L0 T acts k E L):St P C (.code (.region id l.toArray true)::k) E L:=St.drawTo acts T bs hm hok h
def cpV (c:Cfg)(p:Cp)(pv:Value):List Value:=c.v++(.int .i64 p.who::.int .u64 (p.tag:Int)::pv::.int .i64 p.prog::g4 p.args)
def rsV (ov:Value)(t:Tp)(s:Rs)(rv:Value):List Value:=tpV ov t++[.bool s.alone, .bool s.done, .int .i64 s.e, .int .u64 (s.val:Int), .int .i64 s.look, .int .i64 s.swap,rv]
section
theorem code15_r {q:HProp}{pv:Value}{progs:Progs}(h:ProgsR q pv progs)(c:Cfg)(p:Cp)(h4:p.args.length=4):∃ ad cp,RTri Tryz.prog 150 #[.agg ⟨cpV c p pv⟩] [q] (.slice ad (p.code progs).length cp)∧InsR q (.slice ad (p.code progs).length cp) (p.code progs):=by
 obtain ⟨pad,pcap,rfl,hl,h⟩:=h;obtain ⟨who,tag,prog,args⟩:=p;unfold Cp.code cpV;dsimp only at h4⊢
 match args,h4 with
 | [a0,a1,a2,a3],_ =>
 have hg:g4 [a0,a1,a2,a3]=[.int .u64 (a0:Int), .int .u64 (a1:Int), .int .u64 (a2:Int), .int .u64 (a3:Int)]:=rfl;rw [hg];unfold Cfg.v;dsimp only [List.cons_append,List.nil_append]
 by_cases hn:prog<0∨(progs.length:Int)≤prog
 ·rw [if_pos hn]
  refine ⟨none,0, ?_,none,0,rfl, .inl rfl⟩
  refine RTri.of_reads fun p hp=>?_
  refine TB (vs:=[_]) Tryz.func150 fun w0 F=>?_
  repeat' (first|refine Ga ?_|(refine Gb ?_;intro b)|(refine Ge ?_ ?_<;>intro h<;>try omega)|fail)
  all_goals exact St.d1 Tryz.func150 ⟨_,⟨rfl,rfl⟩,Ent.go⟩
 ·rw [if_neg hn]
  obtain ⟨b,o,l,cv,rfl,hrd,hnth,hi⟩:=h prog.toNat (by omega)
  have e:progs.getD prog.toNat []=progs[prog.toNat]'(by omega):=by rw [List.getD_eq_getElem?_getD,List.getElem?_eq_getElem (by omega)];rfl
  rw [e];obtain ⟨cad,ccp,rfl,_⟩:=id hi;refine ⟨cad,ccp, ?_,hi⟩
  refine RTri.of_reads fun p hp=>?_
  have hrd:=RdC.of_sat hp (ReadsC.here hrd);generalize progs[prog.toNat]'(by omega)=code at hnth
  refine TB (vs:=[_]) Tryz.func150 fun w0 F=>?_
  repeat' (first|refine Ga ?_|(refine Gb ?_;intro b)|(refine Ge ?_ ?_<;>intro h<;>try omega)|fail)
  all_goals exact St.d1 Tryz.func150 ⟨_,⟨rfl,rfl⟩,Ent.go⟩
theorem load15_r {q:HProp}{ov:Value}{os:List Out}(hov:ListR Out.v q ov os)(hos:os.length≤100000)(t:Tp)(ht:t.at_≤100000)(s:Rs)(ra:Option Addr)(rn rc:Nat)(a:Int):RTri Tryz.prog 213 #[.agg ⟨rsV ov t s (.slice ra rn rc)⟩, .int .i64 a] [q]
  (.tuple ⟨[.agg ⟨rsV ov (tdo os t (mop 0 a 0)).1 s (.slice ra rn rc)⟩, .agg ⟨(tdo os t (mop 0 a 0)).2.was.v⟩]⟩):=by
 have hld:=rld_r hov hos t ht a
 refine RTri.of_reads fun p1 hp=>?_
 replace hld:=hld.of_read hp;obtain ⟨adt,capt,rfl,_⟩:=id hov;generalize tdo os t (mop 0 a 0)=y at hld⊢;obtain ⟨⟨ta2,⟨ak2,oa2,⟨ov2a,os2a⟩,⟨nv2b,ns2b⟩⟩,tn2⟩,⟨⟨av,sq⟩,aok⟩⟩:=y;obtain ⟨ta,⟨ak,oa,⟨ova,osa⟩,⟨nvb,nsb⟩⟩,tn⟩:=t;obtain ⟨al,dn,e,vl,lk,sw,rws⟩:=s;unfold rsV;unfold tpV Cell.v at hld⊢;dsimp only [List.cons_append,List.nil_append] at hld⊢
 refine TB (vs:=[_,_]) Tryz.func213 fun w0 F=>?_
 repeat' (first|refine Ga ?_|(refine Gb ?_;intro b)|(refine St.drawS 4 5 (id:=3) [(0,1),(1,1),(2,2),(3,2)] .done [] mixed (by kernel_rfl) (by rfl) Take.go (by rfl) Take.go ?_)|refine Gl hld ?_|(apply Zq;rfl;exact Ob;exact Ent.go)|fail)
 all_goals exact St.d1 Tryz.func213 ⟨_,⟨rfl,rfl⟩,Ent.go⟩
theorem end15_r (oad:Option Addr)(oln ocp:Nat)(t:Tp)(s:Rs)(ra:Option Addr)(rn rc:Nat)(e:Int)(v:Nat):RTri Tryz.prog 215 #[.agg ⟨rsV (.slice oad oln ocp) t s (.slice ra rn rc)⟩, .int .i64 e, .int .u64 (v:Int)] []
  (.agg ⟨rsV (.slice oad oln ocp) t (s.ends e v t) (.slice ra rn rc)⟩):=by
 apply RTri.of_pure;obtain ⟨ta,⟨ak,oa,⟨ova,osa⟩,⟨nvb,nsb⟩⟩,tn⟩:=t;obtain ⟨al,dn,e0,vl,lk,sw,rws⟩:=s
 cases tn with
 | true =>
  rw [show Rs.ends ⟨al,dn,e0,vl,lk,sw,rws⟩ e v ⟨ta,⟨ak,oa,⟨ova,osa⟩,⟨nvb,nsb⟩⟩,true⟩=⟨al,dn,e0,vl,lk,sw,rws⟩ from rfl];unfold rsV tpV;dsimp only [List.cons_append,List.nil_append]
  refine TB (vs:=[_,_,_]) Tryz.func215 fun w0 F=>?_
  repeat' (first|refine Ga ?_|(refine Gb ?_;intro b)|fail)
  all_goals exact St.d1 Tryz.func215 ⟨_,⟨rfl,rfl⟩,Ent.go⟩
 | false =>
  rw [show Rs.ends ⟨al,dn,e0,vl,lk,sw,rws⟩ e v ⟨ta,⟨ak,oa,⟨ova,osa⟩,⟨nvb,nsb⟩⟩,false⟩=⟨al,true,e,v,lk,sw,rws⟩ from rfl];unfold rsV tpV;dsimp only [List.cons_append,List.nil_append]
  refine TB (vs:=[_,_,_]) Tryz.func215 fun w0 F=>?_
  repeat' (first|refine Ga ?_|(refine Gb ?_;intro b)|fail)
  all_goals exact St.d1 Tryz.func215 ⟨_,⟨rfl,rfl⟩,Ent.go⟩
theorem alone15_r (oad:Option Addr)(oln ocp:Nat)(t:Tp)(s:Rs)(ra:Option Addr)(rn rc:Nat):RTri Tryz.prog 214 #[.agg ⟨rsV (.slice oad oln ocp) t s (.slice ra rn rc)⟩] []
  (.agg ⟨rsV (.slice oad oln ocp) t s.lone (.slice ra rn rc)⟩):=by
 apply RTri.of_pure;obtain ⟨ta,⟨ak,oa,⟨ova,osa⟩,⟨nvb,nsb⟩⟩,tn⟩:=t;obtain ⟨al,dn,e0,vl,lk,sw,rws⟩:=s;unfold Rs.lone rsV tpV;dsimp only [List.cons_append,List.nil_append]
 refine TB (vs:=[_]) Tryz.func214 fun w0 F=>?_
 repeat' (first|refine Ga ?_|(refine Gb ?_;intro b)|fail)
 all_goals exact St.d1 Tryz.func214 ⟨_,⟨rfl,rfl⟩,Ent.go⟩
end
theorem ListR.take {α:Type}{f:α→List Value}{q:HProp}{ad:Option Addr}{cap:Nat}{l:List α}(h:ListR f q (.slice ad l.length cap) l)(k:Nat)(hk:k≤l.length):ListR f q (.slice ad (l.take k).length cap) (l.take k):=by
 obtain ⟨ad',cap',e,hc,h⟩:=h
 injection e with e1 _ e2
 subst e1 e2;refine ⟨ad,cap,rfl,by rw [List.length_take];omega, ?_⟩
 rcases h with h|⟨b,o,c,rest,h1,h2,h3⟩
 ·exact .inl (by rw [List.length_take];omega)
 ·refine .inr ⟨b,o,c,(l.drop k).flatMap f++rest,h1,h2, ?_⟩
  rw [← List.append_assoc,← List.flatMap_append,List.take_append_drop];exact h3
section
theorem ropen_at {os:List Out}(hos:os.length≤100000){t:Tp}(ht:t.at_≤100000)(c:Cfg)(owner:Int)(seq:Nat):(ropen c os owner seq t).1.at_≤100000:=by
 unfold ropen;exact tdo_at hos ht _
theorem ropen_r {q:HProp}{ov:Value}{os:List Out}(hov:ListR Out.v q ov os)(hos:os.length≤100000){c:Cfg}(hc:Small c)(owner:Int)(seq:Nat)(t:Tp)(ht:t.at_≤100000):RTri Tryz.prog 272 #[.agg ⟨c.v⟩, .int .i64 owner, .int .u64 (seq:Int), .agg ⟨tpV ov t⟩] [q]
  (.tuple ⟨[.agg ⟨tpV ov (ropen c os owner seq t).1⟩, .bool (ropen c os owner seq t).2]⟩):=by
 have hat4:=rat_r c hc 4 owner 0;have hd:=rld_r hov hos t ht (c.at 4 owner 0);unfold ropen;generalize tdo os t (mop 0 (c.at 4 owner 0) 0)=x at hd⊢;obtain ⟨⟨xa,⟨xk,xoa,⟨xv1,xs1⟩,⟨xv2,xs2⟩⟩,xn⟩,⟨⟨wv,ws⟩,ok⟩⟩:=x;obtain ⟨ta,⟨k,oa,⟨ov1,os1⟩,⟨nv1,ns1⟩⟩,tn⟩:=t
 refine RTri.of_reads fun p1 hp=>?_
 replace hd:=hd.of_read hp;obtain ⟨ad,cap,rfl,_⟩:=hov
 have hdec:(((wv:Nat):Int) == 1 && ((ws:Nat):Int) == (seq:Int))=decide ((⟨wv,ws⟩:Cell)=⟨1,seq⟩):=by
  rw [Bool.eq_iff_iff,Bool.and_eq_true,beq_iff_eq,beq_iff_eq,decide_eq_true_eq];refine ⟨fun h=>?_,fun h=>?_⟩
  ·rw [show wv=1 by omega,show ws=seq by omega]
  ·injection h with h1 h2
   subst h1 h2;exact ⟨rfl,rfl⟩
 unfold tpV Cell.v at hd;unfold Cfg.v at hat4;unfold tpV Cfg.v;dsimp only at hd⊢
 refine TB (vs:=[_,_,_,_]) Tryz.func272 fun w0 F=>?_
 repeat' (first|refine Ga ?_|(refine Gb ?_;intro b)|(refine Dr 1 [(0,1),(1,1),(2,0),(3,1),(4,1),(5,0),(6,0),(7,0),(8,2),(9,3),(10,3)] [9,10] ?_)|(refine Dt 2 [(2,0),(3,0)] (.pick [(0,3)] (.pick [(1,3),(4,0),(5,3),(6,0)] .done (.pick [(5,3),(1,3),(4,0),(6,0)] .done .nope)) (.pick [(1,3),(4,0),(0,3),(5,3),(6,0)] .done .nope)) [0,1,5] ?_)|apply StD.pick|exact StD.nope|refine Gl hat4 ?_|refine Gl hd ?_|(refine StD.ok3 rfl (OpOk.ofW OpV.go) rfl ?_;rintro _ _ ⟨rfl,rfl⟩)|fail)
 all_goals
  refine St.d1 Tryz.func272 ⟨_,⟨?_,rfl⟩,Ent.go⟩;rw [← hdec]
  first|rfl|(simp only [Bool.and_true];rfl)
end
theorem rblock_r {c:Cfg}(hc:Small c)(a:Int)(ha:a<1000000):RTri Tryz.prog 294 #[.agg ⟨c.v⟩, .int .i64 a] [] (.int .i64 (rblock c a)):=by
 have h16:RTri Tryz.prog 133 #[.agg ⟨c.v⟩, .int .i64 16] [] (.int .i64 c.f16):=rfrom_16 c hc;have hn:=hc.nums.f7;have hn2:=hc.nums.f17;have ht:=hc.ts;have:=hc.t0;have:=hc.b0;have:=hc.b1;have:=hc.limit;have:=hc.t1;obtain ⟨hf7,hf10,hf11,hf12,hf13,hf14,hf15,hf16,hf17,hstr⟩:=c.froms
 have hb16:0≤c.f16∧c.f16≤1000000:=by omega
 clear hf7 hf10 hf11 hf12 hf13 hf14 hf15 hf16 hf17 hstr hn hn2 ht;apply RTri.of_pure;unfold Cfg.v at h16;unfold rblock Cfg.v
 by_cases h:a<c.f16
 ·rw [if_pos h]
  refine TB (vs:=[_,_]) Tryz.func294 fun w0 F=>?_
  repeat' (first|refine Ga ?_|(refine Gb ?_;intro b)|refine Gl h16 ?_|(refine Ge ?_ ?_<;>intro h<;>try omega)|fail)
  all_goals first|(exfalso;omega)|exact St.d1 Tryz.func294 ⟨_,⟨rfl,rfl⟩,Ent.go⟩|skip
 ·rw [if_neg h]
  refine TB (vs:=[_,_]) Tryz.func294 fun w0 F=>?_
  repeat' (first|refine Ga ?_|(refine Gb ?_;intro b)|refine Gl h16 ?_|(refine Ge ?_ ?_<;>intro h<;>try omega)|fail)
  all_goals first|(exfalso;omega)|exact St.d1 Tryz.func294 ⟨_,⟨rfl,rfl⟩,Ent.go⟩|skip
theorem u64_nat (e:Int):(((IntKind.u64.wrap e).toNat:Nat):Int)=IntKind.u64.wrap e:=by
 have:0≤IntKind.u64.wrap e:=by
  show 0≤e % 18446744073709551616;exact Int.emod_nonneg _ (by decide)
 omega
section
set_option maxHeartbeats 2000000 in
theorem rwrite_r {q:HProp}{ov:Value}{os:List Out}(hov:ListR Out.v q ov os)(hos:os.length≤100000){c:Cfg}(hc:Small c)(who:Int)(seq:Nat)(list:List (Int×Nat))(lv:Value)(hl:ListR entV q lv list)(hll:list.length≤1000000)(t:Tp)(ht:t.at_≤100000):RTri Tryz.prog 220 #[.agg ⟨c.v⟩, .int .i64 who, .int .u64 (seq:Int),lv, .agg ⟨tpV ov t⟩] [q]
  (.agg ⟨tpV ov (rwrite c os who seq list t)⟩):=by
 have hcap:=rcap_r c hc;have hcc:=hc.cap;have hat4:=rat_r c hc 4 who 0;have hat5:=rat_r c hc 5 who 0
 have hat6:=fun k=>rat_r c hc 6 who k
 have hst:=fun t ht a x=>rst_r hov hos t ht a x
 obtain ⟨lad,lcap,rfl,hlc,_⟩:=id hl
 refine RTri.of_reads fun p1 hp=>?_
 replace hst:=fun t ht a x=>(hst t ht a x).of_read hp
 replace hl:=hl.weak fun b l h=>RdC.of_sat hp (ReadsC.here h)
 obtain ⟨ad,cap,rfl,_⟩:=hov;unfold Cfg.v at hat4 hat5 hat6 hcap;unfold Cfg.v
 have hcn:((c.cap.toNat:Nat):Int)=c.cap:=by omega
 unfold rwrite
 by_cases hgt:c.cap<(list.length:Int)
 ·rw [show min list.length c.cap.toNat=c.cap.toNat by omega];replace hl:=hl.take c.cap.toNat (by omega);have hl9:(list.take c.cap.toNat).length=c.cap.toNat:=by rw [List.length_take];omega
  generalize hR:rlog c os who 0 _ t=R
  refine TB (vs:=[_,_,_,_,_]) Tryz.func220 fun w0 F=>?_
  repeat' (first|refine Ga ?_|(refine Gb ?_;intro b)|refine Gl hcap ?_|(refine Ge ?_ ?_<;>intro h<;>try omega)|fail)
  rename_i tb
  try rw [hl9] at hl
  refine St.loopY (Lr:=?Lr1B) (ι:={ x:Nat×Tp // x.1≤(list.take c.cap.toNat).length∧x.2.at_≤100000∧rlog c os who x.1 ((list.take c.cap.toNat).drop x.1) x.2=R }) (fun x=>(list.take c.cap.toNat).length - x.1.1) (fun x=>[(11, .int .i64 (x.1.1:Int))]) (fun x=>[bl tb 43 (tpV (.slice ad os.length cap) x.1.2)]) ⟨(0,t),Nat.zero_le _,ht,hR⟩ ?hE1B ?hL1B ?round1B
  case hE1B=>exact Sub.go
  case hL1B=>exact Takes.go
  case round1B =>
   rintro ⟨⟨k,t⟩,hk,ht,hgo⟩ IH;dsimp only at hk ht hgo IH⊢
   by_cases hlt:k<(list.take c.cap.toNat).length
   ·obtain ⟨lb,lo,ll,l1,rfl,hrd,hdr,htk⟩:=hl.at' entV_len k hlt
    rw [List.drop_eq_getElem_cons hlt] at hgo;unfold rlog at hgo;generalize (list.take c.cap.toNat)[k]=e at htk hgo;obtain ⟨ea,ex⟩:=e;unfold entV at htk;dsimp only at hgo htk;have hn0:NthN (lo+(k:Int).toNat * 2) ll (.int .i64 ea):=NthN.part (j:=0) hdr htk (NthN.of rfl);have hn1:NthN (lo+(k:Int).toNat * 2+1) ll (.int .u64 (ex:Int)):=NthN.part (j:=1) hdr htk (NthN.of rfl);have hat:=hat6 k;have hs:=hst t ht (c.at 6 who k) ⟨ex,(IntKind.u64.wrap ea).toNat⟩;have hx:=tdo_at hos ht ⟨1,c.at 6 who k,⟨0,0⟩,⟨ex,(IntKind.u64.wrap ea).toNat⟩⟩;unfold Cell.v at hs;dsimp only at hs;rw [u64_nat] at hs;generalize (tdo os t _).1=t2 at hs hx hgo;obtain ⟨ta,⟨ak,oa,⟨ov1,os1⟩,⟨nv1,ns1⟩⟩,tn⟩:=t;obtain ⟨ta2,⟨ak2,oa2,⟨ov12,os12⟩,⟨nv12,ns12⟩⟩,tn2⟩:=t2;unfold tpV at hs;unfold tpV;dsimp only at hs⊢
    repeat' (first|refine Ga ?_|(refine Dr 6 [(0,1),(1,1),(2,0),(3,0),(4,1),(5,0),(6,0),(7,0),(8,0),(9,1),(10,0),(11,0),(12,0),(13,0),(14,1),(15,0),(16,0),(17,1),(18,3)] [18] ?_)|refine Gl hat ?_|refine Gl hs ?_|(refine Ge ?_ ?_<;>intro h<;>try omega)|fail)
    refine IH ⟨⟨k+1,⟨ta2,⟨ak2,oa2,⟨ov12,os12⟩,⟨nv12,ns12⟩⟩,tn2⟩⟩,hlt,hx,hgo⟩ (by show (list.take c.cap.toNat).length - (k+1)<(list.take c.cap.toNat).length - k;omega) ?_ ?_
    ·exact Sub.go
    ·exact Ent.go
   ·rw [show k=(list.take c.cap.toNat).length by omega,List.drop_length] at hgo
    have hgo:t=R:=hgo;subst hgo;have hs5:=hst t ht (c.at 5 who 0) ⟨(list.take c.cap.toNat).length,0⟩;have hx:=tdo_at hos ht ⟨1,c.at 5 who 0,⟨0,0⟩,⟨(list.take c.cap.toNat).length,0⟩⟩;unfold Cell.v at hs5;dsimp only at hs5;generalize (tdo os t _).1=t2 at hs5 hx⊢;have hs4:=hst t2 hx (c.at 4 who 0) ⟨1,seq⟩;unfold Cell.v at hs4;dsimp only at hs4;generalize (tdo os t2 _).1=t3 at hs4⊢;rw [hl9] at hs5;obtain ⟨ta,⟨ak,oa,⟨ov1,os1⟩,⟨nv1,ns1⟩⟩,tn⟩:=t;obtain ⟨ta2,⟨ak2,oa2,⟨ov12,os12⟩,⟨nv12,ns12⟩⟩,tn2⟩:=t2;obtain ⟨ta3,⟨ak3,oa3,⟨ov13,os13⟩,⟨nv13,ns13⟩⟩,tn3⟩:=t3;unfold tpV at hs5 hs4;unfold tpV;dsimp only at hs5 hs4⊢
    repeat' (first|refine Ga ?_|(refine Dr 7 [(0,1),(1,1),(2,0),(3,1),(4,0),(5,0),(6,0),(7,0),(8,1),(9,3)] [9] ?_)|(refine Dr 8 [(0,1),(1,1),(2,0),(3,1),(4,0),(5,0),(6,1),(7,3)] [7] ?_)|refine Gl hat4 ?_|refine Gl hat5 ?_|refine Gl hs5 ?_|refine Gl hs4 ?_|(refine Ge ?_ ?_<;>intro h<;>try omega)|fail)
    all_goals first|(exfalso;omega)|exact St.d1 Tryz.func220 ⟨_,⟨rfl,rfl⟩,Ent.go⟩|skip
 ·rw [show min list.length c.cap.toNat=list.length by omega,List.take_length];have hl9:list.length=list.length:=rfl
  generalize hR:rlog c os who 0 _ t=R
  refine TB (vs:=[_,_,_,_,_]) Tryz.func220 fun w0 F=>?_
  repeat' (first|refine Ga ?_|(refine Gb ?_;intro b)|refine Gl hcap ?_|(refine Ge ?_ ?_<;>intro h<;>try omega)|fail)
  rename_i tb
  try rw [hl9] at hl
  refine St.loopY (Lr:=?Lr1A) (ι:={ x:Nat×Tp // x.1≤list.length∧x.2.at_≤100000∧rlog c os who x.1 (list.drop x.1) x.2=R }) (fun x=>list.length - x.1.1) (fun x=>[(11, .int .i64 (x.1.1:Int))]) (fun x=>[bl tb 43 (tpV (.slice ad os.length cap) x.1.2)]) ⟨(0,t),Nat.zero_le _,ht,hR⟩ ?hE1A ?hL1A ?round1A
  case hE1A=>exact Sub.go
  case hL1A=>exact Takes.go
  case round1A =>
   rintro ⟨⟨k,t⟩,hk,ht,hgo⟩ IH;dsimp only at hk ht hgo IH⊢
   by_cases hlt:k<list.length
   ·obtain ⟨lb,lo,ll,l1,rfl,hrd,hdr,htk⟩:=hl.at' entV_len k hlt
    rw [List.drop_eq_getElem_cons hlt] at hgo;unfold rlog at hgo;generalize list[k]=e at htk hgo;obtain ⟨ea,ex⟩:=e;unfold entV at htk;dsimp only at hgo htk;have hn0:NthN (lo+(k:Int).toNat * 2) ll (.int .i64 ea):=NthN.part (j:=0) hdr htk (NthN.of rfl);have hn1:NthN (lo+(k:Int).toNat * 2+1) ll (.int .u64 (ex:Int)):=NthN.part (j:=1) hdr htk (NthN.of rfl);have hat:=hat6 k;have hs:=hst t ht (c.at 6 who k) ⟨ex,(IntKind.u64.wrap ea).toNat⟩;have hx:=tdo_at hos ht ⟨1,c.at 6 who k,⟨0,0⟩,⟨ex,(IntKind.u64.wrap ea).toNat⟩⟩;unfold Cell.v at hs;dsimp only at hs;rw [u64_nat] at hs;generalize (tdo os t _).1=t2 at hs hx hgo;obtain ⟨ta,⟨ak,oa,⟨ov1,os1⟩,⟨nv1,ns1⟩⟩,tn⟩:=t;obtain ⟨ta2,⟨ak2,oa2,⟨ov12,os12⟩,⟨nv12,ns12⟩⟩,tn2⟩:=t2;unfold tpV at hs;unfold tpV;dsimp only at hs⊢
    repeat' (first|refine Ga ?_|(refine Dr 6 [(0,1),(1,1),(2,0),(3,0),(4,1),(5,0),(6,0),(7,0),(8,0),(9,1),(10,0),(11,0),(12,0),(13,0),(14,1),(15,0),(16,0),(17,1),(18,3)] [18] ?_)|refine Gl hat ?_|refine Gl hs ?_|(refine Ge ?_ ?_<;>intro h<;>try omega)|fail)
    refine IH ⟨⟨k+1,⟨ta2,⟨ak2,oa2,⟨ov12,os12⟩,⟨nv12,ns12⟩⟩,tn2⟩⟩,hlt,hx,hgo⟩ (by show list.length - (k+1)<list.length - k;omega) ?_ ?_
    ·exact Sub.go
    ·exact Ent.go
   ·rw [show k=list.length by omega,List.drop_length] at hgo
    have hgo:t=R:=hgo;subst hgo;have hs5:=hst t ht (c.at 5 who 0) ⟨list.length,0⟩;have hx:=tdo_at hos ht ⟨1,c.at 5 who 0,⟨0,0⟩,⟨list.length,0⟩⟩;unfold Cell.v at hs5;dsimp only at hs5;generalize (tdo os t _).1=t2 at hs5 hx⊢;have hs4:=hst t2 hx (c.at 4 who 0) ⟨1,seq⟩;unfold Cell.v at hs4;dsimp only at hs4;generalize (tdo os t2 _).1=t3 at hs4⊢;rw [hl9] at hs5;obtain ⟨ta,⟨ak,oa,⟨ov1,os1⟩,⟨nv1,ns1⟩⟩,tn⟩:=t;obtain ⟨ta2,⟨ak2,oa2,⟨ov12,os12⟩,⟨nv12,ns12⟩⟩,tn2⟩:=t2;obtain ⟨ta3,⟨ak3,oa3,⟨ov13,os13⟩,⟨nv13,ns13⟩⟩,tn3⟩:=t3;unfold tpV at hs5 hs4;unfold tpV;dsimp only at hs5 hs4⊢
    repeat' (first|refine Ga ?_|(refine Dr 7 [(0,1),(1,1),(2,0),(3,1),(4,0),(5,0),(6,0),(7,0),(8,1),(9,3)] [9] ?_)|(refine Dr 8 [(0,1),(1,1),(2,0),(3,1),(4,0),(5,0),(6,1),(7,3)] [7] ?_)|refine Gl hat4 ?_|refine Gl hat5 ?_|refine Gl hs5 ?_|refine Gl hs4 ?_|(refine Ge ?_ ?_<;>intro h<;>try omega)|fail)
    all_goals first|(exfalso;omega)|exact St.d1 Tryz.func220 ⟨_,⟨rfl,rfl⟩,Ent.go⟩|skip
end
end Go.Proofs.YthmbgodcpgkkeaaGreat
