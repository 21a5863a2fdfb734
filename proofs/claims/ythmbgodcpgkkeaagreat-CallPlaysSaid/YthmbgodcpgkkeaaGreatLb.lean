/-
  What a thread does, as far as replies go: a tape of replies, and a machine that is fed with them. Package tumblerref09, in plain terms: a view, as far as replies go; it does what the program's does. An assertion taken as it is: what holds of its memory can be read of it. Package tumblerref09: Do, Lo
-/
import Derived.Test.YthmbgodcpgkkeaaGreatVw
import Derived.Test.YthmbgodcpgkkeaaGreatBa
import Derived.Test.YthmbgodcpgkkeaaGreatRefb
set_option maxRecDepth 100000
namespace Go.Proofs.YthmbgodcpgkkeaaGreat
structure Tp where
 at_:Nat
 ask:MOp
 need:Bool
def op0:MOp:=mop 0 0 0
def out0:Out:=⟨⟨0,0⟩,false⟩
def Tp.live (n:Nat):Tp:=⟨n,op0,false⟩
def tdo (os:List Out)(t:Tp)(o:MOp):Tp×Out :=
 if t.need=true then (t,out0) else if os.length≤t.at_ then (⟨t.at_,o,true⟩,out0) else (⟨t.at_+1,t.ask,t.need⟩,os.getD t.at_ out0)
theorem tdo_dead {os:List Out}{t:Tp}(h:t.need=true)(o:MOp):(tdo os t o).1=t:=by unfold tdo;rw [if_pos h]
structure Mch (M:Type) where
 ask:M→MOp×Bool
 tell:M→Out→M
inductive Fed {M:Type} (X:Mch M) (os:List Out):M→Nat→M→Nat→Prop
 | nil (m:M) (n:Nat):Fed X os m n m n
 | cons {m m':M} {n k:Nat} (ha:(X.ask m).2=true) (hn:n<os.length) (h:Fed X os (X.tell m (os.getD n out0)) (n+1) m' k):Fed X os m n m' k
section
variable {M α β:Type}{X:Mch M}{os:List Out}
theorem Fed.trans {a b c:M}{n k l:Nat}(h:Fed X os a n b k)(g:Fed X os b k c l):Fed X os a n c l:=by
 induction h with
 | nil=>exact g
 | cons ha hn _ ih=>exact .cons ha hn (ih g)
theorem Fed.le {a b:M}{n k:Nat}(h:Fed X os a n b k):n≤k:=by
 induction h with
 | nil=>exact Nat.le_refl _
 | cons _ _ _ ih=>omega
theorem Fed.len {a b:M}{n k:Nat}(h:Fed X os a n b k)(hn:n≤os.length):k≤os.length:=by
 induction h with
 | nil=>exact hn
 | cons _ hn' _ ih=>exact ih hn'
def SimV (X:Mch M)(os:List Out)(p:Tp×α)(K:α→M→Nat→Prop)(N:α→M→Prop)(m:M)(n:Nat):Prop :=
 ∃ m' k,Fed X os m n m' k∧((p.1=.live k∧K p.2 m' k)∨(k=os.length∧(X.ask m').2=true∧p.1=⟨k,(X.ask m').1,true⟩∧N p.2 m'))
def Sim (X:Mch M)(os:List Out)(R:Tp→Tp×α)(K:α→M→Nat→Prop)(N:α→M→Prop)(m:M)(n:Nat):Prop:=SimV X os (R (.live n)) K N m n
theorem Sim.mono {R:Tp→Tp×α}{K K':α→M→Nat→Prop}{N N':α→M→Prop}{m:M}{n:Nat}(h:Sim X os R K N m n)(hK:∀ a m' k,K a m' k→K' a m' k)(hN:∀ a m',N a m'→N' a m'):Sim X os R K' N' m n:=by
 obtain ⟨m',k,hf,h⟩:=h;refine ⟨m',k,hf, ?_⟩
 rcases h with ⟨h1,h2⟩|⟨h1,h2,h3,h4⟩
 ·exact .inl ⟨h1,hK _ _ _ h2⟩
 ·exact .inr ⟨h1,h2,h3,hN _ _ h4⟩
theorem Sim.ret {K:α→M→Nat→Prop}{N:α→M→Prop}{m:M}{n:Nat}{a:α}(h:K a m n):Sim X os (fun t=>(t,a)) K N m n :=
 ⟨m,n, .nil _ _, .inl ⟨rfl,h⟩⟩
theorem Sim.eq {R R':Tp→Tp×α}{K:α→M→Nat→Prop}{N:α→M→Prop}{m:M}{n:Nat}(h:Sim X os R K N m n)(e:R' (.live n)=R (.live n)):Sim X os R' K N m n:=by
 unfold Sim at *;rw [e];exact h
theorem Sim.bind {R:Tp→Tp×α}{S:α→Tp→Tp×β}{K1:α→M→Nat→Prop}{N1:α→M→Prop}{K:β→M→Nat→Prop}{N:β→M→Prop}{m:M}{n:Nat}
  (h:Sim X os R K1 N1 m n) (hn:n≤os.length) (hd:∀ a t,t.need=true→(S a t).1=t) (hN:∀ a m' t,t.need=true→N1 a m'→N (S a t).2 m')
  (hS:∀ a m' k,n≤k→k≤os.length→K1 a m' k→Sim X os (S a) K N m' k):Sim X os (fun t=>S (R t).2 (R t).1) K N m n:=by
 obtain ⟨m',k,hf,h⟩:=h
 rcases h with ⟨h1,h2⟩|⟨h1,h2,h3,h4⟩
 ·obtain ⟨m'',l,hf2,h5⟩:=hS _ m' k hf.le (hf.len hn) h2
  refine ⟨m'',l,hf.trans hf2, ?_⟩;dsimp only;rw [h1];exact h5
 ·refine ⟨m',k,hf, .inr ⟨h1,h2, ?_, ?_⟩⟩
  ·dsimp only
   rw [h3,hd _ _ rfl]
  ·dsimp only
   rw [h3];exact hN _ _ _ rfl h4
theorem Sim.do {m:M}{n:Nat}{o:MOp}(ha:X.ask m=(o,true))(hn:n≤os.length):Sim X os (fun t=>tdo os t o) (fun a m' k=>m'=X.tell m a∧k=n+1∧k≤os.length∧a=os.getD n out0) (fun a m'=>a=out0∧m'=m) m n:=by
 by_cases h:os.length≤n
 ·have e:tdo os (.live n) o=(⟨n,o,true⟩,out0):=by unfold tdo Tp.live;rw [if_neg Bool.false_ne_true,if_pos h]
  refine ⟨m,n, .nil _ _, .inr ⟨by omega,by rw [ha], ?_, ?_⟩⟩
  ·dsimp only;rw [e,ha]
  ·dsimp only;rw [e];exact ⟨rfl,rfl⟩
 ·have e:tdo os (.live n) o=(.live (n+1),os.getD n out0):=by unfold tdo Tp.live;rw [if_neg Bool.false_ne_true,if_neg h]
  refine ⟨X.tell m (os.getD n out0),n+1, .cons (by rw [ha]) (by omega) (.nil _ _), .inl ⟨?_, ?_⟩⟩
  ·dsimp only;rw [e]
  ·dsimp only;rw [e];exact ⟨rfl,rfl,by omega,rfl⟩
end
theorem Sim.prop {M α:Type}{X:Mch M}{os:List Out}{R:Tp→Tp×α}{K:α→M→Nat→Prop}{N:α→M→Prop}{m:M}{n:Nat}(h:Sim X os R K N m n){P:α→Prop}(hp:P (R (.live n)).2):Sim X os R (fun a m' k=>K a m' k∧P a) N m n:=by
 obtain ⟨m',k,hf,h⟩:=h;refine ⟨m',k,hf, ?_⟩
 rcases h with ⟨h1,h2⟩|h
 ·exact .inl ⟨h1,h2,hp⟩
 ·exact .inr h
theorem Sim.do' {M:Type}{X:Mch M}{os:List Out}{m:M}{n:Nat}{o:MOp}(ha:X.ask m=(o,true))(hn:n≤os.length):Sim X os (fun t=>tdo os t o) (fun a m' k=>m'=X.tell m a∧k=n+1∧k≤os.length) (fun a m'=>a=out0∧m'=m∧n=os.length) m n:=by
 by_cases h:os.length≤n
 ·have e:tdo os (.live n) o=(⟨n,o,true⟩,out0):=by unfold tdo Tp.live;rw [if_neg Bool.false_ne_true,if_pos h]
  refine ⟨m,n, .nil _ _, .inr ⟨by omega,by rw [ha], ?_, ?_⟩⟩
  ·dsimp only;rw [e,ha]
  ·dsimp only;rw [e];exact ⟨rfl,rfl,by omega⟩
 ·have e:tdo os (.live n) o=(.live (n+1),os.getD n out0):=by unfold tdo Tp.live;rw [if_neg Bool.false_ne_true,if_neg h]
  refine ⟨X.tell m (os.getD n out0),n+1, .cons (by rw [ha]) (by omega) (.nil _ _), .inl ⟨?_, ?_⟩⟩
  ·dsimp only;rw [e]
  ·dsimp only;rw [e];exact ⟨rfl,rfl,by omega⟩
theorem Fed.keep {M γ:Type}{X:Mch M}{os:List Out}{f:M→γ}(ht:∀ m o,f (X.tell m o)=f m){a b:M}{n k:Nat}(h:Fed X os a n b k):f b=f a:=by
 induction h with
 | nil=>rfl
 | cons _ _ _ ih=>rw [ih,ht]
theorem Sim.keep {M α γ:Type}{X:Mch M}{os:List Out}{f:M→γ}(ht:∀ m o,f (X.tell m o)=f m){R:Tp→Tp×α}{K:α→M→Nat→Prop}{N:α→M→Prop}{m:M}{n:Nat}(h:Sim X os R K N m n) :
  Sim X os R (fun a m' k=>K a m' k∧f m'=f m) (fun a m'=>N a m'∧f m'=f m) m n:=by
 obtain ⟨m',k,hf,h⟩:=h;refine ⟨m',k,hf, ?_⟩;have e:=hf.keep ht
 rcases h with ⟨h1,h2⟩|⟨h1,h2,h3,h4⟩
 ·exact .inl ⟨h1,h2,e⟩
 ·exact .inr ⟨h1,h2,h3,h4,e⟩
theorem Fed.lift {M' M:Type}{X:Mch M'}{Y:Mch M}{os:List Out}(G:M'→M)(I:M'→Prop)(hI:∀ x o,I x→(X.ask x).2=true→I (X.tell x o))(hG:∀ x,I x→(X.ask x).2=true→Y.ask (G x)=X.ask x∧∀ o,Y.tell (G x) o=G (X.tell x o))
  {x x':M'} {n k:Nat} (h:Fed X os x n x' k) (hi:I x):Fed Y os (G x) n (G x') k∧I x':=by
 induction h with
 | nil=>exact ⟨.nil _ _,hi⟩
 | cons ha hn _ ih =>
  obtain ⟨h1,h2⟩:=hG _ hi ha;obtain ⟨h3,h4⟩:=ih (hI _ _ hi ha);exact ⟨.cons (by rw [h1];exact ha) hn (by rw [h2];exact h3),h4⟩
theorem Sim.lift {α M' M:Type}{X:Mch M'}{Y:Mch M}{os:List Out}{R:Tp→Tp×α}{K:α→M'→Nat→Prop}{N:α→M'→Prop}(G:M'→M)(I:M'→Prop)(hI:∀ x o,I x→(X.ask x).2=true→I (X.tell x o))(hG:∀ x,I x→(X.ask x).2=true→Y.ask (G x)=X.ask x∧∀ o,Y.tell (G x) o=G (X.tell x o))
  {x:M'} {n:Nat} (h:Sim X os R K N x n) (hi:I x):Sim Y os R (fun a y k=>∃ x',y=G x'∧I x'∧K a x' k) (fun a y=>∃ x',y=G x'∧I x'∧(X.ask x').2=true∧N a x') (G x) n:=by
 obtain ⟨x',k,hf,h⟩:=h;obtain ⟨hf,hi'⟩:=hf.lift G I hI hG hi;refine ⟨G x',k,hf, ?_⟩
 rcases h with ⟨h1,h2⟩|⟨h1,h2,h3,h4⟩
 ·exact .inl ⟨h1,x',rfl,hi',h2⟩
 ·obtain ⟨g1,_⟩:=hG _ hi' h2
  exact .inr ⟨h1,by rw [g1];exact h2,by rw [g1];exact h3,x',rfl,hi',h2,h4⟩
def fedM {M:Type}(X:Mch M)(os:List Out)(m:M):Nat→M
 | 0=>m
 | k+1=>X.tell (fedM X os m k) (os.getD k out0)
theorem fed_at {M:Type}{X:Mch M}{os:List Out}{a b:M}{n k:Nat}(h:Fed X os a n b k):∀ m,a=fedM X os m n→b=fedM X os m k∧∀ i,n≤i→i<k→(X.ask (fedM X os m i)).2=true:=by
 induction h with
 | nil=>exact fun m e=>⟨e,fun i h1 h2=>by omega⟩
 | cons ha hn _ ih =>
  intro m e;obtain ⟨h1,h2⟩:=ih m (by rw [e];rfl);refine ⟨h1,fun i h3 h4=>?_⟩;rename_i n _ _
  by_cases hi:i=n
  ·subst hi;rw [← e];exact ha
  ·exact h2 i (by omega) h4
theorem Cfg.kwhat {c:Cfg}(hc:Small c)(p:Int):(7≤(c.what p).1∧(c.what p).1<16)↔(c.f7≤p∧p<c.f16):=by
 have hn:=hc.nums.f7;have:=hc.t0;have:=hc.b0;have:=hc.limit;obtain ⟨hf7,hf10,hf11,hf12,hf13,hf14,hf15,hf16,hf17,hstr⟩:=c.froms;have hm:=Int.emod_nonneg (p - c.f7) (show (3:Int)≠0 by decide);have hm2:=Int.emod_lt_of_pos (p - c.f7) (show (0:Int)<3 by decide);clear hc;unfold Cfg.what;generalize (p - 1) % c.stride=q;generalize (p - 1) / c.stride=q2;generalize (p - c.f16) / 8=q3;generalize (p - c.f16) % 8=q4;generalize (p - c.f7) / 3=q5;generalize (p - c.f7) % 3=m at hm hm2⊢
 repeat' split
 all_goals dsimp only
 all_goals omega
theorem Cfg.kat11 {c:Cfg}(hc:Small c)(b:Int):(c.at 11 b 0≠-1↔0≤b∧b<c.blocks):=by
 have hn:=hc.nums.f7;have:=hc.ts;have:=hc.t0;obtain ⟨hf7,hf10,hf11,hf12,hf13,hf14,hf15,hf16,hf17,hstr⟩:=c.froms;unfold Cfg.at
 by_cases h:0≤b∧b<c.blocks
 ·rw [if_pos ⟨h.1,h.2,by decide,(by decide:(0:Int)<1)⟩]
  refine ⟨fun _=>h,fun _=>?_⟩;show c.f11+b * 1+0≠-1;omega
 ·rw [if_neg (fun hh=>h ⟨hh.1,hh.2.1⟩)]
  exact ⟨fun hh=>absurd rfl hh,fun hh=>absurd hh h⟩
theorem Cfg.kat16 {c:Cfg}(hc:Small c)(b w:Int):(c.at 16 b w≠-1↔0≤c.at 16 b w)∧(c.at 16 b w≠-1→0≤b∧b<c.blocks):=by
 have hn:=hc.nums.f7;have:=hc.ts;have:=hc.t0;have:=hc.b0;have:=hc.limit;obtain ⟨hf7,hf10,hf11,hf12,hf13,hf14,hf15,hf16,hf17,hstr⟩:=c.froms;unfold Cfg.at
 by_cases h:0≤b∧b<(c.cnt 16).1∧0≤w∧w<(c.cnt 16).2
 ·rw [if_pos h]
  have e:(c.cnt 16).1=c.blocks:=rfl;rw [e] at h
  have h1:0≤c.f16+b * 8+w:=by omega
  have h1:0≤c.base 16+b * c.stp 16+w:=h1;exact ⟨⟨fun _=>h1,fun _=>by omega⟩,fun _=>⟨h.1,h.2.1⟩⟩
 ·rw [if_neg h]
  exact ⟨⟨fun hh=>absurd rfl hh,fun hh=>by omega⟩,fun hh=>absurd rfl hh⟩
structure Rv where
 who:Int
 seq:Nat
 held:Int
 stale:Bool
def Rv.new (who:Int)(seq:Nat):Rv:=⟨who,seq,-1,false⟩
def rload (os:List Out)(v:Rv)(a:Int)(t:Tp):Tp×(Rv×Nat×Int) :=
 if (tdo os t (mop 0 a 0)).1.need=true then ((tdo os t (mop 0 a 0)).1,(v,0,0)) else
 if v.seq<(tdo os t (mop 0 a 0)).2.was.seq then ((tdo os t (mop 0 a 0)).1,({ v with stale:=true },0,2)) else ((tdo os t (mop 0 a 0)).1,(v,(tdo os t (mop 0 a 0)).2.was.val,1))
def rcell (c:Cfg)(os:List Out)(v:Rv)(a:Int)(t:Tp):Tp×(Rv×Nat×Int) :=
 if v.stale=true then (t,(v,0,2)) else if a<c.f7∨c.f16≤a then (t,(v,0,3)) else rload os v a t
def rlife (_v:Rv)(b:Int)(r:Rv×Nat×Int):Rv×Int:=if r.2.2=1∧r.2.1≠1 then (r.1,3) else if r.2.2=1 then ({ r.1 with held:=b },1) else (r.1,r.2.2)
def rlive (c:Cfg)(os:List Out)(v:Rv)(b:Int)(t:Tp):Tp×(Rv×Int) :=
 if v.stale=true then (t,(v,2)) else if b<0∨c.blocks≤b then (t,(v,3)) else if v.held=b then (t,(v,1)) else
 if (tdo os t (mop 1 (c.at 3 v.who 0) (b+1).toNat)).1.need=true then ((tdo os t (mop 1 (c.at 3 v.who 0) (b+1).toNat)).1,(v,0)) else
 ((rload os { v with held := -1 } (c.at 11 b 0) (tdo os t (mop 1 (c.at 3 v.who 0) (b+1).toNat)).1).1,rlife v b (rload os { v with held := -1 } (c.at 11 b 0) (tdo os t (mop 1 (c.at 3 v.who 0) (b+1).toNat)).1).2)
def rword (c:Cfg)(os:List Out)(v:Rv)(b w:Int)(t:Tp):Tp×(Rv×Nat×Int) :=
 if v.stale=true then (t,(v,0,2)) else if c.at 16 b w<0 then (t,(v,0,3)) else
 if (rlive c os v b t).2.2≠1 then ((rlive c os v b t).1,((rlive c os v b t).2.1,0,(rlive c os v b t).2.2)) else
 rload os (rlive c os v b t).2.1 (c.at 16 b w) (rlive c os v b t).1
section
variable {os:List Out}{v:Rv}{t:Tp}
theorem rload_dead (h:t.need=true)(a:Int):rload os v a t=(t,(v,0,0)):=by
 unfold rload;rw [tdo_dead h,if_pos h]
end
def XV (c:Cfg):Mch Vw:=⟨Vw.ask c,Vw.tell⟩
theorem XV_ask (c:Cfg)(v:Vw):(XV c).ask v=v.ask c:=rfl
theorem XV_tell (c:Cfg)(v:Vw)(o:Out):(XV c).tell v o=v.tell o:=rfl
structure VR (r:Rv)(v:Vw):Prop where
 who:r.who=v.who
 seq:r.seq=v.seq
 held:r.held=v.held
 stale:r.stale=true↔v.s=2
structure VE (r:Rv)(val:Nat)(st:Int)(v:Vw):Prop where
 rel:VR r v
 step:v.step=0
 s:v.s=st
 s3:st=1∨st=2∨st=3
 val:st=1→v.val=val
theorem VR.new (who:Int)(seq:Nat):VR (.new who seq) (.new who seq):=⟨rfl,rfl,rfl,by unfold Rv.new Vw.new;simp⟩
section
variable {c:Cfg}{os:List Out}{r:Rv}{v:Vw}
def VG (v:Vw):Prop:=v.step=0∨v.s=0
theorem rload_sim (h:r.who=v.who∧r.seq=v.seq∧r.held=v.held∧r.stale=false)(h3:v.step=3){a:Int}(ha:v.at_=a){n:Nat}(hn:n≤os.length) :
  Sim (XV c) os (rload os r a) (fun x v' _=>VE x.1 x.2.1 x.2.2 v'∧v'.block=v.block) (fun x v'=>x=(r,0,0)∧v'=v) v n:=by
 obtain ⟨h1,h2,h4,h5⟩:=h
 have hask:(XV c).ask v=(mop 0 a 0,true):=by
  rw [XV_ask];unfold Vw.ask;rw [if_neg (by omega),if_neg (by omega),if_pos h3,ha]
 refine ((Sim.do hask hn).bind hn (S:=fun o t=>if t.need=true then (t,(r,0,0)) else if r.seq<o.was.seq then (t,({ r with stale:=true },0,2)) else (t,(r,o.was.val,1))) (fun o t ht=>by rw [if_pos ht]) (fun o m' t ht he=>by rw [if_pos ht];exact ⟨rfl,he.2⟩) (fun o m' k hk hkn he=>?_)).eq rfl;obtain ⟨rfl,rfl,hk2,ho⟩:=he
 have e:(XV c).tell v o=v.loaded o.was:=by
  rw [XV_tell];unfold Vw.tell;rw [if_neg (by omega),if_pos (.inr h3)]
 rw [e];unfold Vw.loaded
 by_cases hs:v.seq<o.was.seq
 ·rw [if_pos hs]
  refine (Sim.ret (a:=({ r with stale:=true },0,2)) ?_).eq ?_
  ·exact ⟨⟨⟨h1,h2,h4,by simp⟩,rfl,rfl, .inr (.inl rfl),fun e=>absurd (show (2:Int)=1 from e) (by decide)⟩,rfl⟩
  ·dsimp only [Tp.live];rw [if_neg Bool.false_ne_true,if_pos (by omega)]
 ·rw [if_neg hs,if_pos h3]
  refine (Sim.ret (a:=(r,o.was.val,1)) ?_).eq ?_
  ·exact ⟨⟨⟨h1,h2,h4,by rw [h5];simp⟩,rfl,rfl, .inl rfl,fun _=>rfl⟩,rfl⟩
  ·dsimp only [Tp.live];rw [if_neg Bool.false_ne_true,if_neg (by omega)]
theorem VR.fresh (h:VR r v)(hs:¬ r.stale=true):r.who=v.who∧r.seq=v.seq∧r.held=v.held∧r.stale=false:=⟨h.who,h.seq,h.held,by cases e:r.stale with|true=>exact absurd e hs|false=>rfl⟩
theorem rcell_sim (hc:Small c)(h:VR r v)(h0:v.step=0)(a:Int){n:Nat}(hn:n≤os.length) :
  Sim (XV c) os (rcell c os r a) (fun x v' _=>VE x.1 x.2.1 x.2.2 v'∧v'.block=v.block) (fun x _=>x.2.2=0) (v.cell c a) n:=by
 have hw:=Cfg.kwhat hc a
 have hb:(decide (7≤(c.what a).1) && decide ((c.what a).1<16))=decide (c.f7≤a∧a<c.f16):=by
  rw [Bool.eq_iff_iff,Bool.and_eq_true,decide_eq_true_eq,decide_eq_true_eq,decide_eq_true_eq];exact hw
 unfold rcell Vw.cell;rw [hb];unfold Vw.begB Vw.beg
 by_cases hs:r.stale=true
 ·have h2:=h.stale.1 hs
  rw [if_pos h2,if_neg (by decide),if_pos h2];refine (Sim.ret (a:=(r,0,2)) ?_).eq (by rw [if_pos hs]);exact ⟨⟨h,h0,h2, .inr (.inl rfl),fun e=>absurd (show (2:Int)=1 from e) (by decide)⟩,rfl⟩
 ·have h2:¬ v.s=2:=fun e=>hs (h.stale.2 e)
  rw [if_neg h2,if_neg h2]
  by_cases hi:c.f7≤a∧a<c.f16
  ·rw [decide_eq_true hi,if_pos rfl]
   refine ((rload_sim (c:=c) (v:={ v with val:=0,step:=3,s:=0,at_:=a }) (h.fresh hs) rfl rfl hn).eq ?_).mono (fun x v' k hh=>⟨hh.1,hh.2⟩) (fun x _ hh=>by rw [hh.1]);rw [if_neg hs,if_neg (by omega)]
  ·rw [decide_eq_false hi,if_neg (by decide)]
   refine (Sim.ret (a:=(r,0,3)) ?_).eq (by rw [if_neg hs,if_pos (by omega)]);obtain ⟨g1,g2,g3,g4⟩:=h.fresh hs;exact ⟨⟨⟨g1,g2,g3,by rw [g4];simp⟩,rfl,rfl, .inr (.inr rfl),fun e=>absurd (show (3:Int)=1 from e) (by decide)⟩,rfl⟩
structure LvE (b a:Int)(x:Rv×Int)(v':Vw):Prop where
 blk:v'.block=b
 bad:x.2≠1→VE x.1 v'.val x.2 v'
 ok:x.2=1→x.1.who=v'.who∧x.1.seq=v'.seq∧x.1.held=v'.held∧x.1.stale=false∧v'.at_=a∧(a = -1→v'.step=0∧v'.s=1)∧(a≠-1→v'.step=3)
theorem LvE.lives {a b:Int}(h:r.who=v.who∧r.seq=v.seq∧r.held=b∧r.stale=false)(ha:v.at_=a)(hb:v.block=b):LvE b a (r,1) v.lives:=by
 obtain ⟨g1,g2,g3,g4⟩:=h;unfold Vw.lives
 by_cases h1:v.at_ = -1
 ·rw [if_pos h1]
  exact ⟨hb,fun e=>absurd rfl e,fun _=>⟨g1,g2,g3.trans hb.symm,g4,ha,fun _=>⟨rfl,rfl⟩,fun e=>absurd (ha.symm.trans h1) e⟩⟩
 ·rw [if_neg h1]
  exact ⟨hb,fun e=>absurd rfl e,fun _=>⟨g1,g2,g3.trans hb.symm,g4,ha,fun e=>absurd (ha.trans e) h1,fun _=>rfl⟩⟩
theorem rlife_sim (h:r.who=v.who∧r.seq=v.seq∧r.stale=false)(h2:v.step=2){a b:Int}(ha:v.at_=a)(hh:v.held = -1)(hb:v.block=b){n:Nat}(hn:n≤os.length) :
  Sim (XV c) os (fun t=>((rload os { r with held := -1 } (c.at 11 b 0) t).1,rlife r b (rload os { r with held := -1 } (c.at 11 b 0) t).2)) (fun x v' _=>LvE b a x v') (fun x _=>x.2=0) v n:=by
 obtain ⟨g1,g2,g4⟩:=h
 have hask:(XV c).ask v=(mop 0 (c.at 11 b 0) 0,true):=by
  rw [XV_ask];unfold Vw.ask;rw [if_neg (by omega),if_pos h2,hb]
 refine ((Sim.do hask hn).bind hn (S:=fun o t=>((if t.need=true then (t,(({ r with held := -1 }:Rv),0,(0:Int))) else if r.seq<o.was.seq then (t,({ r with held := -1,stale:=true },0,2)) else (t,({ r with held := -1 },o.was.val,1))).1,rlife r b (if t.need=true then (t,(({ r with held := -1 }:Rv),0,(0:Int))) else if r.seq<o.was.seq then (t,({ r with held := -1,stale:=true },0,2)) else (t,({ r with held := -1 },o.was.val,1))).2))
  (fun o t ht=>by rw [if_pos ht]) (fun o m' t ht he=>by rw [if_pos ht];rfl) (fun o m' k hk hkn he=>?_)).eq rfl
 obtain ⟨rfl,rfl,hk2,ho⟩:=he
 have e:(XV c).tell v o=v.loaded o.was:=by
  rw [XV_tell];unfold Vw.tell;rw [if_neg (by omega),if_pos (.inl h2)]
 rw [e];unfold Vw.loaded;have hnd:¬ (Tp.live (n+1)).need=true:=Bool.false_ne_true
 by_cases hs:v.seq<o.was.seq
 ·rw [if_pos hs]
  refine (Sim.ret (a:=({ r with held := -1,stale:=true },2)) ?_).eq ?_
  ·exact ⟨hb,fun _=>⟨⟨g1,g2,hh.symm,by simp⟩,rfl,rfl, .inr (.inl rfl),fun e=>absurd (show (2:Int)=1 from e) (by decide)⟩,fun e=>absurd (show (2:Int)=1 from e) (by decide)⟩
  ·rw [if_neg hnd,if_pos (by omega)]
   rfl
 ·rw [if_neg hs,if_neg (by omega)]
  by_cases hv:o.was.val≠1
  ·rw [if_pos hv]
   refine (Sim.ret (a:=({ r with held := -1 },3)) ?_).eq ?_
   ·exact ⟨hb,fun _=>⟨⟨g1,g2,hh.symm,by rw [g4];simp⟩,rfl,rfl, .inr (.inr rfl),fun e=>absurd (show (3:Int)=1 from e) (by decide)⟩,fun e=>by omega⟩
   ·rw [if_neg hnd,if_neg (by omega)]
    unfold rlife;rw [if_pos ⟨rfl,hv⟩]
  ·rw [if_neg hv]
   refine (Sim.ret (a:=({ r with held:=b },1)) ?_).eq ?_
   ·exact LvE.lives (v:={ v with step:=0 }) ⟨g1,g2,rfl,g4⟩ ha hb
   ·rw [if_neg hnd,if_neg (by omega)]
    unfold rlife;rw [if_neg (fun hh=>hv hh.2),if_pos rfl]
theorem rlive_simA (h:r.who=v.who∧r.seq=v.seq∧r.held=v.held∧r.stale=false)(b a:Int)(hb:0≤b∧b<c.blocks){n:Nat}(hn:n≤os.length) :
  Sim (XV c) os (rlive c os r b) (fun x v' _=>LvE b a x v') (fun x _=>x.2=0) (v.touch b a) n:=by
 obtain ⟨g1,g2,g3,g4⟩:=h;have hnd:¬ (Tp.live n).need=true:=Bool.false_ne_true;unfold Vw.touch
 by_cases he:v.held=b
 ·rw [if_pos he]
  refine (Sim.ret (a:=(r,1)) ?_).eq ?_
  ·exact LvE.lives (v:={ v with block:=b,at_:=a,step:=1 }) ⟨g1,g2,g3.trans he,g4⟩ rfl rfl
  ·unfold rlive
   rw [if_neg (by rw [g4];decide),if_neg (by omega),if_pos (g3.trans he)]
 ·rw [if_neg he]
  have hask:(XV c).ask { v with block:=b,at_:=a,step:=1 }=(mop 1 (c.at 3 v.who 0) (b+1).toNat,true):=by
   rw [XV_ask];unfold Vw.ask;rw [if_pos rfl]
  refine ((Sim.do hask hn).bind hn (S:=fun _ t=>if t.need=true then (t,(r,0)) else ((rload os { r with held := -1 } (c.at 11 b 0) t).1,rlife r b (rload os { r with held := -1 } (c.at 11 b 0) t).2)) (fun o t ht=>by rw [if_pos ht]) (fun o m' t ht he=>by rw [if_pos ht]) (fun o m' k hk hkn he=>?_)).eq ?_
  ·obtain ⟨rfl,rfl,hk2,ho⟩:=he
   have e:(XV c).tell { v with block:=b,at_:=a,step:=1 } o={ v with block:=b,at_:=a,step:=2,held := -1 }:=by
    rw [XV_tell];unfold Vw.tell;rw [if_pos rfl]
   rw [e];refine (rlife_sim (c:=c) (v:={ v with block:=b,at_:=a,step:=2,held := -1 }) ⟨g1,g2,g4⟩ rfl rfl rfl rfl hk2).eq ?_;exact if_neg Bool.false_ne_true
  ·unfold rlive
   rw [if_neg (by rw [g4];decide),if_neg (by omega),if_neg (by rw [g3];exact he),g1]
theorem rlive_sim (hc:Small c)(h:VR r v)(h0:v.step=0)(b:Int){n:Nat}(hn:n≤os.length) :
  Sim (XV c) os (rlive c os r b) (fun x v' _=>VE x.1 v'.val x.2 v'∧(v'.block=v.block∨(0≤v'.block∧v'.block<c.blocks))) (fun x _=>x.2=0) (v.live c b) n:=by
 have hk:=Cfg.kat11 hc b;unfold Vw.live Vw.begB Vw.beg
 by_cases hs:r.stale=true
 ·have h2:=h.stale.1 hs
  rw [if_pos h2,if_neg (by decide),if_pos h2];refine (Sim.ret (a:=(r,2)) ?_).eq (by unfold rlive;rw [if_pos hs]);exact ⟨⟨h,h0,h2, .inr (.inl rfl),fun e=>absurd (show (2:Int)=1 from e) (by decide)⟩, .inl rfl⟩
 ·have h2:¬ v.s=2:=fun e=>hs (h.stale.2 e)
  obtain ⟨g1,g2,g3,g4⟩:=h.fresh hs;rw [if_neg h2,if_neg h2]
  by_cases hb:0≤b∧b<c.blocks
  ·have hb2:(c.at 11 b 0 != -1)=true:=bne_iff_ne.2 (hk.2 hb)
   rw [hb2,if_pos rfl];refine (rlive_simA (v:={ v with val:=0,step:=0,s:=if true=true then 0 else 3 }) ⟨g1,g2,g3,g4⟩ b (-1) hb hn).mono (fun x v' k hl=>⟨?_, ?_⟩) (fun _ _ e=>e)
   ·by_cases h1:x.2=1
    ·obtain ⟨a1,a2,a3,a4,a5,a6,_⟩:=hl.ok h1
     obtain ⟨a6,a7⟩:=a6 rfl;exact ⟨⟨a1,a2,a3,by rw [a4,a7];simp⟩,a6,by rw [h1];exact a7, .inl h1,fun _=>rfl⟩
    ·exact hl.bad h1
   ·have:=hl.blk
    exact .inr (by omega)
  ·have hb2:(c.at 11 b 0 != -1)=false:=by
    cases e:(c.at 11 b 0 != -1) with
    | false=>rfl
    | true=>exact absurd (hk.1 (bne_iff_ne.1 e)) hb
   rw [hb2,if_neg (by decide)];refine (Sim.ret (a:=(r,3)) ?_).eq (by unfold rlive;rw [if_neg hs,if_pos (by omega)]);exact ⟨⟨⟨g1,g2,g3,by rw [g4];simp⟩,rfl,rfl, .inr (.inr rfl),fun e=>absurd (show (3:Int)=1 from e) (by decide)⟩, .inl rfl⟩
theorem rword_sim (hc:Small c)(h:VR r v)(h0:v.step=0)(b w:Int){n:Nat}(hn:n≤os.length) :
  Sim (XV c) os (rword c os r b w) (fun x v' _=>VE x.1 x.2.1 x.2.2 v'∧(v'.block=v.block∨(0≤v'.block∧v'.block<c.blocks))) (fun x _=>x.2.2=0) (v.word c b w) n:=by
 obtain ⟨hk,hkb⟩:=Cfg.kat16 hc b w;unfold Vw.word Vw.begB Vw.beg
 by_cases hs:r.stale=true
 ·have h2:=h.stale.1 hs
  rw [if_pos h2,if_neg (by decide),if_pos h2];refine (Sim.ret (a:=(r,0,2)) ?_).eq (by unfold rword;rw [if_pos hs]);exact ⟨⟨h,h0,h2, .inr (.inl rfl),fun e=>absurd (show (2:Int)=1 from e) (by decide)⟩, .inl rfl⟩
 ·have h2:¬ v.s=2:=fun e=>hs (h.stale.2 e)
  obtain ⟨g1,g2,g3,g4⟩:=h.fresh hs;rw [if_neg h2,if_neg h2]
  by_cases hb:c.at 16 b w = -1
  ·have hb2:(c.at 16 b w != -1)=false:=by rw [hb];rfl
   rw [hb2,if_neg (by decide)];refine (Sim.ret (a:=(r,0,3)) ?_).eq (by unfold rword;rw [if_neg hs,if_pos (by omega)]);exact ⟨⟨⟨g1,g2,g3,by rw [g4];simp⟩,rfl,rfl, .inr (.inr rfl),fun e=>absurd (show (3:Int)=1 from e) (by decide)⟩, .inl rfl⟩
  ·have hb2:(c.at 16 b w != -1)=true:=bne_iff_ne.2 hb
   have hbb:=hkb hb;rw [hb2,if_pos rfl];refine ((rlive_simA (v:={ v with val:=0,step:=0,s:=if true=true then 0 else 3 }) ⟨g1,g2,g3,g4⟩ b (c.at 16 b w) hbb hn).bind hn (S:=fun x t=>if x.2≠1 then (t,(x.1,0,x.2)) else rload os x.1 (c.at 16 b w) t) (fun x t ht=>?_) (fun x m' t ht he=>?_) (fun x m' k hk2 hkn hl=>?_)).eq ?_
   ·split
    ·rfl
    ·rw [rload_dead ht]
   ·rw [if_pos (by omega)];exact he
   ·by_cases h1:x.2=1
    ·obtain ⟨a1,a2,a3,a4,a5,_,a7⟩:=hl.ok h1
     refine ((rload_sim (c:=c) (v:=m') ⟨a1,a2,a3,a4⟩ (a7 hb) a5 hkn).eq (by rw [if_neg (fun e=>e h1)])).mono (fun y v' l hy=>⟨hy.1, .inr ?_⟩) (fun y v' hy=>by rw [hy.1]);have:=hl.blk;rw [hy.2];omega
    ·refine (Sim.ret (a:=(x.1,0,x.2)) ?_).eq (by rw [if_pos h1])
     have hbad:=hl.bad h1;refine ⟨⟨hbad.rel,hbad.step,hbad.s,hbad.s3,fun e=>absurd e h1⟩, .inr ?_⟩;have:=hl.blk;omega
   ·unfold rword
    rw [if_neg hs,if_neg (by omega)]
end
def frz (H:Hp):HProp:=fun h=>h=H
theorem sat_frz {p:HProp}{L:List HProp}{h:Hp}(hs:Sat (p::L) h):∃ H,p H∧Sat (frz H::L) h:=by
 rw [sat_cons] at hs;obtain ⟨h1,h2,hd,hu,hp,hL⟩:=hs;exact ⟨h1,hp,sat_cons.2 ⟨h1,h2,hd,hu,rfl,hL⟩⟩
theorem RdC.frz {H:Hp}{L:List HProp}{b:Nat}{l:List Value}(hs:Sat L H)(r:ReadsC L b l):RdC (Go.Proofs.YthmbgodcpgkkeaaGreat.frz H) b l :=
 RdC.of_sat (p:=Go.Proofs.YthmbgodcpgkkeaaGreat.frz H) (fun k hk=>by rw [show k=H from hk];exact hs) r
theorem star_sat {L:List HProp}{H:Hp}(h:star L H):Sat L H:=by
 obtain ⟨_,h⟩:=h;exact h
theorem sat_mem {L:List HProp}{p:HProp}{H:Hp}(hs:Sat L H)(hp:p∈L):∃ M,Sat (p::M) H:=by
 obtain ⟨A,B,rfl⟩:=List.append_of_mem hp;have h:Ent (A++p::B) (p::(A++B)):=Ent.mid';unfold Ent at h;exact ⟨_,h _ hs⟩
theorem ListR.frz {α:Type}{f:α→List Value}{v:Value}{e sz n:Nat}{xs:List α}{L:List HProp}{H:Hp}(hn:xs.length=n)(hs:Sat L H)(hp:Row v e sz n (xs.flatMap f)∈L):ListR f (Go.Proofs.YthmbgodcpgkkeaaGreat.frz H) v xs:=by
 obtain ⟨M,hs⟩:=sat_mem hs hp;obtain ⟨R,hR,hs⟩:=sat_rowL hn hs
 exact hR.weak fun b l hr=>RdC.frz hs (.here hr)
theorem St.drawTo {P:Program}{C:Cx}{k:List Item}{E:Env}{L L0:List HProp}{id:Nat}{l:List Oper}(acts:List (Nat×Nat))(T:Then)(bs:List Nat)(hm:P.follows .mixedOrders=true)
  (hok:(Region.noSelect l.toArray && okA l.toArray bs (okT l.toArray bs T true) acts l.toArray.size (Array.replicate l.toArray.size false))=true)
  (h:StD P C l.toArray L0 T acts k E L):St P C (.code (.region id l.toArray true)::k) E L:=by
 unfold St;unfold StD at h;intro a w ha hs ho;simp only [Bool.and_eq_true] at hok;refine fin_of_wp (wp_region_any hm (wpAny_of_anyP (bs:=bs) (S:=fun w=>Sat L0 (hpOf w)) _ _ _ _ ?_));exact anyP_of_runK (P:=P) (w0:=C.w0) (S:=fun w=>Sat L0 (hpOf w)) qk_noOut hok.1 (fun w w' hg hs=>hg.sat hs) (fun n l a h w hb hd hk ho hr=>(anyP_of_runT (w0:=C.w0) qk_noOut hok.1 (fun w w' hg hs=>hg.sat hs) T).1 n l a h w hb hd hk ho hr) acts _ _ a (hpOf w) { w with drawn:=w.drawn+1 } hok.2 (Dn.none _) (fun _ _ h=>h) ⟨ho.os,ho.tape,ho.output⟩ (h a (hpOf w) ha hs)
theorem Zq {P:Program}{C:Cx}{k:List Item}{E:Env}{L L0 L1:List HProp}{ops:Array Oper}{T:Then}{r:List (Nat×Nat)}{i:Nat}{op:Op}{ty:TypeId}{ps:String}{af:Array Edge}{e:Option Tmp}{v:Value}(hi:ops[i]? = some ⟨e,op,ty,ps,af,none⟩)(ho:OpOk P C.nt op ty E L (fun v' L'=>v'=v∧L'=L1)∧inF C.nt e=true)(qL:Ent L1 L0)(h:StD P C ops L0 T r k (putE E e v) L1):StD P C ops L0 T ((i,2)::r) k E L:=StD.ok2 hi ho.1 ho.2 (by rintro _ _ ⟨rfl,rfl⟩;exact ⟨qL,h⟩)
theorem OpOk.append0 {P:Program}{n':Fi}{E:Env}{L:List HProp}{ty:TypeId}{t e sz n cap c2:Nat}{ad ad2:Option Addr}{s x:Operand}{xs:List Value}{L1:List HProp}[hu:Und P t (.slice e)][hs:Siz P e sz](hv:ev E s=some (.slice ad n cap))(hx:ev E x=some (.slice ad2 0 c2))(ht:Take (Row (.slice ad n cap) e sz n xs) L L1) :
  OpOk P n' (.call { callee:=.builtin .append,args:=⟨[s,x]⟩,argTypes:=⟨[t,t]⟩ }) ty E L (fun v' L'=>v'=.slice ad n cap∧L'=L):=by
 unfold OpOk;intro d ps af g a w ha X hsat
 have hle:n≤cap:=by
  have h1:=(ht.app X).sat hsat;rw [sat_cons] at h1;obtain ⟨_,_,_,_,⟨_,hr⟩,_⟩:=h1
  rcases hr with ⟨h,h0⟩|⟨_,_,_,h,hc,_⟩
  ·omega
  ·injection h with _ _ h3
   omega
 refine ⟨_,w,L, .inl ?_,⟨rfl,rfl⟩,hsat,Old.refl w⟩
 cases ad<;>cases ad2<;>simp [execOp,resolve,invoke,builtin,ha.ev hv,ha.ev hx,Builtin.append_,run_underlying hu.h,hs.h,Builtin.lenOf,Builtin.firstCells,loadCells,loadCellsFrom,storeCells,hle]
def tpV (ov:Value)(t:Tp):List Value:=[ov, .int .i64 (t.at_:Int), .int .i64 t.ask.kind, .int .i64 t.ask.at_, .int .u64 t.ask.old.val, .int .u64 t.ask.old.seq, .int .u64 t.ask.new.val, .int .u64 t.ask.new.seq, .bool t.need]
def rvV (c:Cfg)(v:Rv):List Value:=c.v++[.int .i64 v.who, .int .u64 (v.seq:Int), .int .i64 v.held, .bool v.stale]
section
theorem rdo_r {q:HProp}{ov:Value}{os:List Out}(hov:ListR Out.v q ov os)(_hos:os.length≤100000)(t:Tp)(ht:t.at_≤100000)(o:MOp):RTri Tryz.prog 186 #[.agg ⟨tpV ov t⟩, .agg ⟨o.v⟩] [q] (.tuple ⟨[.agg ⟨tpV ov (tdo os t o).1⟩, .agg ⟨(tdo os t o).2.v⟩]⟩):=by
 refine RTri.of_reads fun p1 hp=>?_
 have hov:=hov.weak fun b l h=>RdC.of_sat hp (ReadsC.here h)
 obtain ⟨ta,⟨k,a,⟨ov1,os1⟩,⟨nv1,ns1⟩⟩,tn⟩:=t;unfold tdo tpV MOp.v;dsimp only at ht⊢
 cases tn with
 | true =>
  obtain ⟨ad,cap,rfl,_⟩:=hov;rw [if_pos rfl]
  refine TB (vs:=[_,_]) Tryz.func186 fun w0 F=>?_
  repeat' (first|refine Ga ?_|(refine Gb ?_;intro b)|fail)
  all_goals first|(exfalso;omega)|exact St.d1 Tryz.func186 ⟨_,⟨rfl,rfl⟩,Ent.go⟩|skip
 | false =>
  rw [if_neg Bool.false_ne_true]
  by_cases hl:os.length≤ta
  ·obtain ⟨ad,cap,rfl,_⟩:=hov
   rw [if_pos hl]
   refine TB (vs:=[_,_]) Tryz.func186 fun w0 F=>?_
   repeat' (first|refine Ga ?_|(refine Gb ?_;intro b)|(refine Ge ?_ ?_<;>intro h<;>try omega)|fail)
   all_goals first|(exfalso;omega)|exact St.d1 Tryz.func186 ⟨_,⟨rfl,rfl⟩,Ent.go⟩|skip
  ·rw [if_neg hl]
   obtain ⟨ad,cap,rfl,_,hc⟩:=hov;obtain ⟨bf,fo,l,l1,rfl,hrd,hdr,htk⟩:=ListR.at (f:=Out.v) (sz:=3) (fun _=>rfl) hc ta (by omega)
   have hdr:DropN (fo+((ta:Int)+1 - 1).toNat * 3) l l1:=by rw [show ((ta:Int)+1 - 1)=(ta:Int) by omega];exact hdr
   have hg:os.getD ta out0=os[ta]'(by omega):=by rw [List.getD_eq_getElem?_getD,List.getElem?_eq_getElem (by omega)];rfl
   rw [hg];generalize os[ta]'(by omega)=x at htk⊢;obtain ⟨⟨xv,xs⟩,xo⟩:=x;unfold Out.v at htk⊢;dsimp only at htk⊢
   refine TB (vs:=[_,_]) Tryz.func186 fun w0 F=>?_
   repeat' (first|refine Ga ?_|(refine Gb ?_;intro b)|(refine Dt 8 [(1,0),(3,0)] (.pick [(0,3)] (.pick [(2,3)] (.pick [(4,3),(5,0),(6,0)] (.pick [(7,3),(8,3),(9,3)] .done (.pick [(8,3),(7,3),(9,3)] .done .nope)) (.pick [(8,3),(4,3),(5,0),(6,0),(7,3),(9,3)] .done .nope)) (.pick [(4,3),(5,0)] (.pick [(2,3),(6,0)] (.pick [(7,3),(8,3),(9,3)] .done (.pick [(8,3),(7,3),(9,3)] .done .nope)) (.pick [(8,3),(2,3),(6,0),(7,3),(9,3)] .done .nope)) (.pick [(8,3)] (.pick [(2,3),(4,3),(5,0),(6,0),(7,3),(9,3)] .done (.pick [(4,3),(5,0),(2,3),(6,0),(7,3),(9,3)] .done .nope)) .nope))) (.pick [(2,3)] (.pick [(0,3)] (.pick [(4,3),(5,0),(6,0)] (.pick [(7,3),(8,3),(9,3)] .done (.pick [(8,3),(7,3),(9,3)] .done .nope)) (.pick [(8,3),(4,3),(5,0),(6,0),(7,3),(9,3)] .done .nope)) (.pick [(4,3),(5,0),(6,0)] (.pick [(0,3)] (.pick [(7,3),(8,3),(9,3)] .done (.pick [(8,3),(7,3),(9,3)] .done .nope)) (.pick [(7,3),(0,3),(8,3),(9,3)] .done .nope)) .nope)) (.pick [(4,3),(5,0)] (.pick [(0,3)] (.pick [(2,3),(6,0)] (.pick [(7,3),(8,3),(9,3)] .done (.pick [(8,3),(7,3),(9,3)] .done .nope)) (.pick [(8,3),(2,3),(6,0),(7,3),(9,3)] .done .nope)) (.pick [(2,3),(6,0)] (.pick [(0,3)] (.pick [(7,3),(8,3),(9,3)] .done (.pick [(8,3),(7,3),(9,3)] .done .nope)) (.pick [(7,3),(0,3),(8,3),(9,3)] .done .nope)) .nope)) .nope))) [0,2,4,7,8,9] ?_)|apply StD.pick|exact StD.nope|(refine StD.ok3 rfl (OpOk.ofW OpV.go) rfl ?_;rintro _ _ ⟨rfl,rfl⟩)|(refine Ge ?_ ?_<;>intro h<;>try omega)|fail)
   all_goals first|(exfalso;omega)|exact St.d1 Tryz.func186 ⟨_,⟨rfl,rfl⟩,Ent.go⟩|skip
theorem rld_r {q:HProp}{ov:Value}{os:List Out}(hov:ListR Out.v q ov os)(hos:os.length≤100000)(t:Tp)(ht:t.at_≤100000)(a:Int):RTri Tryz.prog 106 #[.agg ⟨tpV ov t⟩, .int .i64 a] [q] (.tuple ⟨[.agg ⟨tpV ov (tdo os t (mop 0 a 0)).1⟩, .agg ⟨(tdo os t (mop 0 a 0)).2.was.v⟩]⟩):=by
 have hd:=rdo_r hov hos t ht (mop 0 a 0);unfold mop MOp.v at hd;dsimp only at hd;unfold mop;generalize tdo os t _=x at hd⊢;obtain ⟨⟨ta,⟨k,oa,⟨ov1,os1⟩,⟨nv1,ns1⟩⟩,tn⟩,⟨⟨wv,ws⟩,ok⟩⟩:=x;unfold tpV Out.v at hd;unfold tpV Cell.v;dsimp only at hd⊢
 refine RTri.of_reads fun p1 hp=>?_
 have hd:=hd.of_read hp;obtain ⟨ad,cap,rfl,_⟩:=hov
 refine TB (vs:=[_,_]) Tryz.func106 fun w0 F=>?_
 repeat' (first|refine Ga ?_|(refine Gb ?_;intro b)|(refine Dt 2 [(1,0)] (.pick [(0,3)] (.pick [(2,3),(3,3),(4,3)] .done (.pick [(3,3),(2,3),(4,3)] .done .nope)) (.pick [(2,3),(0,3),(3,3),(4,3)] .done .nope)) [0,2,3,4] ?_)|apply StD.pick|exact StD.nope|refine Gl hd ?_|(refine StD.ok3 rfl (OpOk.ofW OpV.go) rfl ?_;rintro _ _ ⟨rfl,rfl⟩)|fail)
 all_goals first|(exfalso;omega)|exact St.d1 Tryz.func106 ⟨_,⟨rfl,rfl⟩,Ent.go⟩|skip
theorem rst_r {q:HProp}{ov:Value}{os:List Out}(hov:ListR Out.v q ov os)(hos:os.length≤100000)(t:Tp)(ht:t.at_≤100000)(a:Int)(x:Cell):RTri Tryz.prog 217 #[.agg ⟨tpV ov t⟩, .int .i64 a, .agg ⟨x.v⟩] [q] (.agg ⟨tpV ov (tdo os t ⟨1,a,⟨0,0⟩,x⟩).1⟩):=by
 have hd:=rdo_r hov hos t ht ⟨1,a,⟨0,0⟩,x⟩;obtain ⟨xv,xs⟩:=x;unfold MOp.v at hd;dsimp only at hd;generalize tdo os t _=x at hd⊢;obtain ⟨⟨ta,⟨k,oa,⟨ov1,os1⟩,⟨nv1,ns1⟩⟩,tn⟩,⟨⟨wv,ws⟩,ok⟩⟩:=x;unfold tpV Out.v at hd;unfold tpV Cell.v;dsimp only at hd⊢
 refine RTri.of_reads fun p1 hp=>?_
 have hd:=hd.of_read hp;obtain ⟨ad,cap,rfl,_⟩:=hov
 refine TB (vs:=[_,_,_]) Tryz.func217 fun w0 F=>?_
 repeat' (first|refine Ga ?_|(refine Gb ?_;intro b)|refine Gl hd ?_|fail)
 all_goals first|(exfalso;omega)|exact St.d1 Tryz.func217 ⟨_,⟨rfl,rfl⟩,Ent.go⟩|skip
theorem rvload_r {q:HProp}{ov:Value}{os:List Out}(hov:ListR Out.v q ov os)(hos:os.length≤100000)(c:Cfg)(v:Rv)(t:Tp)(ht:t.at_≤100000)(a:Int):RTri Tryz.prog 266 #[.agg ⟨rvV c v⟩, .agg ⟨tpV ov t⟩, .int .i64 a] [q]
  (.tuple ⟨[.agg ⟨rvV c (rload os v a t).2.1⟩, .agg ⟨tpV ov (rload os v a t).1⟩, .int .u64 ((rload os v a t).2.2.1:Int), .int .i64 (rload os v a t).2.2.2]⟩):=by
 have hd:=rld_r hov hos t ht a;unfold rload;generalize tdo os t (mop 0 a 0)=x at hd⊢;obtain ⟨⟨ta,⟨k,oa,⟨ov1,os1⟩,⟨nv1,ns1⟩⟩,tn⟩,⟨⟨wv,ws⟩,ok⟩⟩:=x;obtain ⟨who,seq,held,stale⟩:=v
 refine RTri.of_reads fun p1 hp=>?_
 have hd:=hd.of_read hp;obtain ⟨ad,cap,rfl,_⟩:=hov;unfold tpV Cell.v at hd;unfold tpV rvV;dsimp only at hd⊢
 cases tn with
 | true =>
  rw [if_pos rfl]
  refine TB (vs:=[_,_,_]) Tryz.func266 fun w0 F=>?_
  repeat' (first|refine Ga ?_|(refine Gb ?_;intro b)|(refine Dt 3 [] (.pick [(0,3)] (.pick [(1,3),(2,3),(3,3),(4,0),(5,0)] .done (.pick [(2,3),(1,3),(3,3),(4,0),(5,0)] .done .nope)) (.pick [(1,3),(0,3),(2,3),(3,3),(4,0),(5,0)] .done .nope)) [0,1,2,3] ?_)|apply StD.pick|exact StD.nope|refine Gl hd ?_|(refine StD.ok3 rfl (OpOk.ofW OpV.go) rfl ?_;rintro _ _ ⟨rfl,rfl⟩)|fail)
  all_goals first|(exfalso;omega)|exact St.d1 Tryz.func266 ⟨_,⟨rfl,rfl⟩,Ent.go⟩|skip
 | false =>
  rw [if_neg Bool.false_ne_true]
  by_cases hs:seq<ws
  ·rw [if_pos hs]
   refine TB (vs:=[_,_,_]) Tryz.func266 fun w0 F=>?_
   repeat' (first|refine Ga ?_|(refine Gb ?_;intro b)|(refine Dt 6 [] (.pick [(0,3)] (.pick [(1,3),(2,3),(3,3),(4,0),(5,0)] .done (.pick [(2,3),(1,3),(3,3),(4,0),(5,0)] .done .nope)) (.pick [(1,3),(0,3),(2,3),(3,3),(4,0),(5,0)] .done .nope)) [0,1,2,3] ?_)|apply StD.pick|exact StD.nope|refine Gl hd ?_|(refine StD.ok3 rfl (OpOk.ofW OpV.go) rfl ?_;rintro _ _ ⟨rfl,rfl⟩)|(refine Ge ?_ ?_<;>intro h<;>try omega)|fail)
   all_goals first|(exfalso;omega)|exact St.d1 Tryz.func266 ⟨_,⟨rfl,rfl⟩,Ent.go⟩|skip
  ·rw [if_neg hs]
   refine TB (vs:=[_,_,_]) Tryz.func266 fun w0 F=>?_
   repeat' (first|refine Ga ?_|(refine Gb ?_;intro b)|(refine Dt 7 [(2,0)] (.pick [(0,3)] (.pick [(1,3)] (.pick [(3,3),(4,3),(5,3),(6,0),(7,0)] .done (.pick [(4,3)] (.pick [(3,3),(5,3),(6,0),(7,0)] .done (.pick [(5,3),(3,3),(6,0),(7,0)] .done .nope)) .nope)) (.pick [(3,3)] (.pick [(1,3),(4,3),(5,3),(6,0),(7,0)] .done (.pick [(4,3),(1,3),(5,3),(6,0),(7,0)] .done .nope)) (.pick [(4,3)] (.pick [(1,3)] (.pick [(3,3),(5,3),(6,0),(7,0)] .done (.pick [(5,3),(3,3),(6,0),(7,0)] .done .nope)) (.pick [(3,3),(1,3),(5,3),(6,0),(7,0)] .done .nope)) .nope))) (.pick [(1,3)] (.pick [(0,3)] (.pick [(3,3),(4,3),(5,3),(6,0),(7,0)] .done (.pick [(4,3)] (.pick [(3,3),(5,3),(6,0),(7,0)] .done (.pick [(5,3),(3,3),(6,0),(7,0)] .done .nope)) .nope)) (.pick [(3,3),(0,3),(4,3),(5,3),(6,0),(7,0)] .done .nope)) (.pick [(3,3)] (.pick [(0,3)] (.pick [(1,3),(4,3),(5,3),(6,0),(7,0)] .done (.pick [(4,3),(1,3),(5,3),(6,0),(7,0)] .done .nope)) (.pick [(1,3),(0,3),(4,3),(5,3),(6,0),(7,0)] .done .nope)) .nope))) [0,1,3,4,5] ?_)|apply StD.pick|exact StD.nope|refine Gl hd ?_|(refine StD.ok3 rfl (OpOk.ofW OpV.go) rfl ?_;rintro _ _ ⟨rfl,rfl⟩)|(refine Ge ?_ ?_<;>intro h<;>try omega)|fail)
   all_goals first|(exfalso;omega)|exact St.d1 Tryz.func266 ⟨_,⟨rfl,rfl⟩,Ent.go⟩|skip
end
section
set_option maxHeartbeats 1000000 in
theorem rvcell_r {q:HProp}{ov:Value}{os:List Out}(hov:ListR Out.v q ov os)(hos:os.length≤100000){c:Cfg}(hc:Small c)(v:Rv)(t:Tp)(ht:t.at_≤100000)(a:Int):RTri Tryz.prog 202 #[.agg ⟨rvV c v⟩, .agg ⟨tpV ov t⟩, .int .i64 a] [q]
  (.tuple ⟨[.agg ⟨rvV c (rcell c os v a t).2.1⟩, .agg ⟨tpV ov (rcell c os v a t).1⟩, .int .u64 ((rcell c os v a t).2.2.1:Int), .int .i64 (rcell c os v a t).2.2.2]⟩):=by
 have hd:=rvload_r hov hos c v t ht a;have h7:RTri Tryz.prog 133 #[.agg ⟨c.v⟩, .int .i64 7] [] (.int .i64 c.f7):=rfrom_7 c hc;have h16:RTri Tryz.prog 133 #[.agg ⟨c.v⟩, .int .i64 16] [] (.int .i64 c.f16):=rfrom_16 c hc;unfold rcell;generalize rload os v a t=y at hd⊢;obtain ⟨⟨ya,⟨yk,yoa,⟨yv1,ys1⟩,⟨yv2,ys2⟩⟩,yn⟩,⟨⟨yw,yq,yh,yst⟩,yval,ys⟩⟩:=y;obtain ⟨ta,⟨k,oa,⟨ov1,os1⟩,⟨nv1,ns1⟩⟩,tn⟩:=t;obtain ⟨who,seq,held,stale⟩:=v
 refine RTri.of_reads fun p1 hp=>?_
 have hd:=hd.of_read hp;obtain ⟨ad,cap,rfl,_⟩:=hov;unfold tpV rvV Cfg.v at hd;unfold Cfg.v at h7 h16;unfold tpV rvV Cfg.v;dsimp only [List.cons_append,List.nil_append] at hd⊢
 cases stale with
 | true =>
  rw [if_pos rfl]
  refine TB (vs:=[_,_,_]) Tryz.func202 fun w0 F=>?_
  repeat' (first|refine Ga ?_|(refine Gb ?_;intro b)|(refine Dt 2 [] (.pick [(0,3)] (.pick [(1,3),(2,3),(3,3),(4,0),(5,0)] .done (.pick [(2,3),(1,3),(3,3),(4,0),(5,0)] .done .nope)) (.pick [(1,3),(0,3),(2,3),(3,3),(4,0),(5,0)] .done .nope)) [0,1,2,3] ?_)|apply StD.pick|exact StD.nope|(refine StD.ok3 rfl (OpOk.ofW OpV.go) rfl ?_;rintro _ _ ⟨rfl,rfl⟩)|fail)
  all_goals first|(exfalso;omega)|exact St.d1 Tryz.func202 ⟨_,⟨rfl,rfl⟩,Ent.go⟩|skip
 | false =>
  rw [if_neg Bool.false_ne_true]
  by_cases h1:a<c.f7∨c.f16≤a
  ·rw [if_pos h1]
   refine TB (vs:=[_,_,_]) Tryz.func202 fun w0 F=>?_
   repeat' (first|refine Ga ?_|(refine Gb ?_;intro b)|(refine Dt 4 [] (.pick [(0,3)] (.pick [(1,3),(2,3),(3,3),(4,0),(5,0)] .done (.pick [(2,3),(1,3),(3,3),(4,0),(5,0)] .done .nope)) (.pick [(1,3),(0,3),(2,3),(3,3),(4,0),(5,0)] .done .nope)) [0,1,2,3] ?_)|apply StD.pick|exact StD.nope|refine Gl h7 ?_|refine Gl h16 ?_|(refine StD.ok3 rfl (OpOk.ofW OpV.go) rfl ?_;rintro _ _ ⟨rfl,rfl⟩)|(refine Ge ?_ ?_<;>intro h<;>try omega)|fail)
   all_goals first|(exfalso;omega)|exact St.d1 Tryz.func202 ⟨_,⟨rfl,rfl⟩,Ent.go⟩|skip
  ·rw [if_neg h1]
   refine TB (vs:=[_,_,_]) Tryz.func202 fun w0 F=>?_
   repeat' (first|refine Ga ?_|(refine Gb ?_;intro b)|refine Gl hd ?_|refine Gl h7 ?_|refine Gl h16 ?_|(refine Ge ?_ ?_<;>intro h<;>try omega)|fail)
   all_goals first|(exfalso;omega)|exact St.d1 Tryz.func202 ⟨_,⟨rfl,rfl⟩,Ent.go⟩|skip
end
end Go.Proofs.YthmbgodcpgkkeaaGreat
