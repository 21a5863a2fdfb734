/-
  Package tumblerref11: a Run's cells. Packages tumblerref10, tumblerref14, in plain terms: a transaction, as far as replies go. Package help: a transaction that is begun is done; package scribe: a log is written: their numbers, in plain terms.
-/
import Derived.Test.YthmbgodcpgkkeaaGreatKc
import Derived.Test.YthmbgodcpgkkeaaGreatNa
import Derived.Test.YthmbgodcpgkkeaaGreatMb
import Derived.Test.YthmbgodcpgkkeaaGreatRowq
set_option maxRecDepth 100000
namespace Go.Proofs.YthmbgodcpgkkeaaGreat
structure Px where
 na:Option Addr
 nn:Nat
 nc:Nat
 ma:Option Addr
 mn:Nat
 mc:Nat
 wt:Int
 wl:Int
 nt:Int
 nl:Int
 room:Nat
 sa:Option Addr
 sn:Nat
 sc:Nat
def evV (c:Cfg)(v:Rv)(x:Px):List Value:=rvV c v++(plV c x.na x.nn x.nc x.ma x.mn x.mc x.wt x.wl x.nt x.nl++[.int .i64 (x.room:Int), .slice x.sa x.sn x.sc])
def rnV (c:Cfg)(ov:Value)(x:Px)(nv:Value)(t:Tp)(r:Rr):List Value :=
 .int .i64 c.threads::.int .i64 c.blocks::.int .i64 c.writes::.int .i64 c.fuel::.int .u64 (c.first:Int)::.int .u64 (c.last:Int)::.int .i64 r.v.who::.int .u64 (r.v.seq:Int)::.int .i64 r.v.held::.bool r.v.stale ::
 .int .i64 c.threads::.int .i64 c.blocks::.int .i64 c.writes::.int .i64 c.fuel::.int .u64 (c.first:Int)::.int .u64 (c.last:Int)::.slice x.na x.nn x.nc::.slice x.ma x.mn x.mc::.int .i64 x.wt::.int .i64 x.wl::.int .i64 r.nt::.int .i64 r.nl ::
 .int .i64 (x.room:Int)::.slice x.sa x.sn x.sc ::
 ov::.int .i64 (t.at_:Int)::.int .i64 t.ask.kind::.int .i64 t.ask.at_::.int .u64 (t.ask.old.val:Int)::.int .u64 (t.ask.old.seq:Int)::.int .u64 (t.ask.new.val:Int)::.int .u64 (t.ask.new.seq:Int)::.bool t.need ::
 (g16 r.regs++[.int .i64 r.pc, .int .i64 r.steps, .int .i64 r.writes,nv, .int .i64 r.s, .int .i64 r.er, .int .u64 (r.val:Int)])
abbrev rn0:List Value:=[.int .i64 0, .int .i64 0, .int .i64 0, .int .i64 0, .int .u64 0, .int .u64 0, .int .i64 0, .int .u64 0, .int .i64 0, .bool false, .int .i64 0, .int .i64 0, .int .i64 0, .int .i64 0, .int .u64 0, .int .u64 0, .slice none 0 0, .slice none 0 0, .int .i64 0, .int .i64 0, .int .i64 0, .int .i64 0, .int .i64 0, .slice none 0 0, .slice none 0 0, .int .i64 0, .int .i64 0, .int .i64 0, .int .u64 0, .int .u64 0, .int .u64 0, .int .u64 0, .bool false, .int .u64 0, .int .u64 0, .int .u64 0, .int .u64 0, .int .u64 0, .int .u64 0, .int .u64 0, .int .u64 0, .int .u64 0, .int .u64 0, .int .u64 0, .int .u64 0, .int .u64 0, .int .u64 0, .int .u64 0, .int .u64 0, .int .i64 0, .int .i64 0, .int .i64 0, .slice none 0 0, .int .i64 0, .int .i64 0, .int .u64 0]
section
variable (c:Cfg)(ov:Value)(x:Px)(nv:Value)(t:Tp)(r:Rr)
theorem rn_reg {a:Int}(h0:0≤a)(h1:a<16):NthN (0+33+a.toNat * 1) (rnV c ov x nv t r) (.int .u64 ((rreg r.regs a:Nat):Int)):=by
 have h:a=0∨a=1∨a=2∨a=3∨a=4∨a=5∨a=6∨a=7∨a=8∨a=9∨a=10∨a=11∨a=12∨a=13∨a=14∨a=15:=by omega
 rcases h with rfl|rfl|rfl|rfl|rfl|rfl|rfl|rfl|rfl|rfl|rfl|rfl|rfl|rfl|rfl|rfl<;>exact NthN.of rfl
theorem rn_set (hl:r.regs.length=16){a:Int}(h0:0≤a)(h1:a<16)(n:Nat):SetN (.int .u64 (n:Int)) (0+33+a.toNat * 1) (rnV c ov x nv t r) (rnV c ov x nv t { r with regs:=r.regs.set a.toNat n }):=by
 have h:a=0∨a=1∨a=2∨a=3∨a=4∨a=5∨a=6∨a=7∨a=8∨a=9∨a=10∨a=11∨a=12∨a=13∨a=14∨a=15:=by omega
 obtain ⟨v,nt,nl,puts,regs,pc,steps,writes,news,s,er,val⟩:=r;obtain ⟨a0,a1,a2,a3,a4,a5,a6,a7,a8,a9,a10,a11,a12,a13,a14,a15,rfl⟩:=len16 hl
 have key:∀ (k:Nat) (l l':List Value),k<l.length→l.set k (.int .u64 (n:Int))=l'→SetN (.int .u64 (n:Int)) k l l':=fun k l l' hk e=>e▸SetN.of hk
 rcases h with rfl|rfl|rfl|rfl|rfl|rfl|rfl|rfl|rfl|rfl|rfl|rfl|rfl|rfl|rfl|rfl<;>exact key _ _ _ (by simp [rnV,g16]) rfl
end
abbrev RunO (c:Cfg)(q:HProp)(ov:Value)(x:Px)(t:Tp)(r:Rr)(g:Value→Value)(v:Value)(L:List HProp):Prop :=
 ∃ q' sa sc wa wc,Gr q q'∧ListR entV q' (.slice sa r.puts.length sc) r.puts∧ListR u1V q' (.slice wa r.news.length wc) r.news∧v=g (.agg ⟨rnV c ov { x with sa:=sa,sn:=r.puts.length,sc:=sc } (.slice wa r.news.length wc) t r⟩)∧L=[q']
structure Rp where
 named:List Nat
 limbo:List Nat
 wt:Int
 wl:Int
def rnamed (c:Cfg)(os:List Out):Nat→Nat→List Nat→Tp→Tp×List Nat
 | 0,_,l,t=>(t,l)
 | k+1,u,l,t=>rnamed c os k (u+1) (l++[(tdo os t (mop 0 (c.at 3 u 0) 0)).2.was.val]) (tdo os t (mop 0 (c.at 3 u 0) 0)).1
def rlimbo (c:Cfg)(os:List Out)(seq:Nat):Nat→Nat→List Nat→Tp→Tp×(List Nat×Int)
 | 0,_,l,t=>(t,(l,1))
 | n+1,k,l,t=>if (tdo os t (mop 0 (c.at 15 k 0) 0)).1.need=true then ((tdo os t (mop 0 (c.at 15 k 0) 0)).1,(l,0)) else if seq<(tdo os t (mop 0 (c.at 15 k 0) 0)).2.was.seq then ((tdo os t (mop 0 (c.at 15 k 0) 0)).1,(l,2)) else rlimbo c os seq n (k+1) (l++[(tdo os t (mop 0 (c.at 15 k 0) 0)).2.was.val]) (tdo os t (mop 0 (c.at 15 k 0) 0)).1
def rread3 (c:Cfg)(os:List Out)(seq:Nat)(l:List Nat)(top lim:Nat)(t:Tp):Tp×(Rp×Int) :=
 ((rlimbo c os seq (minI lim c.limit).toNat 0 [] t).1,(⟨l,(rlimbo c os seq (minI lim c.limit).toNat 0 [] t).2.1,minI top c.blocks,minI lim c.limit⟩,(rlimbo c os seq (minI lim c.limit).toNat 0 [] t).2.2))
def rread2 (c:Cfg)(os:List Out)(seq:Nat)(l:List Nat)(top:Nat)(t:Tp):Tp×(Rp×Int) :=
 if (tdo os t (mop 0 (c.at 14 0 0) 0)).1.need=true then ((tdo os t (mop 0 (c.at 14 0 0) 0)).1,(⟨l,[],0,0⟩,0)) else if seq<(tdo os t (mop 0 (c.at 14 0 0) 0)).2.was.seq then ((tdo os t (mop 0 (c.at 14 0 0) 0)).1,(⟨l,[],0,0⟩,2)) else rread3 c os seq l top (tdo os t (mop 0 (c.at 14 0 0) 0)).2.was.val (tdo os t (mop 0 (c.at 14 0 0) 0)).1
def rread1 (c:Cfg)(os:List Out)(seq:Nat)(l:List Nat)(t:Tp):Tp×(Rp×Int) :=
 if (tdo os t (mop 0 (c.at 12 0 0) 0)).1.need=true then ((tdo os t (mop 0 (c.at 12 0 0) 0)).1,(⟨l,[],0,0⟩,0)) else if seq<(tdo os t (mop 0 (c.at 12 0 0) 0)).2.was.seq then ((tdo os t (mop 0 (c.at 12 0 0) 0)).1,(⟨l,[],0,0⟩,2)) else rread2 c os seq l (tdo os t (mop 0 (c.at 12 0 0) 0)).2.was.val (tdo os t (mop 0 (c.at 12 0 0) 0)).1
def rread (c:Cfg)(os:List Out)(seq:Nat)(t:Tp):Tp×(Rp×Int):=rread1 c os seq (rnamed c os c.threads.toNat 0 [] t).2 (rnamed c os c.threads.toNat 0 [] t).1
theorem rnamed_dead {os:List Out}{t:Tp}(h:t.need=true)(c:Cfg):∀ (k u:Nat) (l:List Nat),(rnamed c os k u l t).1=t
 | 0,_,_=>rfl
 | k+1,u,l=>by unfold rnamed;rw [tdo_dead h];exact rnamed_dead h c k _ _
theorem rread1_dead {os:List Out}{t:Tp}(h:t.need=true)(c:Cfg)(seq:Nat)(l:List Nat):rread1 c os seq l t=(t,(⟨l,[],0,0⟩,0)):=by unfold rread1;rw [tdo_dead h,if_pos h]
def XPo (c:Cfg):Mch Po:=⟨Po.ask c,Po.tell c⟩
theorem XPo_ask (c:Cfg)(p:Po):(XPo c).ask p=p.ask c:=rfl
theorem XPo_tell (c:Cfg)(p:Po)(o:Out):(XPo c).tell p o=p.tell c o:=rfl
def Po.nm (seq u:Nat)(l:List Nat):Po:=⟨seq,u,l,0,0,0,0,[],0⟩
structure PR (c:Cfg)(x:Rp×Int)(p:Po):Prop where
 s:p.s=x.2
 s2:x.2=1∨x.2=2
 ok:x.2=1→p.names=x.1.named∧p.limbo=x.1.limbo∧p.wt=x.1.wt∧p.wl=x.1.wl∧p.nt=x.1.wt∧p.nl=x.1.wl
theorem minI_nn (a:Nat){b:Int}(h:0≤b):0≤minI (a:Int) b:=by unfold minI;split<;>omega
section
variable {c:Cfg}{os:List Out}
theorem rnamed_sim (hc:Small c)(seq:Nat):∀ (k u:Nat) (l:List Nat) {n:Nat},n≤os.length→u+k=c.threads.toNat→Sim (XPo c) os (rnamed c os k u l) (fun l' p' _=>p'=Po.nm seq c.threads.toNat l') (fun _ _=>True) (Po.nm seq u l) n
 | 0,u,l,n,hn,hu=>by
  have e:u=c.threads.toNat:=by omega
  subst e;exact Sim.ret (a:=l) rfl
 | k+1,u,l,n,hn,hu=>by
  have ht:=hc.t0
  have hask:(XPo c).ask (Po.nm seq u l)=(mop 0 (c.at 3 u 0) 0,true):=by
   rw [XPo_ask];unfold Po.ask Po.nm;rw [if_neg (fun e=>e rfl),if_pos (by dsimp only;omega)]
  refine ((Sim.do hask hn).bind hn (S:=fun o t=>rnamed c os k (u+1) (l++[o.was.val]) t) (fun o t h=>rnamed_dead h c _ _ _) (fun _ _ _ _ _=>trivial) (fun o p' j hj hjn e=>?_)).eq rfl;obtain ⟨rfl,rfl,hk2,ho⟩:=e
  have e:(XPo c).tell (Po.nm seq u l) o=Po.nm seq (u+1) (l++[o.was.val]):=by
   rw [XPo_tell];unfold Po.tell Po.nm Po.fin;rw [if_neg (fun e=>e rfl),if_pos (by dsimp only;omega),if_neg (by dsimp only;omega)];rfl
  rw [e];exact rnamed_sim hc seq k (u+1) _ hk2 (by omega)
theorem rlimbo_sim (hc:Small c)(seq:Nat)(nm:List Nat)(wt wl:Int)(hwl:0≤wl):∀ (k i:Nat) (l:List Nat) {p:Po} {n:Nat},n≤os.length→l.length=i→((i:Int)+k=wl)→(k=0→p=⟨seq,c.threads+2+i,nm,wt,wl,wt,wl,l,1⟩)→(k≠0→p=⟨seq,c.threads+2+i,nm,wt,wl,0,0,l,0⟩)→
  Sim (XPo c) os (rlimbo c os seq k i l) (fun x p' _=>PR c (⟨nm,x.1,wt,wl⟩,x.2) p') (fun x _=>x.2=0) p n
 | 0,i,l,p,n,hn,hl,hk,h0,_=>by
  rw [h0 rfl];exact Sim.ret (a:=(l,1)) ⟨rfl, .inl rfl,fun _=>⟨rfl,rfl,rfl,rfl,rfl,rfl⟩⟩
 | k+1,i,l,p,n,hn,hl,hk,_,h1=>by
  have ht:=hc.t0;rw [h1 (by omega)]
  have hask:(XPo c).ask ⟨seq,c.threads+2+i,nm,wt,wl,0,0,l,0⟩=(mop 0 (c.at 15 i 0) 0,true):=by
   rw [XPo_ask];unfold Po.ask;dsimp only;rw [if_neg (fun e=>e rfl),if_neg (by omega),if_neg (by omega),if_neg (by omega),show c.threads+2+(i:Int) - c.threads - 2=i by omega]
  refine ((Sim.do hask hn).bind hn (S:=fun o t=>if t.need=true then (t,(l,0)) else if seq<o.was.seq then (t,(l,2)) else rlimbo c os seq k (i+1) (l++[o.was.val]) t) (fun o t h=>by rw [if_pos h]) (fun _ _ t h _=>by rw [if_pos h]) (fun o p' j hj hjn e=>?_)).eq rfl;obtain ⟨rfl,rfl,hk2,ho⟩:=e;rw [XPo_tell];unfold Po.tell;dsimp only
  have t1:¬ (c.threads+2+(i:Int)<c.threads):=by omega
  have t2:¬ (c.threads+2+(i:Int)=c.threads):=by omega
  have t3:¬ (c.threads+2+(i:Int)=c.threads+1):=by omega
  have hnd:¬ (Tp.live (n+1)).need=true:=Bool.false_ne_true;rw [if_neg (fun e=>e rfl),if_neg t1]
  by_cases hs:seq<o.was.seq
  ·rw [if_pos hs]
   refine (Sim.ret (a:=(l,2)) ⟨rfl, .inr rfl,fun e=>absurd (show (2:Int)=1 from e) (by decide)⟩).eq ?_;rw [if_neg hnd,if_pos hs]
  ·rw [if_neg hs,if_neg t2,if_neg t3]
   refine (rlimbo_sim hc seq nm wt wl hwl k (i+1) (l++[o.was.val]) hk2 (by rw [List.length_append,hl];rfl) (by omega) (fun hz=>?_) (fun hz=>?_)).eq ?_
   ·unfold Po.fin
    dsimp only;rw [if_pos ⟨by omega,by rw [List.length_append,hl,List.length_singleton];omega⟩,Int.natCast_add,show c.threads+2+(i:Int)+1=c.threads+2+((i:Int)+(1:Nat)) by omega]
   ·unfold Po.fin
    dsimp only;rw [if_neg (fun e=>by have e:=e.2;rw [List.length_append,hl,List.length_singleton] at e;omega),Int.natCast_add,show c.threads+2+(i:Int)+1=c.threads+2+((i:Int)+(1:Nat)) by omega]
   ·rw [if_neg hnd,if_neg hs]
theorem rread_sim (hc:Small c)(seq:Nat){n:Nat}(hn:n≤os.length):Sim (XPo c) os (rread c os seq) (fun x p' _=>PR c x p') (fun x _=>x.2=0) (Po.new seq) n:=by
 have ht:=hc.t0;have hlm:=hc.limit;refine ((rnamed_sim hc seq c.threads.toNat 0 [] hn (by omega)).bind hn (S:=fun l t=>rread1 c os seq l t) (fun l t h=>by rw [rread1_dead h]) (fun l _ t h _=>by rw [rread1_dead h]) (fun l p' j hj hjn e=>?_)).eq rfl;subst e
 have hask:(XPo c).ask (Po.nm seq c.threads.toNat l)=(mop 0 (c.at 12 0 0) 0,true):=by
  rw [XPo_ask];unfold Po.ask Po.nm;dsimp only;rw [if_neg (fun e=>e rfl),if_neg (by omega),if_pos (by omega)]
 refine ((Sim.do hask hjn).bind hjn (S:=fun o t=>if t.need=true then (t,((⟨l,[],0,0⟩:Rp),(0:Int))) else if seq<o.was.seq then (t,(⟨l,[],0,0⟩,2)) else rread2 c os seq l o.was.val t) (fun o t h=>by rw [if_pos h]) (fun _ _ t h _=>by rw [if_pos h]) (fun o p' i hi hin e=>?_)).eq rfl;obtain ⟨rfl,rfl,hi2,ho⟩:=e;have hnd:¬ (Tp.live (j+1)).need=true:=Bool.false_ne_true;rw [XPo_tell];unfold Po.tell Po.nm;dsimp only
 have t1:¬ ((c.threads.toNat:Int)<c.threads):=by omega
 have t2:(c.threads.toNat:Int)=c.threads:=by omega
 rw [if_neg (fun e=>e rfl),if_neg t1]
 by_cases hs:seq<o.was.seq
 ·rw [if_pos hs]
  refine (Sim.ret (a:=(⟨l,[],0,0⟩,2)) ⟨rfl, .inr rfl,fun e=>absurd (show (2:Int)=1 from e) (by decide)⟩).eq ?_;rw [if_neg hnd,if_pos hs]
 rw [if_neg hs,if_pos t2]
 have ef:Po.fin c ⟨seq,(c.threads.toNat:Int)+1,l,minI o.was.val c.blocks,0,0,0,[],0⟩=⟨seq,c.threads+1,l,minI o.was.val c.blocks,0,0,0,[],0⟩:=by
  unfold Po.fin;dsimp only;rw [if_neg (by omega),t2]
 rw [ef]
 have hask:(XPo c).ask ⟨seq,c.threads+1,l,minI o.was.val c.blocks,0,0,0,[],0⟩=(mop 0 (c.at 14 0 0) 0,true):=by
  rw [XPo_ask];unfold Po.ask;dsimp only;rw [if_neg (fun e=>e rfl),if_neg (by omega),if_neg (by omega),if_pos rfl]
 have hnd2:¬ (Tp.live (j+1+1)).need=true:=Bool.false_ne_true;refine ((Sim.do hask hi2).bind hi2 (S:=fun o2 t=>if t.need=true then (t,((⟨l,[],0,0⟩:Rp),(0:Int))) else if seq<o2.was.seq then (t,(⟨l,[],0,0⟩,2)) else rread3 c os seq l o.was.val o2.was.val t) (fun o t h=>by rw [if_pos h]) (fun _ _ t h _=>by rw [if_pos h]) (fun o2 p' i hi hin e=>?_)).eq (by rw [if_neg hnd,if_neg hs];rfl);obtain ⟨rfl,rfl,hi3,ho2⟩:=e;rw [XPo_tell];unfold Po.tell;dsimp only;rw [if_neg (fun e=>e rfl),if_neg (by omega)]
 by_cases hs2:seq<o2.was.seq
 ·rw [if_pos hs2]
  refine (Sim.ret (a:=(⟨l,[],0,0⟩,2)) ⟨rfl, .inr rfl,fun e=>absurd (show (2:Int)=1 from e) (by decide)⟩).eq ?_;rw [if_neg hnd2,if_pos hs2]
 rw [if_neg hs2,if_neg (by omega),if_pos rfl];have hw:=minI_nn o2.was.val hlm.1;refine (((rlimbo_sim (os:=os) hc seq l (minI o.was.val c.blocks) (minI o2.was.val c.limit) hw (minI o2.was.val c.limit).toNat 0 [] (p:=Po.fin c ⟨seq,c.threads+1+1,l,minI o.was.val c.blocks,minI o2.was.val c.limit,0,0,[],0⟩) hi3 rfl (by omega) (fun hz=>?_) (fun hz=>?_)).bind hi3 (S:=fun x t=>(t,(⟨l,x.1,minI o.was.val c.blocks,minI o2.was.val c.limit⟩,x.2))) (fun _ _ _=>rfl) (fun _ _ _ _ e=>e) (fun x p' i hi hin e=>Sim.ret e))).eq (by rw [if_neg hnd2,if_neg hs2];rfl)
 ·unfold Po.fin
  dsimp only;rw [if_pos ⟨by omega,by rw [List.length_nil];omega⟩];rw [show c.threads+1+1=c.threads+2+((0:Nat):Int) by omega]
 ·unfold Po.fin
  dsimp only;rw [if_neg (fun e=>by have e:=e.2;rw [List.length_nil] at e;omega)];rw [show c.threads+1+1=c.threads+2+((0:Nat):Int) by omega]
end
theorem beq_dec {a b:Int}:(a == b)=decide (a=b):=by rw [Bool.eq_iff_iff];simp
structure Hm where
 who:Int
 owner:Int
 seq:Nat
 list:List (Int×Nat)
 n:Int
 k:Int
 held:Int
 cell:Cell
 next:Int
def Hm.entryL (c:Cfg)(h:Hm):List (Int×Nat)→Nat→Hm
 | [],_=>{ h with next:=7 }
 | e::r,k=>if (c.what e.1).1<7 then Hm.entryL c h r (k+1) else { h with k:=(k:Int),next:=if (c.what e.1).1=16∧(c.what e.1).2.1≠h.held then 3 else 5 }
def Hm.entry (c:Cfg)(h:Hm)(k:Nat):Hm:=h.entryL c (h.list.drop k) k
def Hm.read (h:Hm):Hm:=if (h.list.length:Int)=h.n then { h with next:=2 } else { h with next:=1 }
def Hm.unless (h:Hm)(is:Bool):Hm:=if is then h else { h with next:=8 }
def placeOf (seq:Nat):Int:=if 65536≤seq then -1 else seq
def Hm.at_ (h:Hm):Int×Nat:=h.list.getD h.k.toNat (0,0)
def Hm.tell (c:Cfg)(h:Hm)(o:Out):Hm :=
 if h.next=0 then Hm.read { h with n:=if c.cap<(o.was.val:Int) then c.cap else (o.was.val:Int) } else
 if h.next=1 then Hm.read { h with list:=h.list++[(placeOf o.was.seq,o.was.val)] } else
 if h.next=2 then (h.entry c 0).unless (decide (o.was=⟨1,h.seq⟩)) else
 if h.next=3 then { h with held := -1,next:=4 } else
 if h.next=4 then Hm.unless { h with held:=(c.what h.at_.1).2.1,next:=5 } (decide (o.was=⟨1,h.seq⟩)) else
 if h.next=5 then (if h.seq≤o.was.seq then Hm.entry c { h with cell:=o.was,next:=6 } (h.k+1).toNat else { h with cell:=o.was,next:=6 }) else
 if h.next=6 then h.entry c (h.k+1).toNat else
 if h.next=7 then { h with next:=8 } else h
def Hm.ask (c:Cfg)(h:Hm):MOp×Bool :=
 if h.next=0 then (mop 0 (c.at 5 h.owner 0) 0,true) else
 if h.next=1 then (mop 0 (c.at 6 h.owner h.list.length) 0,true) else
 if h.next=2∨h.next=4 then (mop 0 (c.at 4 h.owner 0) 0,true) else
 if h.next=3 then (mop 1 (c.at 3 h.who 0) ((c.what h.at_.1).2.1+1).toNat,true) else
 if h.next=5 then (mop 0 h.at_.1 0,true) else
 if h.next=6 then (⟨2,h.at_.1,h.cell,⟨h.at_.2,h.seq⟩⟩,true) else
 if h.next=7 then (⟨2,c.at 4 h.owner 0,⟨1,h.seq⟩,⟨0,h.seq⟩⟩,true) else (mop 0 0 0,false)
def Hm.new (who owner:Int)(seq:Nat):Hm:=⟨who,owner,seq,[],0,0,-1,⟨0,0⟩,0⟩
def Hm.own (c:Cfg)(who:Int)(seq:Nat)(list:List (Int×Nat)):Hm:=Hm.entry c ⟨who,who,seq,list,0,0,-1,⟨0,0⟩,0⟩ 0
structure Hinv (c:Cfg)(h:Hm):Prop where
 n0:0≤h.n
 n1:h.n≤1000000
 l:h.list.length≤1000000
 ln:h.next=1→(h.list.length:Int)<h.n
 nx:0≤h.next∧h.next≤8
 k:3≤h.next∧h.next≤6→0≤h.k∧h.k<h.list.length
 w:h.next=3∨h.next=4→(c.what h.at_.1).1=16
theorem entryL_inv {c:Cfg}{h:Hm}(h0:0≤h.n)(h1:h.n≤1000000)(hl:h.list.length≤1000000):∀ (l:List (Int×Nat)) (k:Nat),h.list.drop k=l→Hinv c (h.entryL c l k)
 | [],k,_=>⟨h0,h1,hl,fun h=>(by cases h),⟨by show (0:Int)≤7;decide,by show (7:Int)≤8;decide⟩,fun h=>(by have h:(3:Int)≤7∧(7:Int)≤6:=h;omega),fun h=>(by have h:(7:Int)=3∨(7:Int)=4:=h;omega)⟩
 | e::r,k,hd=>by
  have hk:k<h.list.length:=by
   rcases Nat.lt_or_ge k h.list.length with hk|hk
   ·exact hk
   ·rw [List.drop_eq_nil_of_le hk] at hd;cases hd
  rw [List.drop_eq_getElem_cons hk] at hd
  injection hd with he hr
  unfold Hm.entryL;split
  ·exact entryL_inv h0 h1 hl r (k+1) hr
  ·have hx:∀ x:Int,x=(if (c.what e.1).1=16∧(c.what e.1).2.1≠h.held then 3 else 5)→x=3∧(c.what e.1).1=16∨x=5:=by
    intro x e1;split at e1
    ·exact .inl ⟨e1,(by next h=>exact h.1)⟩
    ·exact .inr e1
   generalize (if (c.what e.1).1=16∧(c.what e.1).2.1≠h.held then (3:Int) else 5)=x at hx;have hx:=hx x rfl;refine ⟨h0,h1,hl,fun h=>?_,⟨?_, ?_⟩,fun _=>⟨?_, ?_⟩,fun hw=>?_⟩
   ·have h:x=1:=h
    omega
   ·show 0≤x;omega
   ·show x≤8;omega
   ·show (0:Int)≤(k:Int);omega
   ·show (k:Int)<(h.list.length:Int);omega
   ·have hw:x=3∨x=4:=hw
    show (c.what (h.list.getD (k:Int).toNat (0,0)).1).1=16;rw [Int.toNat_natCast,List.getD_eq_getElem?_getD,List.getElem?_eq_getElem hk,he];show (c.what e.1).1=16;omega
theorem entry_inv {c:Cfg}{h:Hm}(h0:0≤h.n)(h1:h.n≤1000000)(hl:h.list.length≤1000000)(k:Nat):Hinv c (h.entry c k):=entryL_inv h0 h1 hl _ k rfl
theorem Hinv.unless {c:Cfg}{h:Hm}(hi:Hinv c h)(is:Bool):Hinv c (h.unless is):=by
 unfold Hm.unless;split
 ·exact hi
 ·exact ⟨hi.n0,hi.n1,hi.l,fun h=>(by cases h),⟨by show (0:Int)≤8;decide,by show (8:Int)≤8;decide⟩,fun h=>(by have h:(3:Int)≤8∧(8:Int)≤6:=h;omega),fun h=>(by have h:(8:Int)=3∨(8:Int)=4:=h;omega)⟩
theorem read_inv {c:Cfg}{h:Hm}(h0:0≤h.n)(h1:h.n≤1000000)(hl:(h.list.length:Int)≤h.n):Hinv c h.read:=by
 unfold Hm.read;split
 ·exact ⟨h0,h1,by show h.list.length≤_;omega,fun h=>(by cases h),⟨by show (0:Int)≤2;decide,by show (2:Int)≤8;decide⟩,fun h=>(by have h:(3:Int)≤2∧(2:Int)≤6:=h;omega),fun h=>(by have h:(2:Int)=3∨(2:Int)=4:=h;omega)⟩
 ·exact ⟨h0,h1,by show h.list.length≤_;omega,fun _=>(by show (h.list.length:Int)<h.n;omega),⟨by show (0:Int)≤1;decide,by show (1:Int)≤8;decide⟩,fun h=>(by have h:(3:Int)≤1∧(1:Int)≤6:=h;omega),fun h=>(by have h:(1:Int)=3∨(1:Int)=4:=h;omega)⟩
theorem Hinv.tell {c:Cfg}(hc0:0≤c.cap)(hc1:c.cap≤1000000){h:Hm}(hi:Hinv c h)(h00:h.next=0→h.list=[])(o:Out):Hinv c (h.tell c o):=by
 unfold Hm.tell;split
 ·next e =>
  refine read_inv ?_ ?_ ?_
  ·show (0:Int)≤if _ then _ else _;split<;>omega
  ·show (if _ then _ else _:Int)≤1000000;split<;>omega
  ·show ((h.list.length:Nat):Int)≤if _ then _ else _;rw [h00 e];show (0:Int)≤_;split<;>omega
 split
 ·next e =>
  have:=hi.ln e;refine read_inv hi.n0 hi.n1 ?_;show ((List.length (_++[_]):Nat):Int)≤h.n;rw [List.length_append,List.length_singleton];omega
 split
 ·exact (entry_inv hi.n0 hi.n1 hi.l 0).unless _
 split
 ·next e =>
  have hk:=hi.k (by omega);have hw:=hi.w (.inl e);exact ⟨hi.n0,hi.n1,hi.l,fun h=>(by cases h),⟨by show (0:Int)≤4;decide,by show (4:Int)≤8;decide⟩,fun _=>hk,fun _=>hw⟩
 split
 ·next e =>
  have hk:=hi.k (by omega);refine Hinv.unless (h:={ h with held:=(c.what h.at_.1).2.1,next:=5 }) ⟨hi.n0,hi.n1,hi.l,fun h=>(by cases h),⟨by show (0:Int)≤5;decide,by show (5:Int)≤8;decide⟩,fun _=>hk,fun h=>(by have h:(5:Int)=3∨(5:Int)=4:=h;omega)⟩ _
 split
 ·next e =>
  have hk:=hi.k (by omega);split
  ·exact entry_inv (h:={ h with cell:=o.was,next:=6 }) hi.n0 hi.n1 hi.l _
  ·exact ⟨hi.n0,hi.n1,hi.l,fun h=>(by cases h),⟨by show (0:Int)≤6;decide,by show (6:Int)≤8;decide⟩,fun _=>hk,fun h=>(by have h:(6:Int)=3∨(6:Int)=4:=h;omega)⟩
 split
 ·exact entry_inv hi.n0 hi.n1 hi.l _
 split
 ·exact ⟨hi.n0,hi.n1,hi.l,fun h=>(by cases h),⟨by show (0:Int)≤8;decide,by show (8:Int)≤8;decide⟩,fun h=>(by have h:(3:Int)≤8∧(8:Int)≤6:=h;omega),fun h=>(by have h:(8:Int)=3∨(8:Int)=4:=h;omega)⟩
 ·exact hi
structure Sm where
 who:Int
 seq:Nat
 list:List (Int×Nat)
 done:Nat
def Sm.over (s:Sm):Bool:=decide (s.list.length+1<s.done)
def Sm.ask (c:Cfg)(s:Sm):MOp×Bool :=
 if s.list.length+1<s.done then (mop 0 0 0,false) else
 if s.done<s.list.length then (⟨1,c.at 6 s.who s.done,⟨0,0⟩,⟨(s.list.getD s.done (0,0)).2,(IntKind.u64.wrap (s.list.getD s.done (0,0)).1).toNat⟩⟩,true) else
 if s.done=s.list.length then (⟨1,c.at 5 s.who 0,⟨0,0⟩,⟨s.list.length,0⟩⟩,true) else (⟨1,c.at 4 s.who 0,⟨0,0⟩,⟨1,s.seq⟩⟩,true)
def Sm.tell (s:Sm):Sm:=if s.list.length+1<s.done then s else { s with done:=s.done+1 }
def Sm.new (c:Cfg)(who:Int)(seq:Nat)(list:List (Int×Nat)):Sm:=⟨who,seq,list.take (min list.length c.cap.toNat),0⟩
end Go.Proofs.YthmbgodcpgkkeaaGreat
