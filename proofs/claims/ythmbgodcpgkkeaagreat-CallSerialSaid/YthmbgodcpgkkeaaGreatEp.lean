/-
  A program over a view that is told what is so, from its beginning to its end. A pool that is told what is so: what it has read. Package tumblerlaw11: sample, does; tumblerref07.Right; model.New. Memories that hold what transactions have written: steps that pools and programs ask for.
-/
import Derived.Test.YthmbgodcpgkkeaaGreatEm
import Derived.Test.YthmbgodcpgkkeaaGreatExc
import Derived.Test.YthmbgodcpgkkeaaGreatExi
section
namespace Go.Proofs.YthmbgodcpgkkeaaGreat
set_option maxRecDepth 100000
theorem beg_ns {v:Vw} (h:v.s≠2) (ok:Bool):(v.beg ok).s≠2:=by
  unfold Vw.beg
  rw [if_neg h]
  cases ok
  · show (3:Int)≠2;decide
  · show (0:Int)≠2;decide
theorem lives_ns {v:Vw} (h:v.s≠2):v.lives.s≠2:=by
  unfold Vw.lives
  split
  · show (1:Int)≠2;decide
  · exact h
theorem touch_ns {v:Vw} (h:v.s≠2) (b a:Int):(v.touch b a).s≠2:=by
  unfold Vw.touch
  split
  · exact lives_ns (v:={ v with block:=b,at_:=a,step:=1 }) h
  · exact h
theorem cell_ns {v:Vw} (h:v.s≠2) (c:Cfg) (a:Int):(v.cell c a).s≠2:=by
  unfold Vw.cell
  split
  · exact beg_ns h _
  · exact beg_ns h _
theorem word_ns {v:Vw} (h:v.s≠2) (c:Cfg) (b w:Int):(v.word c b w).s≠2:=by
  unfold Vw.word
  split
  · exact touch_ns (beg_ns h _) _ _
  · exact beg_ns h _
theorem live_ns {v:Vw} (h:v.s≠2) (c:Cfg) (b:Int):(v.live c b).s≠2:=by
  unfold Vw.live
  split
  · exact touch_ns (beg_ns h _) _ _
  · exact beg_ns h _
theorem tell_ns {v:Vw} (h:v.s≠2) {o:Out} (ho:v.step≠1→o.was.seq≤v.seq):(v.tell o).s≠2:=by
  unfold Vw.tell
  by_cases h1:v.step=1
  · rw [if_pos h1];exact h
  rw [if_neg h1]
  split
  · unfold Vw.loaded
    rw [if_neg (by have:=ho h1;omega)]
    split
    · show (1:Int)≠2;decide
    · split
      · show (3:Int)≠2;decide
      · exact lives_ns (v:={ v with step:=0 }) h
  · exact h
structure Vok (who:Int) (v:Vw):Prop where
  ns:v.s≠2
  who:v.who=who
theorem beg_who (v:Vw) (ok:Bool):(v.beg ok).who=v.who:=by unfold Vw.beg;split<;>rfl
theorem touch_who (v:Vw) (b a:Int):(v.touch b a).who=v.who:=by
  unfold Vw.touch Vw.lives
  repeat' split
  all_goals rfl
theorem Vok.cell {who:Int} {v:Vw} (h:Vok who v) (c:Cfg) (a:Int):Vok who (v.cell c a):=by
  refine ⟨cell_ns h.ns c a, ?_⟩
  unfold Vw.cell
  split
  · exact (beg_who v _).trans h.who
  · exact (beg_who v _).trans h.who
theorem Vok.word {who:Int} {v:Vw} (h:Vok who v) (c:Cfg) (b w:Int):Vok who (v.word c b w):=by
  refine ⟨word_ns h.ns c b w, ?_⟩
  unfold Vw.word
  split
  · rw [touch_who];exact (beg_who v _).trans h.who
  · exact (beg_who v _).trans h.who
theorem Vok.live {who:Int} {v:Vw} (h:Vok who v) (c:Cfg) (b:Int):Vok who (v.live c b):=by
  refine ⟨live_ns h.ns c b, ?_⟩
  unfold Vw.live
  split
  · rw [touch_who];exact (beg_who v _).trans h.who
  · exact (beg_who v _).trans h.who
theorem Vok.tell {who:Int} {v:Vw} (h:Vok who v) {o:Out} (ho:v.step≠1→o.was.seq≤v.seq):Vok who (v.tell o):=by
  refine ⟨tell_ns h.ns ho, ?_⟩
  rw [←h.who]
  unfold Vw.tell Vw.loaded Vw.lives
  repeat' split
  all_goals rfl
theorem fetch_ns {who:Int} {m:Xm} (h:Vok who m.v) (c:Cfg) (room:Nat) (a:Int):Vok who (m.fetch c room a).v:=by
  unfold Xm.fetch
  split
  · rw [Xm.goOn_v];exact h
  · exact h.cell c a
theorem does_ns {who:Int} {m:Xm} (h:Vok who m.v) (c:Cfg) (room:Nat):Vok who (m.does c room).v:=by
  have hp:Vok who (m.pay c).1.v:=by rw [Xm.pay_v];exact h
  unfold Xm.does
  split
  · exact h
  split
  · split
    · exact h
    · exact h
  split
  · exact h
  split
  · exact h
  split
  · unfold Xm.root
    split
    · exact h
    split
    · split
      · exact hp
      · exact hp
    · exact fetch_ns h c room _
  split
  · unfold Xm.touch
    split
    · exact h
    split
    · split
      · rw [Xm.goOn_v];exact h
      · exact h.word c _ _
    · split
      · rw [Xm.goOn_v];exact h
      · exact h.live c _
  split
  · unfold Xm.fresh
    split
    · split
      · exact fetch_ns hp c room _
      · exact hp
    · exact hp
  · exact h
theorem once_ns {who:Int} {m:Xm} (h:Vok who m.v) (c:Cfg) (room:Nat) (code:List Ins):Vok who (m.once c room code).v:=by
  unfold Xm.once
  by_cases h1:m.x.waits=false
  · rw [if_pos h1]
    unfold Xm.step
    split
    · exact h
    · exact does_ns (m:=m.begun _) h c room
  · rw [if_neg h1,if_neg h.ns]
    by_cases h3:m.v.s=3
    · rw [if_pos h3];exact h
    · rw [if_neg h3,Xm.goOn_v];exact h
def Pw (wt wl:Int) (m:Xm):Prop:=m.p.wt=wt∧m.p.wl=wl
theorem goOn_pw {wt wl:Int} {m:Xm} (h:Pw wt wl m) (c:Cfg) (room val:Nat):Pw wt wl (m.goOn c room val):=by
  unfold Xm.goOn Xm.taken Xm.pay Xm.fail
  repeat' split
  all_goals exact h
theorem fetch_pw {wt wl:Int} {m:Xm} (h:Pw wt wl m) (c:Cfg) (room:Nat) (a:Int):Pw wt wl (m.fetch c room a):=by
  unfold Xm.fetch
  split
  · exact goOn_pw h c room _
  · exact h
theorem pay_pw {wt wl:Int} {m:Xm} (h:Pw wt wl m) (c:Cfg):Pw wt wl (m.pay c).1:=by
  unfold Xm.pay Xm.fail
  split
  · exact h
  · exact h
theorem does_pw {wt wl:Int} {m:Xm} (h:Pw wt wl m) (c:Cfg) (room:Nat):Pw wt wl (m.does c room):=by
  have hp:=pay_pw h c
  unfold Xm.does
  split
  · exact h
  split
  · split
    · exact h
    · exact h
  split
  · exact h
  split
  · exact h
  split
  · unfold Xm.root
    split
    · exact h
    split
    · split
      · exact hp
      · exact hp
    · exact fetch_pw h c room _
  split
  · unfold Xm.touch
    split
    · exact h
    split
    · split
      · exact goOn_pw h c room _
      · exact h
    · split
      · exact goOn_pw h c room _
      · exact h
  split
  · unfold Xm.fresh
    split
    · split
      · exact fetch_pw hp c room _
      · exact hp
    · exact hp
  · exact h
theorem once_pw {wt wl:Int} {m:Xm} (h:Pw wt wl m) (c:Cfg) (room:Nat) (code:List Ins):Pw wt wl (m.once c room code):=by
  unfold Xm.once Xm.step
  split
  · split
    · exact h
    · exact does_pw (m:=m.begun _) h c room
  split
  · exact h
  split
  · exact h
  · exact goOn_pw (m:={ m with x:={ m.x with waits:=false } }) h c room _
structure XI (c:Cfg) (V:Int→Nat) (g:Bg) (room:Nat) (code:List Ins) (ms:Ms) (args:List Nat) (P0:List (Int×Nat)) (nt0 nl0:Int) (n:Nat) (m:Xm):Prop where
  inv:Xinv c code P0 nt0 nl0 n m
  sim:SimR c V g room code ms args m
  ns:Vok g.who m.v
  pw:Pw g.wt g.wl m
section
variable {c:Cfg} {V:Int→Nat} {g:Bg} {room:Nat} {code:List Ins} {ms:Ms} {args:List Nat} {P0:List (Int×Nat)} {nt0 nl0:Int} {n:Nat} {m:Xm}
theorem XI.runInv (hb:Fits c room g) (hS:Start c P0 nt0 nl0) (hr:rightB code=true):RunInv c room code (XI c V g room code ms args P0 nt0 nl0 n) where
  ok:=fun m h=>(run_inv' hS room hr n).ok m h.inv
  next:=fun m h hst=>⟨(run_inv' hS room hr n).next m h.inv hst,sim_once hb h.sim h.inv.pc hst,once_ns h.ns c room code,once_pw h.pw c room code⟩
  less:=fun m h hst=>(run_inv' hS room hr n).less m h.inv hst
theorem XI.init (hb:Fits c room g) (hr:rightB code=true) (hS:Start c P0 nt0 nl0) (hf:0≤c.fuel) (v:Vw) (p:Po) (hnt:p.nt=nt0) (hnl:p.nl=nl0) (ha:args.length=4) (hvb:0≤v.block∧v.block≤1000) (hv:v.s≠2) (hwho:v.who=g.who) (hwt:p.wt=g.wt) (hwl:p.wl=g.wl) (hh:Hl c V v) (hsq:v.seq=g.sq) (hp0:P0.length≤g.p0)
    {fs ls:List Nat} (hrep:RepV c (ovl P0 V) fs ls ms.roots ms.blocks) (hpk:Pk c V P0) (hfs:nt0=(fs.length:Int)) (hls:nl0=(ls.length:Int)) (hF:fs.length=g.F0) (hL:ls.length=g.L0):XI c V g room code ms args P0 nt0 nl0 0 (Xm.init v p P0 args):=by
  refine ⟨Xinv.init hr hS hf v p hnt hnl args ha hvb, .run fs ls ms.roots ms.blocks ⟨⟨hrep,hpk,hnt.trans hfs,hnl.trans hls, ?_, ?_, ?_,Int.le_refl _,hb.hc.w0,hh,hsq,rfl,Int.le_refl _,Nat.le_of_eq hL.symm⟩,rfl,rfl,rfl⟩ ⟨0,fun P K=>?_⟩,⟨hv,hwho⟩,⟨hwt,hwl⟩⟩
  · exact hF
  · show 2 * (ls.length:Int)≤2 * g.L0+0;omega
  · show (P0.length:Int)≤g.p0+0;omega
  · rw [Nat.zero_add];rfl
theorem XI.tell (h:XI c V g room code ms args P0 nt0 nl0 n m) (hst:m.stops) (hs:m.x.s=0) (ho:(m.v.ask c).2=true) {o:Out} (hg:m.v.step≠1→o.was.seq≤g.sq∧o.was.val=V (Vw.ask c m.v).1.at_):XI c V g room code ms args P0 nt0 nl0 (n+1) { m with v:=m.v.tell o }:=by
  have hsq:m.v.seq=g.sq:=by
    cases h.sim with
    | run fs ls R B h1 h2=>exact h1.sq
    | wait nw f h1 h2=>exact h1.sq
    | fail n r h1=>omega
    | ret fs ls R B n r h1=>omega
    | stale h1=>omega
  exact ⟨h.inv.tell hst hs ho o,sim_tell h.sim hs hst fun h1 _=>(hg h1).2,h.ns.tell fun h1=>by rw [hsq];exact (hg h1).1,h.pw⟩
theorem XI.ends (h:XI c V g room code ms args P0 nt0 nl0 n m) (hst:m.stops) (ha:m.x.s=0→(m.v.ask c).2=false):m.x.s=1:=by
  cases h.sim with
  | run fs ls R B h1 h2 =>
    exfalso
    rcases hst with e|⟨e,_⟩
    · exact e h1.s
    · rw [h1.waits] at e;cases e
  | wait nw f h1 h2 =>
    exfalso
    have hv0:m.v.s=0:=by
      rcases hst with e|⟨_,e⟩
      · exact absurd h1.s e
      · exact e
    obtain ⟨r,h3,_⟩:=h1.is
    have ha:=ha h1.s
    unfold Vw.ask at ha
    have hstep:m.v.step=1∨m.v.step=2∨m.v.step=3:=by
      rcases h3.is with e|⟨e,_⟩|⟨e,_⟩|⟨_,e,_⟩|⟨_,e,_⟩
      · omega
      · omega
      · omega
      · exact .inr (.inr e)
      · omega
    rcases hstep with e|e|e
    · rw [if_pos e] at ha;cases ha
    · rw [if_neg (by omega),if_pos e] at ha;cases ha
    · rw [if_neg (by omega),if_neg (by omega),if_pos e] at ha;cases ha
  | fail n r h1=>exact h1
  | ret fs ls R B n r h1=>exact h1
  | stale h1 h2=>exact absurd h2 h.ns.ns
structure XEnd (c:Cfg) (V:Int→Nat) (g:Bg) (code:List Ins) (ms:Ms) (args:List Nat) (P0:List (Int×Nat)) (nt0 nl0:Int) (m:Xm) (ok:Bool) (r:Rm):Prop where
  go:∃ n,runGo code c.fuel n (rm0 ms args c.writes m.news)=some (r,ok)
  code:r.code=m.x.rc
  val:r.val=m.x.rv
  news:r.news=m.news
  mem:m.x.rc=43→m.news.length=g.F0
  bad:m.x.rc≠0→ok=false∧m.puts=P0∧m.p.nt=nt0∧m.p.nl=nl0
  good:m.x.rc=0→ok=true∧∃ fs ls,Rk c V g m fs ls r.roots r.blocks
  pw:Pw g.wt g.wl m
theorem XI.fin (h:XI c V g room code ms args P0 nt0 nl0 n m) (hs:m.x.s=1):∃ ok r,XEnd c V g code ms args P0 nt0 nl0 m ok r:=by
  cases h.sim with
  | run fs ls R B h1 h2=>have:=h1.s;omega
  | wait nw f h1 h2=>have:=h1.s;omega
  | fail n r h1 h2 h3 h4 h5 h6 h7=>exact ⟨false,r,⟨n,h3⟩,h4,h5,h6,h7,fun e=>⟨rfl,(h.inv.rc e).2⟩,fun e=>absurd e h2,h.pw⟩
  | ret fs ls R B n r h1 h2 h3 h4 h5 h6 h7 h8 h9 =>
    subst h8
    subst h9
    exact ⟨true,r,⟨n,h4⟩,h5.trans h2.symm,h6,h7,fun e=>(by omega),fun e=>absurd h2 e,fun _=>⟨rfl,fs,ls,h3⟩,h.pw⟩
  | stale h1 h2=>omega
end
end Go.Proofs.YthmbgodcpgkkeaaGreat
end
section
namespace Go.Proofs.YthmbgodcpgkkeaaGreat
set_option maxRecDepth 100000
def poK (c:Cfg) (seq:Nat) (S:Nat→Nat) (F:Nat) (ls:List Nat) (k:Nat):Po :=
  if (k:Int)≤c.threads then ⟨seq,k,(List.range k).map S,0,0,0,0,[],0⟩ else
  if (k:Int)=c.threads+1 then ⟨seq,k,(List.range c.threads.toNat).map S,F,0,0,0,[],0⟩ else
  if (k:Int)=c.threads+2+ls.length then ⟨seq,k,(List.range c.threads.toNat).map S,F,ls.length,F,ls.length,ls,1⟩ else
  ⟨seq,k,(List.range c.threads.toNat).map S,F,ls.length,0,0,ls.take (k - c.threads.toNat - 2),0⟩
def poA (c:Cfg) (k:Nat):Int:=if (k:Int)<c.threads then c.at 3 k 0 else if (k:Int)=c.threads then c.at 12 0 0 else if (k:Int)=c.threads+1 then c.at 14 0 0 else c.at 15 ((k:Int) - c.threads - 2) 0
def poV (c:Cfg) (S:Nat→Nat) (F:Nat) (ls:List Nat) (k:Nat):Nat:=if (k:Int)<c.threads then S k else if (k:Int)=c.threads then F else if (k:Int)=c.threads+1 then ls.length else ls.getD (k - c.threads.toNat - 2) 0
section
variable {c:Cfg} {seq:Nat} {S:Nat→Nat} {F:Nat} {ls:List Nat} {k:Nat}
theorem poK_zero (hc:Small c):poK c seq S F ls 0=Po.new seq:=by
  unfold poK
  rw [if_pos (by have:=hc.t0;omega)]
  rfl
theorem poK_next (k:Nat):(poK c seq S F ls k).next=(k:Int):=by
  unfold poK
  repeat' split
  all_goals rfl
theorem poK_seq (k:Nat):(poK c seq S F ls k).seq=seq:=by
  unfold poK
  repeat' split
  all_goals rfl
theorem poK_s (hc:Small c) (k:Nat):(poK c seq S F ls k).s=if (k:Int)=c.threads+2+ls.length then 1 else 0:=by
  have:=hc.t0
  unfold poK
  by_cases h1:(k:Int)≤c.threads
  · rw [if_pos h1,if_neg (by omega)]
  rw [if_neg h1]
  by_cases h2:(k:Int)=c.threads+1
  · rw [if_pos h2,if_neg (by omega)]
  rw [if_neg h2]
  by_cases h3:(k:Int)=c.threads+2+ls.length
  · rw [if_pos h3,if_pos h3]
  · rw [if_neg h3,if_neg h3]
theorem poK_ask (hc:Small c) (hk:(k:Int)<c.threads+2+ls.length):(poK c seq S F ls k).ask c=(mop 0 (poA c k) 0,true):=by
  have h1:=poK_s (seq:=seq) (S:=S) (F:=F) (ls:=ls) hc k
  rw [if_neg (by omega)] at h1
  unfold Po.ask poA
  rw [poK_next,if_neg (by rw [h1];decide)]
  repeat' split
  all_goals rfl
theorem poK_fin (hc:Small c) (hk:(k:Int)=c.threads+2+ls.length):poK c seq S F ls k=⟨seq,k,(List.range c.threads.toNat).map S,F,ls.length,F,ls.length,ls,1⟩:=by
  have:=hc.t0
  unfold poK
  rw [if_neg (by omega),if_neg (by omega),if_pos hk]
theorem poK_tell (hc:Small c) (hF:(F:Int)≤c.blocks) (hL:(ls.length:Int)≤c.limit) (hk:(k:Int)<c.threads+2+ls.length) {o:Out} (hv:o.was.val=poV c S F ls k) (hs:c.threads≤k→o.was.seq≤seq):(poK c seq S F ls k).tell c o=poK c seq S F ls (k+1):=by
  have ht:=hc.t0
  have h1:=poK_s (seq:=seq) (S:=S) (F:=F) (ls:=ls) hc k
  rw [if_neg (by omega)] at h1
  unfold Po.tell
  rw [if_neg (by rw [h1];decide),poK_next,poK_seq]
  unfold poV at hv
  by_cases h2:(k:Int)<c.threads
  · rw [if_pos h2]
    rw [if_pos h2] at hv
    unfold Po.fin poK
    rw [if_pos (show (k:Int)≤c.threads by omega)]
    dsimp only
    rw [if_neg (by omega),if_pos (show ((k+1:Nat):Int)≤c.threads by omega),hv,List.range_succ,List.map_append]
    rfl
  rw [if_neg h2,if_neg (by have:=hs (by omega);omega)]
  rw [if_neg h2] at hv
  by_cases h3:(k:Int)=c.threads
  · rw [if_pos h3]
    rw [if_pos h3] at hv
    have hm:minI (o.was.val:Int) c.blocks=F:=by unfold minI;rw [hv,if_neg (by omega)]
    unfold Po.fin poK
    rw [if_pos (show (k:Int)≤c.threads by omega)]
    dsimp only
    rw [if_neg (by omega),if_neg (by omega),if_pos (by omega),hm,show k=c.threads.toNat by omega]
    rfl
  rw [if_neg h3]
  rw [if_neg h3] at hv
  by_cases h4:(k:Int)=c.threads+1
  · rw [if_pos h4]
    rw [if_pos h4] at hv
    have hm:minI (o.was.val:Int) c.limit=ls.length:=by unfold minI;rw [hv,if_neg (by omega)]
    unfold Po.fin poK
    rw [if_neg (show ¬ (k:Int)≤c.threads by omega),if_pos h4]
    dsimp only
    rw [hm,if_neg (show ¬ ((k+1:Nat):Int)≤c.threads by omega),if_neg (show ¬ ((k+1:Nat):Int)=c.threads+1 by omega)]
    cases ls with
    | nil =>
      rw [if_pos ⟨by omega,rfl⟩,if_pos (by simp;omega)]
      rfl
    | cons x l =>
      rw [if_neg (by rintro ⟨_,e⟩;simp at e;omega),if_neg (by simp;omega),show k+1 - c.threads.toNat - 2=0 by omega]
      rfl
  rw [if_neg h4]
  rw [if_neg h4] at hv
  have hj:k - c.threads.toNat - 2<ls.length:=by omega
  have hpk:poK c seq S F ls k=⟨seq,k,(List.range c.threads.toNat).map S,F,ls.length,0,0,ls.take (k - c.threads.toNat - 2),0⟩:=by
    unfold poK
    rw [if_neg (show ¬ (k:Int)≤c.threads by omega),if_neg h4,if_neg (show ¬ (k:Int)=c.threads+2+ls.length by omega)]
  rw [hpk]
  unfold Po.fin poK
  dsimp only
  rw [if_neg (show ¬ ((k+1:Nat):Int)≤c.threads by omega),if_neg (show ¬ ((k+1:Nat):Int)=c.threads+1 by omega)]
  have etk:ls.take (k - c.threads.toNat - 2)++[o.was.val]=ls.take (k+1 - c.threads.toNat - 2):=by
    rw [hv,show k+1 - c.threads.toNat - 2=(k - c.threads.toNat - 2)+1 by omega,List.take_succ_eq_append_getElem hj,List.getD_eq_getElem?_getD,List.getElem?_eq_getElem hj]
    rfl
  rw [etk]
  by_cases h5:((k+1:Nat):Int)=c.threads+2+ls.length
  · rw [if_pos h5,List.take_of_length_le (by omega),if_pos ⟨by omega,rfl⟩]
    rfl
  · rw [if_neg h5,if_neg (by
      rintro ⟨_,e⟩
      rw [List.length_take] at e
      omega)]
    rfl
end
end Go.Proofs.YthmbgodcpgkkeaaGreat
end
section
namespace Go.Proofs.YthmbgodcpgkkeaaGreat
def doOut (cs:List Cell) (who:Int) (o:MOp):Out:=if checkOf cs.length who o=0 then outOf (cs.getD o.at_.toNat ⟨0,0⟩) o else ⟨⟨0,0⟩,false⟩
def doMem (cs:List Cell) (who:Int) (o:MOp):List Cell:=if checkOf cs.length who o=0 then cs.set o.at_.toNat (becomes (cs.getD o.at_.toNat ⟨0,0⟩) o) else cs
end Go.Proofs.YthmbgodcpgkkeaaGreat
end
section
namespace Go.Proofs.YthmbgodcpgkkeaaGreat
set_option maxRecDepth 100000
def cellI (cs:List Cell) (a:Int):Cell:=cs.getD a.toNat ⟨0,0⟩
structure MemV (c:Cfg) (cs:List Cell) (V:Int→Nat) (n:Nat):Prop where
  len:cs.length=c.size
  v:∀ a,Tx c a→(cellI cs a).val=V a
  q:∀ a,Tx c a→(cellI cs a).seq≤n
theorem what_own {c:Cfg} {a:Int} (h:(c.what a).1=3):1≤a∧a<c.f7:=by
  unfold Cfg.what at h
  repeat' split at h
  all_goals first|omega|(dsimp only at h;omega)
section
variable {c:Cfg} {cs:List Cell} {V:Int→Nat} {n:Nat}
theorem slot_in (hc:Small c) {u:Int} (h0:0≤u) (h1:u<c.threads):1≤c.at 3 u 0∧c.at 3 u 0<c.f7 :=
  what_own (by rw [at_own hc (by decide) ⟨h0,h1⟩ (by unfold Cfg.cnt;simp)])
theorem MemV.sz (hc:Small c) (h:MemV c cs V n):(cs.length:Int)=c.f17:=by
  have:=hc.nums.f17
  have:=hc.nums.f7
  have hb:=hc.b0
  obtain ⟨hf7,hf10,hf11,hf12,hf13,hf14,hf15,hf16,hf17,hstr⟩:=c.froms
  have hl:=hc.limit
  have ht:=hc.t0
  rw [h.len];unfold Cfg.size;omega
theorem f717 (hc:Small c):1≤c.f7∧c.f7≤c.f17:=by
  have:=hc.nums.f7
  have hb:=hc.b0
  obtain ⟨hf7,hf10,hf11,hf12,hf13,hf14,hf15,hf16,hf17,hstr⟩:=c.froms
  have hl:=hc.limit
  have ht:=hc.t0
  have hcap:=hc.cap
  have hts:=hc.ts
  omega
theorem load_out {who:Int} (hw:0≤who∧who<8) {a:Int} (h0:0≤a) (h1:a<cs.length):doOut cs who (mop 0 a 0)=⟨cellI cs a,true⟩∧doMem cs who (mop 0 a 0)=cs:=by
  have hk:checkOf cs.length who (mop 0 a 0)=0:=by
    unfold checkOf
    rw [if_neg (by omega),if_neg (show ¬ ((mop 0 a 0).kind<0∨3<(mop 0 a 0).kind) from (by decide:¬ ((0:Int)<0∨(3:Int)<0))),if_neg (show ¬ ((mop 0 a 0).at_<0∨(cs.length:Int)≤(mop 0 a 0).at_) by show ¬ (a<0∨(cs.length:Int)≤a);omega)]
  unfold doOut doMem
  rw [if_pos hk,if_pos hk]
  refine ⟨rfl, ?_⟩
  have e:becomes (cs.getD (mop 0 a 0).at_.toNat ⟨0,0⟩) (mop 0 a 0)=cs.getD a.toNat ⟨0,0⟩:=rfl
  rw [e]
  show cs.set a.toNat _=cs
  have hl:a.toNat<cs.length:=by omega
  rw [List.getD_eq_getElem?_getD,List.getElem?_eq_getElem hl]
  exact List.set_getElem_self hl
theorem MemV.load (hc:Small c) (h:MemV c cs V n) {who:Int} (hw:0≤who∧who<8) {a:Int} (ha:Tx c a):(doOut cs who (mop 0 a 0)).was.val=V a∧(doOut cs who (mop 0 a 0)).was.seq≤n∧doMem cs who (mop 0 a 0)=cs:=by
  have hs:=h.sz hc
  have hf:=f717 hc
  have ha':=ha
  unfold Tx at ha'
  obtain ⟨h1,h2⟩:=load_out (cs:=cs) hw (a:=a) (by omega) (by omega)
  rw [h1]
  exact ⟨h.v a ha,h.q a ha,h2⟩
theorem MemV.store (hc:Small c) (h:MemV c cs V n) {who:Int} (hw:0≤who∧who<c.threads) (x:Nat):doMem cs who (mop 1 (c.at 3 who 0) x)=cs.set (c.at 3 who 0).toNat ⟨x,0⟩∧MemV c (doMem cs who (mop 1 (c.at 3 who 0) x)) V n:=by
  have hs:=h.sz hc
  have hf:=f717 hc
  have hsl:=slot_in hc hw.1 hw.2
  have ht:=hc.t1
  have hk:checkOf cs.length who (mop 1 (c.at 3 who 0) x)=0:=by
    unfold checkOf
    rw [if_neg (by omega),if_neg (show ¬ ((mop 1 (c.at 3 who 0) x).kind<0∨3<(mop 1 (c.at 3 who 0) x).kind) from (by decide:¬ ((1:Int)<0∨(3:Int)<1))),if_neg (show ¬ ((mop 1 (c.at 3 who 0) x).at_<0∨(cs.length:Int)≤(mop 1 (c.at 3 who 0) x).at_) by show ¬ (c.at 3 who 0<0∨(cs.length:Int)≤c.at 3 who 0);omega)]
  have e:doMem cs who (mop 1 (c.at 3 who 0) x)=cs.set (c.at 3 who 0).toNat ⟨x,0⟩:=by
    unfold doMem
    rw [if_pos hk]
    rfl
  have hcell:∀ a,Tx c a→cellI (cs.set (c.at 3 who 0).toNat ⟨x,0⟩) a=cellI cs a:=fun a ha=>by
    unfold Tx at ha
    unfold cellI
    rw [List.getD_eq_getElem?_getD,List.getElem?_set_ne (by omega),←List.getD_eq_getElem?_getD]
  refine ⟨e, ?_⟩
  rw [e]
  exact ⟨by rw [List.length_set];exact h.len,fun a ha=>by rw [hcell a ha];exact h.v a ha,fun a ha=>by rw [hcell a ha];exact h.q a ha⟩
theorem XI.step {g:Bg} {room:Nat} {code:List Ins} {ms:Ms} {args:List Nat} {P0:List (Int×Nat)} {nt0 nl0:Int} {k:Nat} {m:Xm} (hc:Small c) (h:XI c V g room code ms args P0 nt0 nl0 k m) (hst:m.stops) (hs:m.x.s=0) (ho:(m.v.ask c).2=true) (hm:MemV c cs V n) (hn:n≤g.sq) (hw:0≤g.who∧g.who<c.threads) :
    MemV c (doMem cs g.who (m.v.ask c).1) V n∧XI c V g room code ms args P0 nt0 nl0 (k+1) { m with v:=m.v.tell (doOut cs g.who (m.v.ask c).1) }:=by
  have ht1:=hc.t1
  have hw8:0≤g.who∧g.who<8:=⟨hw.1,by omega⟩
  cases hsim:h.sim with
  | run fs ls R B h1 h2 =>
    exfalso
    rcases hst with e|⟨e,_⟩
    · exact e h1.s
    · rw [h1.waits] at e;cases e
  | fail n r h1=>omega
  | ret fs ls R B n r h1=>omega
  | stale h1 h2=>exact absurd h2 h.ns.ns
  | wait nw f h1 h2 =>
    have hv0:m.v.s=0:=by
      rcases hst with e|⟨_,e⟩
      · exact absurd h1.s e
      · exact e
    obtain ⟨r,h3,_⟩:=h1.is
    by_cases e1:m.v.step=1
    · have ea:(m.v.ask c).1=mop 1 (c.at 3 g.who 0) (m.v.block+1).toNat:=by
        unfold Vw.ask
        rw [if_pos e1,h.ns.who]
      refine ⟨by rw [ea];exact (hm.store hc hw _).2,h.tell hst hs ho fun e=>absurd e1 e⟩
    · obtain ⟨a,ea,hx⟩:∃ a,(m.v.ask c).1=mop 0 a 0∧Tx c a:=by
        unfold Vw.ask
        rw [if_neg e1]
        rcases h3.is with e|⟨e,_⟩|⟨e,_⟩|⟨_,e,hx,_⟩|⟨_,e,_,hb0,hb1,_⟩
        · omega
        · omega
        · omega
        · rw [if_neg (by omega),if_pos e];exact ⟨_,rfl,hx⟩
        · rw [if_pos (by omega)]
          refine ⟨_,rfl,at_in hc (by decide) ?_⟩
          rw [cnt11];dsimp only;omega
      obtain ⟨g1,g2,g3⟩:=hm.load hc hw8 hx
      rw [ea]
      refine ⟨by rw [g3];exact hm, ?_⟩
      refine h.tell hst hs ho fun _=>⟨by omega, ?_⟩
      rw [g1,ea];rfl
end
end Go.Proofs.YthmbgodcpgkkeaaGreat
end
