/-
  Package tumblerref14, in plain terms: a transaction is made as the program's is. Package tumblerref14: call.
-/
import Derived.Test.YthmbgodcpgkkeaaGreatHe
import Derived.Test.YthmbgodcpgkkeaaGreatVa
import Derived.Test.YthmbgodcpgkkeaaGreatLl
set_option maxRecDepth 100000
namespace Go.Proofs.YthmbgodcpgkkeaaGreat
def rargs (c:Cfg)(os:List Out)(u:Int):Nat→Nat→List Nat→Tp→Tp×List Nat
 | 0,_,l,t=>(t,l)
 | k+1,j,l,t=>rargs c os u k (j+1) (l.set j (tdo os t (mop 0 (c.at 2 u j) 0)).2.was.val) (tdo os t (mop 0 (c.at 2 u j) 0)).1
structure Rc where
 v:Rv
 ann:Cell
 args:List Nat
 is:Bool
 s:Int
def args0:List Nat:=[0,0,0,0]
def rcall2 (c:Cfg)(os:List Out)(ann:Cell)(u:Int)(x:Rv×Nat×Int)(t:Tp):Tp×Rc :=
 if x.2.2≠1∨x.2.1=ann.seq then (t,⟨x.1,ann,args0,false,x.2.2⟩) else
 ((rargs c os u 4 0 args0 t).1,⟨x.1,ann,(rargs c os u 4 0 args0 t).2,!(rargs c os u 4 0 args0 t).1.need,1⟩)
def rcall1 (c:Cfg)(os:List Out)(v:Rv)(u:Int)(ann:Cell)(t:Tp):Tp×Rc :=
 if t.need=true∨ann.seq=0 then (t,⟨v,ann,args0,false,1⟩) else rcall2 c os ann u (rcell c os v (c.at 7 u 0) t).2 (rcell c os v (c.at 7 u 0) t).1
def rcall (c:Cfg)(os:List Out)(v:Rv)(u:Int)(t:Tp):Tp×Rc:=rcall1 c os v u (tdo os t (mop 0 (c.at 1 u 0) 0)).2.was (tdo os t (mop 0 (c.at 1 u 0) 0)).1
structure Rb where
 v:Rv
 nt:Int
 nl:Int
 puts:List (Int×Nat)
 rows:List BRow
def rput3 (c:Cfg)(room:Nat)(puts:List (Int×Nat))(r:BRow):List (Int×Nat):=putP room (putP room (putP room puts (c.at 8 r.who 0) r.rc.toNat) (c.at 9 r.who 0) r.rv) (c.at 7 r.who 0) r.tag
def rrow (u:Int)(tag:Nat)(r:Rr):BRow:=⟨u,tag,r.er,r.val,r.news⟩
def Rp.po (p:Rp)(nt nl:Int):Po:=⟨0,0,[],p.wt,p.wl,nt,nl,[],1⟩
abbrev RbE:=List (Int×Nat)×List BRow×Int
def rmk (c:Cfg)(os:List Out)(room:Nat)(progs:Progs)(p:Rp):Nat→Nat→Rb→Tp→Tp×RbE
 | 0,_,b,t=>(t,(endP c room (p.po b.nt b.nl) b.puts,b.rows,1))
 | k+1,u,b,t =>
  if (rcall c os b.v u t).2.s=2 then ((rcall c os b.v u t).1,([],[],2)) else
  if (rcall c os b.v u t).1.need=true then ((rcall c os b.v u t).1,([],[],0)) else
  if (rcall c os b.v u t).2.is=false then rmk c os room progs p k (u+1) { b with v:=(rcall c os b.v u t).2.v } (rcall c os b.v u t).1 else
  if (rplay c os room (progOf progs (rcall c os b.v u t).2.ann.val) (rcall c os b.v u t).2.args (rcall c os b.v u t).2.v b.nt b.nl b.puts (rcall c os b.v u t).1).2.s≠1 then
   ((rplay c os room (progOf progs (rcall c os b.v u t).2.ann.val) (rcall c os b.v u t).2.args (rcall c os b.v u t).2.v b.nt b.nl b.puts (rcall c os b.v u t).1).1,([],[],(rplay c os room (progOf progs (rcall c os b.v u t).2.ann.val) (rcall c os b.v u t).2.args (rcall c os b.v u t).2.v b.nt b.nl b.puts (rcall c os b.v u t).1).2.s)) else
  rmk c os room progs p k (u+1) ⟨(rplay c os room (progOf progs (rcall c os b.v u t).2.ann.val) (rcall c os b.v u t).2.args (rcall c os b.v u t).2.v b.nt b.nl b.puts (rcall c os b.v u t).1).2.v,(rplay c os room (progOf progs (rcall c os b.v u t).2.ann.val) (rcall c os b.v u t).2.args (rcall c os b.v u t).2.v b.nt b.nl b.puts (rcall c os b.v u t).1).2.nt,(rplay c os room (progOf progs (rcall c os b.v u t).2.ann.val) (rcall c os b.v u t).2.args (rcall c os b.v u t).2.v b.nt b.nl b.puts (rcall c os b.v u t).1).2.nl,rput3 c room (rplay c os room (progOf progs (rcall c os b.v u t).2.ann.val) (rcall c os b.v u t).2.args (rcall c os b.v u t).2.v b.nt b.nl b.puts (rcall c os b.v u t).1).2.puts (rrow u (rcall c os b.v u t).2.ann.seq (rplay c os room (progOf progs (rcall c os b.v u t).2.ann.val) (rcall c os b.v u t).2.args (rcall c os b.v u t).2.v b.nt b.nl b.puts (rcall c os b.v u t).1).2),b.rows++[rrow u (rcall c os b.v u t).2.ann.seq (rplay c os room (progOf progs (rcall c os b.v u t).2.ann.val) (rcall c os b.v u t).2.args (rcall c os b.v u t).2.v b.nt b.nl b.puts (rcall c os b.v u t).1).2]⟩
   (rplay c os room (progOf progs (rcall c os b.v u t).2.ann.val) (rcall c os b.v u t).2.args (rcall c os b.v u t).2.v b.nt b.nl b.puts (rcall c os b.v u t).1).1
def rmkP (c:Cfg)(os:List Out)(room:Nat)(progs:Progs)(p:Rp)(k u:Nat)(rows:List BRow)(tag:Nat)(r:Rr)(t:Tp):Tp×RbE :=
 if r.s≠1 then (t,([],[],r.s)) else rmk c os room progs p k (u+1) ⟨r.v,r.nt,r.nl,rput3 c room r.puts (rrow u tag r),rows++[rrow u tag r]⟩ t
def rmkC (c:Cfg)(os:List Out)(room:Nat)(progs:Progs)(p:Rp)(k u:Nat)(b:Rb)(x:Rc)(t:Tp):Tp×RbE :=
 if x.s=2 then (t,([],[],2)) else if t.need=true then (t,([],[],0)) else if x.is=false then rmk c os room progs p k (u+1) { b with v:=x.v } t else
 rmkP c os room progs p k u b.rows x.ann.seq (rplay c os room (progOf progs x.ann.val) x.args x.v b.nt b.nl b.puts t).2 (rplay c os room (progOf progs x.ann.val) x.args x.v b.nt b.nl b.puts t).1
theorem rmk_succ (c:Cfg)(os:List Out)(room:Nat)(progs:Progs)(p:Rp)(k u:Nat)(b:Rb)(t:Tp):rmk c os room progs p (k+1) u b t=rmkC c os room progs p k u b (rcall c os b.v u t).2 (rcall c os b.v u t).1:=by
 rw [rmk];rfl
def rmake (c:Cfg)(os:List Out)(who:Int)(seq:Nat)(progs:Progs)(t:Tp):Tp×RbE :=
 if (rread c os seq t).2.2≠1 then ((rread c os seq t).1,([],[],(rread c os seq t).2.2)) else
 rmk c os c.cap.toNat progs (rread c os seq t).2.1 c.threads.toNat 0 ⟨.new who seq,(setGo c c.cap.toNat (rread c os seq t).2.1.named 0 (rread c os seq t).2.1.limbo ⟨0,(rread c os seq t).2.1.wt,[]⟩).nt,((setGo c c.cap.toNat (rread c os seq t).2.1.named 0 (rread c os seq t).2.1.limbo ⟨0,(rread c os seq t).2.1.wt,[]⟩).kept:Int),(setGo c c.cap.toNat (rread c os seq t).2.1.named 0 (rread c os seq t).2.1.limbo ⟨0,(rread c os seq t).2.1.wt,[]⟩).puts,[]⟩ (rread c os seq t).1
section
variable {c:Cfg}{os:List Out}{t:Tp}
theorem rargs_dead (h:t.need=true)(u:Int):∀ (k j:Nat) (l:List Nat),(rargs c os u k j l t).1=t
 | 0,_,_=>rfl
 | k+1,j,l=>by unfold rargs;rw [tdo_dead h];exact rargs_dead h u k _ _
theorem rcall2_dead (h:t.need=true)(ann:Cell)(u:Int)(x:Rv×Nat×Int):(rcall2 c os ann u x t).1=t:=by
 unfold rcall2;split
 ·rfl
 ·exact rargs_dead h u 4 0 args0
theorem rcall_dead (h:t.need=true)(v:Rv)(u:Int):(rcall c os v u t).1=t:=by
 unfold rcall rcall1;rw [tdo_dead h,if_pos (.inl h)]
theorem rmkC_dead (h:t.need=true){room:Nat}{progs:Progs}{p:Rp}{k u:Nat}{b:Rb}{x:Rc}:(rmkC c os room progs p k u b x t).1=t∧(x.s≠2→(rmkC c os room progs p k u b x t).2.2.2=0):=by
 unfold rmkC;split
 ·rename_i e;exact ⟨rfl,fun h2=>absurd e h2⟩
 ·exact ⟨rfl,fun _=>rfl⟩
 all_goals (rename_i h2 _;exact absurd h h2)
theorem rmk_dead (h:t.need=true){room:Nat}{progs:Progs}{p:Rp}{k u:Nat}{b:Rb}:(rmk c os room progs p k u b t).1=t:=by
 cases k with
 | zero=>rfl
 | succ k =>
  rw [rmk_succ];have e:=rcall_dead (c:=c) (os:=os) h b.v u;rw [(rmkC_dead (by rw [e];exact h)).1,e]
end
def XB (c:Cfg)(progs:Progs):Mch Bm:=⟨Bm.ask c,Bm.tell c c.cap.toNat progs⟩
theorem XB_ask (c:Cfg)(progs:Progs)(m:Bm):(XB c progs).ask m=m.ask c:=rfl
theorem XB_tell (c:Cfg)(progs:Progs)(m:Bm)(o:Out):(XB c progs).tell m o=m.tell c c.cap.toNat progs o:=rfl
structure BR (c:Cfg)(progs:Progs)(p:Rp)(u:Nat)(b:Rb)(m:Bm):Prop where
 nx:m.b.next=1
 u:m.b.u=u
 s:m.b.s=0
 v:VR b.v m.e.v
 step:m.e.v.step=0
 nt:b.nt=m.e.p.nt
 nl:b.nl=m.e.p.nl
 wt:m.e.p.wt=p.wt
 wl:m.e.p.wl=p.wl
 puts:b.puts=m.e.puts
 rows:b.rows=m.rows
 ns:m.e.v.s≠2
 inv:Binv c progs m
structure BE (x:RbE)(m:Bm):Prop where
 s:m.b.s=x.2.2
 s2:x.2.2=1∨x.2.2=2
 ok:x.2.2=1→m.e.puts=x.1∧m.rows=x.2.1
def BK (c:Cfg)(progs:Progs)(p:Rp)(u:Nat)(b:Rb)(m:Bm):Prop:=((u:Int)<c.threads∧BR c progs p u b m)∨((u:Int)=c.threads∧m.b.s=1∧m.e.puts=endP c c.cap.toNat (p.po b.nt b.nl) b.puts∧m.rows=b.rows)
theorem endP_po (c:Cfg)(room:Nat)(p:Rp)(q:Po)(h1:q.wt=p.wt)(h2:q.wl=p.wl)(puts:List (Int×Nat)):endP c room q puts=endP c room (p.po q.nt q.nl) puts:=by
 unfold endP Rp.po;rw [h1,h2]
theorem bpass {c:Cfg}{progs:Progs}{p:Rp}{u:Nat}{b:Rb}{m:Bm}(hu:(u:Int)<c.threads)(h:m.b.u=u∧m.b.s=0∧VR b.v m.e.v∧m.e.v.step=0∧b.nt=m.e.p.nt∧b.nl=m.e.p.nl∧m.e.p.wt=p.wt∧m.e.p.wl=p.wl∧b.puts=m.e.puts∧b.rows=m.rows∧m.e.v.s≠2)(hi:Binv c progs (m.pass c c.cap.toNat)) :
  BK c progs p (u+1) b (m.pass c c.cap.toNat):=by
 obtain ⟨h1,h2,h3,h4,h5,h6,h7,h8,h9,h10,h11⟩:=h;unfold Bm.pass at hi⊢
 by_cases he:m.b.u+1=c.threads
 ·rw [if_pos he] at hi⊢
  refine .inr ⟨by omega,rfl, ?_,h10.symm⟩;dsimp only;rw [endP_po c _ p m.e.p h7 h8,h5,h6,h9]
 ·rw [if_neg he] at hi⊢
  exact .inl ⟨by omega,rfl,by dsimp only;omega,h2,h3,h4,h5,h6,h7,h8,h9,h10,h11,hi⟩
theorem getD_set4 (l r:List Nat)(h1:l.length=4)(h2:r.length=4):l.take 4=r.take 4→l=r:=fun h=>by
 rw [List.take_of_length_le (by omega),List.take_of_length_le (by omega)] at h;exact h
theorem take_set {l r:List Nat}{j:Nat}(h1:l.length=4)(h2:r.length=4)(hj:j<4)(h:l.take j=r.take j)(x:Nat):(l.set j x).take (j+1)=(r.set j x).take (j+1):=by
 rw [List.take_add_one,List.take_add_one,List.take_set_of_le (Nat.le_refl j),List.take_set_of_le (Nat.le_refl j),h]
 congr 1
 rw [List.getElem?_set_self (by omega),List.getElem?_set_self (by omega)]
attribute [irreducible] rmake
theorem rargs_len (c:Cfg)(os:List Out)(u:Int):∀ (k j:Nat) (l:List Nat) (t:Tp),(rargs c os u k j l t).2.length=l.length
 | 0,_,_,_=>rfl
 | k+1,j,l,t=>by rw [rargs,rargs_len c os u k,List.length_set]
theorem rcell_at {os:List Out}(hos:os.length≤100000){t:Tp}(ht:t.at_≤100000)(c:Cfg)(v:Rv)(a:Int):(rcell c os v a t).1.at_≤100000:=by
 unfold rcell;split
 ·exact ht
 split
 ·exact ht
 ·exact rload_at hos ht _ _
theorem rcell_s (c:Cfg)(os:List Out)(v:Rv)(a:Int)(t:Tp):(rcell c os v a t).2.2.2=0∨(rcell c os v a t).2.2.2=1∨(rcell c os v a t).2.2.2=2∨(rcell c os v a t).2.2.2=3:=by
 unfold rcell;split
 ·exact .inr (.inr (.inl rfl))
 split
 ·exact .inr (.inr (.inr rfl))
 ·unfold rload
  split
  ·exact .inl rfl
  split
  ·exact .inr (.inr (.inl rfl))
  ·exact .inr (.inl rfl)
theorem g4_set {l:List Nat}(hl:l.length=4){k:Nat}(hk:k<4)(n:Nat):SetN (.int .u64 (n:Int)) (0+(k:Int).toNat * 1) (g4 l) (g4 (l.set k n)):=by
 match l,hl with
 | [a0,a1,a2,a3],_ =>
  have key:∀ (k:Nat) (l l':List Value),k<l.length→l.set k (.int .u64 (n:Int))=l'→SetN (.int .u64 (n:Int)) k l l':=fun k l l' hk e=>e▸SetN.of hk
  have h:k=0∨k=1∨k=2∨k=3:=by omega
  rcases h with rfl|rfl|rfl|rfl<;>exact key _ _ _ (by simp [g4]) rfl
section
set_option maxHeartbeats 4000000 in
theorem rcall_r {q:HProp}{ov:Value}{os:List Out}(hov:ListR Out.v q ov os)(hos:os.length≤100000){c:Cfg}(hc:Small c)(v:Rv)(x:Px)(t:Tp)(ht:t.at_≤100000)(u:Int):RTri Tryz.prog 126 #[.agg ⟨evV c v x⟩, .agg ⟨tpV ov t⟩, .int .i64 u] [q]
  (.tuple ⟨[.agg ⟨evV c (rcall c os v u t).2.v x⟩, .agg ⟨tpV ov (rcall c os v u t).1⟩, .agg ⟨(rcall c os v u t).2.ann.v⟩, .agg ⟨g4 (rcall c os v u t).2.args⟩, .bool (rcall c os v u t).2.is, .int .i64 (rcall c os v u t).2.s]⟩):=by
 have h1:=rat_r c hc 1 u 0
 have h2:=fun j=>rat_r c hc 2 u j
 have h7:=rat_r c hc 7 u 0
 have hld:=fun t ht a=>rld_r hov hos t ht a
 have hcl:=fun v t ht a=>rvcell_r hov hos hc v t ht a
 have hl1:=hld t ht (c.at 1 u 0);have hx1:=tdo_at hos ht (mop 0 (c.at 1 u 0) 0)
 refine RTri.of_reads fun p1 hp=>?_
 replace hld:=fun t ht a=>(hld t ht a).of_read hp
 replace hcl:=fun v t ht a=>(hcl v t ht a).of_read hp
 replace hl1:=hl1.of_read hp;obtain ⟨adt,capt,rfl,_⟩:=id hov;unfold Cfg.v at h1 h2 h7;generalize hX:rcall c os v u t=X;unfold rcall at hX;generalize tdo os t (mop 0 (c.at 1 u 0) 0)=y at hl1 hx1 hX;obtain ⟨t2,⟨⟨av,sq⟩,aok⟩⟩:=y;dsimp only at hl1 hx1 hX;unfold rcall1 at hX;dsimp only at hX;have hc7:=hcl v t2 hx1 (c.at 7 u 0);have hx7:=rcell_at hos hx1 c v (c.at 7 u 0);have hs7:=rcell_s c os v (c.at 7 u 0) t2;generalize rcell c os v (c.at 7 u 0) t2=y at hc7 hx7 hs7 hX;obtain ⟨t3,⟨v3,tag,s⟩⟩:=y;dsimp only at hc7 hx7 hs7 hX;obtain ⟨xna,xnn,xnc,xma,xmn,xmc,xwt,xwl,xnt,xnl,xroom,xsa,xsn,xsc⟩:=x;obtain ⟨who,vseq,held,stale⟩:=v;obtain ⟨ta,⟨ak,oa,⟨ova,osa⟩,⟨nvb,nsb⟩⟩,tn⟩:=t;obtain ⟨ta2,⟨ak2,oa2,⟨ov2a,os2a⟩,⟨nv2b,ns2b⟩⟩,tn2⟩:=t2;unfold evV;unfold plV rvV tpV Cfg.v;unfold tpV Cell.v at hl1;unfold tpV rvV Cfg.v at hc7;dsimp only [List.cons_append,List.nil_append] at hl1 hc7 hX⊢
 by_cases hstop:tn2=true∨sq=0
 ·rw [if_pos hstop] at hX
  subst hX;dsimp only
  cases tn2 with
  | true =>
   refine TB (vs:=[_,_,_]) Tryz.func126 fun w0 F=>?_
   repeat' (first|refine St.halt 5 ?_|refine Ga ?_|(refine Gb ?_;intro b)|(refine Dr 3 [(0,1),(1,1),(2,0),(3,1),(4,1),(5,0),(6,0),(7,0),(8,2),(9,3),(10,3)] [9,10] ?_)|refine Gl h1 ?_|refine Gl hl1 ?_|fail)
   refine Halt.go ?_;rename_i b3 b4 b6 b7 b8 b9 b12 b13;apply St.seq;refine St.drawTo (L0:=[bl b3 63 [.int .i64 c.threads, .int .i64 c.blocks, .int .i64 c.writes, .int .i64 c.fuel, .int .u64 (c.first:Int), .int .u64 (c.last:Int), .int .i64 who, .int .u64 (vseq:Int), .int .i64 held, .bool stale, .int .i64 c.threads, .int .i64 c.blocks, .int .i64 c.writes, .int .i64 c.fuel, .int .u64 (c.first:Int), .int .u64 (c.last:Int), .slice xna xnn xnc, .slice xma xmn xmc, .int .i64 xwt, .int .i64 xwl, .int .i64 xnt, .int .i64 xnl, .int .i64 (xroom:Int), .slice xsa xsn xsc],bl b4 43 [.slice adt os.length capt, .int .i64 (ta2:Int), .int .i64 ak2, .int .i64 oa2, .int .u64 (ov2a:Int), .int .u64 (os2a:Int), .int .u64 (nv2b:Int), .int .u64 (ns2b:Int), .bool true],bl b 39 [.int .u64 (av:Int), .int .u64 (sq:Int)],bl b13 68 [.int .u64 0, .int .u64 0, .int .u64 0, .int .u64 0]]) (id:=5) [(0,1),(1,1),(2,1),(3,1),(4,2),(5,2),(6,2),(7,2),(8,0),(9,0)] .done [] mixed (by kernel_rfl) ?_
   repeat' (first|refine Ga ?_|(apply Zq;rfl;exact Ob;exact Ent.go)|fail)
   all_goals exact St.d1 Tryz.func126 ⟨_,⟨rfl,rfl⟩,Ent.go⟩
  | false =>
   have ha0:sq=0:=hstop.resolve_left Bool.false_ne_true
   refine TB (vs:=[_,_,_]) Tryz.func126 fun w0 F=>?_
   repeat' (first|refine St.halt 5 ?_|refine Ga ?_|(refine Gb ?_;intro b)|(refine Dr 3 [(0,1),(1,1),(2,0),(3,1),(4,1),(5,0),(6,0),(7,0),(8,2),(9,3),(10,3)] [9,10] ?_)|refine Gl h1 ?_|refine Gl hl1 ?_|(refine Ge ?_ ?_<;>intro h<;>try omega)|fail)
   refine Halt.go ?_;rename_i b3 b4 b6 b7 b8 b9 b12 b13;apply St.seq;refine St.drawTo (L0:=[bl b3 63 [.int .i64 c.threads, .int .i64 c.blocks, .int .i64 c.writes, .int .i64 c.fuel, .int .u64 (c.first:Int), .int .u64 (c.last:Int), .int .i64 who, .int .u64 (vseq:Int), .int .i64 held, .bool stale, .int .i64 c.threads, .int .i64 c.blocks, .int .i64 c.writes, .int .i64 c.fuel, .int .u64 (c.first:Int), .int .u64 (c.last:Int), .slice xna xnn xnc, .slice xma xmn xmc, .int .i64 xwt, .int .i64 xwl, .int .i64 xnt, .int .i64 xnl, .int .i64 (xroom:Int), .slice xsa xsn xsc],bl b4 43 [.slice adt os.length capt, .int .i64 (ta2:Int), .int .i64 ak2, .int .i64 oa2, .int .u64 (ov2a:Int), .int .u64 (os2a:Int), .int .u64 (nv2b:Int), .int .u64 (ns2b:Int), .bool false],bl b 39 [.int .u64 (av:Int), .int .u64 (sq:Int)],bl b13 68 [.int .u64 0, .int .u64 0, .int .u64 0, .int .u64 0]]) (id:=5) [(0,1),(1,1),(2,1),(3,1),(4,2),(5,2),(6,2),(7,2),(8,0),(9,0)] .done [] mixed (by kernel_rfl) ?_
   repeat' (first|refine Ga ?_|(apply Zq;rfl;exact Ob;exact Ent.go)|fail)
   all_goals exact St.d1 Tryz.func126 ⟨_,⟨rfl,rfl⟩,Ent.go⟩
 rw [if_neg hstop] at hX
 have hsq:sq≠0:=fun e=>hstop (.inr e)
 have htn:tn2=false:=by cases tn2 with
  | true=>exact absurd (.inl rfl) hstop
  | false=>rfl
 subst htn;clear hstop;unfold rcall2 at hX;obtain ⟨w3,q3,h3,st3⟩:=v3;obtain ⟨ta3,⟨ak3,oa3,⟨ov3a,os3a⟩,⟨nv3b,ns3b⟩⟩,tn3⟩:=t3;dsimp only at hc7 hX
 by_cases hend:s≠1∨tag=sq
 ·rw [if_pos hend] at hX
  subst hX;dsimp only
  rcases hs7 with rfl|rfl|rfl|rfl
  ·refine TB (vs:=[_,_,_]) Tryz.func126 fun w0 F=>?_
   repeat' (first|refine St.halt 9 ?_|refine Ga ?_|(refine Gb ?_;intro b)|(refine Dr 3 [(0,1),(1,1),(2,0),(3,1),(4,1),(5,0),(6,0),(7,0),(8,2),(9,3),(10,3)] [9,10] ?_)|(refine Dr 6 [(0,0),(1,1),(2,1),(3,1),(4,0),(5,1),(6,1),(7,0),(8,0),(9,0),(10,0),(11,0),(12,2),(13,3),(14,3),(15,0),(16,0)] [13,14] ?_)|refine Gl h1 ?_|refine Gl hl1 ?_|refine Gl h7 ?_|refine Gl hc7 ?_|(refine Ge ?_ ?_<;>intro h<;>try omega)|fail)
   refine Halt.go ?_
   first|(rename_i b3 b4 b6 b7 b8 b9 b12 b13 b14 hx0;have _hz:Nat:=b3;clear _hz)|rename_i b3 b4 b6 b7 b8 b9 b12 b13 b14
   apply St.seq;refine St.drawTo (L0:=[bl b3 63 [.int .i64 c.threads, .int .i64 c.blocks, .int .i64 c.writes, .int .i64 c.fuel, .int .u64 (c.first:Int), .int .u64 (c.last:Int), .int .i64 w3, .int .u64 (q3:Int), .int .i64 h3, .bool st3, .int .i64 c.threads, .int .i64 c.blocks, .int .i64 c.writes, .int .i64 c.fuel, .int .u64 (c.first:Int), .int .u64 (c.last:Int), .slice xna xnn xnc, .slice xma xmn xmc, .int .i64 xwt, .int .i64 xwl, .int .i64 xnt, .int .i64 xnl, .int .i64 (xroom:Int), .slice xsa xsn xsc],bl b4 43 [.slice adt os.length capt, .int .i64 (ta3:Int), .int .i64 ak3, .int .i64 oa3, .int .u64 (ov3a:Int), .int .u64 (os3a:Int), .int .u64 (nv3b:Int), .int .u64 (ns3b:Int), .bool tn3],bl b14 39 [.int .u64 (av:Int), .int .u64 (sq:Int)],bl b13 68 [.int .u64 0, .int .u64 0, .int .u64 0, .int .u64 0]]) (id:=9) [(0,1),(1,1),(2,1),(3,1),(4,0),(5,2),(6,2),(7,2),(8,2),(9,0),(10,0)] .done [] mixed (by kernel_rfl) ?_
   repeat' (first|refine Ga ?_|(apply Zq;rfl;exact Ob;exact Ent.go)|fail)
   all_goals exact St.d1 Tryz.func126 ⟨_,⟨rfl,rfl⟩,Ent.go⟩
  ·refine TB (vs:=[_,_,_]) Tryz.func126 fun w0 F=>?_
   repeat' (first|refine St.halt 9 ?_|refine Ga ?_|(refine Gb ?_;intro b)|(refine Dr 3 [(0,1),(1,1),(2,0),(3,1),(4,1),(5,0),(6,0),(7,0),(8,2),(9,3),(10,3)] [9,10] ?_)|(refine Dr 6 [(0,0),(1,1),(2,1),(3,1),(4,0),(5,1),(6,1),(7,0),(8,0),(9,0),(10,0),(11,0),(12,2),(13,3),(14,3),(15,0),(16,0)] [13,14] ?_)|refine Gl h1 ?_|refine Gl hl1 ?_|refine Gl h7 ?_|refine Gl hc7 ?_|(refine Ge ?_ ?_<;>intro h<;>try omega)|fail)
   refine Halt.go ?_
   first|(rename_i b3 b4 b6 b7 b8 b9 b12 b13 b14 hx0;have _hz:Nat:=b3;clear _hz)|rename_i b3 b4 b6 b7 b8 b9 b12 b13 b14
   apply St.seq;refine St.drawTo (L0:=[bl b3 63 [.int .i64 c.threads, .int .i64 c.blocks, .int .i64 c.writes, .int .i64 c.fuel, .int .u64 (c.first:Int), .int .u64 (c.last:Int), .int .i64 w3, .int .u64 (q3:Int), .int .i64 h3, .bool st3, .int .i64 c.threads, .int .i64 c.blocks, .int .i64 c.writes, .int .i64 c.fuel, .int .u64 (c.first:Int), .int .u64 (c.last:Int), .slice xna xnn xnc, .slice xma xmn xmc, .int .i64 xwt, .int .i64 xwl, .int .i64 xnt, .int .i64 xnl, .int .i64 (xroom:Int), .slice xsa xsn xsc],bl b4 43 [.slice adt os.length capt, .int .i64 (ta3:Int), .int .i64 ak3, .int .i64 oa3, .int .u64 (ov3a:Int), .int .u64 (os3a:Int), .int .u64 (nv3b:Int), .int .u64 (ns3b:Int), .bool tn3],bl b14 39 [.int .u64 (av:Int), .int .u64 (sq:Int)],bl b13 68 [.int .u64 0, .int .u64 0, .int .u64 0, .int .u64 0]]) (id:=9) [(0,1),(1,1),(2,1),(3,1),(4,0),(5,2),(6,2),(7,2),(8,2),(9,0),(10,0)] .done [] mixed (by kernel_rfl) ?_
   repeat' (first|refine Ga ?_|(apply Zq;rfl;exact Ob;exact Ent.go)|fail)
   all_goals exact St.d1 Tryz.func126 ⟨_,⟨rfl,rfl⟩,Ent.go⟩
  ·refine TB (vs:=[_,_,_]) Tryz.func126 fun w0 F=>?_
   repeat' (first|refine St.halt 9 ?_|refine Ga ?_|(refine Gb ?_;intro b)|(refine Dr 3 [(0,1),(1,1),(2,0),(3,1),(4,1),(5,0),(6,0),(7,0),(8,2),(9,3),(10,3)] [9,10] ?_)|(refine Dr 6 [(0,0),(1,1),(2,1),(3,1),(4,0),(5,1),(6,1),(7,0),(8,0),(9,0),(10,0),(11,0),(12,2),(13,3),(14,3),(15,0),(16,0)] [13,14] ?_)|refine Gl h1 ?_|refine Gl hl1 ?_|refine Gl h7 ?_|refine Gl hc7 ?_|(refine Ge ?_ ?_<;>intro h<;>try omega)|fail)
   refine Halt.go ?_
   first|(rename_i b3 b4 b6 b7 b8 b9 b12 b13 b14 hx0;have _hz:Nat:=b3;clear _hz)|rename_i b3 b4 b6 b7 b8 b9 b12 b13 b14
   apply St.seq;refine St.drawTo (L0:=[bl b3 63 [.int .i64 c.threads, .int .i64 c.blocks, .int .i64 c.writes, .int .i64 c.fuel, .int .u64 (c.first:Int), .int .u64 (c.last:Int), .int .i64 w3, .int .u64 (q3:Int), .int .i64 h3, .bool st3, .int .i64 c.threads, .int .i64 c.blocks, .int .i64 c.writes, .int .i64 c.fuel, .int .u64 (c.first:Int), .int .u64 (c.last:Int), .slice xna xnn xnc, .slice xma xmn xmc, .int .i64 xwt, .int .i64 xwl, .int .i64 xnt, .int .i64 xnl, .int .i64 (xroom:Int), .slice xsa xsn xsc],bl b4 43 [.slice adt os.length capt, .int .i64 (ta3:Int), .int .i64 ak3, .int .i64 oa3, .int .u64 (ov3a:Int), .int .u64 (os3a:Int), .int .u64 (nv3b:Int), .int .u64 (ns3b:Int), .bool tn3],bl b14 39 [.int .u64 (av:Int), .int .u64 (sq:Int)],bl b13 68 [.int .u64 0, .int .u64 0, .int .u64 0, .int .u64 0]]) (id:=9) [(0,1),(1,1),(2,1),(3,1),(4,0),(5,2),(6,2),(7,2),(8,2),(9,0),(10,0)] .done [] mixed (by kernel_rfl) ?_
   repeat' (first|refine Ga ?_|(apply Zq;rfl;exact Ob;exact Ent.go)|fail)
   all_goals exact St.d1 Tryz.func126 ⟨_,⟨rfl,rfl⟩,Ent.go⟩
  ·refine TB (vs:=[_,_,_]) Tryz.func126 fun w0 F=>?_
   repeat' (first|refine St.halt 9 ?_|refine Ga ?_|(refine Gb ?_;intro b)|(refine Dr 3 [(0,1),(1,1),(2,0),(3,1),(4,1),(5,0),(6,0),(7,0),(8,2),(9,3),(10,3)] [9,10] ?_)|(refine Dr 6 [(0,0),(1,1),(2,1),(3,1),(4,0),(5,1),(6,1),(7,0),(8,0),(9,0),(10,0),(11,0),(12,2),(13,3),(14,3),(15,0),(16,0)] [13,14] ?_)|refine Gl h1 ?_|refine Gl hl1 ?_|refine Gl h7 ?_|refine Gl hc7 ?_|(refine Ge ?_ ?_<;>intro h<;>try omega)|fail)
   refine Halt.go ?_
   first|(rename_i b3 b4 b6 b7 b8 b9 b12 b13 b14 hx0;have _hz:Nat:=b3;clear _hz)|rename_i b3 b4 b6 b7 b8 b9 b12 b13 b14
   apply St.seq;refine St.drawTo (L0:=[bl b3 63 [.int .i64 c.threads, .int .i64 c.blocks, .int .i64 c.writes, .int .i64 c.fuel, .int .u64 (c.first:Int), .int .u64 (c.last:Int), .int .i64 w3, .int .u64 (q3:Int), .int .i64 h3, .bool st3, .int .i64 c.threads, .int .i64 c.blocks, .int .i64 c.writes, .int .i64 c.fuel, .int .u64 (c.first:Int), .int .u64 (c.last:Int), .slice xna xnn xnc, .slice xma xmn xmc, .int .i64 xwt, .int .i64 xwl, .int .i64 xnt, .int .i64 xnl, .int .i64 (xroom:Int), .slice xsa xsn xsc],bl b4 43 [.slice adt os.length capt, .int .i64 (ta3:Int), .int .i64 ak3, .int .i64 oa3, .int .u64 (ov3a:Int), .int .u64 (os3a:Int), .int .u64 (nv3b:Int), .int .u64 (ns3b:Int), .bool tn3],bl b14 39 [.int .u64 (av:Int), .int .u64 (sq:Int)],bl b13 68 [.int .u64 0, .int .u64 0, .int .u64 0, .int .u64 0]]) (id:=9) [(0,1),(1,1),(2,1),(3,1),(4,0),(5,2),(6,2),(7,2),(8,2),(9,0),(10,0)] .done [] mixed (by kernel_rfl) ?_
   repeat' (first|refine Ga ?_|(apply Zq;rfl;exact Ob;exact Ent.go)|fail)
   all_goals exact St.d1 Tryz.func126 ⟨_,⟨rfl,rfl⟩,Ent.go⟩
 ·rw [if_neg hend] at hX
  have hs1:s=1:=Classical.byContradiction fun e=>hend (.inl e)
  have htg:tag≠sq:=fun e=>hend (.inr e)
  clear hend hs7;subst hs1;generalize hR:rargs c os u 4 0 args0 _=R at hX;subst hX;dsimp only
  refine TB (vs:=[_,_,_]) Tryz.func126 fun w0 F=>?_
  repeat' (first|refine Ga ?_|(refine Gb ?_;intro b)|(refine Dr 3 [(0,1),(1,1),(2,0),(3,1),(4,1),(5,0),(6,0),(7,0),(8,2),(9,3),(10,3)] [9,10] ?_)|(refine Dr 6 [(0,0),(1,1),(2,1),(3,1),(4,0),(5,1),(6,1),(7,0),(8,0),(9,0),(10,0),(11,0),(12,2),(13,3),(14,3),(15,0),(16,0)] [13,14] ?_)|refine Gl h1 ?_|refine Gl hl1 ?_|refine Gl h7 ?_|refine Gl hc7 ?_|(refine Ge ?_ ?_<;>intro h<;>try omega)|fail)
  first|(rename_i b3 b4 b6 b7 b8 b9 b12 b13 b14 hx0;have _hz:Nat:=b3;clear _hz)|rename_i b3 b4 b6 b7 b8 b9 b12 b13 b14
  refine St.loopY (Lr:=?Lr1) (ι:={ x:Nat×List Nat×Tp // x.1≤4∧x.2.1.length=4∧x.2.2.at_≤100000∧rargs c os u (4 - x.1) x.1 x.2.1 x.2.2=R }) (fun x=>4 - x.1.1) (fun x=>[(18, .int .i64 (x.1.1:Int))]) (fun x=>[bl b4 43 (tpV (.slice adt os.length capt) x.1.2.2),bl b13 68 (g4 x.1.2.1)]) ⟨(0,args0,(⟨ta3,⟨ak3,oa3,⟨ov3a,os3a⟩,⟨nv3b,ns3b⟩⟩,tn3⟩:Tp)),Nat.zero_le _,rfl,hx7,hR⟩ ?hE1 ?hL1 ?round1
  case hE1=>exact Sub.go
  case hL1=>exact Takes.go
  case round1 =>
   rintro ⟨⟨k,l,t⟩,hk,hll,ht,hgo⟩ IH;dsimp only at hk hll ht hgo IH⊢
   by_cases hlt:k<4
   ·have hx:=tdo_at hos ht (mop 0 (c.at 2 u k) 0)
    have hlk:=hld t ht (c.at 2 u k);have h2k:=h2 k;rw [show 4 - k=(4 - (k+1))+1 by omega,rargs] at hgo;generalize tdo os t (mop 0 (c.at 2 u k) 0)=y at hlk hx hgo;obtain ⟨⟨ta5,⟨ak5,oa5,⟨ov5a,os5a⟩,⟨nv5b,ns5b⟩⟩,tn5⟩,⟨⟨wv,ws⟩,wok⟩⟩:=y;obtain ⟨ta4,⟨ak4,oa4,⟨ov4a,os4a⟩,⟨nv4b,ns4b⟩⟩,tn4⟩:=t;dsimp only at hlk hx hgo;have hset:=g4_set hll hlt wv;unfold tpV Cell.v at hlk;unfold tpV;dsimp only at hlk⊢
    repeat' (first|refine Ga ?_|(refine Gb ?_;intro b)|(refine Dt 13 [(0,1),(1,1),(2,0),(3,0),(4,1),(5,1),(6,0),(7,0),(8,0)] (.pick [(9,2),(10,2),(11,3),(12,3)] .done (.pick [(10,2),(9,2),(11,3),(12,3)] .done .nope)) [11,12] ?_)|apply StD.pick|exact StD.nope|refine Gl h2k ?_|refine Gl hlk ?_|(refine Ge ?_ ?_<;>intro h<;>try omega)|fail)
    all_goals refine IH ⟨(k+1,l.set k wv,⟨ta5,⟨ak5,oa5,⟨ov5a,os5a⟩,⟨nv5b,ns5b⟩⟩,tn5⟩),hlt,by rw [List.length_set];exact hll,hx,hgo⟩ (by show 4 - (k+1)<4 - k;omega) ?_ ?_
    all_goals first|exact Sub.go|exact Ent.go
   ·obtain rfl:k=4:=by omega
    have hgo:(t,l)=R:=hgo;subst hgo;obtain ⟨ta4,⟨ak4,oa4,⟨ov4a,os4a⟩,⟨nv4b,ns4b⟩⟩,tn4⟩:=t;unfold tpV;dsimp only
    repeat' (first|refine St.halt 16 ?_|refine Ga ?_|fail)
    refine Halt.go ?_;apply St.seq;refine St.drawTo (L0:=[bl b3 63 [.int .i64 c.threads, .int .i64 c.blocks, .int .i64 c.writes, .int .i64 c.fuel, .int .u64 (c.first:Int), .int .u64 (c.last:Int), .int .i64 w3, .int .u64 (q3:Int), .int .i64 h3, .bool st3, .int .i64 c.threads, .int .i64 c.blocks, .int .i64 c.writes, .int .i64 c.fuel, .int .u64 (c.first:Int), .int .u64 (c.last:Int), .slice xna xnn xnc, .slice xma xmn xmc, .int .i64 xwt, .int .i64 xwl, .int .i64 xnt, .int .i64 xnl, .int .i64 (xroom:Int), .slice xsa xsn xsc],bl b4 43 [.slice adt os.length capt, .int .i64 (ta4:Int), .int .i64 ak4, .int .i64 oa4, .int .u64 (ov4a:Int), .int .u64 (os4a:Int), .int .u64 (nv4b:Int), .int .u64 (ns4b:Int), .bool tn4],bl b14 39 [.int .u64 (av:Int), .int .u64 (sq:Int)],bl b13 68 (g4 l)]) (id:=16) [(0,1),(1,1),(2,1),(3,1),(4,0),(5,1),(6,0),(7,2),(8,2),(9,2),(10,2),(11,0),(12,0)] .done [] mixed (by kernel_rfl) ?_
    repeat' (first|refine Ga ?_|(apply Zq;rfl;exact Ob;exact Ent.go)|fail)
    all_goals exact St.d1 Tryz.func126 ⟨_,⟨rfl,rfl⟩,Ent.go⟩
end
end Go.Proofs.YthmbgodcpgkkeaaGreat
