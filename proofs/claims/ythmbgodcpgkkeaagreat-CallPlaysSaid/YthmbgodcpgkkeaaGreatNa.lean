/-
  Package tumblerref11, in plain terms: a program, from its beginning to its end. A program that runs, as the document has it: within which bounds it stays.
-/
import Derived.Test.YthmbgodcpgkkeaaGreatKd
set_option maxRecDepth 100000
namespace Go.Proofs.YthmbgodcpgkkeaaGreat
section
variable {c:Cfg}{os:List Out}{room:Nat}{code:List Ins}{P0:List (Int×Nat)}{nt0 nl0:Int}
theorem once_args (c:Cfg)(room:Nat)(code:List Ins)(m:Xm):(m.once c room code).x.args=m.x.args:=by
 have hp:∀ x:Xm,(x.pay c).1.x.args=x.x.args:=fun x=>by unfold Xm.pay Xm.fail;split<;>rfl
 have hg:∀ (x:Xm) (v:Nat),(x.goOn c room v).x.args=x.x.args:=fun x v=>by
  unfold Xm.goOn;split
  ·rfl
  split
  ·unfold Xm.taken Xm.fail
   split<;>rfl
  split
  ·split<;>exact hp x
  split
  ·split<;>exact hp x
  ·rfl
 have hf:∀ (x:Xm) (a:Int),(x.fetch c room a).x.args=x.x.args:=fun x a=>by
  unfold Xm.fetch;split
  ·exact hg x _
  ·rfl
 unfold Xm.once;split
 ·unfold Xm.step
  split
  ·rfl
  ·show (Xm.does c room (m.begun _)).x.args=(m.begun (code.getD m.x.pc.toNat ins0)).x.args
   generalize m.begun (code.getD m.x.pc.toNat ins0)=x;unfold Xm.does;split
   ·rfl
   split
   ·split<;>rfl
   split
   ·rfl
   split
   ·rfl
   split
   ·unfold Xm.root
    split
    ·rfl
    split
    ·split<;>exact hp x
    ·exact hf x _
   split
   ·unfold Xm.touch
    split
    ·rfl
    split
    ·split
     ·exact hg x _
     ·rfl
    split
    ·exact hg x _
    ·rfl
   split
   ·unfold Xm.fresh
    split
    ·split
     ·exact (hf _ _).trans (hp x)
     ·exact hp x
    ·exact hp x
   ·rfl
 split
 ·rfl
 split
 ·rfl
 ·exact hg _ _
theorem run_args (c:Cfg)(room:Nat)(code:List Ins):∀ (k:Nat) (m:Xm),(Xm.runN c room code k m).x.args=m.x.args
 | 0,_=>rfl
 | k+1,m=>by
  unfold Xm.runN;split
  ·rfl
  ·rw [run_args c room code k,once_args]
theorem go_sim (hS:Start c P0 nt0 nl0)(hr:rightB code=true)(args:List Nat):∀ (k:Nat) {r:Rr} {m:Xm},XR r m→m.x.waits=false→m.x.args=args→(c.fuel - r.steps).toNat<k→∀ {n:Nat},n≤os.length→∀ {j:Nat},Xi c code P0 nt0 nl0 j m→
  Sim (XX c room code) os (rgo c os room code args k r) (fun r' m' _=>XE r' m'∧∃ j',Xi c code P0 nt0 nl0 j' m') (fun r' _=>r'.s=0) (Xm.run c room code m) n
 | 0,_,_,_,_,_,hk,_,_,_,_=>absurd hk (Nat.not_lt_zero _)
 | k+1,r,m,h,hw,ha,hk,n,hn,j,hi=>by
  have stop:∀ (r':Rr) (l:Nat),r'.s≠0→rgo c os room code args k r' (.live l)=(.live l,r'):=fun r' l hs=>by
   cases k with
   | zero=>rfl
   | succ k=>unfold rgo;rw [if_neg (fun e=>hs e.1)]
  have e0:rgo c os room code args (k+1) r (.live n)=rgo c os room code args k (rstep c os room code args r (.live n)).2 (rstep c os room code args r (.live n)).1:=by
   rw [rgo,if_pos ⟨h.s.1,rfl⟩]
  by_cases hf:c.fuel≤r.steps
  ·have hI:=xi_run hS room hr j
   have hns:¬ m.stops:=by
    rintro (e|⟨e,_⟩)
    ·exact e h.s.2
    ·rw [hw] at e;cases e
   have e1:m.once c room code=m.fail 41 0:=by
    unfold Xm.once;rw [if_pos hw];unfold Xm.step;rw [if_pos (by rw [← h.steps];exact hf)]
   have e2:rstep c os room code args r (.live n)=(.live n,r.fails 41):=by unfold rstep;rw [if_pos hf]
   have hi2:=hI.next _ hi hns;rw [run_once hI hi hns];rw [e1] at hi2⊢;rw [run_stop (m:=m.fail 41 0) (.inl (by show (1:Int)≠0;decide))];refine (Sim.ret (a:=r.fails 41) ⟨h.fail0 (by decide),j,hi2⟩).eq ?_;rw [e0,e2];exact stop _ _ (by show (1:Int)≠0;decide)
  have hs:=(step_sim (os:=os) (room:=room) hS hr h hw hn hi).keep (f:=fun x:Xm=>x.x.args) (fun x o=>by
   show (Xm.tell c room code x o).x.args=x.x.args;unfold Xm.tell;split
   ·exact run_args c room code _ _
   ·rfl)
  rw [ha] at hs;refine (hs.bind hn (S:=fun r' t=>rgo c os room code args k r' t) (fun r' t ht=>by rw [rgo_dead ht]) (fun r' m' t ht e=>by rw [rgo_dead ht];exact e.1) (fun r' m' l hl hln e=>?_)).eq e0;obtain ⟨⟨m1,j1,rfl,hj1,hx,hst⟩,ha1⟩:=e;have ha1:(Xm.runN c room code (m1.meas c) m1).x.args=(Xm.runN c room code (m.meas c) m).x.args:=ha1;rw [run_args,run_args,ha] at ha1
  rcases hx with ⟨hw1,hx⟩|hx
  ·have h3:=hst hx.s.1
   exact go_sim hS hr args k hx hw1 ha1 (by omega) hln hj1
  ·rw [run_stop (.inl hx.s.2)]
   exact (Sim.ret (a:=r') ⟨hx,j1,hj1⟩).eq (stop r' l (by rw [hx.s.1];exact hx.s.2))
structure XP (r:Rr)(m:Xm)(P0:List (Int×Nat))(nt0 nl0:Int):Prop where
 v:VR r.v m.v
 step:m.v.step=0
 s:r.s=m.x.s∧(m.x.s=1∨m.x.s=2)
 ok:m.x.s=1→r.er=m.x.rc∧r.val=m.x.rv∧r.news=m.news∧r.nt=m.p.nt∧r.nl=m.p.nl∧r.puts=m.puts
 ns:m.x.s=1→m.v.s≠2
theorem play_sim (hS:Start c P0 nt0 nl0)(hf:0≤c.fuel)(args:List Nat)(ha4:args.length=4){rv:Rv}{v:Vw}(hv:VR rv v)(h0:v.step=0)(hns:v.s≠2)(hg:Vgo v)(hvb:0≤v.block∧v.block≤1000)(p:Po)(hnt:p.nt=nt0)(hnl:p.nl=nl0){n:Nat}(hn:n≤os.length) :
  Sim (XX c room code) os (rplay c os room code args rv nt0 nl0 P0) (fun r' m' _=>XP r' m' P0 nt0 nl0∧∃ j',Xr c code P0 nt0 nl0 j' m') (fun r' _=>r'.s=0) (Xm.start c room code v p P0 args) n:=by
 have hXr:=Xr.start (code:=code) hS hf room v p hnt hnl args ha4 hvb hg;show SimV (XX c room code) os (rplay c os room code args rv nt0 nl0 P0 (.live n)) (fun r' m' _=>XP r' m' P0 nt0 nl0∧∃ j',Xr c code P0 nt0 nl0 j' m') (fun r' _=>r'.s=0) (Xm.start c room code v p P0 args) n;unfold rplay Xm.start at *
 cases hr:rightB code with
 | false =>
  rw [hr,if_neg (by decide)] at hXr;rw [if_neg (by decide),if_neg (by decide)];refine Sim.ret (a:=(Rr.init rv nt0 nl0 P0).fails 30) ⟨⟨hv,h0,⟨rfl, .inl rfl⟩,fun _=>⟨rfl,rfl,rfl,hnt.symm,hnl.symm, ?_⟩,fun _=>hns⟩,0,hXr⟩;show P0=(P0.take P0.length);rw [List.take_length]
 | true =>
  rw [if_pos rfl,if_pos rfl];have hi:=Xinv.init (c:=c) hr hS hf v p hnt hnl args ha4 hvb
  have hR:XR (.init rv nt0 nl0 P0) (Xm.init v p P0 args):=⟨hv,h0,hnt.symm,hnl.symm,rfl,rfl,rfl,rfl,rfl,rfl,⟨rfl,rfl⟩,rfl,rfl,hns⟩
  have hXi:Xi c code P0 nt0 nl0 0 (Xm.init v p P0 args):=⟨hi,Xw.init v p args hg⟩
  have hs:=go_sim (os:=os) (room:=room) hS hr args (c.fuel.toNat+1) hR rfl rfl (by show (c.fuel - 0).toNat<c.fuel.toNat+1;omega) hn hXi;refine (hs.bind hn (S:=fun r' t=>(t,r'.undo nt0 nl0 P0)) (fun _ _ _=>rfl) (fun r' m' t ht e=>?_) (fun r' m' l hl hln e=>?_))
  ·unfold Rr.undo
   split<;>exact e
  ·obtain ⟨hx,j',hj⟩:=e
   refine Sim.ret ⟨?_,j',⟨.inl ⟨hr,hj, .inl hx.s.2⟩⟩⟩;have hsx:=hj.2.sx;refine ⟨?_,hx.step,⟨?_,by have:=hx.s.2;omega⟩,fun h1=>?_,hx.ns⟩
   ·unfold Rr.undo;split<;>exact hx.v
   ·unfold Rr.undo;split<;>exact hx.s.1
   ·obtain ⟨g1,g2,g3⟩:=hx.ok h1
    unfold Rr.undo
    by_cases he:r'.er≠0
    ·rw [if_pos he]
     obtain ⟨k1,k2,k3,k4⟩:=hj.1.rc (by rw [← g1];exact he);exact ⟨g1,g2,g3,k3.symm,k4.symm,k2.symm⟩
    ·rw [if_neg he]
     obtain ⟨k1,k2,k3⟩:=hx.keeps (Decidable.byContradiction he);exact ⟨g1,g2,g3,k1,k2,k3⟩
end
theorem z64:0<18446744073709551616:=by decide
theorem o64:1<18446744073709551616:=by decide
theorem mput_val:∀ {m:List (Int×Nat)} {a:Int} {x:Nat},(∀ p∈m,p.2<18446744073709551616)→x<18446744073709551616→∀ p∈mput m a x,p.2<18446744073709551616
 | [],a,x,_,hx,p,hp=>by
  rw [mput,List.mem_singleton] at hp;subst hp;exact hx
 | (k,y)::m,a,x,h,hx,p,hp=>by
  unfold mput at hp;split at hp
  ·rcases List.mem_cons.1 hp with rfl|hp
   ·exact hx
   ·exact h p (List.mem_cons_of_mem _ hp)
  ·rcases List.mem_cons.1 hp with rfl|hp
   ·exact h _ (List.mem_cons_self ..)
   ·exact mput_val (fun q hq=>h q (List.mem_cons_of_mem _ hq)) hx p hp
theorem mget_val:∀ {m:List (Int×Nat)} {a:Int} {x:Nat},(∀ p∈m,p.2<18446744073709551616)→mget m a=some x→x<18446744073709551616
 | [],a,x,_,hg=>by cases hg
 | (k,y)::m,a,x,h,hg=>by
  unfold mget at hg;split at hg
  ·injection hg with hg;subst hg;exact h _ (List.mem_cons_self ..)
  ·exact mget_val (fun q hq=>h q (List.mem_cons_of_mem _ hq)) hg
theorem allP_val {puts:List (Int×Nat)}(h:∀ p∈puts,p.2<18446744073709551616):∀ p∈allP puts,p.2<18446744073709551616:=by
 have key:∀ (l m:List (Int×Nat)),(∀ p∈m,p.2<18446744073709551616)→(∀ p∈l,p.2<18446744073709551616)→∀ p∈l.foldl (fun m p=>mput m p.1 p.2) m,p.2<18446744073709551616:=by
  intro l
  induction l with
  | nil=>intro m hm _;exact hm
  | cons q l ih=>intro m hm hl;exact ih _ (mput_val hm (hl q (List.mem_cons_self ..))) (fun p hp=>hl p (List.mem_cons_of_mem _ hp))
 exact key puts [] (fun p hp=>by cases hp) h
theorem putP_val {room:Nat}{puts:List (Int×Nat)}{a:Int}{x:Nat}(h:∀ p∈puts,p.2<18446744073709551616)(hx:x<18446744073709551616):∀ p∈putP room puts a x,p.2<18446744073709551616:=by
 unfold putP;split
 ·exact h
 ·intro p hp
  rcases List.mem_append.1 hp with hp|hp
  ·exact h p hp
  ·rw [List.mem_singleton] at hp;subst hp;exact hx
theorem takeN_val {c:Cfg}{room:Nat}{puts:List (Int×Nat)}{b:Nat}(h:∀ p∈puts,p.2<18446744073709551616):∀ k,∀ p∈takeN c room puts b k,p.2<18446744073709551616
 | 0=>putP_val h o64
 | k+1=>putP_val (takeN_val h k) z64
theorem rreg_lt {regs:List Nat}(h:∀ x∈regs,x<18446744073709551616)(a:Int):rreg regs a<18446744073709551616:=by
 unfold rreg;rw [List.getD_eq_getElem?_getD]
 cases e:regs[a.toNat]? with
 | none=>decide
 | some x=>exact h x (List.mem_of_getElem? e)
theorem set_lt {regs:List Nat}(h:∀ x∈regs,x<18446744073709551616){k v:Nat}(hv:v<18446744073709551616):∀ x∈regs.set k v,x<18446744073709551616:=fun x hx=>by
 rcases List.mem_or_eq_of_mem_set hx with hx|rfl
 ·exact h x hx
 ·exact hv
theorem reckon_lt {i:Ins}{regs args:List Nat}(h:∀ x∈regs,x<18446744073709551616)(ha:∀ x∈args,x<18446744073709551616)(hi:i.imm<18446744073709551616):reckon i regs args<18446744073709551616:=by
 have hn:∀ n:Int,nat64 n<18446744073709551616:=fun n=>by unfold nat64;omega
 have hb:=rreg_lt h i.b;have hc:=rreg_lt h i.c;unfold rreg at hb hc;unfold reckon;split
 ·exact hi
 split
 ·exact hb
 split
 ·exact hn _
 split
 ·exact hn _
 split
 ·exact hn _
 split
 ·split
  ·exact hb
  ·exact Nat.lt_of_le_of_lt (Nat.mod_le _ _) hb
 split
 ·generalize (regs.getD i.b.toNat 0 == regs.getD i.c.toNat 0)=z
  cases z<;>decide
 split
 ·generalize decide (regs.getD i.b.toNat 0<regs.getD i.c.toNat 0)=z
  cases z<;>decide
 split
 ·exact rreg_lt ha ((i.imm % 4:Nat):Int)
 ·decide
section
theorem tdo_lt {os:List Out}(hos:∀ o∈os,o.was.val<18446744073709551616)(t:Tp)(o:MOp):(tdo os t o).2.was.val<18446744073709551616:=by
 unfold tdo;split
 ·exact z64
 split
 ·exact z64
 ·show (os.getD t.at_ out0).was.val<18446744073709551616
  rw [List.getD_eq_getElem?_getD]
  cases e:os[t.at_]? with
  | none=>exact z64
  | some x=>exact hos x (List.mem_of_getElem? e)
theorem rload_lt {os:List Out}(hos:∀ o∈os,o.was.val<18446744073709551616)(v:Rv)(t:Tp)(a:Int):(rload os v a t).2.2.1<18446744073709551616:=by
 have:=tdo_lt hos t (mop 0 a 0);unfold rload;split
 ·exact z64
 split
 ·exact z64
 ·exact this
theorem rcell_lt {os:List Out}(hos:∀ o∈os,o.was.val<18446744073709551616){c:Cfg}(v:Rv)(t:Tp)(a:Int):(rcell c os v a t).2.2.1<18446744073709551616:=by
 unfold rcell;split
 ·exact z64
 split
 ·exact z64
 ·exact rload_lt hos _ _ _
theorem rword_lt {os:List Out}(hos:∀ o∈os,o.was.val<18446744073709551616){c:Cfg}(v:Rv)(t:Tp)(b w:Int):(rword c os v b w t).2.2.1<18446744073709551616:=by
 unfold rword;split
 ·exact z64
 split
 ·exact z64
 split
 ·exact z64
 ·exact rload_lt hos _ _ _
end
structure RI (c:Cfg)(n N:Nat)(nt0 nl0:Int)(r:Rr):Prop where
 regs:r.regs.length=16
 rv:∀ x∈r.regs,x<18446744073709551616
 pv:∀ p∈r.puts,p.2<18446744073709551616
 pc0:0≤r.pc
 pc1:r.s=0→r.pc<n
 pc2:r.pc≤n
 st:0≤r.steps∧r.steps≤c.fuel
 wr:0≤r.writes∧r.writes≤9 * r.steps
 news:r.news.length≤r.steps.toNat
 nt:0≤r.nt∧r.nt≤nt0
 nl:nl0≤r.nl∧r.nl≤nl0+r.steps
 len:r.puts.length≤N+9 * r.steps.toNat
structure RM (c:Cfg)(n N:Nat)(nt0 nl0:Int)(r:Rr):Prop where
 regs:r.regs.length=16
 rv:∀ x∈r.regs,x<18446744073709551616
 pv:∀ p∈r.puts,p.2<18446744073709551616
 pc0:0≤r.pc
 pc1:r.pc<n
 st:1≤r.steps∧r.steps≤c.fuel
 wr:0≤r.writes∧r.writes≤9 * r.steps
 news:r.news.length+1≤r.steps.toNat
 nt:0≤r.nt∧r.nt≤nt0
 nl:nl0≤r.nl∧r.nl+1≤nl0+r.steps
 len:r.puts.length+9≤N+9 * r.steps.toNat
section
theorem RM.ri {c:Cfg}{n N:Nat}{nt0 nl0:Int}{r:Rr}(h:RM c n N nt0 nl0 r):RI c n N nt0 nl0 r :=
 ⟨h.regs,h.rv,h.pv,h.pc0,fun _=>h.pc1,by have:=h.pc1;omega,by have:=h.st;omega,h.wr,by have:=h.news;omega,h.nt,by have:=h.nl;omega,by have:=h.len;omega⟩
theorem RI.of {c:Cfg}{n N:Nat}{nt0 nl0:Int}{r:Rr}(h:RI c n N nt0 nl0 r)(v:Rv)(s er:Int)(val:Nat)(hs:s=0→r.pc<n):RI c n N nt0 nl0 { r with v:=v,s:=s,er:=er,val:=val } :=
 ⟨h.regs,h.rv,h.pv,h.pc0,hs,h.pc2,h.st,h.wr,h.news,h.nt,h.nl,h.len⟩
theorem RI.fails {c:Cfg}{n N:Nat}{nt0 nl0:Int}{r:Rr}(h:RI c n N nt0 nl0 r)(e:Int):RI c n N nt0 nl0 (r.fails e):=h.of r.v 1 e r.val (fun e=>absurd e (by decide))
theorem RM.ends {c:Cfg}{n N:Nat}{nt0 nl0:Int}{r:Rr}(h:RM c n N nt0 nl0 r)(s:Int):RI c n N nt0 nl0 (r.ends s):=by
 unfold Rr.ends;split
 ·exact h.ri.fails _
 ·exact h.ri.of r.v s r.er r.val (fun _=>h.pc1)
theorem RM.view {c:Cfg}{n N:Nat}{nt0 nl0:Int}{r:Rr}(h:RM c n N nt0 nl0 r)(v:Rv):RM c n N nt0 nl0 { r with v:=v }:=⟨h.regs,h.rv,h.pv,h.pc0,h.pc1,h.st,h.wr,h.news,h.nt,h.nl,h.len⟩
theorem RM.pay {c:Cfg}{n N:Nat}{nt0 nl0:Int}{r:Rr}(h:RM c n N nt0 nl0 r)(hw:r.writes+9≤9 * r.steps)(op:Int):((r.pay c op).2=true→RM c n N nt0 nl0 (r.pay c op).1)∧RI c n N nt0 nl0 (r.pay c op).1:=by
 have hc:=costs_le op;unfold Rr.pay;split
 ·exact ⟨fun e=>absurd e Bool.false_ne_true,h.ri.fails _⟩
 ·have hm:RM c n N nt0 nl0 { r with writes:=r.writes+costs op }:=⟨h.regs,h.rv,h.pv,h.pc0,h.pc1,h.st,by have:=h.wr;dsimp only;omega,h.news,h.nt,h.nl,h.len⟩
  exact ⟨fun _=>hm,hm.ri⟩
theorem pay_nt (c:Cfg)(r:Rr)(op:Int):(r.pay c op).1.nt=r.nt∧(r.pay c op).1.nl=r.nl∧(r.pay c op).1.puts=r.puts∧(r.pay c op).1.news=r.news∧(r.pay c op).1.regs=r.regs∧(r.pay c op).1.v=r.v∧(r.pay c op).1.pc=r.pc∧(r.pay c op).1.steps=r.steps:=by
 unfold Rr.pay Rr.fails;split<;>exact ⟨rfl,rfl,rfl,rfl,rfl,rfl,rfl,rfl⟩
theorem RM.put {c:Cfg}{n N:Nat}{nt0 nl0:Int}{r:Rr}(h:RM c n N nt0 nl0 r)(room:Nat)(a:Int){x:Nat}(hx:x<18446744073709551616):RI c n N nt0 nl0 { r with puts:=putP room r.puts a x }:=by
 have:=putP_len room r.puts a x;exact ⟨h.regs,h.rv,putP_val h.pv hx,h.pc0,fun _=>h.pc1,by have:=h.pc1;dsimp only;omega,by have:=h.st;dsimp only;omega,h.wr,by have:=h.news;dsimp only;omega,h.nt,by have:=h.nl;dsimp only;omega,by have:=h.len;dsimp only;omega⟩
theorem RM.give {c:Cfg}{n N:Nat}{nt0 nl0:Int}{r:Rr}(h:RM c n N nt0 nl0 r)(room b:Nat)(hb:b<18446744073709551616):RI c n N nt0 nl0 { r with nl:=(giveP c room r.nl r.puts b).1,puts:=(giveP c room r.nl r.puts b).2 }:=by
 have h1:=putP_len room r.puts (c.at 11 b 0) 2;have h2:=putP_len room (putP room r.puts (c.at 11 b 0) 2) (c.at 15 r.nl 0) b;unfold giveP;split
 ·exact h.ri
 ·exact ⟨h.regs,h.rv,putP_val (putP_val h.pv (by decide)) hb,h.pc0,fun _=>h.pc1,by have:=h.pc1;dsimp only;omega,by have:=h.st;dsimp only;omega,h.wr,by have:=h.news;dsimp only;omega,h.nt,by have:=h.nl;dsimp only;omega,by have:=h.len;dsimp only;omega⟩
theorem RM.taken {c:Cfg}{n N:Nat}{nt0 nl0:Int}{r:Rr}(h:RM c n N nt0 nl0 r)(room:Nat)(a:Int)(b:Nat)(hb64:c.blocks≤1000):RI c n N nt0 nl0 (r.taken c room a b):=by
 have h1:=takeN_len c room r.puts b 8;unfold Rr.taken takeP;split
 ·exact h.ri.fails _
 have hb:b+1<18446744073709551616:=by omega
 have hlen:(r.news++[b+1]).length=r.news.length+1:=by rw [List.length_append];rfl
 split
 ·exact ⟨by rw [List.length_set];exact h.regs,set_lt h.rv hb,h.pv,h.pc0,fun _=>h.pc1,by have:=h.pc1;dsimp only;omega,by have:=h.st;dsimp only;omega,h.wr,by have:=h.news;dsimp only;omega,h.nt,by have:=h.nl;dsimp only;omega,by have:=h.len;dsimp only;omega⟩
 ·rename_i hn
  have hnt:=h.nt;have hv:=takeN_val (c:=c) (room:=room) (puts:=r.puts) (b:=b) h.pv 8;generalize takeN c room r.puts b 8=T at h1 hv⊢;exact ⟨by rw [List.length_set];exact h.regs,set_lt h.rv hb,hv,h.pc0,fun _=>h.pc1,by have:=h.pc1;dsimp only;omega,by have:=h.st;dsimp only;omega,h.wr,by have:=h.news;dsimp only;omega,by dsimp only;omega,by have:=h.nl;dsimp only;omega,by have:=h.len;dsimp only;omega⟩
theorem RM.reg {c:Cfg}{n N:Nat}{nt0 nl0:Int}{r:Rr}(h:RM c n N nt0 nl0 r)(k:Nat){x:Nat}(hx:x<18446744073709551616):RI c n N nt0 nl0 { r with regs:=r.regs.set k x } :=
 ⟨by rw [List.length_set];exact h.regs,set_lt h.rv hx,h.pv,h.pc0,fun _=>h.pc1,by have:=h.pc1;dsimp only;omega,by have:=h.st;dsimp only;omega,h.wr,by have:=h.news;dsimp only;omega,h.nt,by have:=h.nl;dsimp only;omega,by have:=h.len;dsimp only;omega⟩
theorem rblk_lt (c:Cfg)(hb:c.blocks≤1000)(i:Ins)(regs:List Nat):(rblk c i regs).1.toNat<18446744073709551616:=by
 unfold rblk Xs.block;split
 ·decide
 ·dsimp only;omega
theorem RM.goOn {c:Cfg}{n N:Nat}{nt0 nl0:Int}{r:Rr}(h:RM c n N nt0 nl0 r)(room:Nat)(i:Ins)(hb:c.blocks≤1000)(hw:i.op≠15→r.writes+9≤9 * r.steps){x:Nat}(hx:x<18446744073709551616):RI c n N nt0 nl0 (r.goOn c room i x):=by
 unfold Rr.goOn;split
 ·exact h.reg _ hx
 split
 ·exact h.taken room _ _ hb
 rename_i h15;have hp:=h.pay (hw h15) i.op;split
 ·split
  ·rename_i hp2
   exact (hp.1 hp2).put room _ (rreg_lt h.rv _)
  ·exact hp.2
 split
 ·split
  ·rename_i hp2
   exact (hp.1 hp2).give room _ (rblk_lt c hb i r.regs)
  ·exact hp.2
 ·exact h.ri
theorem RM.after {c:Cfg}{n N:Nat}{nt0 nl0:Int}{r:Rr}(h:RM c n N nt0 nl0 r)(room:Nat)(i:Ins)(hb:c.blocks≤1000)(hw:i.op≠15→r.writes+9≤9 * r.steps)(x:Rv×Nat×Int)(hx:x.2.1<18446744073709551616):RI c n N nt0 nl0 (r.after c room i x):=by
 unfold Rr.after;split
 ·exact (h.view x.1).goOn room i hb hw hx
 ·exact (h.view x.1).ends _
theorem RM.fetch {c:Cfg}{n N:Nat}{nt0 nl0:Int}{r:Rr}{os:List Out}(hos:∀ o∈os,o.was.val<18446744073709551616)(h:RM c n N nt0 nl0 r)(room:Nat)(i:Ins)(hb:c.blocks≤1000)(hw:i.op≠15→r.writes+9≤9 * r.steps)(a:Int)(t:Tp):RI c n N nt0 nl0 (rfetch c os room i r a t).2:=by
 unfold rfetch;split
 ·rename_i x hx
  exact h.goOn room i hb hw (mget_val (allP_val h.pv) hx)
 ·exact h.after room i hb hw _ (rcell_lt hos _ _ _)
theorem RM.does {c:Cfg}{n N:Nat}{nt0 nl0:Int}{r:Rr}{os:List Out}(hos:∀ o∈os,o.was.val<18446744073709551616)(h:RM c n N nt0 nl0 r)(room:Nat)(i:Ins)(args:List Nat)(hb:c.blocks≤1000)(hw:r.writes+9≤9 * r.steps)(ha:∀ x∈args,x<18446744073709551616)(hi:i.imm<18446744073709551616)(h17:i.op=17∨i.op=18→i.imm<n)(h19:i.op=19→i.imm<n)(t:Tp):RI c n N nt0 nl0 (rdoes c os room args i r t).2:=by
 have jump:i.imm<n→RI c n N nt0 nl0 { r with pc:=(i.imm:Int) }:=fun hn =>
  ⟨h.regs,h.rv,h.pv,by dsimp only;omega,fun _=>by dsimp only;omega,by dsimp only;omega,by have:=h.st;dsimp only;omega,h.wr,by have:=h.news;dsimp only;omega,h.nt,by have:=h.nl;dsimp only;omega,by have:=h.len;dsimp only;omega⟩
 unfold rdoes;split
 ·rename_i h;exact jump (h17 (.inl h))
 split
 ·rename_i h18
  dsimp only;split
  ·exact jump (h18.elim (fun e=>h17 (.inr e)) h19)
  ·exact h.ri
 split
 ·exact h.ri.of r.v 1 r.er _ (fun e=>absurd e (by decide))
 split
 ·exact RI.fails (h.ri.of r.v r.s r.er i.imm (fun _=>h.pc1)) 40
 split
 ·unfold rroot
  split
  ·exact h.ri.fails _
  split
  ·have hp:=h.pay hw i.op
   dsimp only;split
   ·rename_i hp2
    exact (hp.1 hp2).put room _ (rreg_lt h.rv _)
   ·exact hp.2
  ·exact h.fetch hos room i hb (fun _=>hw) _ _
 split
 ·unfold rtouch
  split
  ·exact h.ri.fails _
  split
  ·split
   ·rename_i x hx
    exact h.goOn room i hb (fun _=>hw) (mget_val (allP_val h.pv) hx)
   ·exact h.after room i hb (fun _=>hw) _ (rword_lt hos _ _ _ _)
  split
  ·exact h.goOn room i hb (fun _=>hw) z64
  ·exact h.after room i hb (fun _=>hw) _ z64
 split
 ·rename_i h15
  have hp:=h.pay hw i.op;unfold rfresh;split
  ·rename_i hp2
   split
   ·exact hp.2.fails _
   ·exact (hp.1 hp2).fetch hos room i hb (fun e=>absurd h15 e) _ _
  ·exact hp.2
 ·exact h.reg _ (reckon_lt h.rv ha hi)
theorem RI.step {c:Cfg}{n N:Nat}{nt0 nl0:Int}{r:Rr}{os:List Out}(hos:∀ o∈os,o.was.val<18446744073709551616)(h:RI c n N nt0 nl0 r)(room:Nat){code:List Ins}(hn:n=code.length)(hr:rightB code=true)(hcv:∀ i∈code,i.imm<18446744073709551616)(args:List Nat)(ha:∀ x∈args,x<18446744073709551616)(hb:c.blocks≤1000)(hs:r.s=0)(t:Tp):RI c n N nt0 nl0 (rstep c os room code args r t).2:=by
 unfold rstep;split
 ·exact h.fails _
 rename_i hf;obtain ⟨_,_,hat⟩:=right_at hr;have hp1:=h.pc1 hs;have hp0:=h.pc0
 have hk:r.pc.toNat<code.length:=by omega
 have hat:=hat r.pc.toNat hk
 have hg:code.getD r.pc.toNat ins0=code[r.pc.toNat]:=by rw [List.getD_eq_getElem?_getD];simp [hk]
 have hi:=hcv _ (List.getElem_mem hk);rw [hg];generalize code[r.pc.toNat]=i at *;have hst:=h.st
 by_cases h20:i.op=20∨i.op=21
 ·have hri:∀ er val,RI c n N nt0 nl0 { r with steps:=r.steps+1,pc:=r.pc+1,s:=1,er:=er,val:=val }:=fun er val =>
   ⟨h.regs,h.rv,h.pv,by dsimp only;omega,fun e=>absurd (show (1:Int)=0 from e) (by decide),by dsimp only;omega,by dsimp only;omega,by have:=h.wr;dsimp only;omega,by have:=h.news;dsimp only;omega,h.nt,by have:=h.nl;dsimp only;omega,by have:=h.len;dsimp only;omega⟩
  unfold rdoes;rw [if_neg (by omega),if_neg (by omega)]
  by_cases h0:i.op=20
  ·rw [if_pos h0];exact hri _ _
  ·rw [if_neg h0,if_pos (by omega)];exact hri _ _
 ·have hpn:=hat.next (by omega) (by omega)
  have hm:RM c n N nt0 nl0 { r with steps:=r.steps+1,pc:=r.pc+1 } :=
   ⟨h.regs,h.rv,h.pv,by dsimp only;omega,by dsimp only;omega,by dsimp only;omega,by have:=h.wr;dsimp only;omega,by have:=h.news;dsimp only;omega,h.nt,by have:=h.nl;dsimp only;omega,by have:=h.len;dsimp only;omega⟩
  exact hm.does hos room i args hb (by have:=h.wr;dsimp only;omega) ha hi (fun e=>by rw [hn];exact hat.go e) (fun e=>by rw [hn];exact hat.back e) t
theorem rdoes_steps {c:Cfg}{r:Rr}{os:List Out}(room:Nat)(args:List Nat)(i:Ins)(t:Tp):(rdoes c os room args i r t).2.steps=r.steps:=by
 have hf:∀ (r:Rr) a,(rfetch c os room i r a t).2.steps=r.steps:=fun r a=>by
  unfold rfetch;split
  ·exact goOn_steps _ _ _
  ·exact after_steps _ _ _
 have hp:=(pay_steps c r i.op).1;unfold rdoes;split
 ·rfl
 split
 ·dsimp only;split<;>rfl
 split
 ·rfl
 split
 ·rfl
 split
 ·unfold rroot
  split
  ·rfl
  split
  ·dsimp only;split<;>exact hp
  ·exact hf _ _
 split
 ·unfold rtouch
  split
  ·rfl
  split
  ·split
   ·exact goOn_steps _ _ _
   ·exact after_steps _ _ _
  split
  ·exact goOn_steps _ _ _
  ·exact after_steps _ _ _
 split
 ·unfold rfresh
  split
  ·split
   ·exact hp
   ·rw [hf];exact hp
  ·exact hp
 ·rfl
theorem rstep_steps {c:Cfg}{r:Rr}{os:List Out}(room:Nat)(code:List Ins)(args:List Nat)(t:Tp)(hs:(rstep c os room code args r t).2.s=0):(rstep c os room code args r t).2.steps=r.steps+1:=by
 unfold rstep at *;split
 ·rename_i hf
  rw [if_pos hf] at hs;exact absurd (show (1:Int)=0 from hs) (by decide)
 ·exact rdoes_steps room args _ t
theorem RI.init {c:Cfg}{n:Nat}{nt0 nl0:Int}{os:List Out}(_hos:∀ o∈os,o.was.val<18446744073709551616)(hf:0≤c.fuel){puts:List (Int×Nat)}(hpv:∀ p∈puts,p.2<18446744073709551616)(hn:0<n)(v:Rv)(hnt:0≤nt0):RI c n puts.length nt0 nl0 (.init v nt0 nl0 puts) :=
 ⟨rfl,(show ∀ x∈regs0,x<18446744073709551616 by decide),hpv,Int.le_refl _,fun _=>by show (0:Int)<n;omega,by show (0:Int)≤n;omega,⟨Int.le_refl _,hf⟩,⟨Int.le_refl _,by show (0:Int)≤9 * 0;decide⟩,Nat.zero_le _,⟨hnt,Int.le_refl _⟩,⟨Int.le_refl _,by show nl0≤nl0+0;omega⟩,by show puts.length≤_;omega⟩
end
end Go.Proofs.YthmbgodcpgkkeaaGreat
