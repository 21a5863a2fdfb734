/-
  Rules: a method called by an interface's value; package call: a call's numbers, in plain terms. A call, in plain terms: what each reply keeps.
-/
import Derived.Test.YthmbgodcpgkkeaaGreatHe
import Derived.Test.YthmbgodcpgkkeaaGreatVr
namespace Go.Proofs.YthmbgodcpgkkeaaGreat
set_option maxRecDepth 100000
section rules
variable {P:Program} {n':Fi} {E:Env} {ty:TypeId}
theorem OpC.ifc {g:FuncId} {T:TypeId} {rv:Value} {nm:String} {x:Operand} {xs:List Operand} {ats:Array TypeId} {vs:List Value} (hx0:ev E x=some (.iface T rv)) (hx:Evs E xs vs) (hm:∀ w,(callMethod (.iface T rv) nm ⟨vs⟩).run P w=.ok (.enter g ⟨rv::vs⟩) w) :
    OpC P n' (.call { callee:=.invoke x nm,args:=⟨xs⟩,argTypes:=ats }) ty E g ⟨rv::vs⟩:=by
  unfold OpC
  exact (fun _ _ _ _ a w ha=>by
    have e:=hx.eq ha
    have e4:#[a.eval x]++Array.map a.eval (⟨xs⟩:Array Operand)=⟨.iface T rv::vs⟩:=by rw [ha.ev hx0,List.map_toArray,e];simp
    have e5:(⟨.iface T rv::vs⟩:Array Value)[0]? = some (.iface T rv):=rfl
    have e6:(⟨.iface T rv::vs⟩:Array Value).extract 1 (⟨.iface T rv::vs⟩:Array Value).size=⟨vs⟩:=by simp
    simp only [execOp,resolve,Sem.run_bind,Sem.run_pure,Result.andThen_ok]
    rw [e4]
    simp only [invoke,e5,e6]
    exact hm w)
end rules
inductive Wk where
  | none
  | ex (m:Xm)
  | bd (m:Bm)
  | hp (h:Hm)
  | sc (s:Sm)
structure Cs where
  next:Int
  given:Int
  tried:Int
  asked:Bool
  now:Cell
  fresh:Bool
  did:Bool
  oc:Int
  ov:Nat
  rc:Int
  rv:Nat
  alone:Bool
structure Cm where
  s:Cs
  work:Wk
  b:Option Bm
structure Cp where
  who:Int
  tag:Nat
  prog:Int
  args:List Nat
def Cp.code (p:Cp) (progs:Progs):List Ins:=if p.prog<0∨(progs.length:Int)≤p.prog then [] else progs.getD p.prog.toNat []
def Cs.owner (c:Cfg) (s:Cs):Int:=(s.now.val:Int) % c.threads
def Wk.ask (c:Cfg):Wk→MOp×Bool
  | .none=>(mop 0 0 0,false)
  | .ex m=>m.ask c
  | .bd m=>m.ask c
  | .hp h=>h.ask c
  | .sc s=>s.ask c
def Cm.ask (c:Cfg) (p:Cp) (m:Cm):MOp×Bool :=
  if m.s.next=0 then (⟨1,c.at 2 p.who m.s.given,⟨0,0⟩,⟨p.args.getD m.s.given.toNat 0,0⟩⟩,true) else
  if m.s.next=1 then (⟨1,c.at 1 p.who 0,⟨0,0⟩,⟨(IntKind.u64.wrap p.prog).toNat,p.tag⟩⟩,true) else
  if m.s.next=2 then (mop 0 (c.at 0 0 0) 0,true) else
  if m.s.next=3 then (mop 0 (c.at 4 (m.s.owner c) 0) 0,true) else
  if m.s.next=5∨m.s.next=6∨m.s.next=7 then (mop 0 (c.at (7+(m.s.next - 5)) p.who 0) 0,true) else
  if m.s.next=4∨m.s.next=12∨m.s.next=8∨m.s.next=9∨m.s.next=10 then m.work.ask c else
  if m.s.next=11 then (⟨2,c.at 0 0 0,m.s.now,⟨p.who.toNat,m.s.now.seq+1⟩⟩,true) else (mop 0 0 0,false)
def Cs.end (s:Cs) (rc:Int) (rv:Nat) (alone:Bool):Cs:={ s with next:=13,rc:=rc,rv:=rv,alone:=alone }
def Cs.stale (s:Cs):Cs:=if IntKind.i64.wrap (s.tried+1)=2∧s.asked=false then { s with tried:=IntKind.i64.wrap (s.tried+1),next:=0 } else { s with tried:=IntKind.i64.wrap (s.tried+1),next:=2 }
def Cs.read (s:Cs) (e:Xs):Cs:=if e.s=1 then s.end e.rc e.rv true else if e.s=2 then s.stale else s
def exStart (c:Cfg) (p:Cp) (progs:Progs) (seq:Nat):Xm:=Xm.start c 0 (p.code progs) (Vw.new p.who seq) (Po.new seq) [] p.args
def Cm.run (c:Cfg) (p:Cp) (progs:Progs) (m:Cm):Cm:={ m with s:=Cs.read { m.s with next:=8 } (exStart c p progs m.s.now.seq).x,work:=.ex (exStart c p progs m.s.now.seq) }
def Cm.try_ (c:Cfg) (p:Cp) (progs:Progs) (m:Cm):Cm:=if m.s.asked=true then { m with s:={ m.s with next:=5 } } else m.run c p progs
def Cm.opened (c:Cfg) (p:Cp) (progs:Progs) (m:Cm) (x:Cell):Cm :=
  if x=⟨1,m.s.now.seq⟩ then { m with s:={ m.s with next:=4 },work:=.hp (Hm.new p.who (m.s.owner c) m.s.now.seq) } else m.try_ c p progs
def Cs.looks (s:Cs) (r:Bool):Cs:=if r=true then { s with next:=3 } else Cs.end { s with next:=3 } 30 0 true
def Cm.answer (c:Cfg) (p:Cp) (progs:Progs) (m:Cm) (val:Nat):Cm :=
  if m.s.next=6 then { m with s:={ m.s with oc:=IntKind.i64.wrap (val:Int),next:=7 } } else
  if m.s.next=7 then { m with s:=Cs.end { m.s with ov:=val } m.s.oc val false } else
  if val=p.tag then { m with s:={ m.s with next:=6 } } else
  if c.last≤m.s.now.seq then (if onlyB (p.code progs)=true then m.run c p progs else { m with s:=m.s.end 45 0 true }) else { m with s:={ m.s with next:=9 },work:=.bd (Bm.new p.who m.s.now.seq) }
def Cm.row (c:Cfg) (p:Cp) (b:Bm) (m:Cm) (r:BRow):Cm :=
  if r.who=p.who then { m with s:={ m.s with oc:=r.rc,ov:=r.rv,next:=10 },b:=some b,work:=.sc (Sm.new c p.who (m.s.now.seq+1) (entriesOf c b.e.puts)) } else m
def Cm.built (c:Cfg) (p:Cp) (m:Cm) (b:Bm):Cm :=
  if b.b.s=0 then m else if b.b.s=2 then { m with s:={ m.s with next:=2 } } else b.rows.foldl (Cm.row c p b) { m with s:={ m.s with next:=2 } }
def Cm.helped (c:Cfg) (p:Cp) (progs:Progs) (m:Cm) (h:Hm):Cm :=
  if h.next≠8 then m else if m.s.next=12 then { m with s:=m.s.end m.s.oc m.s.ov false } else m.try_ c p progs
def Cm.swapped (c:Cfg) (p:Cp) (m:Cm) (ok:Bool):Cm :=
  match m.b with
  | some b=>if ok=true then { m with s:={ m.s with next:=12,did:=true },work:=.hp (Hm.own c p.who (m.s.now.seq+1) (entriesOf c b.e.puts)) } else { m with s:={ m.s with next:=2 } }
  | none=>{ m with s:={ m.s with next:=2 } }
def Cm.after (c:Cfg) (p:Cp) (progs:Progs) (m:Cm):Cm:=match m.work with
  | .none=>m
  | .ex e=>{ m with s:=m.s.read e.x }
  | .bd b=>Cm.built c p m b
  | .hp h=>Cm.helped c p progs m h
  | .sc s=>if s.over=true then { m with s:={ m.s with next:=11 } } else m
def Wk.tell (c:Cfg) (p:Cp) (progs:Progs) (o:Out):Wk→Wk
  | .none=>.none
  | .ex e=>.ex (e.tell c 0 (p.code progs) o)
  | .bd b=>.bd (b.tell c c.cap.toNat progs o)
  | .hp h=>.hp (h.tell c o)
  | .sc s=>.sc s.tell
def Cm.worked (c:Cfg) (p:Cp) (progs:Progs) (m:Cm) (o:Out):Cm:=Cm.after c p progs { m with work:=m.work.tell c p progs o }
def Cs.touch (s:Cs):Cs:={ s with fresh:=s.next == 2,did:=false }
def Cm.go (c:Cfg) (p:Cp) (progs:Progs) (m:Cm) (o:Out):Cm :=
  if m.s.next=0 then (if m.s.given+1=4 then { m with s:={ m.s with given:=m.s.given+1,next:=1 } } else { m with s:={ m.s with given:=m.s.given+1 } }) else
  if m.s.next=1 then { m with s:={ m.s with asked:=true,next:=2 } } else
  if m.s.next=2 then { m with s:=Cs.looks { m.s with now:=o.was } (rightB (p.code progs)) } else
  if m.s.next=3 then m.opened c p progs o.was else
  if m.s.next=5∨m.s.next=6∨m.s.next=7 then m.answer c p progs o.was.val else
  if m.s.next=11 then m.swapped c p o.ok else m.worked c p progs o
def Cm.tell (c:Cfg) (p:Cp) (progs:Progs) (m:Cm) (o:Out):Cm:=if m.s.next=13 then m else Cm.go c p progs { m with s:=m.s.touch } o
def Cm.new (p:Cp) (progs:Progs):Cm:=⟨⟨if rightB (p.code progs)=true∧onlyB (p.code progs)=false then 0 else 2,0,0,false,⟨0,0⟩,false,false,0,0,0,0,false⟩, .none,none⟩
def Cm.rows (m:Cm):List BRow:=if m.s.did=true then (match m.b with|some b=>b.rows|none=>[]) else []
def cstep (c:Cfg) (p:Cp) (progs:Progs) (s:Pm×Cm):Pm×Cm :=
  ((s.1.do p.who (s.2.ask c p).1).1,s.2.tell c p progs (s.1.do p.who (s.2.ask c p).1).2)
def cit (c:Cfg) (p:Cp) (progs:Progs) (s:Pm×Cm):Nat→Pm×Cm
  | 0=>s
  | k+1=>cstep c p progs (cit c p progs s k)
def Hok (c:Cfg) (h:Hm):Prop:=Hinv c h∧(h.next=0→h.list=[])
def Sok (s:Sm):Prop:=s.list.length≤1000000∧s.done≤s.list.length+2
def Cok (c:Cfg) (code:List Ins) (e:Xm):Prop:=∃ n,Start c [] 0 0∧Xr c code [] 0 0 n e
structure Cinv (c:Cfg) (p:Cp) (progs:Progs) (m:Cm):Prop where
  nx:0≤m.s.next∧m.s.next≤13
  given:m.s.next=0→0≤m.s.given∧m.s.given≤3
  fresh0:m.s.asked=false→m.s.next≠0→m.s.next≠1→m.s.given=0
  ex:m.s.next=8→∃ e,m.work=.ex e∧e.x.s=0∧Cok c (p.code progs) e
  hp:m.s.next=4∨m.s.next=12→∃ h,m.work=.hp h∧Hok c h∧h.next≠8
  bd:m.s.next=9→m.s.now.seq<c.last∧∃ b,m.work=.bd b∧Binv c progs b∧b.b.s=0
  sc:m.s.next=10→m.s.now.seq<c.last∧(∃ s,m.work=.sc s∧Sok s∧s.over=false)∧∃ b,m.b=some b∧Binv c progs b
  sw:m.s.next=11→m.s.now.seq<c.last∧∃ b,m.b=some b∧Binv c progs b
  did:m.s.did=true→∃ b,m.b=some b∧Binv c progs b
end Go.Proofs.YthmbgodcpgkkeaaGreat
namespace Go.Proofs.YthmbgodcpgkkeaaGreat
theorem entryL_nx (c:Cfg) (h:Hm):∀ (l:List (Int×Nat)) (k:Nat),(h.entryL c l k).next=3∨(h.entryL c l k).next=5∨(h.entryL c l k).next=7
  | [],_=>.inr (.inr rfl)
  | e::r,k=>by
    unfold Hm.entryL
    split
    · exact entryL_nx c h r (k+1)
    · dsimp only
      split
      · exact .inl rfl
      · exact .inr (.inl rfl)
theorem Hm.read_nz (h:Hm):h.read.next≠0:=by
  unfold Hm.read;split
  · show (2:Int)≠0;decide
  · show (1:Int)≠0;decide
theorem Hm.unless_nz (h:Hm) (is:Bool) (h0:h.next≠0):(h.unless is).next≠0:=by
  unfold Hm.unless;split
  · exact h0
  · show (8:Int)≠0;decide
theorem Hm.entry_nz (c:Cfg) (h:Hm) (k:Nat):(h.entry c k).next≠0:=by
  have:=entryL_nx c h (h.list.drop k) k
  unfold Hm.entry;omega
theorem Hm.tell_nz (c:Cfg) (h:Hm) (o:Out):(h.tell c o).next≠0:=by
  unfold Hm.tell
  split
  · exact Hm.read_nz _
  split
  · exact Hm.read_nz _
  split
  · exact Hm.unless_nz _ _ (Hm.entry_nz _ _ _)
  split
  · show (4:Int)≠0;decide
  split
  · exact Hm.unless_nz _ _ (by show (5:Int)≠0;decide)
  split
  · split
    · exact Hm.entry_nz _ _ _
    · show (6:Int)≠0;decide
  split
  · exact Hm.entry_nz _ _ _
  split
  · show (8:Int)≠0;decide
  · assumption
section
variable {c:Cfg} {p:Cp} {progs:Progs} {m:Cm}
theorem Hok.tell (hc:Small c) {h:Hm} (hh:Hok c h) (o:Out):Hok c (h.tell c o):=by
  have:=hc.cap
  exact ⟨hh.1.tell (by omega) (by omega) hh.2 o,fun e=>absurd e (Hm.tell_nz c h o)⟩
theorem Hok.new (who owner:Int) (seq:Nat):Hok c (Hm.new who owner seq) :=
  ⟨⟨by show (0:Int)≤0;decide,by show (0:Int)≤1000000;decide,Nat.zero_le _,fun e=>(by cases e),⟨by show (0:Int)≤0;decide,by show (0:Int)≤8;decide⟩,fun e=>(by have e:(3:Int)≤0∧(0:Int)≤6:=e;omega),fun e=>(by have e:(0:Int)=3∨(0:Int)=4:=e;omega)⟩,fun _=>rfl⟩
theorem Hok.own (who:Int) (seq:Nat) (list:List (Int×Nat)) (hl:list.length≤1000000):Hok c (Hm.own c who seq list)∧(Hm.own c who seq list).next≠8:=by
  have hn:=entryL_nx c ⟨who,who,seq,list,0,0,-1,⟨0,0⟩,0⟩ (list.drop 0) 0
  refine ⟨⟨entry_inv (by show (0:Int)≤0;decide) (by show (0:Int)≤1000000;decide) hl 0,fun e=>absurd e (Hm.entry_nz _ _ _)⟩, ?_⟩
  show (Hm.entryL _ _ _ _).next≠8
  intro e
  rw [e] at hn;omega
theorem Sok.tell {s:Sm} (h:Sok s):Sok s.tell:=by
  obtain ⟨h1,h2⟩:=h
  unfold Sm.tell
  split
  · exact ⟨h1,h2⟩
  · exact ⟨h1,by dsimp only;omega⟩
theorem ents_short {c:Cfg} {progs:Progs} {b:Bm} (h:Binv c progs b):(entriesOf c b.e.puts).length≤100000:=by
  have h1:=h.len
  have h2:=allP_len b.e.puts
  have h3:(entriesOf c b.e.puts).length≤(allP b.e.puts).length:=List.length_filter_le _ _
  omega
theorem Sok.new (who:Int) (seq:Nat) (list:List (Int×Nat)) (hl:list.length≤1000000):Sok (Sm.new c who seq list)∧(Sm.new c who seq list).over=false:=by
  have h1:(Sm.new c who seq list).list.length≤list.length:=by
    show (list.take _).length≤_
    rw [List.length_take];omega
  have h2:(Sm.new c who seq list).done=0:=rfl
  refine ⟨⟨by omega,by omega⟩, ?_⟩
  unfold Sm.over
  rw [h2]
  exact decide_eq_false (by omega)
theorem Cinv.rest (hn:m.s.next=2∨m.s.next=3∨m.s.next=5∨m.s.next=6∨m.s.next=7∨m.s.next=13) (hg:m.s.asked=false→m.s.given=0) (hd:m.s.did=false):Cinv c p progs m :=
  ⟨by omega,fun e=>by omega,fun a _ _=>hg a,fun e=>by omega,fun e=>by omega,fun e=>by omega,fun e=>by omega,fun e=>by omega,fun e=>by rw [hd] at e;cases e⟩
theorem Cinv.stale (hg:m.s.asked=false→m.s.given=0) (hd:m.s.did=false) (w:Wk):Cinv c p progs ⟨m.s.stale,w,m.b⟩:=by
  unfold Cs.stale
  split
  · rename_i h
    have h0:=hg h.2
    exact ⟨⟨by show (0:Int)≤0;decide,by show (0:Int)≤13;decide⟩,fun _=>(by show 0≤m.s.given∧m.s.given≤3;omega),fun _ e=>absurd rfl e,fun e=>(by cases e),fun e=>(by have e:(0:Int)=4∨(0:Int)=12:=e;omega),fun e=>(by cases e),fun e=>(by cases e),fun e=>(by cases e),fun e=>(by have e:m.s.did=true:=e;rw [hd] at e;cases e)⟩
  · exact Cinv.rest (.inl rfl) hg hd
theorem Cinv.read (h8:m.s.next=8) (hg:m.s.asked=false→m.s.given=0) (hd:m.s.did=false) {e:Xm} (hx:Cok c (p.code progs) e):Cinv c p progs ⟨m.s.read e.x, .ex e,m.b⟩:=by
  unfold Cs.read
  split
  · exact Cinv.rest (.inr (.inr (.inr (.inr (.inr rfl))))) hg hd
  split
  · exact Cinv.stale hg hd _
  · obtain ⟨n,hS,hX⟩:=hx
    have hn:=hX.num hS
    exact ⟨by dsimp only;omega,fun h=>by dsimp only at h;omega,fun a _ _=>hg a,fun _=>⟨e,rfl,by omega,n,hS,hX⟩,fun h=>by dsimp only at h;omega,fun h=>by dsimp only at h;omega,fun h=>by dsimp only at h;omega,fun h=>by dsimp only at h;omega,fun h=>by dsimp only at h;rw [hd] at h;cases h⟩
theorem Cok.start (hc:Small c) (hf:0≤c.fuel∧c.fuel≤1000) (ha:p.args.length=4) (seq:Nat):Cok c (p.code progs) (exStart c p progs seq):=by
  have hS:Start c [] 0 0:=⟨hc,hf.2,Nat.zero_le _,by decide,by decide⟩
  exact ⟨0,hS,Xr.start hS hf.1 0 _ _ rfl rfl p.args ha (by show (0:Int)≤0∧(0:Int)≤1000;decide) (Vgo.new _ _)⟩
theorem Cinv.run (hc:Small c) (hf:0≤c.fuel∧c.fuel≤1000) (ha:p.args.length=4) (hg:m.s.asked=false→m.s.given=0) (hd:m.s.did=false):Cinv c p progs (m.run c p progs) :=
  Cinv.read (m:=⟨{ m.s with next:=8 },m.work,m.b⟩) rfl hg hd (Cok.start hc hf ha _)
theorem Cinv.try_ (hc:Small c) (hf:0≤c.fuel∧c.fuel≤1000) (ha:p.args.length=4) (hg:m.s.asked=false→m.s.given=0) (hd:m.s.did=false):Cinv c p progs (m.try_ c p progs):=by
  unfold Cm.try_
  split
  · exact Cinv.rest (.inr (.inr (.inl rfl))) hg hd
  · exact Cinv.run hc hf ha hg hd
def Cmade (c:Cfg) (p:Cp) (_progs:Progs) (s0:Cs) (b:Bm) (m:Cm):Prop:=m.s.now=s0.now∧m.s.asked=s0.asked∧m.s.given=s0.given∧m.s.did=s0.did∧
  (m.s.next=2∨(m.s.next=10∧m.b=some b∧m.work=.sc (Sm.new c p.who (s0.now.seq+1) (entriesOf c b.e.puts))))
theorem Cmade.row {s0:Cs} {b:Bm} (h:Cmade c p progs s0 b m) (r:BRow):Cmade c p progs s0 b (m.row c p b r):=by
  obtain ⟨h1,h2,h3,h4,h5⟩:=h
  unfold Cm.row
  split
  · exact ⟨h1,h2,h3,h4, .inr ⟨rfl,rfl,by dsimp only;rw [h1]⟩⟩
  · exact ⟨h1,h2,h3,h4,h5⟩
theorem Cmade.rows {s0:Cs} {b:Bm}:∀ (l:List BRow) {m:Cm},Cmade c p progs s0 b m→Cmade c p progs s0 b (l.foldl (Cm.row c p b) m)
  | [],_,h=>h
  | r::l,_,h=>Cmade.rows l (h.row r)
theorem Cmade.inv {s0:Cs} {b:Bm} (hb:Binv c progs b) (hg:s0.asked=false→s0.given=0) (hd:s0.did=false) (hs:s0.now.seq<c.last) (h:Cmade c p progs s0 b m):Cinv c p progs m:=by
  obtain ⟨h1,h2,h3,h4,h5⟩:=h
  rcases h5 with h5|⟨h5,h6,h7⟩
  · exact Cinv.rest (.inl h5) (by rw [h2,h3];exact hg) (by rw [h4];exact hd)
  · have hk:=Sok.new (c:=c) p.who (s0.now.seq+1) (entriesOf c b.e.puts) (by have:=ents_short hb;omega)
    exact ⟨by omega,fun e=>by omega,fun a _ _=>by rw [h3];exact hg (by rw [←h2];exact a),fun e=>by omega,fun e=>by omega,fun e=>by omega,fun _=>⟨by rw [h1];exact hs,⟨_,h7,hk⟩,b,h6,hb⟩,fun e=>by omega,fun e=>by rw [h4,hd] at e;cases e⟩
theorem Cinv.built (_hc:Small c) {b:Bm} (h9:m.s.next=9) (hw:m.work=.bd b) (hb:Binv c progs b) (hg:m.s.asked=false→m.s.given=0) (hd:m.s.did=false) (hs:m.s.now.seq<c.last):Cinv c p progs (Cm.built c p m b):=by
  unfold Cm.built
  split
  · rename_i h0
    exact ⟨by omega,fun e=>by omega,fun a _ _=>hg a,fun e=>by omega,fun e=>by omega,fun _=>⟨hs,b,hw,hb,h0⟩,fun e=>by omega,fun e=>by omega,fun e=>by rw [hd] at e;cases e⟩
  split
  · exact Cinv.rest (.inl rfl) hg hd
  · exact Cmade.inv (s0:=m.s) hb hg hd hs (Cmade.rows b.rows ⟨rfl,rfl,rfl,rfl, .inl rfl⟩)
theorem Cinv.helped (hc:Small c) (hf:0≤c.fuel∧c.fuel≤1000) (ha:p.args.length=4) {h:Hm} (h9:m.s.next=4∨m.s.next=12) (hw:m.work=.hp h) (hh:Hok c h) (hg:m.s.asked=false→m.s.given=0) (hd:m.s.did=false):Cinv c p progs (Cm.helped c p progs m h):=by
  unfold Cm.helped
  split
  · rename_i h8
    exact ⟨by omega,fun e=>by omega,fun a _ _=>hg a,fun e=>by omega,fun _=>⟨h,hw,hh,h8⟩,fun e=>by omega,fun e=>by omega,fun e=>by omega,fun e=>by rw [hd] at e;cases e⟩
  split
  · exact Cinv.rest (.inr (.inr (.inr (.inr (.inr rfl))))) hg hd
  · exact Cinv.try_ hc hf ha hg hd
theorem Cinv.looks (hg:m.s.asked=false→m.s.given=0) (hd:m.s.did=false) (r:Bool):Cinv c p progs ⟨m.s.looks r,m.work,m.b⟩:=by
  unfold Cs.looks
  split
  · exact Cinv.rest (.inr (.inl rfl)) hg hd
  · exact Cinv.rest (.inr (.inr (.inr (.inr (.inr rfl))))) hg hd
theorem Cinv.answer (hc:Small c) (hf:0≤c.fuel∧c.fuel≤1000) (ha:p.args.length=4) (hg:m.s.asked=false→m.s.given=0) (hd:m.s.did=false) (val:Nat):Cinv c p progs (m.answer c p progs val):=by
  unfold Cm.answer
  split
  · exact Cinv.rest (.inr (.inr (.inr (.inr (.inl rfl))))) hg hd
  split
  · exact Cinv.rest (.inr (.inr (.inr (.inr (.inr rfl))))) hg hd
  split
  · exact Cinv.rest (.inr (.inr (.inr (.inl rfl)))) hg hd
  split
  · split
    · exact Cinv.run hc hf ha hg hd
    · exact Cinv.rest (.inr (.inr (.inr (.inr (.inr rfl))))) hg hd
  · rename_i hl
    exact ⟨⟨by show (0:Int)≤9;decide,by show (9:Int)≤13;decide⟩,fun e=>(by cases e),fun a _ _=>hg a,fun e=>(by cases e),fun e=>(by have e:(9:Int)=4∨(9:Int)=12:=e;omega),fun _=>⟨by show m.s.now.seq<c.last;omega,_,rfl,Binv.new hc _ _,rfl⟩,fun e=>(by cases e),fun e=>(by cases e),fun e=>(by have e:m.s.did=true:=e;rw [hd] at e;cases e)⟩
theorem Cinv.tell (hc:Small c) (hf:0≤c.fuel∧c.fuel≤1000) (ha:p.args.length=4) (h:Cinv c p progs m) (o:Out):Cinv c p progs (m.tell c p progs o):=by
  have hnx:=h.nx
  unfold Cm.tell
  split
  · exact h
  rename_i h13
  have hd:m.s.touch.did=false:=rfl
  have hg0:m.s.next≠0→m.s.next≠1→m.s.touch.asked=false→m.s.touch.given=0:=fun a b e=>h.fresh0 e a b
  have hnt:m.s.touch.next=m.s.next:=rfl
  have hnow:m.s.touch.now=m.s.now:=rfl
  unfold Cm.go
  dsimp only
  rw [hnt]
  split
  · rename_i h0
    have hgv:=h.given h0
    have e1:m.s.touch.given=m.s.given:=rfl
    split
    · exact ⟨⟨by show (0:Int)≤1;decide,by show (1:Int)≤13;decide⟩,fun e=>(by cases e),fun _ _ e=>absurd rfl e,fun e=>(by cases e),fun e=>(by have e:(1:Int)=4∨(1:Int)=12:=e;omega),fun e=>(by cases e),fun e=>(by cases e),fun e=>(by cases e),fun e=>(by cases e)⟩
    · rename_i h4
      rw [e1] at h4
      refine ⟨by show 0≤m.s.next∧m.s.next≤13;omega,fun _=>(by show 0≤m.s.given+1∧m.s.given+1≤3;omega),fun _ e=>absurd h0 e,fun e=>?_,fun e=>?_,fun e=>?_,fun e=>?_,fun e=>?_,fun e=>(by cases e)⟩
      · have e:m.s.next=8:=e;omega
      · have e:m.s.next=4∨m.s.next=12:=e;omega
      · have e:m.s.next=9:=e;omega
      · have e:m.s.next=10:=e;omega
      · have e:m.s.next=11:=e;omega
  rename_i h0
  split
  · exact Cinv.rest (.inl rfl) (fun e=>(by cases e)) rfl
  rename_i h1
  have hg:=hg0 h0 h1
  split
  · exact Cinv.looks (m:=⟨{ m.s.touch with now:=o.was },m.work,m.b⟩) hg hd _
  split
  · unfold Cm.opened
    split
    · exact ⟨⟨by show (0:Int)≤4;decide,by show (4:Int)≤13;decide⟩,fun e=>(by cases e),fun a _ _=>hg a,fun e=>(by cases e),fun _=>⟨_,rfl,Hok.new _ _ _,by show (0:Int)≠8;decide⟩,fun e=>(by cases e),fun e=>(by cases e),fun e=>(by cases e),fun e=>(by cases e)⟩
    · exact Cinv.try_ (m:=⟨m.s.touch,m.work,m.b⟩) hc hf ha hg hd
  split
  · exact Cinv.answer (m:=⟨m.s.touch,m.work,m.b⟩) hc hf ha hg hd _
  split
  · rename_i h11
    obtain ⟨_,b,hb,hbi⟩:=h.sw h11
    unfold Cm.swapped
    dsimp only
    rw [hb]
    dsimp only
    split
    · have hk:=Hok.own (c:=c) p.who (m.s.touch.now.seq+1) (entriesOf c b.e.puts) (by have:=ents_short hbi;omega)
      exact ⟨⟨by show (0:Int)≤12;decide,by show (12:Int)≤13;decide⟩,fun e=>(by cases e),fun a _ _=>hg a,fun e=>(by cases e),fun _=>⟨_,rfl,hk⟩,fun e=>(by cases e),fun e=>(by cases e),fun e=>(by cases e),fun _=>⟨b,rfl,hbi⟩⟩
    · exact Cinv.rest (.inl rfl) hg hd
  rename_i h2 h3 h5 h11
  unfold Cm.worked Cm.after Wk.tell
  rcases (by omega:(m.s.next=4∨m.s.next=12)∨m.s.next=8∨m.s.next=9∨m.s.next=10) with e|e|e|e
  · obtain ⟨hm,hw,hh,_⟩:=h.hp e
    dsimp only
    rw [hw]
    exact Cinv.helped (m:=⟨m.s.touch, .hp (hm.tell c o),m.b⟩) hc hf ha e rfl (hh.tell hc o) hg hd
  · obtain ⟨x,hw,hx0,n,hS,hX⟩:=h.ex e
    dsimp only
    rw [hw]
    exact Cinv.read (m:=⟨m.s.touch,m.work,m.b⟩) e hg hd ⟨_,hS,(hX.tell hS 0 hx0 o).2.2⟩
  · obtain ⟨hs,b,hw,hb,_⟩:=h.bd e
    dsimp only
    rw [hw]
    exact Cinv.built (m:=⟨m.s.touch, .bd (b.tell c c.cap.toNat progs o),m.b⟩) hc e rfl (hb.tell hc hf o) hg hd hs
  · obtain ⟨hs,⟨s,hw,hk,_⟩,b,hb,hbi⟩:=h.sc e
    dsimp only
    rw [hw]
    dsimp only
    split
    · exact ⟨⟨by show (0:Int)≤11;decide,by show (11:Int)≤13;decide⟩,fun e=>(by cases e),fun a _ _=>hg a,fun e=>(by cases e),fun e=>(by have e:(11:Int)=4∨(11:Int)=12:=e;omega),fun e=>(by cases e),fun e=>(by cases e),fun _=>⟨hs,b,hb,hbi⟩,fun e=>(by cases e)⟩
    · rename_i hov
      refine ⟨by show 0≤m.s.next∧m.s.next≤13;omega,fun e'=>?_,fun a _ _=>hg a,fun e'=>?_,fun e'=>?_,fun e'=>?_,fun _=>⟨hs,⟨_,rfl,hk.tell,by simpa using hov⟩,b,hb,hbi⟩,fun e'=>?_,fun e=>(by cases e)⟩
      · have e':m.s.next=0:=e';omega
      · have e':m.s.next=8:=e';omega
      · have e':m.s.next=4∨m.s.next=12:=e';omega
      · have e':m.s.next=9:=e';omega
      · have e':m.s.next=11:=e';omega
theorem Cinv.new:Cinv c p progs (Cm.new p progs):=by
  unfold Cm.new
  split
  · exact ⟨⟨by show (0:Int)≤0;decide,by show (0:Int)≤13;decide⟩,fun _=>(by show (0:Int)≤0∧(0:Int)≤3;decide),fun _ e=>absurd rfl e,fun e=>(by cases e),fun e=>(by have e:(0:Int)=4∨(0:Int)=12:=e;omega),fun e=>(by cases e),fun e=>(by cases e),fun e=>(by cases e),fun e=>(by cases e)⟩
  · exact Cinv.rest (.inl rfl) (fun _=>rfl) rfl
def Crt (p:Cp) (progs:Progs) (m:Cm):Prop:=rightB (p.code progs)=false→m.s.next=2∨m.s.next=13
theorem Crt.new:Crt p progs (Cm.new p progs):=fun h=>by
  unfold Cm.new
  rw [if_neg (by rw [h];simp)]
  exact .inl rfl
theorem Crt.tell (h:Crt p progs m) (o:Out):Crt p progs (m.tell c p progs o):=fun hr=>by
  unfold Cm.tell
  split
  · exact h hr
  · rename_i h13
    have h2:m.s.next=2:=(h hr).resolve_right h13
    unfold Cm.go
    have e:m.s.touch.next=2:=h2
    dsimp only
    rw [if_neg (by omega),if_neg (by omega),if_pos e]
    unfold Cs.looks
    rw [hr]
    exact .inr rfl
theorem Crt.right (h:Crt p progs m) (h2:m.s.next≠2) (h13:m.s.next≠13):rightB (p.code progs)=true:=by
  cases hr:rightB (p.code progs) with
  | true=>rfl
  | false=>exact absurd (h hr) (by omega)
end
end Go.Proofs.YthmbgodcpgkkeaaGreat
