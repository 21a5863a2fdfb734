/-
  Programs that run one after the other over one view, pool and set: in plain terms. A transaction over a memory that nobody else turns: the cells that it reads, and what it puts for a thread.
-/
import Derived.Test.YthmbgodcpgkkeaaGreatVr
import Derived.Test.YthmbgodcpgkkeaaGreatBa
import Derived.Test.YthmbgodcpgkkeaaGreatRowq
section
namespace Go.Proofs.YthmbgodcpgkkeaaGreat
set_option maxRecDepth 100000
section
variable {c:Cfg} {room:Nat} {m:Xm}
theorem fetch_vs (h:m.x.s=0) (a:Int) (e:(m.fetch c room a).x.s≠0):(m.fetch c room a).v=m.v:=by
  unfold Xm.fetch at e⊢
  split
  · exact Xm.goOn_v ..
  · next hg=>rw [hg] at e;exact absurd h e
theorem does_vs (h:m.x.s=0) (e:(m.does c room).x.s≠0):(m.does c room).v=m.v:=by
  unfold Xm.does at e⊢
  split
  · rfl
  next h1 =>
  rw [if_neg h1] at e
  split
  · split<;>rfl
  next h2 =>
  rw [if_neg h2] at e
  split
  · rfl
  next h3 =>
  rw [if_neg h3] at e
  split
  · rfl
  next h4 =>
  rw [if_neg h4] at e
  split
  · next h5 =>
    rw [if_pos h5] at e
    unfold Xm.root at e⊢
    split
    · rfl
    next g1 =>
    rw [if_neg g1] at e
    split
    · split
      · exact Xm.pay_v ..
      · exact Xm.pay_v ..
    · next g2 =>
      rw [if_neg g2] at e
      exact fetch_vs h _ e
  next h5 =>
  rw [if_neg h5] at e
  split
  · next h6 =>
    rw [if_pos h6] at e
    unfold Xm.touch at e⊢
    split
    · rfl
    next g1 =>
    rw [if_neg g1] at e
    split
    · next g2 =>
      rw [if_pos g2] at e
      split
      · exact Xm.goOn_v ..
      · next g3=>rw [g3] at e;exact absurd h e
    · next g2 =>
      rw [if_neg g2] at e
      split
      · exact Xm.goOn_v ..
      · next g3=>rw [if_neg g3] at e;exact absurd h e
  next h6 =>
  rw [if_neg h6] at e
  split
  · next h7 =>
    rw [if_pos h7] at e
    unfold Xm.fresh at e⊢
    split
    · next g1 =>
      rw [if_pos g1] at e
      split
      · next g2 =>
        rw [if_pos g2] at e
        rw [fetch_vs (by rw [Xm.pay_t g1];exact h) _ e]
        exact Xm.pay_v ..
      · exact Xm.pay_v ..
    · exact Xm.pay_v ..
  · rfl
theorem once_vs {code:List Ins} (h:m.x.s=0) (e:(m.once c room code).x.s≠0):(m.once c room code).v=m.v:=by
  unfold Xm.once at e⊢
  split
  · next h1 =>
    rw [if_pos h1] at e
    unfold Xm.step at e⊢
    split
    · rfl
    · next h2 =>
      rw [if_neg h2] at e
      exact does_vs (m:=m.begun _) h e
  next h1 =>
  split
  · rfl
  split
  · rfl
  · exact Xm.goOn_v ..
structure ObR (P0:List (Int×Nat)) (i:Ins) (m:Xm):Prop where
  puts:m.puts=P0
  mark:m.x.mark=P0.length
  i:m.x.i=i
variable {P0:List (Int×Nat)} {i:Ins}
theorem ObR.fail (h:ObR P0 i m) (e:Int) (v:Nat):ObR P0 i (m.fail e v):=⟨by show m.puts.take m.x.mark=P0;rw [h.puts,h.mark,List.take_length],h.mark,h.i⟩
theorem wr_ops {i:Ins} (h:wrB i=false):i.op≠10∧i.op≠13∧i.op≠14∧i.op≠15∧i.op≠16:=by
  have:=of_decide_eq_false h
  omega
theorem ObR.goOn (h:ObR P0 i m) (hw:wrB i=false) (val:Nat):ObR P0 i (m.goOn c room val):=by
  obtain ⟨h1,h2,h3,h4,h5⟩:=wr_ops hw
  rw [←h.i] at h1 h2 h3 h4 h5
  unfold Xm.goOn
  repeat' split
  all_goals first|(exfalso;omega)|exact ⟨h.puts,h.mark,h.i⟩
theorem ObR.fetch (h:ObR P0 i m) (hw:wrB i=false) (a:Int):ObR P0 i (m.fetch c room a):=by
  unfold Xm.fetch
  split
  · exact h.goOn hw _
  · exact ⟨h.puts,h.mark,h.i⟩
theorem ObR.does (h:ObR P0 i m) (hw:wrB i=false):ObR P0 i (m.does c room):=by
  obtain ⟨h1,h2,h3,h4,h5⟩:=wr_ops hw
  rw [←h.i] at h1 h2 h3 h4 h5
  unfold Xm.does
  split
  · exact ⟨h.puts,h.mark,h.i⟩
  split
  · split
    · exact ⟨h.puts,h.mark,h.i⟩
    · exact h
  split
  · exact ⟨h.puts,h.mark,h.i⟩
  split
  · exact h.fail _ _
  split
  · unfold Xm.root
    split
    · exact h.fail _ _
    try rw [if_neg h1]
    exact h.fetch hw _
  split
  · unfold Xm.touch
    split
    · exact h.fail _ _
    split
    · split
      · exact h.goOn hw _
      · exact ⟨h.puts,h.mark,h.i⟩
    · split
      · exact h.goOn hw _
      · exact ⟨h.puts,h.mark,h.i⟩
  try rw [if_neg h4]
  exact ⟨h.puts,h.mark,h.i⟩
structure OsR (P0:List (Int×Nat)) (m:Xm):Prop where
  puts:m.puts=P0
  mark:m.x.mark=P0.length
  w:m.x.waits=true→wrB m.x.i=false
theorem only_at {code:List Ins} (h:onlyB code=true) {k:Nat} (hk:k<code.length):wrB (code.getD k ins0)=false:=by
  unfold onlyB at h
  rw [Bool.and_eq_true,List.all_eq_true] at h
  have:=h.1 (code.getD k ins0) (by rw [List.getD_eq_getElem?_getD,List.getElem?_eq_getElem hk];exact List.getElem_mem hk)
  simpa using this
theorem OsR.once {code:List Ins} (h:OsR P0 m) (ho:onlyB code=true) (hpc:∃ k:Nat,m.x.pc=(k:Int)∧k<code.length):OsR P0 (m.once c room code):=by
  obtain ⟨k,hk,hkl⟩:=hpc
  unfold Xm.once
  split
  · unfold Xm.step
    split
    · have:=(ObR.mk (i:=m.x.i) h.puts h.mark rfl).fail 41 0
      exact ⟨this.puts,this.mark,h.w⟩
    · rw [hk]
      have hw:=only_at ho hkl
      have:=(ObR.mk (m:=m.begun (code.getD (k:Int).toNat ins0)) (i:=code.getD (k:Int).toNat ins0) h.puts h.mark rfl).does (c:=c) (room:=room) hw
      exact ⟨this.puts,this.mark,fun _=>by rw [this.i];exact hw⟩
  next h1 =>
  have hw:=h.w (by simpa using h1)
  split
  · exact ⟨h.puts,h.mark,h.w⟩
  split
  · have:=(ObR.mk (i:=m.x.i) h.puts h.mark rfl).fail 44 0
    exact ⟨this.puts,this.mark,h.w⟩
  · have:=(ObR.mk (m:={ m with x:={ m.x with waits:=false } }) (i:=m.x.i) h.puts h.mark rfl).goOn (c:=c) (room:=room) hw m.v.val
    exact ⟨this.puts,this.mark,fun _=>by rw [this.i];exact hw⟩
end
structure XJ (c:Cfg) (V:Int→Nat) (g:Bg) (room:Nat) (code:List Ins) (ms:Ms) (args:List Nat) (P0:List (Int×Nat)) (nt0 nl0:Int) (n:Nat) (m:Xm):Prop where
  xi:XI c V g room code ms args P0 nt0 nl0 n m
  e:m.x.s=1→Hl c V m.v∧m.v.seq=g.sq
  o:onlyB code=true→OsR P0 m
  w:Xw c P0 m
section
variable {c:Cfg} {V:Int→Nat} {g:Bg} {room:Nat} {code:List Ins} {ms:Ms} {args:List Nat} {P0:List (Int×Nat)} {nt0 nl0:Int} {n:Nat} {m:Xm}
theorem XI.held (h:XI c V g room code ms args P0 nt0 nl0 n m) (hs:m.x.s=0):Hl c V m.v∧m.v.seq=g.sq:=by
  cases h.sim with
  | run fs ls R B h1 h2=>exact ⟨h1.held,h1.sq⟩
  | wait nw f h1 h2 =>
    obtain ⟨r,h3,_⟩:=h1.is
    exact ⟨h3.held,h1.sq⟩
  | fail n r h1=>omega
  | ret fs ls R B n r h1=>omega
  | stale h1=>omega
theorem XJ.runInv (hb:Fits c room g) (hS:Start c P0 nt0 nl0) (hr:rightB code=true):RunInv c room code (XJ c V g room code ms args P0 nt0 nl0 n) where
  ok:=fun m h=>(XI.runInv hb hS hr).ok m h.xi
  next:=fun m h hst=>by
    have hs:m.x.s=0:=Decidable.by_contra fun e=>hst (.inl e)
    refine ⟨(XI.runInv hb hS hr).next m h.xi hst,fun e=>?_,fun ho=>(h.o ho).once ho (h.xi.inv.pc hs),h.w.once hb.hc room code⟩
    rw [once_vs hs (by omega)]
    exact h.xi.held hs
  less:=fun m h hst=>(XI.runInv hb hS hr).less m h.xi hst
inductive JQ (c:Cfg) (V:Int→Nat) (g:Bg) (room:Nat) (code:List Ins) (ms:Ms) (args:List Nat) (P0:List (Int×Nat)) (v0:Vw) (p:Po) (k:Nat) (m:Xm):Prop
  | right:rightB code=true→XJ c V g room code ms args P0 p.nt p.nl k m→m.stops→JQ c V g room code ms args P0 v0 p k m
  | wrong:rightB code=false→m=(Xm.init v0 p P0 args).fail 30 0→k=0→JQ c V g room code ms args P0 v0 p k m
variable {v0:Vw} {p:Po} {k:Nat}
theorem JQ.init (hb:Fits c room g) (hS:Start c P0 p.nt p.nl) (h0:rightB code=true→XJ c V g room code ms args P0 p.nt p.nl 0 (Xm.init v0 p P0 args)) :
    JQ c V g room code ms args P0 v0 p 0 (Xm.start c room code v0 p P0 args):=by
  unfold Xm.start
  cases hr:rightB code with
  | true =>
    rw [if_pos rfl]
    obtain ⟨h1,h2⟩:=run_inv (XJ.runInv hb hS hr) _ _ (h0 hr) (Nat.le_refl _)
    exact .right hr h1 h2
  | false =>
    rw [if_neg (by decide)]
    exact .wrong hr rfl rfl
theorem JQ.steps (hf:0≤c.fuel) (h:JQ c V g room code ms args P0 v0 p k m):k+(if (m.ask c).2=true then 1 else 0)≤3 * c.fuel.toNat:=by
  cases h with
  | right h1 h2 h3=>exact JI.steps (p:=p) hf (.right h1 h2.xi h3)
  | wrong h1 h2 h3 =>
    subst h2 h3
    have:((Xm.fail (Xm.init v0 p P0 args) 30 0).ask c).2=false:=by
      unfold Xm.ask
      rw [if_pos (by show (1:Int)≠0;decide)]
    rw [this]
    simp
theorem JQ.step (hb:Fits c room g) (hS:Start c P0 p.nt p.nl) (h:JQ c V g room code ms args P0 v0 p k m) (ho:(m.ask c).2=true) {cs:List Cell} {n:Nat} (hm:MemV c cs V n) (hn:n≤g.sq) (hw:0≤g.who∧g.who<c.threads) :
    rightB code=true∧MemV c (doMem cs g.who (m.ask c).1) V n∧XJ c V g room code ms args P0 p.nt p.nl (k+1) { m with v:=m.v.tell (doOut cs g.who (m.ask c).1) }∧JQ c V g room code ms args P0 v0 p (k+1) (m.tell c room code (doOut cs g.who (m.ask c).1)):=by
  cases h with
  | right h1 h2 h3 =>
    have hs:m.x.s=0:=Decidable.by_contra fun e=>by
      unfold Xm.ask at ho
      rw [if_pos e] at ho
      cases ho
    have ea:m.ask c=m.v.ask c:=by unfold Xm.ask;rw [if_neg (by omega)]
    rw [ea] at ho⊢
    obtain ⟨g1,g2⟩:=h2.xi.step hb.hc h3 hs ho hm hn hw
    have g3:XJ c V g room code ms args P0 p.nt p.nl (k+1) { m with v:=m.v.tell (doOut cs g.who (m.v.ask c).1) } :=
      ⟨g2,fun e=>by
        have e:m.x.s=1:=e
        omega,fun ho=>⟨(h2.o ho).puts,(h2.o ho).mark,(h2.o ho).w⟩,h2.w.tells _⟩
    obtain ⟨g4,g5⟩:=run_inv (XJ.runInv hb hS h1) _ _ g3 (Nat.le_refl _)
    refine ⟨h1,g1,g3, ?_⟩
    unfold Xm.tell
    rw [if_pos hs]
    exact .right h1 g4 g5
  | wrong h1 h2 h3 =>
    subst h2
    unfold Xm.ask at ho
    rw [if_pos (by show (1:Int)≠0;decide)] at ho
    cases ho
inductive JF (c:Cfg) (V:Int→Nat) (g:Bg) (code:List Ins) (ms:Ms) (args:List Nat) (P0:List (Int×Nat)) (v0:Vw) (p:Po) (m:Xm) (ms':Ms):Prop
  | right (ok:Bool) (r:Rm):rightB code=true→XEnd c V g code ms args P0 p.nt p.nl m ok r→ms'=(if ok then ⟨r.roots,r.blocks⟩ else ms)→Vok g.who m.v→Hl c V m.v→m.v.seq=g.sq→(0≤m.v.block∧m.v.block≤1000)→(onlyB code=true→m.puts=P0)→Vgo m.v→(0≤m.x.rc∧m.x.rc≤100)→PA c P0 c.writes.toNat m.puts→JF c V g code ms args P0 v0 p m ms'
  | wrong:rightB code=false→m=(Xm.init v0 p P0 args).fail 30 0→ms'=ms→JF c V g code ms args P0 v0 p m ms'
theorem JQ.fin (h:JQ c V g room code ms args P0 v0 p k m) (ho:(m.ask c).2=false):m.x.s=1∧∃ ms',JF c V g code ms args P0 v0 p m ms':=by
  cases h with
  | right h1 h2 h3 =>
    have hs:=h2.xi.ends h3 fun e=>by
      unfold Xm.ask at ho
      rw [if_neg (by omega)] at ho
      exact ho
    obtain ⟨ok,r,he⟩:=h2.xi.fin hs
    exact ⟨hs,_, .right ok r h1 he rfl h2.xi.ns (h2.e hs).1 (h2.e hs).2 h2.xi.inv.vb (fun ho=>(h2.o ho).puts) h2.w.vgo h2.w.rc (h2.w.adds.le (by have:=h2.xi.inv.w;omega))⟩
  | wrong h1 h2 h3 =>
    refine ⟨by subst h2;rfl,_, .wrong h1 h2 rfl⟩
theorem JF.num {ms':Ms} (h:JF c V g code ms args P0 v0 p m ms'):(0≤m.x.rc∧m.x.rc≤100)∧PA c P0 c.writes.toNat m.puts:=by
  cases h with
  | right ok r h1 h2 h3 h4 h5 h6 h7 h8 h9 h10 h11=>exact ⟨h10,h11⟩
  | wrong h1 h2 h3 =>
    subst h2
    refine ⟨⟨(by decide:(0:Int)≤30),(by decide:(30:Int)≤100)⟩, ?_⟩
    show PA c P0 _ (P0.take P0.length)
    rw [List.take_length];exact PA.nil _ _ _
inductive RunTo (c:Cfg) (code:List Ins) (ms:Ms) (args:List Nat) (rc:Int) (rv:Nat) (news:List Nat) (ms':Ms):Prop
  | right (ok:Bool) (r:Rm) (N:Nat):rightB code=true→runGo code c.fuel N (rm0 ms args c.writes news)=some (r,ok)→r.code=rc→r.val=rv→r.news=news→ms'=(if ok then ⟨r.roots,r.blocks⟩ else ms)→RunTo c code ms args rc rv news ms'
  | wrong:rightB code=false→rc=30→rv=0→news=[]→ms'=ms→RunTo c code ms args rc rv news ms'
theorem JF.run {ms':Ms} (h:JF c V g code ms args P0 v0 p m ms'):RunTo c code ms args m.x.rc m.x.rv m.news ms':=by
  cases h with
  | right ok r h1 h2 h3 =>
    obtain ⟨N,hgo⟩:=h2.go
    exact .right ok r N h1 hgo h2.code h2.val h2.news h3
  | wrong h1 h2 h3 =>
    subst h2
    exact .wrong h1 rfl rfl rfl h3
theorem qrun_t (S:Nat) {ms':Ms} {rc:Int} {rv:Nat} {news:List Nat} (hms:MsOk ms) (hj:RunTo c code ms args rc rv news ms') (hf:0≤c.fuel∧c.fuel≤900000) (hw:0≤c.writes∧c.writes≤1000000) (ha:args.length=4) (qc q:HProp) (cv:Value) (hins:InsR qc cv code) (hcl:code.length≤256) (pad:Option Addr) (pcap:Nat) (hpk:ListR u64V q (.slice pad news.length pcap) news) :
    Tri Tryz.prog 56 #[.pointer (some ⟨S,0,none⟩),cv, .agg ⟨g4 args⟩, .int .i64 c.fuel, .int .i64 c.writes, .slice pad news.length pcap] [MsE S ms,qc,q]
      fun v L=>∃ st dw nad ncap,v=.agg ⟨[.int .i64 rc, .int .u64 (rv:Int), .int .i64 st, .int .i64 dw, .slice nad news.length ncap]⟩∧L=[MsE S ms',Row (.slice nad news.length ncap) 22 1 news.length (u64s news),qc,q]:=by
  cases hj with
  | right ok r N h1 hgo h2 h3 h4 h5 =>
    subst h5
    refine (mrun_i S ms hms qc q cv code hins (codeB_of h1) h1 hcl args ha c.fuel c.writes hf hw pad pcap news hpk N r ok hgo).wk ?_
    rintro v L' ⟨nad,ncap,rfl,rfl⟩
    unfold doneV
    rw [h2,h3,h4]
    exact ⟨_,⟨r.steps,r.dw,nad,ncap,rfl,rfl⟩,Ent.go⟩
  | wrong h1 h2 h3 h4 h5 =>
    subst h2 h3 h4 h5
    refine (mrun_bad S _ qc q cv code hins h1 (g4 args) rfl c.fuel c.writes (.slice pad 0 pcap)).wk ?_
    rintro v L' ⟨rfl,rfl⟩
    exact ⟨_,⟨0,0,none,0,rfl,rfl⟩,Ent.go⟩
end
structure JR (c:Cfg) (V:Int→Nat) (sq T L:Nat) (who:Int) (k j:Nat) (ms:Ms) (P:List (Int×Nat)) (p:Po) (v:Vw) (fs ls:List Nat):Prop where
  rep:RepV c (ovl P V) fs ls ms.roots ms.blocks
  pk:Pk c V P
  nt:p.nt=(fs.length:Int)
  nl:p.nl=(ls.length:Int)
  wt:p.wt=T
  wl:p.wl=L
  lim:2 * (ls.length:Int)≤2 * c.threads+k * c.writes
  len:(P.length:Int)≤2 * c.limit+(k * c.writes+j * 3)
  ns:v.s≠2
  who:v.who=who
  sq:v.seq=sq
  held:Hl c V v
  vb:0≤v.block∧v.block≤1000
  blk:ms.blocks.length≤64
  vgo:Vgo v
structure JB (c:Cfg) (V:Int→Nat) (sq T L:Nat) (who:Int) (ms:Ms) (P:List (Int×Nat)) (p:Po) (v:Vw) (g:Bg) (fs ls:List Nat):Prop where
  fits:Fits c c.cap.toNat g
  S:Start c P p.nt p.nl
  F:fs.length=g.F0
  xj:∀ (code:List Ins) (args:List Nat),args.length=4→rightB code=true→XJ c V g c.cap.toNat code ms args P p.nt p.nl 0 (Xm.init v p P args)
  who:g.who=who
  sq:g.sq=sq
  p0:g.p0=P.length
  L0:g.L0=ls.length
  wt:g.wt=T
  wl:g.wl=L
section
variable {c:Cfg} {V:Int→Nat} {sq T L:Nat} {who:Int} {k j:Nat} {ms:Ms} {P:List (Int×Nat)} {p:Po} {v:Vw} {fs ls:List Nat}
theorem blk64 (hc:Small c) (h:RepV c V fs ls ms.roots ms.blocks):ms.blocks.length≤64:=by
  have:=h.cnt
  have:=hc.b1
  omega
theorem JR.begin (hc:Small c) (hfu:0≤c.fuel∧c.fuel≤1000) (h:JR c V sq T L who k j ms P p v fs ls) (hk:(k:Int)<c.threads) (hj:(j:Int)≤c.threads):∃ g,JB c V sq T L who ms P p v g fs ls:=by
  have hcap:c.cap=c.threads * (c.writes+3)+3 * c.limit+2:=rfl
  have hlm:c.limit=c.threads * (c.writes+1):=rfl
  have ht0:=hc.t0;have ht1:=hc.t1;have hw0:=hc.w0;have hw1:=hc.w1;have hb1:=hc.b1
  have hlim:=hc.limit
  have hmul:((k:Int)+1) * c.writes≤c.threads * c.writes:=Int.mul_le_mul_of_nonneg_right (by omega) hw0
  have hkw:0≤(k:Int) * c.writes:=Int.mul_nonneg (by omega) hw0
  rw [Int.mul_add] at hcap hlm
  rw [Int.add_mul,Int.one_mul] at hmul
  have h1:=h.lim;have h2:=h.len;have h3:=h.rep.fsz;have h4:=h.rep.lsz;have h5:=h.nt;have h6:=h.nl
  have hcb:=hc.cap
  have hf:Fits c c.cap.toNat ⟨who,T,L,sq,P.length,fs.length,ls.length⟩:=⟨hc,by dsimp only;omega,by dsimp only;omega⟩
  have hS:Start c P p.nt p.nl:=⟨hc,hfu.2,by omega,by omega,by omega⟩
  refine ⟨⟨who,T,L,sq,P.length,fs.length,ls.length⟩,⟨hf,hS,rfl,fun code args ha hr=>⟨XI.init hf hr hS hfu.1 v p rfl rfl ha h.vb h.ns h.who h.wt h.wl h.held h.sq (Nat.le_refl _) h.rep h.pk h.nt h.nl rfl rfl,fun e=>(by cases e),fun _=>⟨rfl,rfl,fun e=>(by cases e)⟩,Xw.init v p args h.vgo⟩,rfl,rfl,rfl,rfl,rfl,rfl⟩⟩
theorem JR.next (hc:Small c) {code:List Ins} {args:List Nat} {g:Bg} {m:Xm} {ms':Ms} (h:JR c V sq T L who k j ms P p v fs ls) (hb:JB c V sq T L who ms P p v g fs ls) (hj:JF c V g code ms args P v p m ms'):∃ fs' ls',JR c V sq T L who (k+1) j ms' m.puts m.p m.v fs' ls':=by
  have hw0:=hc.w0
  have e:(((k+1:Nat):Int)) * c.writes=k * c.writes+c.writes:=by
    rw [Int.natCast_add,Int.add_mul]
    show _+1 * c.writes=_
    rw [Int.one_mul]
  have h1:=h.lim;have h2:=h.len
  have hp0:=hb.p0;have hL0:=hb.L0
  cases hj with
  | right ok r g1 g2 g3 g4 g5 g6 g7 g8 g9 g10 g11 =>
    obtain ⟨hw1,hw2⟩:=g2.pw
    by_cases hrc:m.x.rc=0
    · obtain ⟨hok,fs2,ls2,hk⟩:=g2.good hrc
      subst hok g3
      have k1:=hk.lsz;have k2:=hk.plen;have k3:=hk.w1
      exact ⟨fs2,ls2,⟨hk.rep,hk.pk,hk.nt,hk.nl,hw1.trans hb.wt,hw2.trans hb.wl,by omega,by omega,g4.ns,g4.who.trans hb.who,g6.trans hb.sq,g5,g7,blk64 (ms:=⟨r.roots,r.blocks⟩) hc hk.rep,g9⟩⟩
    · obtain ⟨hok,hpu,hnt,hnl⟩:=g2.bad hrc
      subst hok g3
      refine ⟨fs,ls,⟨by rw [hpu];exact h.rep,by rw [hpu];exact h.pk,hnt.trans h.nt,hnl.trans h.nl,hw1.trans hb.wt,hw2.trans hb.wl,by omega,by rw [hpu];omega,g4.ns,g4.who.trans hb.who,g6.trans hb.sq,g5,g7,h.blk,g9⟩⟩
  | wrong g1 g2 g3 =>
    subst g2 g3
    have ep:((Xm.init v p P args).fail 30 0).puts=P:=by
      show P.take P.length=P
      exact List.take_length
    refine ⟨fs,ls,⟨by rw [ep];exact h.rep,by rw [ep];exact h.pk,h.nt,h.nl,h.wt,h.wl,by omega,by rw [ep];omega,h.ns,h.who,h.sq,h.held,h.vb,h.blk,h.vgo⟩⟩
theorem JR.room (hc:Small c) (h:JR c V sq T L who k j ms P p v fs ls) (hk:(k:Int)≤c.threads) (hj:(j:Int)≤c.threads):P.length+2≤c.cap.toNat:=by
  have hcap:c.cap=c.threads * (c.writes+3)+3 * c.limit+2:=rfl
  have hlm:c.limit=c.threads * (c.writes+1):=rfl
  have ht0:=hc.t0;have hw0:=hc.w0
  have hlim:=hc.limit
  have hmul:(k:Int) * c.writes≤c.threads * c.writes:=Int.mul_le_mul_of_nonneg_right hk hw0
  have hkw:0≤(k:Int) * c.writes:=Int.mul_nonneg (by omega) hw0
  rw [Int.mul_add] at hcap hlm
  have h2:=h.len
  omega
theorem JR.fin (hc:Small c) (h:JR c V sq T L who k j ms P p v fs ls) (hk:(k:Int)≤c.threads) (hj:(j:Int)≤c.threads) {cs:List Cell} {n:Nat} (hm:MemV c cs V n) (hT:V (c.at 12 0 0)=T) (hL:V (c.at 14 0 0)=L) {sq':Nat} (hq:n≤sq') :
    MemH c (wrote c (allP (endP c c.cap.toNat p P)) sq' (allP (endP c c.cap.toNat p P)) cs) sq' fs ls ms.roots ms.blocks:=by
  obtain ⟨e1,e2,_,e4⟩:=endP_v (room:=c.cap.toNat) hc (p:=p) h.pk (h.room hc hk hj) hT hL h.wt h.wl h.nt h.nl
  exact MemH.wrote hc hm (h.rep.ended hc e4) e1 e2 hq
theorem JR.init (hc:Small c) {cs:List Cell} {n:Nat} (h:MemH c cs n fs ls ms.roots ms.blocks) (who:Int):∃ fs' ls',JR c (fun a=>(cellI cs a).val) n fs.length ls.length who 0 0 ms (set1 c c.cap.toNat (pool1 c cs n fs.length ls) []).puts ((pool1 c cs n fs.length ls).settled c c.cap.toNat []) (Vw.new who n) fs' ls':=by
  obtain ⟨fs',ls',hj,hl⟩:=job_set hc h
  have hlz:=h.rep.lsz
  have hp:=pool1_eq (cs:=cs) (n:=n) (fs:=fs) (ls:=ls) hc
  have hL:=hj.L
  refine ⟨fs',ls',⟨hj.rep,hj.pk,hj.nt,hj.nl, ?_, ?_, ?_, ?_, ?_,rfl,rfl, .inl rfl,⟨Int.le_refl _,by show (0:Int)≤1000;decide⟩,blk64 hc hj.rep,Vgo.new _ _⟩⟩
  · show (pool1 c cs n fs.length ls).wt=_
    rw [hp]
  · show (pool1 c cs n fs.length ls).wl=_
    rw [hp]
  · show 2 * (ls'.length:Int)≤2 * c.threads+((0:Nat):Int) * c.writes
    rw [Int.natCast_zero,Int.zero_mul];omega
  · show _≤2 * c.limit+(((0:Nat):Int) * c.writes+((0:Nat):Int) * 3)
    rw [Int.natCast_zero,Int.zero_mul];omega
  · show (1:Int)≠2
    decide
end
end Go.Proofs.YthmbgodcpgkkeaaGreat
end
section
namespace Go.Proofs.YthmbgodcpgkkeaaGreat
set_option maxRecDepth 100000
theorem Pm.do_eq (M:Pm) (who:Int) (o:MOp):(M.do who o).1.cs=doMem M.cs who o∧(M.do who o).2=doOut M.cs who o:=by
  unfold Pm.do doMem doOut
  by_cases h:checkOf M.cs.length who o=0
  · rw [if_neg (by omega),if_pos h,if_pos h];exact ⟨rfl,rfl⟩
  · rw [if_pos h,if_neg h,if_neg h];exact ⟨rfl,rfl⟩
theorem own_in {c:Cfg} {a:Int} (h:1≤(c.what a).1∧(c.what a).1≤6):1≤a∧a<c.f7:=by
  obtain ⟨h,h'⟩:=h
  unfold Cfg.what at h h'
  repeat' split at h
  all_goals first|omega|(dsimp only at h;omega)|skip
  all_goals first|(repeat' split at h')|skip
  all_goals first|omega|(dsimp only at h h';omega)
theorem doMem_load (cs:List Cell) (who a:Int):doMem cs who (mop 0 a 0)=cs:=by
  unfold doMem
  by_cases h:checkOf cs.length who (mop 0 a 0)=0
  · rw [if_pos h]
    have e:becomes (cs.getD (mop 0 a 0).at_.toNat ⟨0,0⟩) (mop 0 a 0)=cs.getD a.toNat ⟨0,0⟩:=rfl
    rw [e]
    show cs.set a.toNat _=cs
    by_cases hl:a.toNat<cs.length
    · rw [List.getD_eq_getElem?_getD,List.getElem?_eq_getElem hl]
      exact List.set_getElem_self hl
    · rw [List.set_eq_of_length_le (by omega)]
  · rw [if_neg h]
def annC (c:Cfg) (cs:List Cell) (u:Int):Cell:=cellI cs (c.at 1 u 0)
def argsC (c:Cfg) (cs:List Cell) (u:Int):List Nat:=[(cellI cs (c.at 2 u 0)).val,(cellI cs (c.at 2 u 1)).val,(cellI cs (c.at 2 u 2)).val,(cellI cs (c.at 2 u 3)).val]
def pendB (c:Cfg) (cs:List Cell) (u:Int):Bool:=decide ((annC c cs u).seq≠0) && decide ((cellI cs (c.at 7 u 0)).val≠(annC c cs u).seq)
structure MemB (c:Cfg) (cs0 cs:List Cell) (n:Nat):Prop where
  v:MemV c cs (fun a=>(cellI cs0 a).val) n
  o:∀ a:Int,(c.what a).1=1∨(c.what a).1=2→cellI cs a=cellI cs0 a
  same:(∀ i:Int,0≤i→i<c.threads→pendB c cs0 i=false)→cs=cs0
  e:cs.length=cs0.length∧∀ a:Int,0≤a→a<cs0.length→(c.what a).1≠3→cellI cs a=cellI cs0 a
section
variable {c:Cfg} {cs0 cs:List Cell} {n:Nat} {who:Int}
theorem MemB.load (hc:Small c) (h:MemB c cs0 cs n) (hw:0≤who∧who<c.threads) {a:Int} (ha:(c.what a).1=1∨(c.what a).1=2):doOut cs who (mop 0 a 0)=⟨cellI cs0 a,true⟩:=by
  have hs:=h.v.sz hc
  have hf:=f717 hc
  have ht:=hc.t1
  have hi:=own_in (c:=c) (a:=a) (by omega)
  rw [←h.o a ha]
  exact (load_out ⟨hw.1,by omega⟩ (by omega) (by omega)).1
theorem Vw.ask_op (v:Vw) (c:Cfg):(∃ x,(v.ask c).1=mop 1 (c.at 3 v.who 0) x)∨∃ a,(v.ask c).1=mop 0 a 0:=by
  unfold Vw.ask
  split
  · exact .inl ⟨_,rfl⟩
  split
  · exact .inr ⟨_,rfl⟩
  split
  · exact .inr ⟨_,rfl⟩
  · exact .inr ⟨_,rfl⟩
theorem MemB.ask (hc:Small c) (h:MemB c cs0 cs n) (hw:0≤who∧who<c.threads) {v:Vw} (hv:v.who=who) {u:Int} (hu:0≤u∧u<c.threads) (hp:pendB c cs0 u=true):MemB c cs0 (doMem cs who (v.ask c).1) n:=by
  rcases v.ask_op c with ⟨x,e⟩|⟨a,e⟩
  · rw [e,hv]
    obtain ⟨g1,g2⟩:=h.v.store hc hw x
    have hsl:=slot_in hc hw.1 hw.2
    have hw3:=at_own hc (kind:=3) (k:=0) (by decide) hw (by unfold Cfg.cnt;simp)
    refine ⟨g2,fun a ha=>?_,fun hn=>(by rw [hn u hu.1 hu.2] at hp;cases hp),by rw [g1,List.length_set];exact h.e.1,fun a h0 h1 hk=>?_⟩
    rotate_left
    · rw [g1,←h.e.2 a h0 h1 hk]
      have hne:c.at 3 who 0≠a:=fun e'=>hk (by rw [←e',hw3])
      unfold cellI
      rw [List.getD_eq_getElem?_getD,List.getElem?_set_ne (by omega),←List.getD_eq_getElem?_getD]
    rw [g1,←h.o a ha]
    have hsl:=slot_in hc hw.1 hw.2
    have hi:=own_in (c:=c) (a:=a) (by omega)
    have hne:c.at 3 who 0≠a:=fun e'=>by
      have:=at_own hc (kind:=3) (k:=0) (by decide) hw (by unfold Cfg.cnt;simp)
      rw [e'] at this
      rw [this] at ha
      dsimp only at ha
      omega
    unfold cellI
    rw [List.getD_eq_getElem?_getD,List.getElem?_set_ne (by omega),←List.getD_eq_getElem?_getD]
  · rw [e,doMem_load];exact h
inductive Cf (c:Cfg) (progs:Progs) (cs:List Cell):Ms→List BRow→Ms→Prop
  | nil (ms:Ms):Cf c progs cs ms [] ms
  | cons {ms ms1 ms2:Ms} {r:BRow} {rows:List BRow}:MsOk ms→RunTo c (progOf progs (annC c cs r.who).val) ms (argsC c cs r.who) r.rc r.rv r.news ms1→Cf c progs cs ms1 rows ms2→Cf c progs cs ms (r::rows) ms2
theorem Cf.snoc {progs:Progs} {r:BRow}:∀ {rows:List BRow} {ms ms1 ms2:Ms},Cf c progs cs ms rows ms1→MsOk ms1→RunTo c (progOf progs (annC c cs r.who).val) ms1 (argsC c cs r.who) r.rc r.rv r.news ms2→Cf c progs cs ms (rows++[r]) ms2
  | [],ms,_,ms2,h,hm,hr=>by
    cases h
    exact .cons hm hr (.nil ms2)
  | _::rows,ms,_,ms2,h,hm,hr=>by
    cases h with
    | cons h0 h1 h2=>exact .cons h0 h1 (Cf.snoc h2 hm hr)
end
theorem cnt7 (c:Cfg) {kind:Int} (h:7≤kind∧kind≤9):c.cnt kind=(c.threads,1):=by
  unfold Cfg.cnt
  rw [if_neg (by omega),if_pos (by omega)]
theorem in7 {c:Cfg} {kind u:Int} (h:7≤kind∧kind≤9) (hu:0≤u∧u<c.threads):0≤u∧u<(c.cnt kind).1∧(0:Int)≤0∧0<(c.cnt kind).2:=by
  rw [cnt7 c h];dsimp only;omega
theorem at7_in {c:Cfg} (hc:Small c) {kind u:Int} (h:7≤kind∧kind≤9) (hu:0≤u∧u<c.threads):c.f7≤c.at kind u 0∧c.at kind u 0<c.f10:=by
  have hi:=in7 h hu
  have hw:=at_rest hc (kind:=kind) (i:=u) (k:=0) (by omega) ⟨hi.1,hi.2.1⟩ ⟨hi.2.2.1,hi.2.2.2⟩
  have h1:(c.what (c.at kind u 0)).1=kind:=by rw [hw]
  have hx:=at_in hc (kind:=kind) (i:=u) (j:=0) (by omega) hi
  unfold Tx at hx
  refine ⟨hx.1, ?_⟩
  have hf:=f717 hc
  have hnum:=hc.nums.f7
  generalize c.at kind u 0=a at h1 hx
  unfold Cfg.what at h1
  rw [if_neg (by omega),if_neg (by omega),if_neg (by omega)] at h1
  refine Decidable.by_contra fun hn=>?_
  rw [if_neg (by omega)] at h1
  repeat' split at h1
  all_goals (try dsimp only at h1)
  all_goals first|omega|skip
section
variable {c:Cfg} {V V' W:Int→Nat} {fs ls R:List Nat} {B:List (Int×List Nat)} {P l:List (Int×Nat)} {room:Nat}
theorem RepV.congr2 (h:RepV c W fs ls R B) (h1:∀ kind i:Int,10≤kind∧kind≤15→(0≤i∧i<(c.cnt kind).1∧(0:Int)≤0∧0<(c.cnt kind).2)→V' (c.at kind i 0)=W (c.at kind i 0)) (h2:∀ b w:Nat,(b:Int)<c.blocks→w<8→V' (c.at 16 b w)=W (c.at 16 b w)):RepV c V' fs ls R B:=by
  have hfz:=h.fsz
  have hlz:=h.lsz
  refine ⟨h.rl,fun k hk=>?_,fun b hb=>?_,fun b hb l e w hw=>?_,h.len,h.keys,h.nod,fun b hb=>?_,fun b hb=>?_,fun i hi=>?_,fun i hi=>?_,h.fnod,h.lnod,fun b hb=>?_,h.cnt,h.lsz⟩
  · rw [h1 10 k (by decide) (in10 c hk)];exact h.root k hk
  · rw [h1 11 b (by decide) (in11 hb)];exact h.life b hb
  · rw [h2 b w hb hw];exact h.word b hb l e w hw
  · obtain ⟨g1,g2⟩:=h.free b hb
    exact ⟨g1,by rw [h1 11 b (by decide) (in11 g1)];exact g2⟩
  · obtain ⟨g1,g2⟩:=h.limbo b hb
    exact ⟨g1,by rw [h1 11 b (by decide) (in11 g1)];exact g2⟩
  · rw [h1 13 i (by decide) (in13 (by omega))];exact h.stack i hi
  · rw [h1 15 i (by decide) (in15 (by omega))];exact h.lim i hi
  · rw [h1 11 b (by decide) (in11 hb)];exact h.cov b hb
theorem RepV.own (hc:Small c) (h:RepV c (ovl P V) fs ls R B) {kind u:Int} (hk:7≤kind∧kind≤9) (hu:0≤u∧u<c.threads) (hr:P.length<room) (v:Nat):RepV c (ovl (putP room P (c.at kind u 0) v) V) fs ls R B:=by
  have hi:=in7 hk hu
  refine h.congr2 (fun k i hk' hi'=>?_) fun b w hb hw=>?_
  · rw [putP_ovl V hr,updV_ne]
    exact ne_kind hc (by omega) (by omega) hi' hi (by omega)
  · rw [putP_ovl V hr,updV_ne]
    exact ne_kind hc (by decide) (by omega) (in16 hb hw) hi (by omega)
theorem Pk.own (hc:Small c) (h:Pk c V P) {kind u:Int} (hk:7≤kind∧kind≤9) (hu:0≤u∧u<c.threads) (hr:P.length<room) (v:Nat):Pk c V (putP room P (c.at kind u 0) v):=by
  have hi:=in7 hk hu
  exact h.put hr v (fun b hb=>ne_kind hc (by omega) (by decide) hi (in11 hb) (by omega)) (fun b w hb hw e=>absurd e (ne_kind hc (by omega) (by decide) hi (in16 hb hw) (by omega))) (ne_kind hc (by omega) (by decide) hi (in12 c) (by omega)) (ne_kind hc (by omega) (by decide) hi (in14 c) (by omega))
theorem ovl_app {a:Int}:∀ (l P:List (Int×Nat)),(∀ x∈l,x.1≠a)→ovl (P++l) V a=ovl P V a
  | [],P,_=>by rw [List.append_nil]
  | (b,v)::l,P,h=>by
    have:=ovl_app l (P++[(b,v)]) fun x hx=>h x (List.mem_cons_of_mem _ hx)
    rw [List.append_assoc] at this
    rw [show P++(b,v)::l=P++([(b,v)]++l) from rfl,this,ovl_snoc,updV_ne]
    exact Ne.symm (h (b,v) (List.mem_cons_self ..))
theorem PA.ovl7 (hc:Small c) {n:Nat} {P':List (Int×Nat)} (h:PA c P n P') {kind u:Int} (hk:7≤kind∧kind≤9) (hu:0≤u∧u<c.threads):ovl P' V (c.at kind u 0)=ovl P V (c.at kind u 0):=by
  obtain ⟨l,rfl,_,h3⟩:=h
  refine ovl_app l P fun x hx e=>?_
  have:=h3 x hx
  rw [e] at this
  have h7:=at7_in hc hk hu
  have hf:=f717 hc
  exact this ⟨by omega,h7.2⟩
def KfR (c:Cfg) (P:List (Int×Nat)):Prop:=∀ x∈P,x.1<0∨c.f7≤x.1
theorem KfR.put (h:KfR c P) {a:Int} (ha:c.f7≤a) (v:Nat):KfR c (putP room P a v):=by
  unfold putP
  split
  · exact h
  · intro x hx
    rcases List.mem_append.1 hx with hx|hx
    · exact h x hx
    · rw [List.mem_singleton.1 hx];exact .inr ha
theorem KfR.adds (hc:Small c) (h:KfR c P) {n:Nat} {P':List (Int×Nat)} (hp:PA c P n P'):KfR c P':=by
  obtain ⟨l,rfl,_,h3⟩:=hp
  intro x hx
  rcases List.mem_append.1 hx with hx|hx
  · exact h x hx
  · have:=h3 x hx
    unfold Kex at this
    have hf10:c.f10=c.f7+c.threads * 3:=rfl
    have ht:=hc.t0
    have hn:=hc.nums.f7
    omega
end
end Go.Proofs.YthmbgodcpgkkeaaGreat
end
