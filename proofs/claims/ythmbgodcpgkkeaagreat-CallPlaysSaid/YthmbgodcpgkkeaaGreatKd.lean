/-
  Package tumblerref11, in plain terms: a program runs as the program's does.
-/
import Derived.Test.YthmbgodcpgkkeaaGreatKc
set_option maxRecDepth 100000
namespace Go.Proofs.YthmbgodcpgkkeaaGreat
theorem VG.cell {v:Vw}(h0:v.step=0)(c:Cfg)(a:Int):VG (v.cell c a):=by
 unfold Vw.cell Vw.begB Vw.beg VG
 by_cases h2:v.s=2
 ·rw [if_pos h2,if_pos h2];exact .inl h0
 ·rw [if_neg h2,if_neg h2]
  split
  ·exact .inr rfl
  ·exact .inl rfl
theorem VG.touch {v:Vw}(h:v.s=0)(b a:Int):VG (v.touch b a):=by
 unfold Vw.touch Vw.lives VG;split
 ·split
  ·exact .inl rfl
  ·exact .inr h
 ·exact .inr h
theorem VG.word {v:Vw}(h0:v.step=0)(c:Cfg)(b w:Int):VG (v.word c b w):=by
 unfold Vw.word Vw.begB Vw.beg
 by_cases h2:v.s=2
 ·rw [if_pos h2,if_neg (by decide),if_pos h2];exact .inl h0
 ·rw [if_neg h2,if_neg h2]
  split
  ·exact VG.touch rfl _ _
  ·exact .inl rfl
theorem VG.live {v:Vw}(h0:v.step=0)(c:Cfg)(b:Int):VG (v.live c b):=by
 unfold Vw.live Vw.begB Vw.beg
 by_cases h2:v.s=2
 ·rw [if_pos h2,if_neg (by decide),if_pos h2];exact .inl h0
 ·rw [if_neg h2,if_neg h2]
  split
  ·exact VG.touch rfl _ _
  ·exact .inl rfl
theorem VG.tell {v:Vw}(h:VG v)(o:Out):VG (v.tell o):=by
 unfold Vw.tell;split
 ·rename_i h1
  exact .inr (h.resolve_left (by omega))
 split
 ·rename_i h2
  have hs:v.s=0:=h.resolve_left (by omega);unfold Vw.loaded;split
  ·exact .inl rfl
  split
  ·exact .inl rfl
  split
  ·exact .inl rfl
  ·unfold Vw.lives
   dsimp only;split
   ·exact .inl rfl
   ·exact .inr hs
 ·exact h
section
variable {c:Cfg}{os:List Out}{room:Nat}{code:List Ins}{args:List Nat}{P0:List (Int×Nat)}{nt0 nl0:Int}
theorem view_sim {α:Type}(hS:Start c P0 nt0 nl0)(hr:rightB code=true){R:Tp→Tp×α}{K:α→Vw→Nat→Prop}{N:α→Vw→Prop}{mw:Xm}(hw:mw.x.waits=true)(hs:mw.x.s=0){v0:Vw}{n:Nat}
  (h:Sim (XV c) os R K N v0 n) (hg:VG v0) {j:Nat} (hi:Xi c code P0 nt0 nl0 j { mw with v:=v0 }) :
  Sim (XX c room code) os R (fun a m' k=>∃ v' j',m'=Xm.run c room code { mw with v:=v' }∧Xi c code P0 nt0 nl0 j' { mw with v:=v' }∧K a v' k) (fun a _=>∃ v',N a v') (Xm.run c room code { mw with v:=v0 }) n:=by
 have h2:=h.lift (Y:=XX c room code) (fun v=>Xm.run c room code { mw with v:=v }) (fun v=>VG v∧∃ j',Xi c code P0 nt0 nl0 j' { mw with v:=v }) ?_ ?_ ⟨hg,j,hi⟩
 ·refine h2.mono (fun a m' k hh=>?_) (fun a m' hh=>?_)
  ·obtain ⟨v',e,⟨_,j',hj⟩,hk⟩:=hh
   exact ⟨v',j',e,hj,hk⟩
  ·obtain ⟨v',e,_,_,hk⟩:=hh
   exact ⟨v',hk⟩
 ·rintro v o ⟨g,j',hj⟩ ha
  have hv0:v.s=0:=by
   rcases g with g|g
   ·have ha:(v.ask c).2=true:=ha
    unfold Vw.ask at ha;rw [if_neg (by omega),if_neg (by omega),if_neg (by omega)] at ha
    cases ha
   ·exact g
  have hx:Xr c code P0 nt0 nl0 j' { mw with v:=v }:=⟨.inl ⟨hr,hj, .inr ⟨hw,hv0⟩⟩⟩
  obtain ⟨_,h3,_⟩:=hx.tell hS room hs o;exact ⟨g.tell o,j'+1,h3⟩
 ·rintro v ⟨g,j',hj⟩ ha
  have hv0:v.s=0:=by
   rcases g with g|g
   ·have ha:(v.ask c).2=true:=ha
    unfold Vw.ask at ha;rw [if_neg (by omega),if_neg (by omega),if_neg (by omega)] at ha
    cases ha
   ·exact g
  have hst:Xm.stops { mw with v:=v }:=.inr ⟨hw,hv0⟩;rw [run_stop hst];refine ⟨?_,fun o=>?_⟩
  ·show Xm.ask c { mw with v:=v }=v.ask c
   unfold Xm.ask;rw [if_neg (fun e=>e hs)]
  ·show Xm.tell c room code { mw with v:=v } o=_
   unfold Xm.tell;rw [if_pos hs];rfl
theorem after_rel (hS:Start c P0 nt0 nl0)(hr:rightB code=true){r:Rr}{m:Xm}(h:XR r m)(hw:m.x.waits=false){x:Rv×Nat×Int}{v':Vw}(hv:VE x.1 v'.val x.2.2 v')(hval:x.2.2=1→∀ r',Rr.goOn c room m.x.i r' x.2.1=Rr.goOn c room m.x.i r' v'.val){j:Nat}
  (hi:Xi c code P0 nt0 nl0 j { m with v:=v',x:={ m.x with waits:=true } }) :
  ∃ m1 j',Xm.run c room code { m with v:=v',x:={ m.x with waits:=true } }=Xm.run c room code m1∧Xi c code P0 nt0 nl0 j' m1∧XK (r.after c room m.x.i x) m1:=by
 have hI:=xi_run hS room hr j
 have hns:¬ Xm.stops { m with v:=v',x:={ m.x with waits:=true } }:=by
  rintro (e|⟨_,e⟩)
  ·exact e h.s.2
  ·have:=hv.s;have:=hv.s3;dsimp only at e;omega
 refine ⟨_,j,run_once hI hi hns,hI.next _ hi hns, ?_⟩;unfold Xm.once;dsimp only;rw [if_neg (by decide)];have hs:=hv.s
 have he:∀ s':Int,XE (Rr.mk x.1 r.nt r.nl r.puts r.regs r.pc r.steps r.writes r.news s' r.er r.val) ⟨{ m.x with waits:=true,s:=s' },v',m.p,m.puts,m.news⟩∨s'≠2:=fun s'=>by
  by_cases e:s'=2
  ·subst e
   exact .inl ⟨hv.rel,hv.step,⟨rfl,(by show (2:Int)≠0;decide)⟩,fun e=>absurd (show (2:Int)=1 from e) (by decide),fun _=>⟨h.nt,h.nl,h.puts⟩,fun e=>absurd (show (2:Int)=1 from e) (by decide)⟩
  ·exact .inr e
 unfold Rr.after
 rcases hv.s3 with e|e|e
 ·have a1:¬ v'.s=2:=by omega
  have a2:¬ v'.s=3:=by omega
  rw [if_neg a1,if_neg a2,if_pos e];rw [hval e]
  have hR:XR { r with v:=x.1 } { m with v:=v' }:=⟨hv.rel,hv.step,h.nt,h.nl,h.puts,h.regs,h.pc,h.steps,h.writes,h.news,h.s,h.er,h.val,by show v'.s≠2;omega⟩
  have hk:=goOn_rel (c:=c) (room:=room) hR hw v'.val
  have e3:({ m with v:=v',x:={ m.x with waits:=false } }:Xm)={ m with v:=v' }:=by rw [← hw]
  rw [e3];exact hk
 ·have a1:v'.s=2:=by omega
  have a2:¬ x.2.2=1:=by omega
  have a3:¬ x.2.2=3:=by omega
  rw [if_pos a1,if_neg a2];unfold Rr.ends;rw [if_neg a3,e];exact .inr ((he 2).resolve_right (fun hh=>hh rfl))
 ·have a1:¬ v'.s=2:=by omega
  have a2:v'.s=3:=by omega
  have a3:¬ x.2.2=1:=by omega
  rw [if_neg a1,if_pos a2,if_neg a3];unfold Rr.ends;rw [if_pos e];refine .inr ⟨hv.rel,hv.step,⟨rfl,(by show (1:Int)≠0;decide)⟩,fun _=>⟨rfl,h.val,h.news⟩,fun e2=>absurd (show (44:Int)=0 from e2) (by decide),fun _=>(by show v'.s≠2;omega)⟩
def StK (c:Cfg)(room:Nat)(code:List Ins)(P0:List (Int×Nat))(nt0 nl0:Int)(st:Int)(r:Rr)(m':Xm):Prop:=∃ m1 j,m'=Xm.run c room code m1∧Xi c code P0 nt0 nl0 j m1∧XK r m1∧(r.s=0→r.steps=st)
theorem pay_steps (c:Cfg)(r:Rr)(op:Int):(r.pay c op).1.steps=r.steps∧(r.pay c op).1.s=(if (r.pay c op).2=true then r.s else 1):=by
 unfold Rr.pay;split<;>exact ⟨rfl,rfl⟩
theorem goOn_steps (r:Rr)(i:Ins)(val:Nat):(r.goOn c room i val).steps=r.steps:=by
 unfold Rr.goOn;split
 ·rfl
 split
 ·unfold Rr.taken
  split<;>rfl
 split
 ·split
  ·exact (pay_steps c r i.op).1
  ·exact (pay_steps c r i.op).1
 split
 ·split
  ·exact (pay_steps c r i.op).1
  ·exact (pay_steps c r i.op).1
 ·rfl
theorem after_steps (r:Rr)(i:Ins)(x:Rv×Nat×Int):(r.after c room i x).steps=r.steps:=by
 unfold Rr.after;split
 ·rw [goOn_steps]
 ·unfold Rr.ends
  split<;>rfl
theorem fetch_sim (hS:Start c P0 nt0 nl0)(hr:rightB code=true){r:Rr}{m:Xm}(h:XR r m)(hw:m.x.waits=false)(a:Int){n:Nat}(hn:n≤os.length){j:Nat}(hi:Xi c code P0 nt0 nl0 j (m.fetch c room a)) :
  Sim (XX c room code) os (rfetch c os room m.x.i r a) (fun r' m' _=>StK c room code P0 nt0 nl0 r.steps r' m') (fun r' _=>r'.s=0) (Xm.run c room code (m.fetch c room a)) n:=by
 unfold Xm.fetch at hi⊢;unfold rfetch;rw [h.puts]
 cases hg:mget (allP m.puts) a with
 | some val =>
  rw [hg] at hi;dsimp only at hi⊢;exact Sim.ret ⟨_,j,rfl,hi,goOn_rel h hw val,fun _=>goOn_steps r m.x.i val⟩
 | none =>
  rw [hg] at hi;dsimp only at hi⊢;have hv:=view_sim (room:=room) hS hr (mw:={ m with x:={ m.x with waits:=true } }) rfl h.s.2 (rcell_sim hS.small h.v h.step a hn) (VG.cell h.step c a) hi;refine (hv.bind hn (S:=fun x t=>(t,r.after c room m.x.i x)) (fun _ _ _=>rfl) (fun x m' t ht hh=>?_) (fun x m' k hk hkn hh=>?_))
  ·obtain ⟨v',hh⟩:=hh
   have a1:¬ x.2.2=1:=by omega
   have a2:¬ x.2.2=3:=by omega
   unfold Rr.after Rr.ends;rw [if_neg a1,if_neg a2];exact hh
  ·obtain ⟨v',j',rfl,hj,hve,_⟩:=hh
   obtain ⟨m1,j1,e1,hj1,hk1⟩:=after_rel (room:=room) hS hr h hw ⟨hve.rel,hve.step,hve.s,hve.s3,fun _=>rfl⟩ (fun e r'=>by rw [hve.val e]) hj;exact Sim.ret ⟨m1,j1,e1,hj1,hk1,fun _=>after_steps r m.x.i x⟩
theorem word_sim (hS:Start c P0 nt0 nl0)(hr:rightB code=true){r:Rr}{m:Xm}(h:XR r m)(hw:m.x.waits=false)(b w:Int){n:Nat}(hn:n≤os.length){j:Nat}(hi:Xi c code P0 nt0 nl0 j { m with v:=m.v.word c b w,x:={ m.x with waits:=true } }) :
  Sim (XX c room code) os (fun t=>((rword c os r.v b w t).1,r.after c room m.x.i (rword c os r.v b w t).2)) (fun r' m' _=>StK c room code P0 nt0 nl0 r.steps r' m') (fun r' _=>r'.s=0) (Xm.run c room code { m with v:=m.v.word c b w,x:={ m.x with waits:=true } }) n:=by
 have hv:=view_sim (room:=room) hS hr (mw:={ m with x:={ m.x with waits:=true } }) rfl h.s.2 (rword_sim hS.small h.v h.step b w hn) (VG.word h.step c b w) hi;refine (hv.bind hn (S:=fun x t=>(t,r.after c room m.x.i x)) (fun _ _ _=>rfl) (fun x m' t ht hh=>?_) (fun x m' k hk hkn hh=>?_))
 ·obtain ⟨v',hh⟩:=hh
  have a1:¬ x.2.2=1:=by omega
  have a2:¬ x.2.2=3:=by omega
  unfold Rr.after Rr.ends;rw [if_neg a1,if_neg a2];exact hh
 ·obtain ⟨v',j',rfl,hj,hve,_⟩:=hh
  obtain ⟨m1,j1,e1,hj1,hk1⟩:=after_rel (room:=room) hS hr h hw ⟨hve.rel,hve.step,hve.s,hve.s3,fun _=>rfl⟩ (fun e r'=>by rw [hve.val e]) hj;exact Sim.ret ⟨m1,j1,e1,hj1,hk1,fun _=>after_steps r m.x.i x⟩
theorem live_sim (hS:Start c P0 nt0 nl0)(hr:rightB code=true){r:Rr}{m:Xm}(h:XR r m)(hw:m.x.waits=false)(hop:m.x.i.op=13∨m.x.i.op=14∨m.x.i.op=16)(b:Int){n:Nat}(hn:n≤os.length){j:Nat}(hi:Xi c code P0 nt0 nl0 j { m with v:=m.v.live c b,x:={ m.x with waits:=true } }) :
  Sim (XX c room code) os (fun t=>((rlive c os r.v b t).1,r.after c room m.x.i ((rlive c os r.v b t).2.1,0,(rlive c os r.v b t).2.2))) (fun r' m' _=>StK c room code P0 nt0 nl0 r.steps r' m') (fun r' _=>r'.s=0) (Xm.run c room code { m with v:=m.v.live c b,x:={ m.x with waits:=true } }) n:=by
 have hv:=view_sim (room:=room) hS hr (mw:={ m with x:={ m.x with waits:=true } }) rfl h.s.2 (rlive_sim hS.small h.v h.step b hn) (VG.live h.step c b) hi;refine (hv.bind hn (S:=fun x t=>(t,r.after c room m.x.i (x.1,0,x.2))) (fun _ _ _=>rfl) (fun x m' t ht hh=>?_) (fun x m' k hk hkn hh=>?_))
 ·obtain ⟨v',hh⟩:=hh
  have a1:¬ x.2=1:=by omega
  have a2:¬ x.2=3:=by omega
  unfold Rr.after Rr.ends;dsimp only;rw [if_neg a1,if_neg a2];exact hh
 ·obtain ⟨v',j',rfl,hj,hve,_⟩:=hh
  obtain ⟨m1,j1,e1,hj1,hk1⟩:=after_rel (x:=(x.1,0,x.2)) (room:=room) hS hr h hw hve (fun e r'=>by
   have a1:¬ (m.x.i.op=9∨m.x.i.op=11∨m.x.i.op=12):=by omega
   have a2:¬ m.x.i.op=15:=by omega
   unfold Rr.goOn
   rw [if_neg a1,if_neg a1,if_neg a2,if_neg a2]) hj
  exact Sim.ret ⟨m1,j1,e1,hj1,hk1,fun _=>after_steps r m.x.i (x.1,0,x.2)⟩
theorem does_sim (hS:Start c P0 nt0 nl0)(hr:rightB code=true){r:Rr}{m:Xm}(h:XR r m)(hw:m.x.waits=false){n:Nat}(hn:n≤os.length){j:Nat}(hi:Xi c code P0 nt0 nl0 j (m.does c room)) :
  Sim (XX c room code) os (rdoes c os room m.x.args m.x.i r) (fun r' m' _=>StK c room code P0 nt0 nl0 r.steps r' m') (fun r' _=>r'.s=0) (Xm.run c room code (m.does c room)) n:=by
 have hb:m.x.block c=rblk c m.x.i r.regs:=by rw [h.regs];rfl
 have hra:m.x.reg m.x.i.a=rreg r.regs m.x.i.a:=by rw [h.regs];rfl
 have hrb:m.x.reg m.x.i.b=rreg r.regs m.x.i.b:=by rw [h.regs];rfl
 have keep:∀ {m1:Xm} {r1:Rr},Xi c code P0 nt0 nl0 j m1→XK r1 m1→(r1.s=0→r1.steps=r.steps)→SimV (XX c room code) os (Tp.live n,r1) (fun r' m' _=>StK c room code P0 nt0 nl0 r.steps r' m') (fun r' _=>r'.s=0) (Xm.run c room code m1) n :=
  fun h1 h2 h3=>Sim.ret ⟨_,j,rfl,h1,h2,h3⟩
 show SimV (XX c room code) os (rdoes c os room m.x.args m.x.i r (.live n)) (fun r' m' _=>StK c room code P0 nt0 nl0 r.steps r' m') (fun r' _=>r'.s=0) (Xm.run c room code (m.does c room)) n;unfold Xm.does at hi⊢;unfold rdoes
 by_cases o17:m.x.i.op=17
 ·rw [if_pos o17] at hi⊢
  rw [if_pos o17];exact keep hi (.inl ⟨hw,h.v,h.step,h.nt,h.nl,h.puts,h.regs,rfl,h.steps,h.writes,h.news,h.s,h.er,h.val,h.ns⟩) (fun _=>rfl)
 rw [if_neg o17] at hi⊢;rw [if_neg o17]
 by_cases o18:m.x.i.op=18∨m.x.i.op=19
 ·rw [if_pos o18] at hi⊢
  rw [if_pos o18];rw [hra] at hi⊢
  by_cases hz:(((rreg r.regs m.x.i.a:Nat):Int) == 0)=(m.x.i.op == 18)
  ·rw [if_pos hz] at hi⊢
   rw [if_pos hz];exact keep hi (.inl ⟨hw,h.v,h.step,h.nt,h.nl,h.puts,h.regs,rfl,h.steps,h.writes,h.news,h.s,h.er,h.val,h.ns⟩) (fun _=>rfl)
  ·rw [if_neg hz] at hi⊢
   rw [if_neg hz];exact keep hi (.inl ⟨hw,h⟩) (fun _=>rfl)
 rw [if_neg o18] at hi⊢;rw [if_neg o18]
 by_cases o20:m.x.i.op=20
 ·rw [if_pos o20] at hi⊢
  rw [if_pos o20];exact keep hi (.inr ⟨h.v,h.step,⟨rfl,(by show (1:Int)≠0;decide)⟩,fun _=>⟨h.er,hra.symm,h.news⟩,fun _=>⟨h.nt,h.nl,h.puts⟩,fun _=>h.ns⟩) (fun e=>absurd (show (1:Int)=0 from e) (by decide))
 rw [if_neg o20] at hi⊢;rw [if_neg o20]
 by_cases o21:m.x.i.op=21
 ·rw [if_pos o21] at hi⊢
  rw [if_pos o21];exact keep hi (.inr (h.fail (by decide) _)) (fun e=>absurd (show (1:Int)=0 from e) (by decide))
 rw [if_neg o21] at hi⊢;rw [if_neg o21]
 by_cases o9:m.x.i.op=9∨m.x.i.op=10
 ·rw [if_pos o9] at hi⊢
  rw [if_pos o9];unfold Xm.root at hi⊢;unfold rroot;rw [hrb] at hi⊢
  by_cases h16:16≤rreg r.regs m.x.i.b
  ·rw [if_pos h16] at hi⊢
   rw [if_pos h16];exact keep hi (.inr (h.fail0 (by decide))) (fun e=>absurd (show (1:Int)=0 from e) (by decide))
  rw [if_neg h16] at hi⊢;rw [if_neg h16]
  by_cases o10:m.x.i.op=10
  ·rw [if_pos o10] at hi⊢
   rw [if_pos o10]
   cases hp:(m.pay c).2 with
   | true =>
    obtain ⟨p1,p2,p3,p4⟩:=h.pay_t hp;rw [hp,if_pos rfl] at hi;rw [if_pos rfl,if_pos p1];refine keep hi (.inl ⟨by rw [p3];exact hw,p2.v,p2.step,p2.nt,p2.nl, ?_,p2.regs,p2.pc,p2.steps,p2.writes,p2.news,p2.s,p2.er,p2.val,p2.ns⟩) (fun _=>(pay_steps c r m.x.i.op).1);dsimp only;rw [p2.puts,hra]
   | false =>
    obtain ⟨p1,p2⟩:=h.pay_f hp;rw [hp,if_neg (by decide)] at hi;rw [if_neg (by rw [p1];decide),if_neg (by decide)];exact keep hi (.inr p2) (fun _=>(pay_steps c r m.x.i.op).1)
  ·rw [if_neg o10] at hi⊢
   rw [if_neg o10];exact fetch_sim hS hr h hw _ hn hi
 rw [if_neg o9] at hi⊢;rw [if_neg o9]
 by_cases o11:m.x.i.op=11∨m.x.i.op=12∨m.x.i.op=13∨m.x.i.op=14∨m.x.i.op=16
 ·rw [if_pos o11] at hi⊢
  rw [if_pos o11];unfold Xm.touch at hi⊢;unfold rtouch;rw [hb] at hi⊢;rw [h.puts];split
  ·rename_i hbad
   rw [if_pos hbad] at hi;exact keep hi (.inr (h.fail0 (by decide))) (fun e=>absurd (show (1:Int)=0 from e) (by decide))
  rename_i hgood;rw [if_neg hgood] at hi
  by_cases hrd:readsB m.x.i.op=true
  ·rw [if_pos hrd] at hi⊢
   rw [if_pos hrd]
   cases hg:mget (allP m.puts) (c.at 16 (rblk c m.x.i r.regs).1 (rblk c m.x.i r.regs).2.1) with
   | some val =>
    rw [hg] at hi;exact keep hi (goOn_rel h hw val) (fun _=>goOn_steps r m.x.i val)
   | none =>
    rw [hg] at hi;exact word_sim hS hr h hw _ _ hn hi
  ·rw [if_neg hrd] at hi⊢
   rw [if_neg hrd]
   have hop:m.x.i.op=13∨m.x.i.op=14∨m.x.i.op=16:=by
    unfold readsB at hrd;simp only [Bool.or_eq_true,beq_iff_eq] at hrd;omega
   cases hg:(mget (allP m.puts) (c.at 11 (rblk c m.x.i r.regs).1 0)).isSome with
   | true =>
    rw [hg,if_pos rfl] at hi;rw [if_pos rfl,if_pos rfl];exact keep hi (goOn_rel h hw 0) (fun _=>goOn_steps r m.x.i 0)
   | false =>
    rw [hg,if_neg (by decide)] at hi;rw [if_neg (by decide),if_neg (by decide)];exact live_sim hS hr h hw hop _ hn hi
 rw [if_neg o11] at hi⊢;rw [if_neg o11]
 by_cases o15:m.x.i.op=15
 ·rw [if_pos o15] at hi⊢
  rw [if_pos o15];unfold Xm.fresh at hi⊢;unfold rfresh
  cases hp:(m.pay c).2 with
  | true =>
   obtain ⟨p1,p2,p3,p4⟩:=h.pay_t hp;rw [hp,if_pos rfl] at hi;rw [if_pos rfl,if_pos p1]
   have hpw:(m.pay c).1.x.waits=false:=by rw [p3];exact hw
   have hpi:(m.pay c).1.x.i=m.x.i:=by rw [p3]
   have hst:=(pay_steps c r m.x.i.op).1;generalize (m.pay c).1=mp at hi p2 hpw hpi⊢;rw [← hpi] at p2 hst⊢;generalize (r.pay c mp.x.i.op).1=rp at p2 hst⊢;unfold Po.top at hi⊢;rw [p2.nt]
   by_cases hz:mp.p.nt=0
   ·rw [if_pos hz] at hi⊢
    rw [if_pos hz];rw [if_neg (by decide)] at hi⊢;exact keep hi (.inr (p2.fail0 (by decide))) (fun e=>absurd (show (1:Int)=0 from e) (by decide))
   ·rw [if_neg hz] at hi⊢
    rw [if_neg hz];rw [if_pos rfl] at hi⊢;rw [← hst];exact fetch_sim hS hr p2 hpw _ hn hi
  | false =>
   obtain ⟨p1,p2⟩:=h.pay_f hp;rw [hp,if_neg (by decide)] at hi;rw [if_neg (by rw [p1];decide),if_neg (by decide)];exact keep hi (.inr p2) (fun _=>(pay_steps c r m.x.i.op).1)
 ·rw [if_neg o15] at hi⊢
  rw [if_neg o15];exact keep hi (.inl ⟨hw,h.v,h.step,h.nt,h.nl,h.puts,by dsimp only;rw [h.regs],h.pc,h.steps,h.writes,h.news,h.s,h.er,h.val,h.ns⟩) (fun _=>rfl)
theorem step_sim (hS:Start c P0 nt0 nl0)(hr:rightB code=true){r:Rr}{m:Xm}(h:XR r m)(hw:m.x.waits=false){n:Nat}(hn:n≤os.length){j:Nat}(hi:Xi c code P0 nt0 nl0 j m) :
  Sim (XX c room code) os (rstep c os room code m.x.args r) (fun r' m' _=>StK c room code P0 nt0 nl0 (r.steps+1) r' m') (fun r' _=>r'.s=0) (Xm.run c room code m) n:=by
 have hI:=xi_run hS room hr j
 have hns:¬ m.stops:=by
  rintro (e|⟨e,_⟩)
  ·exact e h.s.2
  ·rw [hw] at e;cases e
 have hi2:=hI.next _ hi hns;rw [run_once hI hi hns];show SimV (XX c room code) os (rstep c os room code m.x.args r (.live n)) (fun r' m' _=>StK c room code P0 nt0 nl0 (r.steps+1) r' m') (fun r' _=>r'.s=0) (Xm.run c room code (m.once c room code)) n;unfold Xm.once at hi2⊢;rw [if_pos hw] at hi2⊢;unfold Xm.step at hi2⊢;unfold rstep;rw [h.steps]
 by_cases hf:c.fuel≤m.x.steps
 ·rw [if_pos hf] at hi2⊢
  rw [if_pos hf];exact Sim.ret ⟨_,j,rfl,hi2, .inr (h.fail0 (by decide)),fun e=>absurd (show (1:Int)=0 from e) (by decide)⟩
 ·rw [if_neg hf] at hi2⊢
  rw [if_neg hf,h.pc]
  have h2:XR { r with steps:=m.x.steps+1,pc:=m.x.pc+1 } (m.begun (code.getD m.x.pc.toNat ins0)):=⟨h.v,h.step,h.nt,h.nl,h.puts,h.regs,rfl,rfl,h.writes,h.news,h.s,h.er,h.val,h.ns⟩
  exact does_sim hS hr h2 hw hn hi2
end
end Go.Proofs.YthmbgodcpgkkeaaGreat
