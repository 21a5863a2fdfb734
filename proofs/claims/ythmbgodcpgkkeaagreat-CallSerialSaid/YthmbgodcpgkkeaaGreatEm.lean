/-
  A program over a view that is told what is so: words, blocks that are let go, and new ones. A program over a view that is told what is so: what is read, at once or later. A program over a view that is told what is so: blocks that are touched. A program over a view that is told what is so: it comes to what a run comes to, over roots and blocks.
-/
import Derived.Test.YthmbgodcpgkkeaaGreatEi
section
namespace Go.Proofs.YthmbgodcpgkkeaaGreat
set_option maxRecDepth 100000
def Rm.fresh2 (i:Ins) (m:Rm):Rm×Int:=match m.pick with
  | []=>(m,43)
  | h::rest=>if (mget m.blocks (h:Int)).isSome then (m,43) else if h=0∨64<h then (m,43) else
    ({ m with pick:=rest,blocks:=mput m.blocks (h:Int) zero8,news:=m.news++[h],regs:=m.regs.set i.a.toNat h },0)
theorem Rm.fresh_eq (i:Ins) (m:Rm):m.fresh i=if (m.pay i.op).2≠0 then m.pay i.op else (m.pay i.op).1.fresh2 i:=rfl
section
variable {c:Cfg} {V:Int→Nat} {g:Bg} {room:Nat} {m:Xm} {fs ls R:List Nat} {B:List (Int×List Nat)} {b:Nat} {l:List Nat}
theorem block_eq (hb:(b:Int)<c.blocks) (hh:m.x.hOf=b+1) (hw:m.x.wOf<8):m.x.block c=((b:Int),(m.x.wOf:Int),true):=by
  unfold Xs.block
  rw [hh,if_neg (by omega)]
  have:((b+1:Nat):Int) - 1=(b:Int):=by omega
  rw [this]
theorem acc_read (h:Rn c V g m fs ls R B) (hop:m.x.i.op=11∨m.x.i.op=12) (e:mget B ((m.x.reg m.x.i.b:Nat):Int)=some l) (hw:m.x.wOf<8):AccR c V g m.news (fun P=>(rmOf c m R B P).word m.x.i) (m.goOn c room (l.getD m.x.wOf 0)):=by
  unfold Xm.goOn
  rw [if_pos (by omega)]
  refine .run [] fs ls R B (h.reg _ _) (by simp) fun P=>?_
  have ew:m.x.wOf=if m.x.i.op=12∨m.x.i.op=14 then m.x.reg m.x.i.c else m.x.i.imm:=by
    unfold Xs.wOf
    by_cases h12:m.x.i.op=12∨m.x.i.op=14
    · rw [if_pos h12,if_pos h12]
    · rw [if_neg h12,if_neg h12,if_neg (by omega)]
  show (rmOf c m R B ([]++P)).word2 m.x.i (m.x.reg m.x.i.b) (if m.x.i.op=12∨m.x.i.op=14 then m.x.reg m.x.i.c else m.x.i.imm)=_
  rw [←ew]
  unfold Rm.word2
  rw [show mget (rmOf c m R B ([]++P)).blocks ((m.x.reg m.x.i.b:Nat):Int)=some l from e]
  dsimp only
  rw [if_neg (by omega),if_pos hop]
  rfl
theorem acc_write (hb:Fits c room g) (h:Rn c V g m fs ls R B) (hop:m.x.i.op=13∨m.x.i.op=14) (hbk:(b:Int)<c.blocks) (hh:m.x.reg m.x.i.b=b+1) (e:mget B ((b:Int)+1)=some l) (hw:m.x.wOf<8) (val:Nat):AccR c V g m.news (fun P=>(rmOf c m R B P).word m.x.i) (m.goOn c room val):=by
  have hpl:=h.plen;have hr:=hb.room;have hwr:=h.w0
  have hhb:m.x.hOf=b+1:=by unfold Xs.hOf;rw [if_neg (by omega)];exact hh
  unfold Xm.goOn
  rw [if_neg (by omega),if_neg (by omega),if_pos hop,block_eq hbk hhb hw]
  dsimp only
  have ew:m.x.wOf=if m.x.i.op=12∨m.x.i.op=14 then m.x.reg m.x.i.c else m.x.i.imm:=by
    unfold Xs.wOf
    by_cases h12:m.x.i.op=12∨m.x.i.op=14
    · rw [if_pos h12,if_pos h12]
    · rw [if_neg h12,if_neg h12,if_neg (by omega)]
  have hword:∀ P,(rmOf c m R B P).word m.x.i=if ((rmOf c m R B P).pay m.x.i.op).2≠0 then (rmOf c m R B P).pay m.x.i.op else ({ ((rmOf c m R B P).pay m.x.i.op).1 with blocks:=mput ((rmOf c m R B P).pay m.x.i.op).1.blocks ((b:Int)+1) (l.set m.x.wOf (m.x.reg m.x.i.a)) },0):=fun P=>by
    show (rmOf c m R B P).word2 m.x.i (m.x.reg m.x.i.b) (if m.x.i.op=12∨m.x.i.op=14 then m.x.reg m.x.i.c else m.x.i.imm)=_
    rw [←ew,hh]
    unfold Rm.word2
    rw [show ((b+1:Nat):Int)=(b:Int)+1 from by omega,show mget (rmOf c m R B P).blocks ((b:Int)+1)=some l from e]
    dsimp only
    rw [if_neg (by omega),if_neg (by omega)]
    rfl
  cases hp:(m.pay c).2 with
  | false =>
    rw [if_neg (by decide),Xm.pay_f hp]
    refine .fails (by decide) rfl (fun e=>by cases e) ⟨rmOf c m R B [], ?_,rfl,rfl⟩
    rw [hword,rm_pay_f [] hp];rfl
  | true =>
    rw [if_pos rfl]
    have hco:costs m.x.i.op=1:=by unfold costs;rw [if_pos (by omega)]
    obtain ⟨_,hw2,hw3⟩:=h.pay hp
    have hlife:ovl m.puts V (c.at 11 b 0)=1:=(h.rep.life b hbk).2 (by rw [e];rfl)
    refine .run [] fs ls R (mput B ((b:Int)+1) (l.set m.x.wOf (m.x.reg m.x.i.a))) (put_acc hb h hp hco (h.rep.setWord hb.hc hbk hw e _) (h.pk.word hb.hc (by omega) hbk hw hlife _)) (by dsimp only;rw [Xm.pay_news];simp) fun P=>?_
    rw [hword,List.nil_append,rm_pay_t P hp,if_neg (fun e=>e rfl)]
    rfl
theorem acc_free (hb:Fits c room g) (h:Rn c V g m fs ls R B) (hop:m.x.i.op=16) (hbk:(b:Int)<c.blocks) (hh:m.x.reg m.x.i.a=b+1) (e:mget B ((b:Int)+1)=some l) (val:Nat):AccR c V g m.news (fun P=>(rmOf c m R B P).free m.x.i) (m.goOn c room val):=by
  have hpl:=h.plen;have hr:=hb.room;have hwr:=h.w0;have hls:=h.lsz;have hlm:=hb.lim
  have hhb:m.x.hOf=b+1:=by unfold Xs.hOf;rw [if_pos hop];exact hh
  have hw:m.x.wOf=0:=by unfold Xs.wOf;rw [if_neg (by omega),if_pos hop]
  have hbN:m.x.bN c=b:=by
    unfold Xs.bN
    rw [block_eq hbk hhb (by omega)]
    dsimp only;omega
  unfold Xm.goOn
  rw [if_neg (by omega),if_neg (by omega),if_neg (by omega),if_pos hop,hbN]
  have hfree:∀ P,(rmOf c m R B P).free m.x.i=if ((rmOf c m R B P).pay m.x.i.op).2≠0 then (rmOf c m R B P).pay m.x.i.op else ({ ((rmOf c m R B P).pay m.x.i.op).1 with blocks:=mdel ((rmOf c m R B P).pay m.x.i.op).1.blocks ((b:Int)+1) },0):=fun P=>by
    unfold Rm.free
    rw [show (rmOf c m R B P).reg m.x.i.a=b+1 from hh,show ((b+1:Nat):Int)=(b:Int)+1 from by omega,show mget (rmOf c m R B P).blocks ((b:Int)+1)=some l from e]
  cases hp:(m.pay c).2 with
  | false =>
    rw [if_neg (by decide),Xm.pay_f hp]
    refine .fails (by decide) rfl (fun e=>by cases e) ⟨rmOf c m R B [], ?_,rfl,rfl⟩
    rw [hfree,rm_pay_f [] hp];rfl
  | true =>
    rw [if_pos rfl]
    have hco:costs m.x.i.op=2:=by rw [hop];rfl
    obtain ⟨h1,hw2,hw3⟩:=h.pay hp
    have hu:(m.pay c).1.puts=m.puts:=by rw [Xm.pay_t hp]
    have hn:(m.pay c).1.p.nl=(ls.length:Int):=h1.nl
    rw [hu,hn]
    obtain ⟨g1,g2,g3⟩:=h.rep.giveP hb.hc (room:=room) hbk e (nl:=(ls.length:Int)) rfl (by omega) (by omega)
    have g4:=h.pk.give hb.hc (room:=room) (by omega) hbk (n:=ls.length) (by omega)
    have hsl:(ls++[b]).length=ls.length+1:=by rw [List.length_append];rfl
    refine .run [] fs (ls++[b]) R (mdel B ((b:Int)+1)) ⟨⟨g3,g4,h1.nt,g1,h1.cnt, ?_, ?_,h1.w0,h1.w1,h1.held,h1.sq,h1.regs,h1.nw,by have:=h1.lg;omega⟩,h1.s,h1.rc,h1.waits⟩ (by dsimp only;rw [Xm.pay_news];simp) fun P=>?_
    · dsimp only
      rw [hw2,hsl];omega
    · dsimp only
      rw [hw2];omega
    · dsimp only
      rw [hfree,List.nil_append,rm_pay_t P hp,if_neg (fun e=>e rfl)]
      rfl
theorem acc_new (hb:Fits c room g) (h:Rn c V g m (fs++[b]) ls R B) (hop:m.x.i.op=15) (hpl:(m.puts.length:Int)+9≤g.p0+m.x.writes) (hnw:9 * (m.news.length:Int)+9≤m.x.writes):AccR c V g m.news (fun P=>(rmOf c m R B P).fresh2 m.x.i) (m.goOn c room b):=by
  have hr:=hb.room;have hw1:=h.w1
  obtain ⟨hbk,hv0⟩:=h.rep.free b (List.mem_append_right _ (List.mem_singleton_self b))
  have hb64:=hb.hc.b1
  have hsl:(fs++[b]).length=fs.length+1:=by rw [List.length_append];rfl
  have hnt:=h.nt
  have hcnt:=h.cnt
  rw [hsl] at hnt hcnt
  unfold Xm.goOn
  rw [if_neg (by omega),if_pos hop]
  unfold Xm.taken
  rw [if_neg (by omega)]
  obtain ⟨g1,g2,g3⟩:=h.rep.takeP hb.hc (room:=room) (nt:=m.p.nt) (by omega) (by omega)
  have g4:=h.pk.take hb.hc (room:=room) (by omega) hbk (nt:=m.p.nt) (by omega)
  have hnone:mget B ((b:Int)+1)=none:=by
    cases e:mget B ((b:Int)+1) with
    | none=>rfl
    | some l =>
      have:=(h.rep.life b hbk).2 (by rw [e];rfl)
      rw [hv0] at this;cases this
  refine .run [b+1] fs ls R (mput B ((b:Int)+1) zero8) ⟨⟨g3,g4,g1,h.nl, ?_,h.lsz, ?_,h.w0,h.w1,h.held,h.sq, ?_, ?_,h.lg⟩,h.s,h.rc,h.waits⟩ rfl fun P=>?_
  · dsimp only
    rw [List.length_append,List.length_singleton];omega
  · dsimp only;omega
  · dsimp only
    rw [List.length_set];exact h.regs
  · dsimp only
    rw [List.length_append,List.length_singleton];omega
  · show (rmOf c m R B ((b+1)::P)).fresh2 m.x.i=_
    have hns:¬ (mget (rmOf c m R B ((b+1)::P)).blocks ((b+1:Nat):Int)).isSome=true:=by
      show ¬ (mget B ((b+1:Nat):Int)).isSome=true
      rw [show ((b+1:Nat):Int)=(b:Int)+1 from by omega,hnone];decide
    show (if (mget (rmOf c m R B ((b+1)::P)).blocks ((b+1:Nat):Int)).isSome=true then _ else if b+1=0∨64<b+1 then _ else _)=_
    rw [if_neg hns,if_neg (by omega)]
    show (({ rmOf c m R B ((b+1)::P) with pick:=P,blocks:=mput B ((b+1:Nat):Int) zero8,news:=m.news++[b+1],regs:=m.x.regs.set m.x.i.a.toNat (b+1) }:Rm),(0:Int))=_
    rw [show ((b+1:Nat):Int)=(b:Int)+1 from by omega]
    rfl
end
end Go.Proofs.YthmbgodcpgkkeaaGreat
end
section
namespace Go.Proofs.YthmbgodcpgkkeaaGreat
set_option maxRecDepth 100000
structure Wt (c:Cfg) (V:Int→Nat) (g:Bg) (room:Nat) (nw:List Nat) (f:List Nat→Rm×Int) (m':Xm):Prop where
  w:m'.x.waits=true
  s:m'.x.s=0
  rc:m'.x.rc=0
  sq:m'.v.seq=g.sq
  news:m'.news=nw
  is:∃ r,VwF c V m'.v r∧∀ v':Vw,Hl c V v'→v'.seq=g.sq→(∀ val,r=some val→AccR c V g nw f (Xm.goOn c room { m' with v:=v',x:={ m'.x with waits:=false } } val))∧(r=none→AccR c V g nw f (Xm.fail { m' with v:=v' } 44 0))
section
variable {c:Cfg} {V:Int→Nat} {g:Bg} {room:Nat} {m:Xm} {fs ls R:List Nat} {B:List (Int×List Nat)} {b:Nat} {l:List Nat}
theorem Rn.view (h:Rn c V g m fs ls R B) {v':Vw} (h1:Hl c V v') (h2:v'.seq=g.sq):Rn c V g { m with v:=v' } fs ls R B :=
  ⟨⟨h.rep,h.pk,h.nt,h.nl,h.cnt,h.lsz,h.plen,h.w0,h.w1,h1,h2,h.regs,h.nw,h.lg⟩,h.s,h.rc,h.waits⟩
theorem unwait (h:m.x.waits=false) (v' v2:Vw):({ ({ m with v:=v2,x:={ m.x with waits:=true } }:Xm) with v:=v',x:={ ({ m with v:=v2,x:={ m.x with waits:=true } }:Xm).x with waits:=false } }:Xm)={ m with v:=v' }:=by
  obtain ⟨⟨x1,x2,x3,x4,x5,x6,x7,x8,x9,x10,x11,x12,x13⟩,v,p,puts,news⟩:=m
  dsimp only at h
  subst h
  rfl
theorem fetch_acc (hb:Fits c room g) (h:Rn c V g m fs ls R B) {kind i j:Int} (hk:7≤kind∧kind≤15) (hi:0≤i∧i<(c.cnt kind).1∧0≤j∧j<(c.cnt kind).2) {f:List Nat→Rm×Int} (hgo:∀ v':Vw,Hl c V v'→v'.seq=g.sq→AccR c V g m.news f (Xm.goOn c room { m with v:=v' } (ovl m.puts V (c.at kind i j)))):AccR c V g m.news f (m.fetch c room (c.at kind i j))∨Wt c V g room m.news f (m.fetch c room (c.at kind i j)):=by
  have hw:=at_rest hb.hc (kind:=kind) (by omega) ⟨hi.1,hi.2.1⟩ ⟨hi.2.2.1,hi.2.2.2⟩
  have hn:=at_in hb.hc (kind:=kind) (by omega) hi
  unfold Xm.fetch
  cases e:mget (allP m.puts) (c.at kind i j) with
  | some val =>
    have:=hgo m.v h.held h.sq
    rw [ovl_some e] at this
    exact .inl this
  | none =>
    rw [ovl_none e] at hgo
    refine .inr ⟨rfl,h.s,h.rc,(Vw.cell_seq c m.v _).trans h.sq,rfl,some (V (c.at kind i j)),VwF.cell h.held (by rw [hw];dsimp only;omega) hn,fun v' h1 h2=>⟨fun val ev=>?_,fun ev=>by cases ev⟩⟩
    injection ev with ev
    subst ev
    exact Eq.mpr (congrArg (fun z=>AccR c V g m.news f (Xm.goOn c room z (V (c.at kind i j)))) (unwait h.waits v' (m.v.cell c (c.at kind i j)))) (hgo v' h1 h2)
theorem root_acc (hb:Fits c room g) (h:Rn c V g m fs ls R B) (hop:m.x.i.op=9∨m.x.i.op=10):AccR c V g m.news (fun P=>(rmOf c m R B P).root m.x.i) (m.root c room)∨Wt c V g room m.news (fun P=>(rmOf c m R B P).root m.x.i) (m.root c room):=by
  unfold Xm.root
  by_cases hk:16≤m.x.reg m.x.i.b
  · rw [if_pos hk]
    refine .inl (.fails (by decide) rfl (fun e=>by cases e) ⟨rmOf c m R B [], ?_,rfl,rfl⟩)
    unfold Rm.root
    rw [if_pos (show 16≤(rmOf c m R B []).reg m.x.i.b from hk)]
  · rw [if_neg hk]
    by_cases h10:m.x.i.op=10
    · rw [if_pos h10]
      exact .inl (acc10 hb h h10 (by omega))
    · rw [if_neg h10]
      refine fetch_acc hb h (by decide) (in10 c (by omega)) fun v' h1 h2=>?_
      rw [h.rep.root _ (by omega)]
      exact acc9 (h.view h1 h2) (by show m.x.i.op=9;omega) (by show m.x.reg m.x.i.b<16;omega)
theorem fresh_acc (hb:Fits c room g) (h:Rn c V g m fs ls R B) (hop:m.x.i.op=15):AccR c V g m.news (fun P=>(rmOf c m R B P).fresh m.x.i) (m.fresh c room)∨Wt c V g room m.news (fun P=>(rmOf c m R B P).fresh m.x.i) (m.fresh c room):=by
  unfold Xm.fresh
  cases hp:(m.pay c).2 with
  | false =>
    rw [if_neg (by decide),Xm.pay_f hp]
    refine .inl (.fails (by decide) rfl (fun e=>by cases e) ⟨rmOf c m R B [], ?_,rfl,rfl⟩)
    rw [Rm.fresh_eq,rm_pay_f [] hp];rfl
  | true =>
    rw [if_pos rfl]
    obtain ⟨h1,hw2,hw3⟩:=h.pay hp
    have hco:costs m.x.i.op=9:=by rw [hop];rfl
    have hf:(fun P=>(rmOf c m R B P).fresh m.x.i)=fun P=>(rmOf c (m.pay c).1 R B P).fresh2 m.x.i:=by
      funext P
      rw [Rm.fresh_eq,rm_pay_t P hp,if_neg (fun e=>e rfl)]
    have hnw:m.news=(m.pay c).1.news:=(Xm.pay_news c m).symm
    have hi:(m.pay c).1.x.i=m.x.i:=by rw [Xm.pay_t hp]
    have hu:(m.pay c).1.puts=m.puts:=by rw [Xm.pay_t hp]
    have hpl:=h.plen
    have hnwr:=h.nw
    rw [hnw] at hnwr
    rw [hf,hnw]
    generalize (m.pay c).1=m1 at h1 hw2 hi hu hnwr
    rw [←hi]
    rw [←hi] at hop
    unfold Po.top
    have hnt:=h1.nt
    have hcnt:=h1.cnt
    have hfz:=h1.rep.fsz
    rcases List.eq_nil_or_concat fs with e|⟨fs',b,e⟩
    · subst e
      have hnt:m1.p.nt=0:=hnt
      rw [if_pos hnt,if_neg (by decide)]
      exact .inl (.fails (by decide) rfl (fun _=>by rw [←hcnt];simp) ⟨rmOf c m1 R B [],rfl,rfl,rfl⟩)
    · rw [List.concat_eq_append] at e
      subst e
      have hsl:(fs'++[b]).length=fs'.length+1:=by rw [List.length_append];rfl
      rw [hsl] at hnt hfz
      have hn0:m1.p.nt≠0:=by omega
      rw [if_neg hn0,if_pos rfl]
      dsimp only
      have hst:=h1.rep.stack fs'.length (by omega)
      rw [List.getElem_append_right (Nat.le_refl _)] at hst
      have hst:ovl m1.puts V (c.at 13 (m1.p.nt - 1) 0)=b:=by
        rw [show m1.p.nt - 1=((fs'.length:Nat):Int) by omega,hst];simp
      rw [show m1.p.nt - 1=((fs'.length:Nat):Int) by omega] at hst⊢
      refine fetch_acc hb h1 (by decide) (in13 (by omega)) fun v' g1 g2=>?_
      rw [hst]
      exact acc_new hb (h1.view g1 g2) hop (by show (m1.puts.length:Int)+9≤g.p0+m1.x.writes;rw [hu];omega) (by show 9 * (m1.news.length:Int)+9≤m1.x.writes;omega)
end
end Go.Proofs.YthmbgodcpgkkeaaGreat
end
section
namespace Go.Proofs.YthmbgodcpgkkeaaGreat
set_option maxRecDepth 100000
section
variable {c:Cfg} {V:Int→Nat} {g:Bg} {room:Nat} {m:Xm} {fs ls R:List Nat} {B:List (Int×List Nat)} {b:Nat} {l:List Nat}
theorem RepV.alive {V:Int→Nat} (h:RepV c V fs ls R B) (hb:(b:Int)<c.blocks) (hl:V (c.at 11 b 0)=1):∃ l,mget B ((b:Int)+1)=some l:=by
  have:=(h.life b hb).1 hl
  cases e:mget B ((b:Int)+1) with
  | none=>rw [e] at this;cases this
  | some l=>exact ⟨l,rfl⟩
theorem RepV.dead {V:Int→Nat} (h:RepV c V fs ls R B) (hb:(b:Int)<c.blocks) (hl:V (c.at 11 b 0)≠1):mget B ((b:Int)+1)=none:=by
  cases e:mget B ((b:Int)+1) with
  | none=>rfl
  | some l=>exact absurd ((h.life b hb).2 (by rw [e];rfl)) hl
theorem RepV.off {V:Int→Nat} (h:RepV c V fs ls R B) {k:Int} (hk:k<1∨c.blocks<k):mget B k=none:=by
  cases e:mget B k with
  | none=>rfl
  | some l =>
    have:=h.keys (k,l) (mget_mem e)
    dsimp only at this
    omega
theorem touch_acc (hb:Fits c room g) (h:Rn c V g m fs ls R B) {f:List Nat→Rm×Int}
    (hbad:(m.x.hOf<1∨c.blocks<(m.x.hOf:Int)∨8≤m.x.wOf)→f []=(rmOf c m R B [],44))
    (hdead:∀ b:Nat,(b:Int)<c.blocks→m.x.hOf=b+1→mget B ((b:Int)+1)=none→f []=(rmOf c m R B [],44))
    (hrd:readsB m.x.i.op=true→∀ (b:Nat) (l:List Nat),(b:Int)<c.blocks→m.x.hOf=b+1→m.x.wOf<8→mget B ((b:Int)+1)=some l→∀ v':Vw,Hl c V v'→v'.seq=g.sq→AccR c V g m.news f (Xm.goOn c room { m with v:=v' } (l.getD m.x.wOf 0)))
    (hwr:readsB m.x.i.op=false→∀ (b:Nat) (l:List Nat),(b:Int)<c.blocks→m.x.hOf=b+1→m.x.wOf<8→mget B ((b:Int)+1)=some l→∀ v':Vw,Hl c V v'→v'.seq=g.sq→AccR c V g m.news f (Xm.goOn c room { m with v:=v' } 0)) :
    AccR c V g m.news f (m.touch c room)∨Wt c V g room m.news f (m.touch c room):=by
  unfold Xm.touch
  by_cases hbd:m.x.hOf<1∨c.blocks<(m.x.hOf:Int)∨8≤m.x.wOf
  · have e:m.x.block c=(0,0,false):=by unfold Xs.block;rw [if_pos hbd]
    rw [if_pos (.inl (by rw [e]))]
    exact .inl (.fails (by decide) rfl (fun e=>by cases e) ⟨_,hbad hbd,rfl,rfl⟩)
  · obtain ⟨b,hh⟩:∃ b:Nat,m.x.hOf=b+1:=⟨m.x.hOf - 1,by omega⟩
    have hbk:(b:Int)<c.blocks:=by omega
    have hw:m.x.wOf<8:=by omega
    rw [block_eq hbk hh hw]
    dsimp only
    have fails:mget B ((b:Int)+1)=none→∀ m1:Xm,m1.news=m.news→AccR c V g m.news f (m1.fail 44 0):=fun e m1 e1=>.fails (by decide) e1 (fun e=>by cases e) ⟨_,hdead b hbk hh e,rfl,rfl⟩
    by_cases hkn:(mget (allP m.puts) (c.at 11 b 0)).isSome=true∧(mget (allP m.puts) (c.at 11 b 0)).getD 0≠1
    · rw [if_pos (.inr hkn)]
      refine .inl (fails (h.rep.dead hbk ?_) m rfl)
      unfold ovl
      cases e:mget (allP m.puts) (c.at 11 b 0) with
      | none=>rw [e] at hkn;cases hkn.1
      | some x=>rw [e] at hkn;exact hkn.2
    · rw [if_neg (by rintro (e|e)
                     · cases e
                     · exact hkn e)]
      have hlv:mget (allP m.puts) (c.at 11 b 0)=some 1∨mget (allP m.puts) (c.at 11 b 0)=none:=by
        cases e:mget (allP m.puts) (c.at 11 b 0) with
        | none=>exact .inr rfl
        | some x =>
          rw [e] at hkn
          refine .inl (congrArg some (Decidable.by_contra fun hx=>hkn ⟨rfl,hx⟩))
      have n11:=at_not hb.hc (by decide) (in11 hbk)
      have n16:=at_not hb.hc (by decide) (in16 hbk hw)
      cases hrdb:readsB m.x.i.op with
      | true =>
        rw [if_pos rfl]
        cases ew:mget (allP m.puts) (c.at 16 b m.x.wOf) with
        | some val =>
          have hal:ovl m.puts V (c.at 11 b 0)=1:=by
            rcases hlv with e|e
            · exact ovl_some e
            · rw [ovl_none e]
              rcases h.pk.w b m.x.wOf hbk hw (by rw [ew];rfl) with e2|e2
              · rw [e] at e2;cases e2
              · exact e2
          obtain ⟨l,hl⟩:=h.rep.alive hbk hal
          have:=hrd hrdb b l hbk hh hw hl m.v h.held h.sq
          rw [←h.rep.word b hbk l hl _ hw,ovl_some ew] at this
          exact .inl this
        | none =>
          refine .inr ⟨rfl,h.s,h.rc,(Vw.word_seq c m.v _ _).trans h.sq,rfl,_,VwF.word h.held ⟨by omega,hbk⟩ n16 (at_in hb.hc (by decide) (in16 hbk hw)),fun v' h1 h2=>?_⟩
          unfold rdB
          have hun:mget (allP m.puts) (c.at 11 b 0)=none:=by
            rcases hlv with e|e
            · have:=h.pk.l b hbk e m.x.wOf hw
              rw [ew] at this;cases this
            · exact e
          by_cases hv:V (c.at 11 b 0)=1
          · rw [if_pos hv,if_neg n16]
            refine ⟨fun val ev=>?_,fun ev=>by cases ev⟩
            injection ev with ev
            subst ev
            obtain ⟨l,hl⟩:=h.rep.alive hbk (by rw [ovl_none hun];exact hv)
            have:=hrd hrdb b l hbk hh hw hl v' h1 h2
            rw [←h.rep.word b hbk l hl _ hw,ovl_none ew] at this
            exact Eq.mpr (congrArg (fun z=>AccR c V g m.news f (Xm.goOn c room z (V (c.at 16 b m.x.wOf)))) (unwait h.waits v' (m.v.word c b m.x.wOf))) this
          · rw [if_neg hv]
            exact ⟨fun val ev=>(by cases ev),fun _=>fails (h.rep.dead hbk (by rw [ovl_none hun];exact hv)) _ rfl⟩
      | false =>
        rw [if_neg (by decide)]
        rcases hlv with e|e
        · rw [if_pos (by rw [e];rfl)]
          obtain ⟨l,hl⟩:=h.rep.alive hbk (ovl_some e)
          exact .inl (hwr hrdb b l hbk hh hw hl m.v h.held h.sq)
        · rw [if_neg (by rw [e];decide)]
          refine .inr ⟨rfl,h.s,h.rc,(Vw.live_seq c m.v _).trans h.sq,rfl,_,VwF.live h.held ⟨by omega,hbk⟩ n11,fun v' h1 h2=>?_⟩
          unfold rdB
          by_cases hv:V (c.at 11 b 0)=1
          · rw [if_pos hv,if_pos rfl]
            refine ⟨fun val ev=>?_,fun ev=>by cases ev⟩
            injection ev with ev
            subst ev
            obtain ⟨l,hl⟩:=h.rep.alive hbk (by rw [ovl_none e];exact hv)
            exact Eq.mpr (congrArg (fun z=>AccR c V g m.news f (Xm.goOn c room z 0)) (unwait h.waits v' (m.v.live c b))) (hwr hrdb b l hbk hh hw hl v' h1 h2)
          · rw [if_neg hv]
            exact ⟨fun val ev=>(by cases ev),fun _=>fails (h.rep.dead hbk (by rw [ovl_none e];exact hv)) _ rfl⟩
theorem word_acc (hb:Fits c room g) (h:Rn c V g m fs ls R B) (hop:11≤m.x.i.op∧m.x.i.op≤14):AccR c V g m.news (fun P=>(rmOf c m R B P).word m.x.i) (m.touch c room)∨Wt c V g room m.news (fun P=>(rmOf c m R B P).word m.x.i) (m.touch c room):=by
  have eh:m.x.hOf=m.x.reg m.x.i.b:=by unfold Xs.hOf;rw [if_neg (by omega)]
  have ew:m.x.wOf=if m.x.i.op=12∨m.x.i.op=14 then m.x.reg m.x.i.c else m.x.i.imm:=by
    unfold Xs.wOf
    by_cases h12:m.x.i.op=12∨m.x.i.op=14
    · rw [if_pos h12,if_pos h12]
    · rw [if_neg h12,if_neg h12,if_neg (by omega)]
  have hword:∀ P,(rmOf c m R B P).word m.x.i=(rmOf c m R B P).word2 m.x.i m.x.hOf m.x.wOf:=fun P=>by
    rw [eh,ew];rfl
  have hnone:∀ P,mget B (m.x.hOf:Int)=none→(rmOf c m R B P).word2 m.x.i m.x.hOf m.x.wOf=(rmOf c m R B P,44):=fun P e=>by
    unfold Rm.word2
    rw [show mget (rmOf c m R B P).blocks (m.x.hOf:Int)=none from e]
  refine touch_acc hb h (fun hbad=>?_) (fun b hbk hh e=>?_) (fun hr b l hbk hh hw e v' h1 h2=>?_) (fun hr b l hbk hh hw e v' h1 h2=>?_)
  · rw [hword]
    cases e:mget B (m.x.hOf:Int) with
    | none=>exact hnone [] e
    | some l =>
      have:¬ (((m.x.hOf:Nat):Int)<1∨c.blocks<((m.x.hOf:Nat):Int)):=fun hk=>by
        rw [h.rep.off hk] at e;cases e
      unfold Rm.word2
      rw [show mget (rmOf c m R B []).blocks (m.x.hOf:Int)=some l from e]
      dsimp only
      rw [if_pos (by omega)]
  · rw [hword]
    exact hnone [] (by rw [hh,show ((b+1:Nat):Int)=(b:Int)+1 from by omega];exact e)
  · have hop2:m.x.i.op=11∨m.x.i.op=12:=by
      unfold readsB at hr
      simpa using hr
    exact acc_read (h.view h1 h2) hop2 (by show mget B ((m.x.reg m.x.i.b:Nat):Int)=some l;rw [←eh,hh,show ((b+1:Nat):Int)=(b:Int)+1 from by omega];exact e) hw
  · have hop2:m.x.i.op=13∨m.x.i.op=14:=by
      have:¬ (m.x.i.op=11∨m.x.i.op=12):=fun e=>by
        unfold readsB at hr
        simp at hr
        omega
      omega
    exact acc_write hb (h.view h1 h2) hop2 hbk (by show m.x.reg m.x.i.b=b+1;rw [←eh];exact hh) e hw 0
theorem free_acc (hb:Fits c room g) (h:Rn c V g m fs ls R B) (hop:m.x.i.op=16):AccR c V g m.news (fun P=>(rmOf c m R B P).free m.x.i) (m.touch c room)∨Wt c V g room m.news (fun P=>(rmOf c m R B P).free m.x.i) (m.touch c room):=by
  have eh:m.x.hOf=m.x.reg m.x.i.a:=by unfold Xs.hOf;rw [if_pos hop]
  have ew:m.x.wOf=0:=by unfold Xs.wOf;rw [if_neg (by omega),if_pos hop]
  have hnone:∀ P,mget B (m.x.hOf:Int)=none→(rmOf c m R B P).free m.x.i=(rmOf c m R B P,44):=fun P e=>by
    unfold Rm.free
    rw [show mget (rmOf c m R B P).blocks (((rmOf c m R B P).reg m.x.i.a:Nat):Int)=none from by show mget B ((m.x.reg m.x.i.a:Nat):Int)=none;rw [←eh];exact e]
  have hrb:readsB m.x.i.op=false:=by rw [hop];rfl
  refine touch_acc hb h (fun hbad=>?_) (fun b hbk hh e=>?_) (fun hr b l hbk hh hw e v' h1 h2=>?_) (fun hr b l hbk hh hw e v' h1 h2=>?_)
  · exact hnone [] (h.rep.off (by omega))
  · exact hnone [] (by rw [hh,show ((b+1:Nat):Int)=(b:Int)+1 from by omega];exact e)
  · rw [hrb] at hr;cases hr
  · exact acc_free hb (h.view h1 h2) hop hbk (by show m.x.reg m.x.i.a=b+1;rw [←eh];exact hh) e 0
end
end Go.Proofs.YthmbgodcpgkkeaaGreat
end
section
namespace Go.Proofs.YthmbgodcpgkkeaaGreat
set_option maxRecDepth 100000
section
variable {c:Cfg} {V:Int→Nat} {g:Bg} {room:Nat} {m:Xm} {fs ls R:List Nat} {B:List (Int×List Nat)} {code:List Ins} {ms:Ms} {args:List Nat}
theorem Rn.begun (h:Rn c V g m fs ls R B) (i:Ins):Rn c V g (m.begun i) fs ls R B :=
  ⟨⟨h.rep,h.pk,h.nt,h.nl,h.cnt,h.lsz,h.plen,h.w0,h.w1,h.held,h.sq,h.regs,h.nw,h.lg⟩,h.s,h.rc,h.waits⟩
theorem Rn.jump (h:Rn c V g m fs ls R B) (n:Nat):Rn c V g (m.jump n) fs ls R B :=
  ⟨⟨h.rep,h.pk,h.nt,h.nl,h.cnt,h.lsz,h.plen,h.w0,h.w1,h.held,h.sq,h.regs,h.nw,h.lg⟩,h.s,h.rc,h.waits⟩
theorem does_acc (hb:Fits c room g) (h:Rn c V g m fs ls R B) (i:Ins):AccR c V g m.news (fun P=>(rmOf c m R B P).go i) ((m.begun i).does c room)∨Wt c V g room m.news (fun P=>(rmOf c m R B P).go i) ((m.begun i).does c room):=by
  have hB:=h.begun i
  have hgo:∀ P,(rmOf c m R B P).go i=if i.op=17 then ({ rmOf c (m.begun i) R B P with pc:=i.imm },0) else if i.op=18 then (if m.x.reg i.a=0 then ({ rmOf c (m.begun i) R B P with pc:=i.imm },0) else (rmOf c (m.begun i) R B P,0)) else if i.op=19 then (if m.x.reg i.a=0 then (rmOf c (m.begun i) R B P,0) else ({ rmOf c (m.begun i) R B P with pc:=i.imm },0)) else
      if i.op=20 then ({ rmOf c (m.begun i) R B P with val:=m.x.reg i.a,ended:=true },0) else if i.op=21 then ({ rmOf c (m.begun i) R B P with val:=i.imm },40) else if i.op=9∨i.op=10 then (rmOf c (m.begun i) R B P).root i else if 11≤i.op∧i.op≤14 then (rmOf c (m.begun i) R B P).word i else
      if i.op=15 then (rmOf c (m.begun i) R B P).fresh i else if i.op=16 then (rmOf c (m.begun i) R B P).free i else ((rmOf c (m.begun i) R B P).setR i.a (reckon i m.x.regs m.x.args),0):=fun P=>rfl
  have hjmp:∀ n:Nat,AccR c V g m.news (fun P=>({ rmOf c (m.begun i) R B P with pc:=(n:Int) },0)) ((m.begun i).jump n):=fun n =>
    .run [] fs ls R B (hB.jump n) (by show m.news=m.news++[];simp) fun P=>rfl
  have hstay:AccR c V g m.news (fun P=>(rmOf c (m.begun i) R B P,0)) (m.begun i):=.run [] fs ls R B hB (by show m.news=m.news++[];simp) fun P=>rfl
  simp only [hgo]
  unfold Xm.does
  rw [show (m.begun i).x.i=i from rfl]
  by_cases h17:i.op=17
  · rw [if_pos h17];simp only [if_pos h17];exact .inl (hjmp _)
  rw [if_neg h17];simp only [if_neg h17]
  by_cases h18:i.op=18
  · rw [if_pos (.inl h18)];simp only [if_pos h18]
    rw [show (m.begun i).x.reg i.a=m.x.reg i.a from rfl]
    by_cases h0:m.x.reg i.a=0
    · simp only [if_pos h0]
      rw [if_pos (by rw [h0,h18];rfl)]
      exact .inl (hjmp _)
    · simp only [if_neg h0]
      rw [if_neg (by
        rw [h18,show (((m.x.reg i.a:Nat):Int) == 0)=false from by simpa using h0];decide)]
      exact .inl hstay
  simp only [if_neg h18]
  by_cases h19:i.op=19
  · rw [if_pos (.inr h19)];simp only [if_pos h19]
    rw [show (m.begun i).x.reg i.a=m.x.reg i.a from rfl]
    by_cases h0:m.x.reg i.a=0
    · simp only [if_pos h0]
      rw [if_neg (by rw [h0,h19];decide)]
      exact .inl hstay
    · simp only [if_neg h0]
      rw [if_pos (by
        rw [h19,show (((m.x.reg i.a:Nat):Int) == 0)=false from by simpa using h0];decide)]
      exact .inl (hjmp _)
  rw [if_neg (show ¬ (i.op=18∨i.op=19) by omega)];simp only [if_neg h19]
  by_cases h20:i.op=20
  · rw [if_pos h20];simp only [if_pos h20]
    exact .inl (.ret fs ls R B rfl rfl ⟨hB.rep,hB.pk,hB.nt,hB.nl,hB.cnt,hB.lsz,hB.plen,hB.w0,hB.w1,hB.held,hB.sq,hB.regs,hB.nw,hB.lg⟩ rfl rfl)
  rw [if_neg h20];simp only [if_neg h20]
  by_cases h21:i.op=21
  · rw [if_pos h21];simp only [if_pos h21]
    exact .inl (.fails (by decide) rfl (fun e=>by cases e) ⟨_,rfl,rfl,rfl⟩)
  rw [if_neg h21];simp only [if_neg h21]
  by_cases h9:i.op=9∨i.op=10
  · rw [if_pos h9];simp only [if_pos h9]
    exact root_acc (m:=m.begun i) hb hB h9
  rw [if_neg h9];simp only [if_neg h9]
  by_cases h11:11≤i.op∧i.op≤14
  · rw [if_pos (by omega)];simp only [if_pos h11]
    exact word_acc (m:=m.begun i) hb hB h11
  simp only [if_neg h11]
  by_cases h15:i.op=15
  · rw [if_neg (by omega),if_pos h15];simp only [if_pos h15]
    exact fresh_acc (m:=m.begun i) hb hB h15
  simp only [if_neg h15]
  by_cases h16:i.op=16
  · rw [if_pos (by omega)];simp only [if_pos h16]
    exact free_acc (m:=m.begun i) hb hB h16
  rw [if_neg (by omega)];simp only [if_neg h16]
  exact .inl (.run [] fs ls R B (hB.reg _ _) (by show m.news=m.news++[];simp) fun P=>rfl)
def Reach (c:Cfg) (code:List Ins) (ms:Ms) (args:List Nat) (m:Xm) (R:List Nat) (B:List (Int×List Nat)):Prop:=∃ n,∀ P K,runGo code c.fuel (n+K) (rm0 ms args c.writes (m.news++P))=runGo code c.fuel K (rmOf c m R B P)
def Rch (c:Cfg) (code:List Ins) (ms:Ms) (args nw:List Nat) (f:List Nat→Rm×Int):Prop:=∃ n,∀ P K,runGo code c.fuel (n+(K+1)) (rm0 ms args c.writes (nw++P))=if (f P).2=0 then runGo code c.fuel K (f P).1 else some ({ (f P).1 with code:=(f P).2 },false)
inductive SimR (c:Cfg) (V:Int→Nat) (g:Bg) (room:Nat) (code:List Ins) (ms:Ms) (args:List Nat) (m:Xm):Prop
  | run (fs ls R:List Nat) (B:List (Int×List Nat)):Rn c V g m fs ls R B→Reach c code ms args m R B→SimR c V g room code ms args m
  | wait (nw:List Nat) (f:List Nat→Rm×Int):Wt c V g room nw f m→Rch c code ms args nw f→SimR c V g room code ms args m
  | fail (n:Nat) (r:Rm):m.x.s=1→m.x.rc≠0→runGo code c.fuel n (rm0 ms args c.writes m.news)=some (r,false)→r.code=m.x.rc→r.val=m.x.rv→r.news=m.news→(m.x.rc=43→m.news.length=g.F0)→SimR c V g room code ms args m
  | ret (fs ls R:List Nat) (B:List (Int×List Nat)) (n:Nat) (r:Rm):m.x.s=1→m.x.rc=0→Rk c V g m fs ls R B→runGo code c.fuel n (rm0 ms args c.writes m.news)=some (r,true)→r.code=0→r.val=m.x.rv→r.news=m.news→r.roots=R→r.blocks=B→SimR c V g room code ms args m
  | stale:m.x.s=2→m.v.s=2→SimR c V g room code ms args m
theorem AccR.sim {nw:List Nat} {f:List Nat→Rm×Int} (h:AccR c V g nw f m) (hr:Rch c code ms args nw f):SimR c V g room code ms args m:=by
  obtain ⟨n,hr⟩:=hr
  cases h with
  | run add fs ls R B h1 h2 h3 =>
    refine .run fs ls R B h1 ⟨n+1,fun P K=>?_⟩
    have:=hr (add++P) K
    rw [h3 P,if_pos rfl,←List.append_assoc,←h2] at this
    rw [←this,show n+1+K=n+(K+1) by omega]
  | fail h1 h2 h3 h4 h5 h6 h7 =>
    have:=hr [] 0
    rw [if_neg (by rw [h5];exact h2),List.append_nil,←h3] at this
    exact .fail _ _ h1 h2 this h5 h6 (h7.trans h3.symm) (by rw [h3];exact h4)
  | ret fs ls R B h1 h2 h3 h4 h5 =>
    have:=hr [] 1
    rw [h5,if_pos rfl,List.append_nil,←h4] at this
    exact .ret fs ls R B _ _ h1 h2 h3 (this.trans rfl) rfl rfl rfl rfl rfl
theorem sim_once (hb:Fits c room g) (h:SimR c V g room code ms args m) (hpc:m.x.s=0→∃ k:Nat,m.x.pc=(k:Int)∧k<code.length) (hst:¬ m.stops):SimR c V g room code ms args (m.once c room code):=by
  have hs:m.x.s=0:=Decidable.by_contra fun e=>hst (.inl e)
  obtain ⟨k,hk,hkl⟩:=hpc hs
  cases h with
  | run fs ls R B h1 h2 =>
    obtain ⟨n,h2⟩:=h2
    unfold Xm.once
    rw [if_pos h1.waits]
    unfold Xm.step
    by_cases hf:c.fuel≤m.x.steps
    · rw [if_pos hf]
      have:=h2 [] 1
      rw [List.append_nil] at this
      have e:runGo code c.fuel 1 (rmOf c m R B [])=some ({ rmOf c m R B [] with code:=41,val:=0 },false):=by
        show (if c.fuel≤m.x.steps then some _ else _)=_
        rw [if_pos hf]
      exact .fail _ _ rfl (show (41:Int)≠0 by decide) (this.trans e) rfl rfl rfl (fun e=>by cases e)
    · rw [if_neg hf,hk]
      have hrch:Rch c code ms args m.news (fun P=>(rmOf c m R B P).go (code.getD (k:Int).toNat ins0)):=by
        refine ⟨n,fun P K=>(h2 P (K+1)).trans ?_⟩
        have hgi:getIns code m.x.pc=some (code.getD (k:Int).toNat ins0):=by
          unfold getIns
          rw [hk,if_neg (by omega)]
          simp [hkl]
        show (if c.fuel≤m.x.steps then some _ else match getIns code m.x.pc with|none=>none|some i=>if ((rmOf c m R B P).go i).2=0 then runGo code c.fuel K ((rmOf c m R B P).go i).1 else some ({ ((rmOf c m R B P).go i).1 with code:=((rmOf c m R B P).go i).2 },false))=_
        rw [if_neg hf,hgi]
      rcases does_acc hb h1 (code.getD (k:Int).toNat ins0) with h3|h3
      · exact h3.sim hrch
      · exact .wait _ _ h3 hrch
  | wait nw f h1 h2 =>
    unfold Xm.once
    rw [if_neg (by rw [h1.w];decide)]
    have hv0:m.v.s≠0:=fun e=>hst (.inr ⟨h1.w,e⟩)
    obtain ⟨r,h3,h4⟩:=h1.is
    have h4:=h4 m.v h3.held h1.sq
    by_cases hv2:m.v.s=2
    · rw [if_pos hv2];exact .stale rfl hv2
    rw [if_neg hv2]
    by_cases hv3:m.v.s=3
    · rw [if_pos hv3]
      have hr:r=none:=by
        rcases h3.is with e|⟨e,_⟩|⟨_,e⟩|⟨e,_⟩|⟨e,_⟩
        · exact absurd e hv2
        · omega
        · exact e
        · omega
        · omega
      exact (h4.2 hr).sim h2
    · rw [if_neg hv3]
      have hr:r=some m.v.val:=by
        rcases h3.is with e|⟨_,e⟩|⟨e,_⟩|⟨e,_⟩|⟨e,_⟩
        · exact absurd e hv2
        · exact e
        · omega
        · omega
        · omega
      exact (h4.1 _ hr).sim h2
  | fail n r h1=>omega
  | ret fs ls R B n r h1=>omega
  | stale h1=>omega
theorem sim_tell (h:SimR c V g room code ms args m) (hs:m.x.s=0) (hst:m.stops) {o:Out} (hg:m.v.step≠1→GoodR V g.sq (Vw.ask c m.v).1.at_ o):SimR c V g room code ms args { m with v:=m.v.tell o }:=by
  cases h with
  | run fs ls R B h1 h2 =>
    rcases hst with e|⟨e,_⟩
    · exact absurd hs e
    · rw [h1.waits] at e;cases e
  | wait nw f h1 h2 =>
    have hv0:m.v.s=0:=by
      rcases hst with e|⟨_,e⟩
      · exact absurd hs e
      · exact e
    obtain ⟨r,h3,h4⟩:=h1.is
    exact .wait nw f ⟨h1.w,h1.s,h1.rc,(Vw.tell_seq m.v o).trans h1.sq,h1.news,r,h3.tell hv0 (by rw [h1.sq];exact hg),h4⟩ h2
  | fail n r h1=>omega
  | ret fs ls R B n r h1=>omega
  | stale h1=>omega
end
end Go.Proofs.YthmbgodcpgkkeaaGreat
end
