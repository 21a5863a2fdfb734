/-
  A program that runs, in plain terms: what its rounds keep, and how few they are. A program that runs, in plain terms: what holds between its rounds. A program that runs, in plain terms: its rounds keep Xinv. Package exec, over sealed memory. A pool that is settled: its numbers.
-/
import Derived.Test.YthmbgodcpgkkeaaGreatExh
namespace Go.Proofs.YthmbgodcpgkkeaaGreat
theorem putP_pre (room:Nat) (puts:List (Int×Nat)) (a:Int) (v:Nat):puts <+: putP room puts a v:=by
  unfold putP;split
  · exact List.prefix_refl _
  · exact List.prefix_append _ _
theorem takeN_pre (c:Cfg) (room:Nat) (puts:List (Int×Nat)) (b:Nat):∀ k,puts <+: takeN c room puts b k
  | 0=>putP_pre ..
  | k+1=>(takeN_pre c room puts b k).trans (putP_pre ..)
structure Keep (c:Cfg) (d:Nat) (m m':Xm):Prop where
  mark:m'.x.mark=m.x.mark
  st:m'.x.st=m.x.st
  sl:m'.x.sl=m.x.sl
  args:m'.x.args=m.x.args
  steps:m'.x.steps=m.x.steps
  pc:m'.x.pc=m.x.pc
  i:m'.x.i=m.x.i
  s:m'.x.s=m.x.s
  rc:m'.x.rc=m.x.rc
  waits:m'.x.waits=m.x.waits
  regs:m'.x.regs.length=m.x.regs.length
  pre:m.puts <+: m'.puts
  len:m'.puts.length≤m.puts.length+d
  news:m'.news.length≤m.news.length+1
  nt0:0≤m.p.nt→0≤m'.p.nt
  nt1:m'.p.nt≤m.p.nt
  nl0:0≤m.p.nl→0≤m'.p.nl
  nl1:m.p.nl≤1000→m'.p.nl≤1000
  w0:0≤m.x.writes→0≤m'.x.writes
  w1:m.x.writes≤c.writes→m'.x.writes≤c.writes
  vs:m'.v.block=m.v.block∨(0≤m'.v.block∧m'.v.block<c.blocks)
def Comes' (c:Cfg) (d:Nat) (m m':Xm):Prop:=Keep c d m m'∨∃ m1 e v,Keep c d m m1∧e≠0∧m'=m1.fail e v
theorem Keep.refl (c:Cfg) (d:Nat) (m:Xm):Keep c d m m:=⟨rfl,rfl,rfl,rfl,rfl,rfl,rfl,rfl,rfl,rfl,rfl,List.prefix_refl _,Nat.le_add_right _ _,Nat.le_add_right _ _,id,Int.le_refl _,id,id,id,id, .inl rfl⟩
theorem Comes'.fail {c:Cfg} {d:Nat} {m:Xm} {e:Int} {v:Nat} (he:e≠0):Comes' c d m (m.fail e v):=.inr ⟨m,e,v,Keep.refl c d m,he,rfl⟩
theorem keep_pay {c:Cfg} {m:Xm} (h:(m.pay c).2=true):Keep c 0 m (m.pay c).1:=by
  have hw:¬ c.writes - m.x.writes<costs m.x.i.op:=by
    unfold Xm.pay at h;split at h
    · cases h
    · assumption
  have:=costs_le m.x.i.op
  rw [Xm.pay_t h]
  exact ⟨rfl,rfl,rfl,rfl,rfl,rfl,rfl,rfl,rfl,rfl,rfl,List.prefix_refl _,Nat.le_refl _,Nat.le_add_right _ _,id,Int.le_refl _,id,id,fun h=>by dsimp only;omega,fun h=>by dsimp only;omega, .inl rfl⟩
theorem pay_fails {c:Cfg} {m:Xm} {d:Nat} (h:(m.pay c).2=false):Comes' c d m (m.pay c).1:=by
  rw [Xm.pay_f h];exact Comes'.fail (by decide)
theorem comes_taken {c:Cfg} {room:Nat} {m:Xm} {b:Nat}:Comes' c 9 m (m.taken c room b):=by
  unfold Xm.taken
  split
  · exact Comes'.fail (by decide)
  · left
    have hp:m.puts <+: (takeP c room m.p.nt m.puts b).2∧(takeP c room m.p.nt m.puts b).2.length≤m.puts.length+9∧(0≤m.p.nt→0≤(takeP c room m.p.nt m.puts b).1)∧(takeP c room m.p.nt m.puts b).1≤m.p.nt:=by
      unfold takeP
      have h8:=takeN_pre c room m.puts b 8
      have hl8:=takeN_len c room m.puts b 8
      generalize takeN c room m.puts b 8=T at h8 hl8⊢
      split
      · exact ⟨List.prefix_refl _,by dsimp only;omega,id,Int.le_refl _⟩
      · rename_i hno
        exact ⟨h8,by dsimp only;omega,fun h=>by dsimp only;omega,by dsimp only;omega⟩
    exact ⟨rfl,rfl,rfl,rfl,rfl,rfl,rfl,rfl,rfl,rfl,List.length_set,hp.1,hp.2.1,by simp,hp.2.2.1,hp.2.2.2,id,id,id,id, .inl rfl⟩
theorem Keep.trans {c:Cfg} {d d':Nat} {a b e:Xm} (h:Keep c d a b) (k:Keep c d' b e) (hn:b.news.length=a.news.length):Keep c (d+d') a e :=
  ⟨k.mark.trans h.mark,k.st.trans h.st,k.sl.trans h.sl,k.args.trans h.args,k.steps.trans h.steps,k.pc.trans h.pc,k.i.trans h.i,k.s.trans h.s,k.rc.trans h.rc,k.waits.trans h.waits,k.regs.trans h.regs,h.pre.trans k.pre,
    by have:=h.len;have:=k.len;omega,by have:=k.news;omega,fun x=>k.nt0 (h.nt0 x),Int.le_trans k.nt1 h.nt1,fun x=>k.nl0 (h.nl0 x),fun x=>k.nl1 (h.nl1 x),fun x=>k.w0 (h.w0 x),fun x=>k.w1 (h.w1 x),
    k.vs.elim (fun x=>h.vs.elim (fun y=>.inl (x.trans y)) (fun y=>.inr (by rw [x];exact y))) .inr⟩
theorem Keep.put {c:Cfg} {d:Nat} {m m1:Xm} (h:Keep c d m m1) {puts:List (Int×Nat)} (hp:m1.puts <+: puts) {d':Nat} (hl:puts.length≤m1.puts.length+d'):Keep c (d+d') m { m1 with puts:=puts } :=
  ⟨h.mark,h.st,h.sl,h.args,h.steps,h.pc,h.i,h.s,h.rc,h.waits,h.regs,h.pre.trans hp,by have:=h.len;dsimp only;omega,h.news,h.nt0,h.nt1,h.nl0,h.nl1,h.w0,h.w1,h.vs⟩
theorem Keep.le {c:Cfg} {d d':Nat} {m m1:Xm} (h:Keep c d m m1) (hd:d≤d'):Keep c d' m m1:={ h with len:=by have:=h.len;omega }
theorem comes_goOn {c:Cfg} (hc:Small c) {room:Nat} {m:Xm} {val:Nat}:Comes' c 9 m (m.goOn c room val):=by
  unfold Xm.goOn
  split
  · left
    exact ⟨rfl,rfl,rfl,rfl,rfl,rfl,rfl,rfl,rfl,rfl,List.length_set,List.prefix_refl _,Nat.le_add_right _ _,Nat.le_add_right _ _,id,Int.le_refl _,id,id,id,id, .inl rfl⟩
  · split
    · exact comes_taken
    · split
      · split
        · rename_i hp
          left
          have hl:=putP_len room (m.pay c).1.puts (c.at 16 (m.x.block c).1 (m.x.block c).2.1) (m.x.reg m.x.i.a)
          exact ((keep_pay hp).put (putP_pre ..) hl.2).le (by omega)
        · rename_i hp
          exact pay_fails (by simpa using hp)
      · split
        · split
          · rename_i hp
            left
            have hk:=keep_pay hp
            have hg:(m.pay c).1.puts <+: (giveP c room (m.pay c).1.p.nl (m.pay c).1.puts (m.x.bN c)).2∧(giveP c room (m.pay c).1.p.nl (m.pay c).1.puts (m.x.bN c)).2.length≤(m.pay c).1.puts.length+2∧
                (0≤(m.pay c).1.p.nl→0≤(giveP c room (m.pay c).1.p.nl (m.pay c).1.puts (m.x.bN c)).1)∧((m.pay c).1.p.nl≤1000→(giveP c room (m.pay c).1.p.nl (m.pay c).1.puts (m.x.bN c)).1≤1000):=by
              have hlim:=hc.limit
              unfold giveP
              split
              · exact ⟨List.prefix_refl _,by dsimp only;omega,id,id⟩
              · rename_i hno
                have h1:=putP_len room (m.pay c).1.puts (c.at 11 (m.x.bN c) 0) 2
                have h2:=putP_len room (putP room (m.pay c).1.puts (c.at 11 (m.x.bN c) 0) 2) (c.at 15 (m.pay c).1.p.nl 0) (m.x.bN c)
                exact ⟨(putP_pre ..).trans (putP_pre ..),by dsimp only;omega,fun h=>by dsimp only;omega,fun h=>by dsimp only;omega⟩
            have hk2:=(hk.put hg.1 hg.2.1).le (d':=9) (by omega)
            exact { hk2 with nl0:=fun h=>hg.2.2.1 (hk.nl0 h),nl1:=fun h=>hg.2.2.2 (hk.nl1 h) }
          · rename_i hp
            exact pay_fails (by simpa using hp)
        · exact .inl (Keep.refl ..)
theorem Comes'.after {c:Cfg} {d:Nat} {a b e:Xm} (h:Keep c 0 a b) (hn:b.news.length=a.news.length) (k:Comes' c d b e):Comes' c d a e:=by
  rcases k with k|⟨m1,x,v,k,hx,rfl⟩
  · exact .inl ((h.trans k hn).le (by omega))
  · exact .inr ⟨m1,x,v,(h.trans k hn).le (by omega),hx,rfl⟩
structure Waits (c:Cfg) (m m':Xm):Prop where
  keep:Keep c 0 m { m' with x:={ m'.x with waits:=m.x.waits } }
  waits:m'.x.waits=true
  news:m'.news=m.news
theorem Vw.beg_block (v:Vw) (ok:Bool):(v.beg ok).block=v.block:=by unfold Vw.beg;split<;>rfl
theorem Vw.lives_block (v:Vw):v.lives.block=v.block:=by unfold Vw.lives;split<;>rfl
theorem Vw.touch_block (v:Vw) (b a:Int):(v.touch b a).block=b:=by
  unfold Vw.touch;split
  · rw [Vw.lives_block]
  · rfl
theorem Vw.cell_block (c:Cfg) (v:Vw) (a:Int):(v.cell c a).block=v.block:=by
  unfold Vw.cell;split
  · dsimp only;rw [Vw.beg_block]
  · rw [Vw.beg_block]
theorem Cfg.at16_in {c:Cfg} {b w:Int} (h:c.at 16 b w≠-1):0≤b∧b<c.blocks:=by
  unfold Cfg.at at h
  split at h
  · rename_i hh;exact ⟨hh.1,hh.2.1⟩
  · exact absurd rfl h
theorem Cfg.at11_in {c:Cfg} {b:Int} (h:c.at 11 b 0≠-1):0≤b∧b<c.blocks:=by
  unfold Cfg.at at h
  split at h
  · rename_i hh;exact ⟨hh.1,hh.2.1⟩
  · exact absurd rfl h
theorem begB_true {v:Vw} {ok:Bool} (h:v.begB ok=true):ok=true:=by unfold Vw.begB at h;split at h<;>simp_all
theorem Vw.word_block (c:Cfg) (v:Vw) (b w:Int):(v.word c b w).block=v.block∨(0≤(v.word c b w).block∧(v.word c b w).block<c.blocks):=by
  unfold Vw.word;split
  · rename_i h
    right;rw [Vw.touch_block]
    exact Cfg.at16_in (by simpa using begB_true h)
  · left;rw [Vw.beg_block]
theorem Vw.live_block (c:Cfg) (v:Vw) (b:Int):(v.live c b).block=v.block∨(0≤(v.live c b).block∧(v.live c b).block<c.blocks):=by
  unfold Vw.live;split
  · rename_i h
    right;rw [Vw.touch_block]
    exact Cfg.at11_in (by simpa using begB_true h)
  · left;rw [Vw.beg_block]
theorem waits_mk {c:Cfg} {m:Xm} {v:Vw} (hv:v.block=m.v.block∨(0≤v.block∧v.block<c.blocks)):Waits c m { m with v:=v,x:={ m.x with waits:=true } } :=
  ⟨⟨rfl,rfl,rfl,rfl,rfl,rfl,rfl,rfl,rfl,rfl,rfl,List.prefix_refl _,Nat.le_refl _,Nat.le_add_right _ _,id,Int.le_refl _,id,id,id,id,hv⟩,rfl,rfl⟩
theorem comes_fetch {c:Cfg} (hc:Small c) {room:Nat} {m:Xm} {a:Int}:Comes' c 9 m (m.fetch c room a)∨Waits c m (m.fetch c room a):=by
  unfold Xm.fetch
  split
  · exact .inl (comes_goOn hc)
  · exact .inr (waits_mk (.inl (Vw.cell_block ..)))
theorem Waits.after {c:Cfg} {a b e:Xm} (h:Keep c 0 a b) (hn:b.news=a.news) (hw:b.x.waits=a.x.waits) (k:Waits c b e):Waits c a e:=by
  refine ⟨?_,k.waits,k.news.trans hn⟩
  have:=h.trans k.keep (by rw [hn])
  rw [hw] at this
  exact this.le (by omega)
theorem Xm.pay_w {c:Cfg} {m:Xm} (h:(m.pay c).2=true):(m.pay c).1.x.waits=m.x.waits:=by rw [Xm.pay_t h]
theorem comes_fresh {c:Cfg} (hc:Small c) {room:Nat} {m:Xm}:Comes' c 9 m (m.fresh c room)∨Waits c m (m.fresh c room):=by
  unfold Xm.fresh
  split
  · rename_i hp
    have hk:=keep_pay hp
    split
    · rcases comes_fetch hc (room:=room) (m:=(m.pay c).1) (a:=((m.pay c).1.p.top c).1) with h|h
      · exact .inl (Comes'.after hk (by rw [Xm.pay_news]) h)
      · exact .inr (h.after hk (Xm.pay_news ..) (Xm.pay_w hp))
    · exact .inl (Comes'.after hk (by rw [Xm.pay_news]) (Comes'.fail (by decide)))
  · rename_i hp
    exact .inl (pay_fails (by simpa using hp))
theorem comes_root {c:Cfg} (hc:Small c) {room:Nat} {m:Xm}:Comes' c 9 m (m.root c room)∨Waits c m (m.root c room):=by
  unfold Xm.root
  split
  · exact .inl (Comes'.fail (by decide))
  · split
    · split
      · rename_i hp
        have hl:=putP_len room (m.pay c).1.puts (c.at 10 (m.x.reg m.x.i.b) 0) (m.x.reg m.x.i.a)
        exact .inl (.inl (((keep_pay hp).put (putP_pre ..) hl.2).le (by omega)))
      · rename_i hp
        exact .inl (pay_fails (by simpa using hp))
    · exact comes_fetch hc
theorem comes_touch {c:Cfg} (hc:Small c) {room:Nat} {m:Xm}:Comes' c 9 m (m.touch c room)∨Waits c m (m.touch c room):=by
  unfold Xm.touch
  split
  · exact .inl (Comes'.fail (by decide))
  · split
    · split
      · exact .inl (comes_goOn hc)
      · exact .inr (waits_mk (Vw.word_block ..))
    · split
      · exact .inl (comes_goOn hc)
      · exact .inr (waits_mk (Vw.live_block ..))
end Go.Proofs.YthmbgodcpgkkeaaGreat
namespace Go.Proofs.YthmbgodcpgkkeaaGreat
def remOf (m:Xm):Nat:=if m.x.waits=true∧m.v.s=0 then (if m.v.step=1 then 3 else if m.v.step=2 then 2 else 1) else 0
theorem remOf_le (m:Xm):remOf m≤3:=by
  unfold remOf
  repeat' split
  all_goals omega
structure Xinv (c:Cfg) (code:List Ins) (P0:List (Int×Nat)) (nt0 nl0:Int) (n:Nat) (m:Xm):Prop where
  mark:m.x.mark=P0.length
  pre:P0 <+: m.puts
  st:m.x.st=nt0
  sl:m.x.sl=nl0
  len:m.puts.length+(if m.x.waits=true then 9 else 0)≤P0.length+9 * m.x.steps.toNat
  news:m.news.length+(if m.x.waits=true then 1 else 0)≤m.x.steps.toNat
  nt:0≤m.p.nt∧m.p.nt≤1000
  nl:0≤m.p.nl∧m.p.nl≤1000
  w:0≤m.x.writes∧m.x.writes≤c.writes
  regs:m.x.regs.length=16
  args:m.x.args.length=4
  i:InsOk m.x.i
  s0:0≤m.x.steps
  s1:m.x.steps≤c.fuel
  pc:m.x.s=0→∃ k:Nat,m.x.pc=(k:Int)∧k<code.length
  rc:m.x.rc≠0→m.x.s=1∧m.puts=P0∧m.p.nt=nt0∧m.p.nl=nl0
  rc0:m.x.s=0→m.x.rc=0
  vb:0≤m.v.block∧m.v.block≤1000
  asks:n+remOf m≤3 * m.x.steps.toNat
structure Start (c:Cfg) (P0:List (Int×Nat)) (nt0 nl0:Int):Prop where
  small:Small c
  f1:c.fuel≤1000
  len:P0.length≤1000000
  nt:0≤nt0∧nt0≤1000
  nl:0≤nl0∧nl0≤1000
structure Xmid (c:Cfg) (code:List Ins) (P0:List (Int×Nat)) (nt0 nl0:Int) (n:Nat) (m:Xm):Prop where
  inv:Xinv c code P0 nt0 nl0 n m
  len:m.puts.length+9≤P0.length+9 * m.x.steps.toNat
  news:m.news.length+1≤m.x.steps.toNat
  waits:m.x.waits=false
  s:m.x.s=0
section
variable {c:Cfg} {code:List Ins} {P0:List (Int×Nat)} {nt0 nl0:Int} {n:Nat} {m:Xm}
theorem Xinv.fail (hS:Start c P0 nt0 nl0) (h:Xinv c code P0 nt0 nl0 n m) {e:Int} (_he:e≠0) {v:Nat} (_hw:n≤3 * m.x.steps.toNat) (hlen:P0.length+(if m.x.waits=true then 9 else 0)≤P0.length+9 * m.x.steps.toNat):Xinv c code P0 nt0 nl0 n (m.fail e v):=by
  have hp:m.puts.take m.x.mark=P0:=by rw [h.mark];exact (List.prefix_iff_eq_take.1 h.pre).symm
  have hrem:n+remOf (m.fail e v)≤3 * m.x.steps.toNat:=by
    have:=h.asks
    exact this
  refine ⟨h.mark, ?_,h.st,h.sl, ?_,h.news, ?_, ?_,h.w,h.regs,h.args,h.i,h.s0,h.s1, ?_, ?_, ?_,h.vb,hrem⟩
  · show P0 <+: m.puts.take m.x.mark
    rw [hp];exact List.prefix_refl _
  · show (m.puts.take m.x.mark).length+_≤_
    rw [hp];exact hlen
  · show 0≤m.x.st∧m.x.st≤1000
    rw [h.st];exact hS.nt
  · show 0≤m.x.sl∧m.x.sl≤1000
    rw [h.sl];exact hS.nl
  · intro hs;exact absurd hs (by show (1:Int)≠0;decide)
  · intro _;exact ⟨rfl,hp,h.st,h.sl⟩
  · intro hs;exact absurd hs (by show (1:Int)≠0;decide)
theorem Xmid.keep (hS:Start c P0 nt0 nl0) (h:Xmid c code P0 nt0 nl0 n m) {m':Xm} (k:Keep c 9 m m'):Xinv c code P0 nt0 nl0 n m':=by
  have hi:=h.inv
  have hb:=hS.small.b1
  have hwf:m'.x.waits=false:=k.waits.trans h.waits
  have hrem:remOf m'=0:=by unfold remOf;rw [if_neg];rw [hwf];simp
  refine ⟨k.mark.trans hi.mark,hi.pre.trans k.pre,k.st.trans hi.st,k.sl.trans hi.sl, ?_, ?_,⟨k.nt0 hi.nt.1,Int.le_trans k.nt1 hi.nt.2⟩,⟨k.nl0 hi.nl.1,k.nl1 hi.nl.2⟩,⟨k.w0 hi.w.1,k.w1 hi.w.2⟩,k.regs.trans hi.regs,by rw [k.args];exact hi.args,by rw [k.i];exact hi.i,
    by rw [k.steps];exact hi.s0,by rw [k.steps];exact hi.s1, ?_, ?_, ?_, ?_, ?_⟩
  · have:=k.len;have:=h.len;rw [k.steps,if_neg (by rw [hwf];decide)];omega
  · have:=k.news;have:=h.news;rw [k.steps,if_neg (by rw [hwf];decide)];omega
  · intro _;rw [k.pc];exact hi.pc h.s
  · intro hr;rw [k.rc,hi.rc0 h.s] at hr;exact absurd rfl hr
  · intro _;rw [k.rc];exact hi.rc0 h.s
  · rcases k.vs with hv|hv
    · rw [hv];exact hi.vb
    · omega
  · rw [hrem,k.steps];have:=hi.asks;omega
theorem Xmid.comes (hS:Start c P0 nt0 nl0) (h:Xmid c code P0 nt0 nl0 n m) {m':Xm} (k:Comes' c 9 m m'):Xinv c code P0 nt0 nl0 n m':=by
  rcases k with k|⟨m1,e,v,k,he,rfl⟩
  · exact h.keep hS k
  · have h1:=h.keep hS k
    refine h1.fail hS he ?_ ?_
    · have:=h1.asks;omega
    · rw [if_neg (by rw [k.waits,h.waits];decide)];omega
theorem Xmid.waits' (hS:Start c P0 nt0 nl0) (h:Xmid c code P0 nt0 nl0 n m) (hn:n+3≤3 * m.x.steps.toNat) {m':Xm} (k:Waits c m m'):Xinv c code P0 nt0 nl0 n m':=by
  have hi:=h.inv
  have hb:=hS.small.b1
  have kk:=k.keep
  have e1:m'.x.steps=m.x.steps:=kk.steps
  have hl:m'.puts.length≤m.puts.length+0:=kk.len
  refine ⟨kk.mark.trans hi.mark,hi.pre.trans kk.pre,kk.st.trans hi.st,kk.sl.trans hi.sl, ?_, ?_,⟨kk.nt0 hi.nt.1,Int.le_trans kk.nt1 hi.nt.2⟩,⟨kk.nl0 hi.nl.1,kk.nl1 hi.nl.2⟩,⟨kk.w0 hi.w.1,kk.w1 hi.w.2⟩,kk.regs.trans hi.regs, ?_, ?_, ?_, ?_, ?_, ?_, ?_, ?_, ?_⟩
  · have:=h.len;rw [e1,if_pos k.waits];omega
  · have:=h.news;rw [e1,if_pos k.waits,k.news];omega
  · have:=kk.args;dsimp only at this;rw [this];exact hi.args
  · have:=kk.i;dsimp only at this;rw [this];exact hi.i
  · rw [e1];exact hi.s0
  · rw [e1];exact hi.s1
  · intro _;have:=kk.pc;dsimp only at this;rw [this];exact hi.pc h.s
  · intro hr;have:=kk.rc;dsimp only at this;rw [this,hi.rc0 h.s] at hr;exact absurd rfl hr
  · intro _;have:=kk.rc;dsimp only at this;rw [this];exact hi.rc0 h.s
  · rcases kk.vs with hv|hv
    · dsimp only at hv;rw [hv];exact hi.vb
    · dsimp only at hv;omega
  · have:=remOf_le m';rw [e1];omega
end
end Go.Proofs.YthmbgodcpgkkeaaGreat
namespace Go.Proofs.YthmbgodcpgkkeaaGreat
section
variable {c:Cfg} {code:List Ins} {P0:List (Int×Nat)} {nt0 nl0:Int} {n:Nat} {m:Xm}
theorem Xinv.setpc (h:Xinv c code P0 nt0 nl0 n m) (k:Int) (hk:m.x.s=0→∃ k':Nat,k=(k':Int)∧k'<code.length):Xinv c code P0 nt0 nl0 n { m with x:={ m.x with pc:=k } } :=
  ⟨h.mark,h.pre,h.st,h.sl,h.len,h.news,h.nt,h.nl,h.w,h.regs,h.args,h.i,h.s0,h.s1,hk,h.rc,h.rc0,h.vb,h.asks⟩
theorem Xinv.setregs (h:Xinv c code P0 nt0 nl0 n m) (a:Nat) (v:Nat):Xinv c code P0 nt0 nl0 n { m with x:={ m.x with regs:=m.x.regs.set a v } } :=
  ⟨h.mark,h.pre,h.st,h.sl,h.len,h.news,h.nt,h.nl,h.w,List.length_set.trans h.regs,h.args,h.i,h.s0,h.s1,h.pc,h.rc,h.rc0,h.vb,h.asks⟩
theorem Xinv.ends (h:Xinv c code P0 nt0 nl0 n m) (s:Int) (hs:s≠0) (v:Nat):Xinv c code P0 nt0 nl0 n { m with x:={ m.x with s:=s,rc:=0,rv:=v } } :=
  ⟨h.mark,h.pre,h.st,h.sl,h.len,h.news,h.nt,h.nl,h.w,h.regs,h.args,h.i,h.s0,h.s1,fun e=>absurd e hs,fun e=>absurd rfl e,fun e=>absurd e hs,h.vb,h.asks⟩
def Xm.begun' (m:Xm) (i:Ins):Xm:={ m with x:={ m.x with steps:=m.x.steps+1,i:=i } }
theorem Xinv.begun' (h:Xinv c code P0 nt0 nl0 n m) (hw:m.x.waits=false) (hs:m.x.s=0) (hf:m.x.steps<c.fuel) {i:Ins} (hi:InsOk i) :
    Xmid c code P0 nt0 nl0 n (m.begun' i)∧n+3≤3 * (m.begun' i).x.steps.toNat:=by
  have h0:=h.s0
  have hl:=h.len;have hn:=h.news;have ha:=h.asks
  rw [hw,if_neg (by decide)] at hl hn
  have hrem:remOf (m.begun' i)=0:=by unfold remOf;rw [if_neg];show ¬ (m.x.waits=true∧_);rw [hw];simp
  have e:(m.begun' i).x.steps.toNat=m.x.steps.toNat+1:=by show (m.x.steps+1).toNat=_;omega
  have el:(m.begun' i).puts.length=m.puts.length:=rfl
  have en:(m.begun' i).news.length=m.news.length:=rfl
  have ew:(m.begun' i).x.waits=false:=hw
  refine ⟨⟨⟨h.mark,h.pre,h.st,h.sl, ?_, ?_,h.nt,h.nl,h.w,h.regs,h.args,hi, ?_, ?_,h.pc,h.rc,h.rc0,h.vb, ?_⟩, ?_, ?_,hw,hs⟩, ?_⟩
  · rw [ew,if_neg (by decide),e,el];omega
  · rw [ew,if_neg (by decide),e,en];omega
  · show 0≤m.x.steps+1;omega
  · show m.x.steps+1≤c.fuel;omega
  · rw [hrem,e];omega
  · rw [e,el];omega
  · rw [e,en];omega
  · rw [e];omega
def Goes (st:Int) (m':Xm):Prop:=m'.x.s≠0∨m'.x.steps=st
theorem Comes'.goes {d:Nat} {m':Xm} (h:Comes' c d m m'):Goes m.x.steps m':=by
  rcases h with k|⟨m1,e,v,_,_,rfl⟩
  · exact .inr k.steps
  · exact .inl (by show (1:Int)≠0;decide)
theorem Waits.goes {m':Xm} (h:Waits c m m'):Goes m.x.steps m':=.inr h.keep.steps
theorem Xmid.either (hS:Start c P0 nt0 nl0) (h:Xmid c code P0 nt0 nl0 n m) (hn:n+3≤3 * m.x.steps.toNat) {m':Xm} (k:Comes' c 9 m m'∨Waits c m m'):Xinv c code P0 nt0 nl0 n m'∧Goes m.x.steps m' :=
  k.elim (fun k=>⟨h.comes hS k,k.goes⟩) (fun k=>⟨h.waits' hS hn k,k.goes⟩)
theorem Xinv.does (hS:Start c P0 nt0 nl0) (room:Nat) (h:Xinv c code P0 nt0 nl0 n m) (hw:m.x.waits=false) (hs:m.x.s=0) (hf:m.x.steps<c.fuel) {i:Ins} {k:Nat} (hk:m.x.pc=(k:Int)) (_hkl:k<code.length) (hi:InsAt code.length k i) :
    Xinv c code P0 nt0 nl0 n ((m.begun i).does c room)∧Goes (m.x.steps+1) ((m.begun i).does c room):=by
  obtain ⟨hm,hn⟩:=h.begun' hw hs hf hi.ok
  have ei:(m.begun i).x.i=i:=rfl
  unfold Xm.does
  rw [ei]
  by_cases h17:i.op=17
  · rw [if_pos h17]
    exact ⟨hm.inv.setpc _ fun _=>⟨_,rfl,hi.go (.inl h17)⟩, .inr rfl⟩
  rw [if_neg h17]
  by_cases h18:i.op=18∨i.op=19
  · rw [if_pos h18]
    split
    · exact ⟨hm.inv.setpc _ fun _=>⟨_,rfl,h18.elim (fun e=>hi.go (.inr e)) hi.back⟩, .inr rfl⟩
    · have:=hi.next (by omega) (by omega)
      exact ⟨hm.inv.setpc (m.x.pc+1) fun _=>⟨k+1,by omega,this⟩, .inr rfl⟩
  rw [if_neg h18]
  by_cases h20:i.op=20
  · rw [if_pos h20]
    exact ⟨(hm.inv.ends 1 (by decide) _).setpc (m.x.pc+1) fun e=>absurd e (by show (1:Int)≠0;decide), .inl (by show (1:Int)≠0;decide)⟩
  rw [if_neg h20]
  by_cases h21:i.op=21
  · rw [if_pos h21]
    refine ⟨(hm.inv.fail hS (e:=40) (by decide) (v:=i.imm) ?_ ?_).setpc (m.x.pc+1) fun e=>absurd e (by show (1:Int)≠0;decide), .inl (by show (1:Int)≠0;decide)⟩
    · omega
    · rw [hm.waits,if_neg (by decide)];omega
  rw [if_neg h21]
  have hnx:=hi.next h20 h21
  have hb:Xmid c code P0 nt0 nl0 n (m.begun i):=⟨hm.inv.setpc (m.x.pc+1) fun _=>⟨k+1,by omega,hnx⟩,hm.len,hm.news,hm.waits,hm.s⟩
  split
  · exact hb.either hS hn (comes_root hS.small)
  split
  · exact hb.either hS hn (comes_touch hS.small)
  split
  · exact hb.either hS hn (comes_fresh hS.small)
  · exact ⟨hb.inv.setregs _ _, .inr rfl⟩
theorem Xinv.once (hS:Start c P0 nt0 nl0) (room:Nat) (hr:rightB code=true) (h:Xinv c code P0 nt0 nl0 n m) (hst:¬ m.stops) :
    Xinv c code P0 nt0 nl0 n (m.once c room code)∧((m.once c room code).x.s≠0∨(m.x.waits=false∧m.x.steps<c.fuel∧(m.once c room code).x.steps=m.x.steps+1)∨(m.x.waits=true∧(m.once c room code).x.waits=false∧(m.once c room code).x.steps=m.x.steps)):=by
  obtain ⟨hpos,h256,hat⟩:=right_at hr
  have hs:m.x.s=0:=Decidable.by_contra fun e=>hst (.inl e)
  unfold Xm.once
  cases hw:m.x.waits with
  | false =>
    rw [if_pos rfl]
    unfold Xm.step
    split
    · refine ⟨h.fail hS (by decide) ?_ ?_, .inl (by show (1:Int)≠0;decide)⟩
      · have:=h.asks;omega
      · rw [hw,if_neg (by decide)];omega
    · rename_i hf
      obtain ⟨k,hk,hkl⟩:=h.pc hs
      have hc':code.getD m.x.pc.toNat ins0=code[k]:=by
        rw [hk,Int.toNat_natCast,List.getD_eq_getElem?_getD,List.getElem?_eq_getElem hkl];rfl
      rw [hc']
      have:=h.does hS room hw hs (by omega) hk hkl (hat k hkl)
      refine ⟨this.1,this.2.elim .inl fun e=>.inr (.inl ⟨rfl,by omega,e⟩)⟩
  | true =>
    rw [if_neg (by decide)]
    have hv:m.v.s≠0:=fun e=>hst (.inr ⟨hw,e⟩)
    have hl:=h.len;have hn:=h.news;have ha:=h.asks
    rw [hw,if_pos rfl] at hl hn
    split
    · refine ⟨⟨h.mark,h.pre,h.st,h.sl,h.len,h.news,h.nt,h.nl,h.w,h.regs,h.args,h.i,h.s0,h.s1, ?_, ?_, ?_,h.vb,h.asks⟩, .inl (by show (2:Int)≠0;decide)⟩
      · intro e;exact absurd e (by show (2:Int)≠0;decide)
      · intro e;exact absurd (h.rc0 hs) e
      · intro e;exact absurd e (by show (2:Int)≠0;decide)
    split
    · refine ⟨h.fail hS (by decide) ?_ ?_, .inl (by show (1:Int)≠0;decide)⟩
      · omega
      · have:=h.pre.length_le
        rw [hw,if_pos rfl];omega
    · have hmid:Xmid c code P0 nt0 nl0 n { m with x:={ m.x with waits:=false } }:=by
        refine ⟨⟨h.mark,h.pre,h.st,h.sl, ?_, ?_,h.nt,h.nl,h.w,h.regs,h.args,h.i,h.s0,h.s1,h.pc,h.rc,h.rc0,h.vb, ?_⟩, ?_, ?_,rfl,hs⟩
        · dsimp only;rw [if_neg (by decide)];omega
        · dsimp only;rw [if_neg (by decide)];omega
        · have:remOf { m with x:={ m.x with waits:=false } }=0:=by unfold remOf;rw [if_neg];simp
          rw [this];dsimp only;omega
        · exact hl
        · exact hn
      have hk:=comes_goOn hS.small (room:=room) (m:={ m with x:={ m.x with waits:=false } }) (val:=m.v.val)
      refine ⟨hmid.comes hS hk, ?_⟩
      rcases hk with k|⟨m1,e,v,_,_,he⟩
      · exact .inr (.inr ⟨rfl,k.waits,k.steps⟩)
      · left;rw [he];show (1:Int)≠0;decide
theorem run_inv' (hS:Start c P0 nt0 nl0) (room:Nat) (hr:rightB code=true) (n:Nat):RunInv c room code (Xinv c code P0 nt0 nl0 n) where
  ok:=fun m h=>by
    have h1:=hS.f1;have h2:=hS.len;have h3:=hS.small.w1;have h4:=h.s1;have h5:=h.s0
    have hl:m.puts.length≤P0.length+9 * m.x.steps.toNat:=by have:=h.len;omega
    have hn:m.news.length≤m.x.steps.toNat:=by have:=h.news;omega
    have:=h.w;have:=h.nt;have:=h.nl
    exact ⟨⟨by rw [h.mark];exact h.pre.length_le,by omega,by omega,by omega,by omega,by omega,by omega,by omega,by omega,h.regs,h.args,h.i⟩,by omega,fun e _=>h.pc e,h.s0,by omega⟩
  next:=fun m h hst=>(h.once hS room hr hst).1
  less:=fun m h hst=>by
    have hs:m.x.s=0:=Decidable.by_contra fun e=>hst (.inl e)
    obtain ⟨_,ho⟩:=h.once hS room hr hst
    have h0:=h.s0
    unfold Xm.meas
    rw [if_neg (show ¬ m.x.s≠0 by omega)]
    split
    · omega
    · rename_i hns
      rcases ho with e|⟨hw,hf,e⟩|⟨hw,hw',e⟩
      · exact absurd e hns
      · rw [e,hw]
        split<;>simp<;>omega
      · rw [e,hw,hw'];simp
theorem Xinv.init (hr:rightB code=true) (hS:Start c P0 nt0 nl0) (hf:0≤c.fuel) (v:Vw) (p:Po) (hnt:p.nt=nt0) (hnl:p.nl=nl0) (args:List Nat) (ha:args.length=4) (hvb:0≤v.block∧v.block≤1000):Xinv c code P0 nt0 nl0 0 (Xm.init v p P0 args):=by
  obtain ⟨hpos,_,_⟩:=right_at hr
  have hw:=hS.small.w0
  refine ⟨rfl,List.prefix_refl _,hnt,hnl, ?_, ?_, ?_, ?_,⟨Int.le_refl _,hw⟩,rfl,ha,(⟨by decide,by decide,by decide,by decide,by decide,by decide⟩:InsOk ins0),Int.le_refl _,hf,fun _=>⟨0,rfl,hpos⟩,fun e=>absurd rfl e,fun _=>rfl,hvb, ?_⟩
  · exact Nat.le_refl _
  · exact Nat.le_refl _
  · show 0≤p.nt∧p.nt≤1000;rw [hnt];exact hS.nt
  · show 0≤p.nl∧p.nl≤1000;rw [hnl];exact hS.nl
  · exact Nat.le_refl _
theorem Vw.loaded_block (v:Vw) (cl:Cell):(v.loaded cl).block=v.block:=by
  unfold Vw.loaded
  split
  · rfl
  split
  · rfl
  split
  · rfl
  · rw [Vw.lives_block]
theorem Vw.tell_block (v:Vw) (o:Out):(v.tell o).block=v.block:=by
  unfold Vw.tell
  split
  · rfl
  split
  · exact Vw.loaded_block ..
  · rfl
theorem Vw.loaded_s (v:Vw) (cl:Cell):(v.loaded cl).s≠0∨(v.step≠3∧(v.loaded cl).step=3):=by
  unfold Vw.loaded
  split
  · exact .inl (by show (2:Int)≠0;decide)
  split
  · exact .inl (by show (1:Int)≠0;decide)
  split
  · exact .inl (by show (3:Int)≠0;decide)
  · unfold Vw.lives
    split
    · exact .inl (by show (1:Int)≠0;decide)
    · exact .inr ⟨by assumption,rfl⟩
theorem remOf_tell {m:Xm} (hw:m.x.waits=true) (hv:m.v.s=0) (ho:(m.v.ask c).2=true) (o:Out):remOf { m with v:=m.v.tell o }+1≤remOf m:=by
  have hstep:m.v.step=1∨m.v.step=2∨m.v.step=3:=by
    refine Decidable.by_contra fun e=>?_
    unfold Vw.ask at ho
    rw [if_neg (by omega),if_neg (by omega),if_neg (by omega)] at ho
    cases ho
  have e0:remOf m=if m.v.step=1 then 3 else if m.v.step=2 then 2 else 1:=by unfold remOf;rw [if_pos ⟨hw,hv⟩]
  have hm:∀ m':Xm,remOf m'=0∨(m'.v.s=0∧remOf m'=if m'.v.step=1 then 3 else if m'.v.step=2 then 2 else 1):=fun m'=>by
    unfold remOf;by_cases h:m'.x.waits=true∧m'.v.s=0
    · rw [if_pos h];exact .inr ⟨h.2,rfl⟩
    · rw [if_neg h];exact .inl rfl
  have hpos:1≤remOf m:=by
    rw [e0]
    repeat' split
    all_goals omega
  rcases hm { m with v:=m.v.tell o } with e|⟨hs,e⟩
  · omega
  · rw [e,e0]
    dsimp only at hs⊢
    rcases hstep with h|h|h
    · have:(m.v.tell o).step=2:=by unfold Vw.tell;rw [if_pos h]
      rw [this,h];decide
    · have ht:m.v.tell o=m.v.loaded o.was:=by unfold Vw.tell;rw [if_neg (by omega),if_pos (.inl h)]
      rw [ht] at hs⊢
      rcases Vw.loaded_s m.v o.was with hl|⟨_,hl⟩
      · exact absurd hs hl
      · rw [hl,h];decide
    · have ht:m.v.tell o=m.v.loaded o.was:=by unfold Vw.tell;rw [if_neg (by omega),if_pos (.inr h)]
      rw [ht] at hs⊢
      rcases Vw.loaded_s m.v o.was with hl|⟨hl,_⟩
      · exact absurd hs hl
      · exact absurd h hl
theorem Xinv.tell (h:Xinv c code P0 nt0 nl0 n m) (hst:m.stops) (hs:m.x.s=0) (ho:(m.v.ask c).2=true) (o:Out):Xinv c code P0 nt0 nl0 (n+1) { m with v:=m.v.tell o }:=by
  obtain ⟨hw,hv⟩:m.x.waits=true∧m.v.s=0:=hst.elim (fun e=>absurd hs e) id
  refine ⟨h.mark,h.pre,h.st,h.sl,h.len,h.news,h.nt,h.nl,h.w,h.regs,h.args,h.i,h.s0,h.s1,h.pc,h.rc,h.rc0, ?_, ?_⟩
  · show 0≤(m.v.tell o).block∧(m.v.tell o).block≤1000
    rw [Vw.tell_block];exact h.vb
  · have:=remOf_tell hw hv ho o
    have:=h.asks
    show n+1+remOf { m with v:=m.v.tell o }≤3 * m.x.steps.toNat
    omega
end
end Go.Proofs.YthmbgodcpgkkeaaGreat
namespace Go.Proofs.YthmbgodcpgkkeaaGreat
def Xe (X:Nat) (c:Cfg) (cv:Value) (V Pb W:Nat) (x:Xs) (news:List Nat):HProp:=XeE X c cv V Pb W x news
def xsL (X V Pb W room:Nat) (c:Cfg) (cv:Value) (m:Xm) (q:HProp):List HProp:=[Xe X c cv V Pb W m.x m.news,bl V 215 (viewV c m.v),Pl Pb c m.p,Ws W room m.puts,q]
theorem xnew_s (V Pb W room:Nat) (c:Cfg) (hc:Small c) (cv:Value) (q:HProp) (code:List Ins) (hv:InsR q cv code) (v:Vw) (p:Po) (puts:List (Int×Nat)) (args:List Nat) (hlen:puts.length≤1000000000)
    (I:Xm→Prop) (hI:rightB code=true→RunInv c room code I) (hm:rightB code=true→I (Xm.init v p puts args)) :
    Tri Tryz.prog 27 #[.agg ⟨c.m⟩,cv, .agg ⟨g4 args⟩, .pointer (some ⟨V,0,none⟩), .pointer (some ⟨Pb,0,none⟩), .pointer (some ⟨W,0,none⟩)] [bl V 215 (viewV c v),Pl Pb c p,Ws W room puts,q]
      fun r L=>∃ X,r=.pointer (some ⟨X,0,none⟩)∧L=xsL X V Pb W room c cv (Xm.start c room code v p puts args) q:=xnew_t V Pb W room c hc cv q code hv v p puts args hlen I hI hm
theorem xask_s (X V Pb W:Nat) (c:Cfg) (hc:Small c) (cv:Value) (m:Xm) (hb:0≤m.v.block∧m.v.block≤1000000):RTri Tryz.prog 29 #[.pointer (some ⟨X,0,none⟩)] [Xe X c cv V Pb W m.x m.news,bl V 215 (viewV c m.v)] (.tuple ⟨[.agg ⟨(m.ask c).1.v⟩, .bool (m.ask c).2]⟩):=xask_r X V Pb W c hc cv m hb
theorem xstatus_s (X V Pb W:Nat) (c:Cfg) (cv:Value) (m:Xm):RTri Tryz.prog 30 #[.pointer (some ⟨X,0,none⟩)] [Xe X c cv V Pb W m.x m.news] (.int .i64 m.x.s):=xstatus_r X V Pb W c cv m
theorem xtell_s (X V Pb W room:Nat) (c:Cfg) (hc:Small c) (cv:Value) (q:HProp) (code:List Ins) (hcode:rightB code=true) (hv:InsR q cv code) (I:Xm→Prop) (hI:RunInv c room code I) (m:Xm) (o:Out) (hm:m.x.s=0→I { m with v:=m.v.tell o }) :
    Tri Tryz.prog 35 #[.pointer (some ⟨X,0,none⟩), .agg ⟨o.v⟩] (xsL X V Pb W room c cv m q) fun r L=>r=.tuple ⟨[]⟩∧L=xsL X V Pb W room c cv (m.tell c room code o) q:=xtell_t X V Pb W room c hc cv q code hcode hv I hI m o hm
theorem xresult_s (X V Pb W:Nat) (c:Cfg) (cv:Value) (m:Xm) (hn:m.news.length≤1000000):Tri Tryz.prog 31 #[.pointer (some ⟨X,0,none⟩)] [Xe X c cv V Pb W m.x m.news]
    fun r L=>∃ ad cap,r=.tuple ⟨[.agg ⟨[.int .i64 m.x.rc, .int .u64 (m.x.rv:Int)]⟩, .slice ad m.news.length cap]⟩∧L=[Xe X c cv V Pb W m.x m.news,Row (.slice ad m.news.length cap) 22 1 m.news.length (u64s m.news)]:=xresult_t X V Pb W c cv m hn
attribute [irreducible] Xe
end Go.Proofs.YthmbgodcpgkkeaaGreat
namespace Go.Proofs.YthmbgodcpgkkeaaGreat
theorem minI_le {a b:Int} {n:Int} (ha:0≤a) (hb:0≤b) (hn:b≤n):0≤minI a b∧minI a b≤n:=by
  unfold minI;split<;>omega
theorem setStep_nt' {c:Cfg} (hc:Small c) (room:Nat) (names:List Nat) (k bk:Nat) (s:SetS) (h:0≤s.nt∧s.nt≤64):0≤(setStep c room names k bk s).nt∧(setStep c room names k bk s).nt≤64:=by
  have:=hc.b1
  unfold setStep
  split
  · exact h
  · split
    · unfold relP
      split<;>(dsimp only;omega)
    · exact h
theorem setGo_ok {c:Cfg} (hc:Small c) (room:Nat) (names:List Nat):∀ (l:List Nat) (k:Nat) (s:SetS),0≤s.nt∧s.nt≤64→
    (0≤(setGo c room names k l s).nt∧(setGo c room names k l s).nt≤64)∧(setGo c room names k l s).kept≤s.kept+l.length∧(setGo c room names k l s).puts.length≤s.puts.length+2 * l.length
  | [],k,s,h=>⟨h,Nat.le_refl _,Nat.le_refl _⟩
  | bk::l,k,s,h=>by
    have h1:=setGo_ok hc room names l (k+1) (setStep c room names k bk s) (setStep_nt' hc room names k bk s h)
    have h2:=setStep_len c room names k bk s
    rw [setGo,List.length_cons]
    exact ⟨h1.1,by omega,by omega⟩
end Go.Proofs.YthmbgodcpgkkeaaGreat
