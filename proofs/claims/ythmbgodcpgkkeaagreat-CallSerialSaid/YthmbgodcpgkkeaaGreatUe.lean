/-
  A call that nobody disturbs: its steps.
-/
import Derived.Test.YthmbgodcpgkkeaaGreatUd
namespace Go.Proofs.YthmbgodcpgkkeaaGreat
set_option maxRecDepth 100000
section
variable {c:Cfg} {p:Cp} {progs:Progs} {m:Cm} {o:Out}
theorem tell_go (hn:m.s.next≠13):m.tell c p progs o=Cm.go c p progs { m with s:=m.s.touch } o:=by
  unfold Cm.tell
  rw [if_neg hn]
theorem go_0 (hn:m.s.next=0):Cm.go c p progs m o=if m.s.given+1=4 then { m with s:={ m.s with given:=m.s.given+1,next:=1 } } else { m with s:={ m.s with given:=m.s.given+1 } }:=by
  unfold Cm.go
  rw [if_pos hn]
theorem go_1 (hn:m.s.next=1):Cm.go c p progs m o={ m with s:={ m.s with asked:=true,next:=2 } }:=by
  unfold Cm.go
  rw [if_neg (by omega),if_pos hn]
theorem go_2 (hn:m.s.next=2):Cm.go c p progs m o={ m with s:=Cs.looks { m.s with now:=o.was } (rightB (p.code progs)) }:=by
  unfold Cm.go
  rw [if_neg (by omega),if_neg (by omega),if_pos hn]
theorem go_3 (hn:m.s.next=3):Cm.go c p progs m o=Cm.opened c p progs m o.was:=by
  unfold Cm.go
  rw [if_neg (by omega),if_neg (by omega),if_neg (by omega),if_pos hn]
theorem go_5 (hn:m.s.next=5):Cm.go c p progs m o=Cm.answer c p progs m o.was.val:=by
  unfold Cm.go
  rw [if_neg (by omega),if_neg (by omega),if_neg (by omega),if_neg (by omega),if_pos (by omega)]
theorem go_11 (hn:m.s.next=11):Cm.go c p progs m o=Cm.swapped c p m o.ok:=by
  unfold Cm.go
  rw [if_neg (by omega),if_neg (by omega),if_neg (by omega),if_neg (by omega),if_neg (by omega),if_pos hn]
theorem go_w (hn:m.s.next=8∨m.s.next=9∨m.s.next=10∨m.s.next=12):Cm.go c p progs m o=Cm.worked c p progs m o:=by
  unfold Cm.go
  rw [if_neg (by omega),if_neg (by omega),if_neg (by omega),if_neg (by omega),if_neg (by omega),if_neg (by omega)]
theorem tell_0 (hn:m.s.next=0):m.tell c p progs o=if m.s.touch.given+1=4 then { m with s:={ m.s.touch with given:=m.s.touch.given+1,next:=1 } } else { m with s:={ m.s.touch with given:=m.s.touch.given+1 } }:=(tell_go (by omega)).trans (go_0 (m:={ m with s:=m.s.touch }) hn)
theorem tell_1 (hn:m.s.next=1):m.tell c p progs o={ m with s:={ m.s.touch with asked:=true,next:=2 } }:=(tell_go (by omega)).trans (go_1 (m:={ m with s:=m.s.touch }) hn)
theorem tell_2 (hn:m.s.next=2):m.tell c p progs o={ m with s:=Cs.looks { m.s.touch with now:=o.was } (rightB (p.code progs)) }:=(tell_go (by omega)).trans (go_2 (m:={ m with s:=m.s.touch }) hn)
theorem tell_3 (hn:m.s.next=3):m.tell c p progs o=Cm.opened c p progs { m with s:=m.s.touch } o.was:=(tell_go (by omega)).trans (go_3 (m:={ m with s:=m.s.touch }) hn)
theorem tell_5 (hn:m.s.next=5):m.tell c p progs o=Cm.answer c p progs { m with s:=m.s.touch } o.was.val:=(tell_go (by omega)).trans (go_5 (m:={ m with s:=m.s.touch }) hn)
theorem tell_11 (hn:m.s.next=11):m.tell c p progs o=Cm.swapped c p { m with s:=m.s.touch } o.ok:=(tell_go (by omega)).trans (go_11 (m:={ m with s:=m.s.touch }) hn)
theorem tell_w (hn:m.s.next=8∨m.s.next=9∨m.s.next=10∨m.s.next=12):m.tell c p progs o=Cm.worked c p progs { m with s:=m.s.touch } o:=(tell_go (by omega)).trans (go_w (m:={ m with s:=m.s.touch }) hn)
theorem ask_w (hn:m.s.next=8∨m.s.next=9∨m.s.next=10∨m.s.next=12):m.ask c p=m.work.ask c:=by
  unfold Cm.ask
  rw [if_neg (by omega),if_neg (by omega),if_neg (by omega),if_neg (by omega),if_neg (by omega),if_pos (by omega)]
end
section
variable {q:Cq} {t:Nat} {cs:List Cell} {cr:List BRow} {m:Cm}
theorem CI.upd (hd:m.s.did=false) (h:CI q t cs cr m):CI q t cs (if m.rows.length=0 then cr else m.rows) m:=by
  have e:(if m.rows.length=0 then cr else m.rows)=cr:=if_pos (by rw [rows_nil hd];rfl)
  rw [e];exact h
theorem CQ.sz1 (hq:CQ q):(q.cs1.length:Int)=q.c.f17:=by
  unfold Cq.cs1
  rw [wantC_len hq.hc hq.sz hq.who _ hq.args];exact hq.sz
theorem CQ.cap5 (_hq:CQ q):q.B+5≤q.T:=by
  unfold Cq.T;omega
theorem CQ.reads (hq:CQ q) (ho:onlyB q.code=true) (v1:Nat) (hv:v1=q.n):∃ g p1,RdB q g p1∧RdI q.c q.V g q.code q.ms q.p.args (Vw.new q.p.who q.n) p1 0 (exStart q.c q.p q.progs v1):=by
  subst hv
  have hc:=hq.hc
  have hm:=hq.mid.mem
  have hr:rightB q.code=true:=by
    unfold onlyB at ho
    rw [Bool.and_eq_true] at ho
    exact ho.2
  have hcap:q.c.cap=q.c.threads * (q.c.writes+3)+3 * q.c.limit+2:=rfl
  have hlm:q.c.limit=q.c.threads * (q.c.writes+1):=rfl
  have ht0:=hc.t0;have hw0:=hc.w0
  have hlim:=hc.limit
  have hmul:1 * q.c.writes≤q.c.threads * q.c.writes:=Int.mul_le_mul_of_nonneg_right ht0 hw0
  rw [Int.mul_add] at hcap hlm
  have hls:=hq.mid.lsz
  have hfz:=hm.rep.fsz;have hlz:=hm.rep.lsz;have hb1:=hc.b1
  have hp:=pool1_eq (cs:=q.cs) (n:=q.n) (fs:=q.fs) (ls:=q.ls) hc
  have e1:(pool1 q.c q.cs q.n q.fs.length q.ls).nt=(q.fs.length:Int):=by rw [hp]
  have e2:(pool1 q.c q.cs q.n q.fs.length q.ls).nl=(q.ls.length:Int):=by rw [hp]
  have e3:(pool1 q.c q.cs q.n q.fs.length q.ls).wt=(q.fs.length:Int):=by rw [hp]
  have e4:(pool1 q.c q.cs q.n q.fs.length q.ls).wl=(q.ls.length:Int):=by rw [hp]
  have hf:Fits q.c q.c.cap.toNat ⟨q.p.who,q.fs.length,q.ls.length,q.n,0,q.fs.length,q.ls.length⟩:=⟨hc,by dsimp only;omega,by dsimp only;omega⟩
  have hS:Start q.c [] (pool1 q.c q.cs q.n q.fs.length q.ls).nt (pool1 q.c q.cs q.n q.fs.length q.ls).nl:=⟨hc,by have:=hq.fu.2;omega,Nat.zero_le _,by rw [e1];omega,by rw [e2];omega⟩
  refine ⟨⟨q.p.who,q.fs.length,q.ls.length,q.n,0,q.fs.length,q.ls.length⟩,pool1 q.c q.cs q.n q.fs.length q.ls,⟨hf,hS,rfl,rfl⟩, ?_⟩
  refine RdI.init ho hf hS (fun _=>⟨?_,fun e=>(by cases e),fun _=>⟨rfl,rfl,fun e=>(by cases e)⟩,Xw.init _ _ _ (Vgo.new _ _)⟩) rfl rfl 0
  exact XI.init hf hr hS hq.fu.1 _ _ rfl rfl hq.args ⟨Int.le_refl _,by show (0:Int)≤1000;decide⟩ (by show (1:Int)≠2;decide) rfl e3 e4 (.inl rfl) rfl (Nat.le_refl _) hm.rep (Pk.nil _ _) e1 e2 rfl rfl
set_option maxHeartbeats 1000000 in
theorem CI.step (hq:CQ q) (h:CI q t cs cr m) (hak:(m.ask q.c q.p).2=true):CI q (t+1) (doMem cs q.p.who (m.ask q.c q.p).1) (if (m.tell q.c q.p q.progs (doOut cs q.p.who (m.ask q.c q.p).1)).rows.length=0 then cr else (m.tell q.c q.p q.progs (doOut cs q.p.who (m.ask q.c q.p).1)).rows) (m.tell q.c q.p q.progs (doOut cs q.p.who (m.ask q.c q.p).1)):=by
  have hc:=hq.hc
  have hw8:=hq.w8
  have hf:=f717 hc
  have hl0:=hq.sz
  have hl1:=hq.sz1
  have hcp5:=hq.cap5
  have hB:q.B=8+q.tq.K+q.c.threads.toNat * q.tq.W:=rfl
  have hT:q.T=q.B+5 * q.c.cap.toNat+5:=rfl
  have hcap:=hc.cap
  have hat0:q.c.at 0 0 0=0:=rfl
  have hw0:(q.c.what 0).1=0:=by
    unfold Cfg.what
    rw [if_neg (by omega),if_pos rfl]
  cases h with
  | args j hr ho hn hg hj has hcs hcr ht =>
    have hN:=wantN_cell hc hl0 hq.who q.p.args (a:=0) ⟨Int.le_refl _,by omega⟩ j (by omega)
    have hin:=own_in (c:=q.c) (a:=q.c.at 2 q.p.who j) (by rw [atArg hc hq.who hj];dsimp only;omega)
    have ea:m.ask q.c q.p=(⟨1,q.c.at 2 q.p.who j,⟨0,0⟩,⟨q.p.args.getD j 0,0⟩⟩,true):=by
      unfold Cm.ask
      rw [if_pos hn,hg,Int.toNat_natCast]
    rw [ea]
    have g1:doMem cs q.p.who ⟨1,q.c.at 2 q.p.who j,⟨0,0⟩,⟨q.p.args.getD j 0,0⟩⟩=wantN q.c q.cs q.p.who q.p.args (j+1):=by
      rw [do_store hw8 (by omega) (by rw [hcs,hN.1];omega),hcs];rfl
    dsimp only
    rw [g1,tell_0 hn]
    have hg':m.s.touch.given=(j:Int):=hg
    rw [hg']
    by_cases e:(j:Int)+1=4
    · rw [if_pos e]
      refine CI.upd rfl (.ask hr ho rfl ?_ hcr (by omega))
      rw [show j+1=4 by omega]
    · rw [if_neg e]
      exact CI.upd rfl (.args (j+1) hr ho hn (by dsimp only;omega) (by omega) has rfl hcr (by omega))
  | ask hr ho hn hcs hcr ht =>
    have hN:=wantN_cell hc hl0 hq.who q.p.args (a:=0) ⟨Int.le_refl _,by omega⟩ 4 (Nat.le_refl _)
    have hin:=own_in (c:=q.c) (a:=q.c.at 1 q.p.who 0) (by rw [atAnn hc hq.who];dsimp only;omega)
    have ea:m.ask q.c q.p=(⟨1,q.c.at 1 q.p.who 0,⟨0,0⟩,⟨q.pn,q.p.tag⟩⟩,true):=by
      unfold Cm.ask
      rw [if_neg (by omega),if_pos hn];rfl
    rw [ea]
    have g1:doMem cs q.p.who ⟨1,q.c.at 1 q.p.who 0,⟨0,0⟩,⟨q.pn,q.p.tag⟩⟩=q.cs1:=by
      rw [do_store hw8 (by omega) (by rw [hcs,hN.1];omega),hcs];rfl
    dsimp only
    rw [g1,tell_1 hn]
    exact CI.upd rfl (.look hr ho rfl rfl rfl hcr (by omega))
  | look hr ho hn has hcs hcr ht =>
    subst hcs
    have ea:m.ask q.c q.p=(mop 0 0 0,true):=by
      unfold Cm.ask
      rw [if_neg (by omega),if_neg (by omega),if_pos hn];rfl
    rw [ea]
    obtain ⟨g1,g2⟩:=load_out (cs:=q.cs1) hw8 (a:=0) (Int.le_refl _) (by omega)
    dsimp only
    rw [g1,g2,tell_2 hn]
    have hr':rightB (q.p.code q.progs)=true:=hr
    rw [hr']
    unfold Cs.looks
    rw [if_pos rfl]
    exact CI.upd rfl (.open_ hr ho rfl has rfl rfl hcr (by omega))
  | open_ hr ho hn has hnow hcs hcr ht =>
    subst hcs
    have hown:0≤m.s.owner q.c∧m.s.owner q.c<q.c.threads:=by
      have:=hc.t0
      unfold Cs.owner
      exact ⟨Int.emod_nonneg _ (by omega),Int.emod_lt_of_pos _ (by omega)⟩
    have ea:m.ask q.c q.p=(mop 0 (q.c.at 4 (m.s.owner q.c) 0) 0,true):=by
      unfold Cm.ask
      rw [if_neg (by omega),if_neg (by omega),if_neg (by omega),if_pos hn]
    have hw4:=at_own hc (kind:=4) (i:=m.s.owner q.c) (k:=0) (by decide) hown (by unfold Cfg.cnt;simp)
    have hi4:=own_in (c:=q.c) (a:=q.c.at 4 (m.s.owner q.c) 0) (by rw [hw4];dsimp only;omega)
    rw [ea]
    obtain ⟨g1,g2⟩:=load_out (cs:=q.cs1) hw8 (a:=q.c.at 4 (m.s.owner q.c) 0) (by omega) (by omega)
    have hv:(cellI q.cs1 (q.c.at 4 (m.s.owner q.c) 0)).val=0:=by
      unfold Cq.cs1
      rw [wantC_ne hc hl0 hq.who _ _ _ (by omega) (by omega) (by rw [hw4];dsimp only;omega)]
      exact hq.mid.opens _ hown
    have hem:m.tell q.c q.p q.progs ⟨cellI q.cs1 (q.c.at 4 (m.s.owner q.c) 0),true⟩={ m with s:={ m.s.touch with next:=5 } }:=by
      rw [tell_3 hn]
      unfold Cm.opened
      rw [if_neg (fun e=>by dsimp only at e;rw [e] at hv;cases hv)]
      unfold Cm.try_
      exact if_pos has
    dsimp only
    rw [g1,g2,hem]
    exact CI.upd rfl (.tag hr ho rfl hnow rfl hcr (by omega))
  | tag hr ho hn hnow hcs hcr ht =>
    subst hcs
    have hin:=in7 (c:=q.c) (kind:=7) (by decide) hq.who
    have ea:m.ask q.c q.p=(mop 0 (q.c.at 7 q.p.who 0) 0,true):=by
      unfold Cm.ask
      rw [if_neg (by omega),if_neg (by omega),if_neg (by omega),if_neg (by omega),if_pos (by omega),hn];rfl
    obtain ⟨h0,h1,h7⟩:=tx_in hc hl1 (at_in hc (kind:=7) (i:=q.p.who) (j:=0) (by decide) hin)
    rw [ea]
    obtain ⟨g1,g2⟩:=load_out (cs:=q.cs1) hw8 (a:=q.c.at 7 q.p.who 0) h0 h1
    have hv:cellI q.cs1 (q.c.at 7 q.p.who 0)=cellI q.cs (q.c.at 7 q.p.who 0):=by
      unfold Cq.cs1
      exact wantC_ne hc hl0 hq.who _ _ _ h0 (by omega) (by omega)
    have hsq:(cellI q.cs1 0).seq=q.n:=by
      unfold Cq.cs1
      rw [wantC_ne hc hl0 hq.who _ _ _ (Int.le_refl _) (by omega) (by omega)]
      exact hq.mid.now
    have ho':onlyB (q.p.code q.progs)=false:=ho
    have hnow':({ m with s:=m.s.touch }:Cm).s.now.seq=q.n:=by show m.s.now.seq=q.n;rw [hnow];exact hsq
    dsimp only
    rw [g1,g2,hv]
    by_cases e:q.c.last≤q.n
    · have hem:m.tell q.c q.p q.progs ⟨cellI q.cs (q.c.at 7 q.p.who 0),true⟩={ m with s:=m.s.touch.end 45 0 true }:=by
        rw [tell_5 hn]
        unfold Cm.answer
        rw [if_neg (by show ¬ m.s.next=6;omega),if_neg (by show ¬ m.s.next=7;omega),if_neg hq.tagne,hnow',ho',if_neg (show ¬ (false=true) by decide),if_pos e]
      rw [hem]
      exact CI.upd rfl (.done rfl (.last hr ho e rfl rfl rfl hcr rfl) (by omega))
    · have hem:m.tell q.c q.p q.progs ⟨cellI q.cs (q.c.at 7 q.p.who 0),true⟩={ m with s:={ m.s.touch with next:=9 },work:=.bd (Bm.new q.p.who q.n) }:=by
        rw [tell_5 hn]
        unfold Cm.answer
        rw [if_neg (by show ¬ m.s.next=6;omega),if_neg (by show ¬ m.s.next=7;omega),if_neg hq.tagne,hnow',ho',if_neg (show ¬ (false=true) by decide),if_neg e]
      rw [hem]
      exact CI.upd rfl (.build 0 (Bm.new q.p.who q.n) hr ho (by omega) rfl hnow rfl rfl (Binv.new hc q.p.who q.n) (BI.new hq.tok) hcr (by omega))
  | build k b hr ho hlt hn hnow hwk hs hal hb hcr ht =>
    have ea:m.ask q.c q.p=b.ask q.c:=by rw [ask_w (.inr (.inl hn)),hwk];rfl
    rw [ea] at hak⊢
    have hb2:=hb.step hq.tok hal.gen.args hak
    have hbd:=hb2.bound hq.fu.1
    have hbd:k+1≤q.tq.K+q.c.threads.toNat * q.tq.W:=hbd
    have hal2:Binv q.c q.progs (b.tell q.c q.c.cap.toNat q.progs (doOut cs q.p.who (b.ask q.c).1)):=hal.tell hc ⟨hq.fu.1,by have:=hq.fu.2;omega⟩ _
    have hb2:BI q.tq (k+1) (doMem cs q.p.who (b.ask q.c).1) (b.tell q.c q.c.cap.toNat q.progs (doOut cs q.p.who (b.ask q.c).1)):=hb2
    have hem0:∀ o,m.tell q.c q.p q.progs o=Cm.built q.c q.p { m with s:=m.s.touch,work:=.bd (b.tell q.c q.c.cap.toNat q.progs o) } (b.tell q.c q.c.cap.toNat q.progs o):=fun o=>by
      rw [tell_w (.inr (.inl hn))]
      unfold Cm.worked
      rw [show ({ m with s:=m.s.touch }:Cm).work=m.work from rfl,hwk]
      rfl
    rw [hem0]
    generalize b.tell q.c q.c.cap.toNat q.progs (doOut cs q.p.who (b.ask q.c).1)=b2 at hb2 hal2
    generalize doMem cs q.p.who (b.ask q.c).1=cs2 at hb2
    by_cases e0:b2.b.s=0
    · have hem:Cm.built q.c q.p { m with s:=m.s.touch,work:=.bd b2 } b2={ m with s:=m.s.touch,work:=.bd b2 }:=by
        unfold Cm.built
        rw [if_pos e0]
      rw [hem]
      exact CI.upd rfl (.build (k+1) b2 hr ho hlt hn hnow rfl e0 hal2 hb2 hcr (by omega))
    · have hak2:(b2.ask q.c).2=false:=by
        unfold Bm.ask
        rw [if_pos e0]
      obtain ⟨hs1,r,ms2,hwb⟩:=WB.of hq hr hlt hb2 hak2
      have hsq:m.s.now.seq=q.n:=by
        rw [hnow]
        unfold Cq.cs1
        rw [wantC_ne hc hl0 hq.who _ _ _ (Int.le_refl _) (by omega) (by omega)]
        exact hq.mid.now
      have hE:((q.E b2).length:Int)≤q.c.cap:=hwb.len
      have hsm:Sm.new q.c q.p.who (m.s.touch.now.seq+1) (entriesOf q.c b2.e.puts)=⟨q.p.who,q.n+1,q.E b2,0⟩:=by
        unfold Sm.new
        rw [show m.s.touch.now.seq=q.n from hsq,Nat.min_eq_left (show (entriesOf q.c b2.e.puts).length≤q.c.cap.toNat by have:((entriesOf q.c b2.e.puts).length:Int)≤q.c.cap:=hE;omega),List.take_length]
        rfl
      have hem:Cm.built q.c q.p { m with s:=m.s.touch,work:=.bd b2 } b2={ m with s:={ m.s.touch with oc:=r.rc,ov:=r.rv,next:=10 },b:=some b2,work:=.sc ⟨q.p.who,q.n+1,q.E b2,0⟩ }:=by
        unfold Cm.built
        rw [if_neg e0,if_neg (by omega),hwb.rows,List.foldl_cons,List.foldl_nil]
        unfold Cm.row
        rw [if_pos hwb.who,←hsm]
      rw [hem]
      exact CI.upd rfl (.write 0 b2 cs2 r ms2 hr ho hlt rfl hnow rfl rfl (by omega) hwb rfl rfl rfl hcr (by omega))
  | write i b csb r ms2 hr ho hlt hn hnow hb hwk hi hwb hcs hoc hov hcr ht =>
    have hE:((q.E b).length:Int)≤q.c.cap:=hwb.len
    have ea:m.ask q.c q.p=(⟨1,scrA q.c q.p.who (q.E b).length i,⟨0,0⟩,scrV (q.n+1) (q.E b) i⟩,true):=by
      rw [ask_w (.inr (.inr (.inl hn))),hwk]
      exact scr_ask q.c q.p.who (q.n+1) (q.E b) hi
    obtain ⟨w1,w2⟩:=scrA_what hc hq.who hE hi
    have hin:=own_in (c:=q.c) (a:=scrA q.c q.p.who (q.E b).length i) (by omega)
    have hlb:(csb.length:Int)=q.c.f17:=by rw [hwb.mb.e.1];exact hl1
    rw [ea]
    have g1:doMem cs q.p.who ⟨1,scrA q.c q.p.who (q.E b).length i,⟨0,0⟩,scrV (q.n+1) (q.E b) i⟩=scrM q.c q.p.who (q.n+1) (q.E b) csb (i+1):=by
      rw [do_store hw8 (by omega) (by rw [hcs,scrM_len];omega),hcs];rfl
    have hst:Sm.tell ⟨q.p.who,q.n+1,q.E b,i⟩=⟨q.p.who,q.n+1,q.E b,i+1⟩:=by
      unfold Sm.tell
      rw [if_neg (by dsimp only;omega)]
    have hem0:∀ o,m.tell q.c q.p q.progs o=Cm.after q.c q.p q.progs { m with s:=m.s.touch,work:=.sc ⟨q.p.who,q.n+1,q.E b,i+1⟩ }:=fun o=>by
      rw [tell_w (.inr (.inr (.inl hn)))]
      unfold Cm.worked
      rw [show ({ m with s:=m.s.touch }:Cm).work=m.work from rfl,hwk,←hst]
      rfl
    dsimp only
    rw [g1,hem0]
    by_cases e:(q.E b).length+1<i+1
    · have hem:Cm.after q.c q.p q.progs { m with s:=m.s.touch,work:=.sc ⟨q.p.who,q.n+1,q.E b,i+1⟩ }={ m with s:={ m.s.touch with next:=11 },work:=.sc ⟨q.p.who,q.n+1,q.E b,i+1⟩ }:=by
        unfold Cm.after
        dsimp only
        unfold Sm.over
        rw [if_pos (decide_eq_true e)]
      rw [hem]
      have e':i+1=(q.E b).length+2:=by omega
      exact CI.upd rfl (.swap b csb r ms2 hr ho hlt rfl hnow hb hwb (by rw [e']) hoc hov hcr (by omega))
    · have hem:Cm.after q.c q.p q.progs { m with s:=m.s.touch,work:=.sc ⟨q.p.who,q.n+1,q.E b,i+1⟩ }={ m with s:=m.s.touch,work:=.sc ⟨q.p.who,q.n+1,q.E b,i+1⟩ }:=by
        unfold Cm.after
        dsimp only
        unfold Sm.over
        rw [if_neg (by simpa using e)]
      rw [hem]
      exact CI.upd rfl (.write (i+1) b csb r ms2 hr ho hlt hn hnow hb rfl (by omega) hwb rfl hoc hov hcr (by omega))
  | swap b csb r ms2 hr ho hlt hn hnow hb hwb hcs hoc hov hcr ht =>
    have hE:((q.E b).length:Int)≤q.c.cap:=hwb.len
    obtain ⟨w1,w2,w3,w4,w5,w6,w7⟩:=hwb.w hq
    have hsq:m.s.now.seq=q.n:=by
      rw [hnow]
      unfold Cq.cs1
      rw [wantC_ne hc hl0 hq.who _ _ _ (Int.le_refl _) (by omega) (by omega)]
      exact hq.mid.now
    have ea:m.ask q.c q.p=(⟨2,0,m.s.now,⟨q.p.who.toNat,q.n+1⟩⟩,true):=by
      unfold Cm.ask
      rw [if_neg (by omega),if_neg (by omega),if_neg (by omega),if_neg (by omega),if_neg (by omega),if_neg (by omega),if_pos hn,hsq];rfl
    have hlb:(csb.length:Int)=q.c.f17:=by rw [hwb.mb.e.1];exact hl1
    rw [ea]
    obtain ⟨g1,g2⟩:=do_swap (cs:=cs) hw8 (a:=0) (Int.le_refl _) (by rw [hcs,scrM_len];omega) (o:=m.s.now) (by rw [hcs,w7,hnow]) ⟨q.p.who.toNat,q.n+1⟩
    have hem:m.tell q.c q.p q.progs ⟨m.s.now,true⟩={ s:={ m.s.touch with next:=12,did:=true },work:=Wk.hp (Hm.own q.c q.p.who (m.s.touch.now.seq+1) (entriesOf q.c b.e.puts)),b:=some b }:=by
      rw [tell_11 hn]
      unfold Cm.swapped
      rw [show ({ m with s:=m.s.touch }:Cm).b=m.b from rfl,hb]
      dsimp only
      rw [if_pos rfl]
    dsimp only
    rw [g1,g2,hem]
    have hrows:Cm.rows ({ s:={ m.s.touch with next:=12,did:=true },work:=Wk.hp (Hm.own q.c q.p.who (m.s.touch.now.seq+1) (entriesOf q.c b.e.puts)),b:=some b }:Cm)=b.rows:=by
      unfold Cm.rows
      rw [if_pos rfl]
    have hcr2:(if (Cm.rows ({ s:={ m.s.touch with next:=12,did:=true },work:=Wk.hp (Hm.own q.c q.p.who (m.s.touch.now.seq+1) (entriesOf q.c b.e.puts)),b:=some b }:Cm)).length=0 then cr else Cm.rows ({ s:={ m.s.touch with next:=12,did:=true },work:=Wk.hp (Hm.own q.c q.p.who (m.s.touch.now.seq+1) (entriesOf q.c b.e.puts)),b:=some b }:Cm))=b.rows:=by
      rw [hrows,if_neg (by rw [hwb.rows];simp)]
    rw [hcr2]
    have hhs:HS q.c q.p.who (q.n+1) (q.E b) (q.W b csb) 0 (Hm.own q.c q.p.who (m.s.touch.now.seq+1) (entriesOf q.c b.e.puts)) (setOf cs 0 ⟨q.p.who.toNat,q.n+1⟩):=by
      unfold Hm.own
      rw [show m.s.touch.now.seq=q.n from hsq]
      refine entry_hs (h:=⟨q.p.who,q.p.who,q.n+1,entriesOf q.c b.e.puts,0,0,-1,⟨0,0⟩,0⟩) hc w1 hwb.keys ⟨rfl,rfl,rfl,rfl⟩ (Nat.zero_le _) ?_ (Nat.zero_le _)
      rw [List.take_zero,hcs]
      exact EqS.refl _
    exact .help _ b csb r ms2 0 hr ho hlt rfl rfl hwb hhs hoc hov rfl (by omega)
  | help h b csb r ms2 th hr ho hlt hn hwk hwb hhs hoc hov hcr ht =>
    have hE:((q.E b).length:Int)≤q.c.cap:=hwb.len
    obtain ⟨w1,w2,w3,w4,w5,w6,w7⟩:=hwb.w hq
    have hlb:(csb.length:Int)=q.c.f17:=by rw [hwb.mb.e.1];exact hl1
    have ea:m.ask q.c q.p=h.ask q.c:=by rw [ask_w (.inr (.inr (.inr hn))),hwk];rfl
    obtain ⟨k1,k2⟩:=hhs.step hc hq.who w1 hwb.keys hwb.nod w3 fun a ha=>by
      rw [w2 a ha]
      have:=hwb.mb.v.q a ha
      omega
    have hem0:∀ o,m.tell q.c q.p q.progs o=Cm.helped q.c q.p q.progs { m with s:=m.s.touch,work:=.hp (h.tell q.c o) } (h.tell q.c o):=fun o=>by
      rw [tell_w (.inr (.inr (.inr hn)))]
      unfold Cm.worked
      rw [show ({ m with s:=m.s.touch }:Cm).work=m.work from rfl,hwk]
      rfl
    rw [ea,hem0]
    generalize h.tell q.c (doOut cs q.p.who (h.ask q.c).1)=h2 at k2
    rcases k2 with k2|⟨k2,k3,k4⟩
    rotate_left
    · have k4:th≤4 * (q.E b).length:=k4
      have hem:Cm.helped q.c q.p q.progs { m with s:=m.s.touch,work:=.hp h2 } h2={ m with s:=m.s.touch.end m.s.touch.oc m.s.touch.ov false,work:=.hp h2 }:=by
        unfold Cm.helped
        rw [if_neg (show ¬ h2.next≠8 by omega)]
        exact if_pos hn
      rw [hem]
      exact CI.upd rfl (.done rfl (hwb.fin hq hr ho hlt k3 hoc hov rfl (hcr.trans hwb.rows)) (by omega))
    · have hne:h2.next≠8:=by
        cases k2 with
        | shut _ e _ _=>omega
        | at_ _ _ _ _ _ _ e=>omega
      have hem:Cm.helped q.c q.p q.progs { m with s:=m.s.touch,work:=.hp h2 } h2={ m with s:=m.s.touch,work:=.hp h2 }:=by
        unfold Cm.helped
        rw [if_pos hne]
      rw [hem]
      exact CI.upd rfl (.help h2 b csb r ms2 (th+1) hr ho hlt hn rfl hwb k2 hoc hov hcr (by omega))
  | lookR hro hn has hcs hcr ht =>
    subst hcs
    have ea:m.ask q.c q.p=(mop 0 0 0,true):=by
      unfold Cm.ask
      rw [if_neg (by omega),if_neg (by omega),if_pos hn];rfl
    rw [ea]
    obtain ⟨g1,g2⟩:=load_out (cs:=q.cs) hw8 (a:=0) (Int.le_refl _) (by omega)
    dsimp only
    rw [g1,g2]
    cases hr:rightB q.code with
    | false =>
      have hr':rightB (q.p.code q.progs)=false:=hr
      have hem:m.tell q.c q.p q.progs ⟨cellI q.cs 0,true⟩={ m with s:=Cs.end { m.s.touch with now:=cellI q.cs 0,next:=3 } 30 0 true }:=by
        rw [tell_2 hn,hr']
        unfold Cs.looks
        rw [if_neg (by decide)]
      rw [hem]
      exact CI.upd rfl (.done rfl (.bad hr rfl rfl rfl hcr rfl) (by omega))
    | true =>
      have hr':rightB (q.p.code q.progs)=true:=hr
      have ho:onlyB q.code=true:=hro.resolve_left (by rw [hr];decide)
      have hem:m.tell q.c q.p q.progs ⟨cellI q.cs 0,true⟩={ m with s:={ m.s.touch with now:=cellI q.cs 0,next:=3 } }:=by
        rw [tell_2 hn,hr']
        unfold Cs.looks
        rw [if_pos rfl]
      rw [hem]
      exact CI.upd rfl (.openR ho rfl has rfl rfl hcr (by omega))
  | openR ho hn has hnow hcs hcr ht =>
    subst hcs
    have hown:0≤m.s.owner q.c∧m.s.owner q.c<q.c.threads:=by
      have:=hc.t0
      unfold Cs.owner
      exact ⟨Int.emod_nonneg _ (by omega),Int.emod_lt_of_pos _ (by omega)⟩
    have ea:m.ask q.c q.p=(mop 0 (q.c.at 4 (m.s.owner q.c) 0) 0,true):=by
      unfold Cm.ask
      rw [if_neg (by omega),if_neg (by omega),if_neg (by omega),if_pos hn]
    have hw4:=at_own hc (kind:=4) (i:=m.s.owner q.c) (k:=0) (by decide) hown (by unfold Cfg.cnt;simp)
    have hi4:=own_in (c:=q.c) (a:=q.c.at 4 (m.s.owner q.c) 0) (by rw [hw4];dsimp only;omega)
    rw [ea]
    obtain ⟨g1,g2⟩:=load_out (cs:=q.cs) hw8 (a:=q.c.at 4 (m.s.owner q.c) 0) (by omega) (by omega)
    have hv:(cellI q.cs (q.c.at 4 (m.s.owner q.c) 0)).val=0:=hq.mid.opens _ hown
    have hsq:m.s.now.seq=q.n:=by rw [hnow];exact hq.mid.now
    have hem:m.tell q.c q.p q.progs ⟨cellI q.cs (q.c.at 4 (m.s.owner q.c) 0),true⟩={ m with s:=Cs.read { m.s.touch with next:=8 } (exStart q.c q.p q.progs m.s.now.seq).x,work:=.ex (exStart q.c q.p q.progs m.s.now.seq) }:=by
      rw [tell_3 hn]
      unfold Cm.opened
      rw [if_neg (fun e=>by dsimp only at e;rw [e] at hv;cases hv)]
      unfold Cm.try_
      rw [if_neg (by show ¬ m.s.asked=true;rw [has];decide)]
      rfl
    dsimp only
    rw [g1,g2,hem]
    obtain ⟨g,p1,hg,hrd⟩:=hq.reads ho m.s.now.seq hsq
    generalize exStart q.c q.p q.progs m.s.now.seq=e at hrd
    rcases hrd.s01 with ⟨e1,e2⟩|⟨e1,e2⟩
    · have hem:Cs.read { m.s.touch with next:=8 } e.x={ m.s.touch with next:=8 }:=by
        unfold Cs.read
        rw [if_neg (by omega),if_neg (by omega)]
      rw [hem]
      exact CI.upd rfl (.read 0 e g p1 ho rfl rfl hg hrd e2 hq.mid.mem.mem (EqS.refl _) hcr (by omega))
    · have hem:Cs.read { m.s.touch with next:=8 } e.x=Cs.end { m.s.touch with next:=8 } e.x.rc e.x.rv true:=by
        unfold Cs.read
        rw [if_pos e1]
      rw [hem]
      exact CI.upd rfl (.done rfl (.read ho (hrd.fin ho e2).2 rfl hcr (EqS.refl _)) (by omega))
  | read k e g p1 ho hn hwk hg hrd hak2 hm he hcr ht =>
    have ea:m.ask q.c q.p=e.ask q.c:=by rw [ask_w (.inl hn),hwk];rfl
    obtain ⟨k1,k2⟩:=hrd.step ho hg.fits hg.S hak2 hm (by rw [hg.sq];exact Nat.le_refl _) (by rw [hg.who];exact hq.who) 0
    have hst:=hrd.steps hq.fu.1
    rw [if_pos hak2] at hst
    have hvw:=hrd.who ho
    have hs0:e.x.s=0:=by
      rcases hrd.s01 with ⟨e1,_⟩|⟨_,e2⟩
      · exact e1
      · rw [hak2] at e2;cases e2
    rw [hg.who] at k1 k2 hvw
    have hW:q.tq.W=7+3 * q.c.fuel.toNat:=rfl
    have hthr:q.tq.W≤q.c.threads.toNat * q.tq.W:=Nat.le_mul_of_pos_left _ (by have:=hc.t0;omega)
    have hes:EqS q.c (doMem cs q.p.who (e.ask q.c).1) q.cs:=by
      have ea:e.ask q.c=e.v.ask q.c:=by unfold Xm.ask;rw [if_neg (by omega)]
      rw [ea]
      have hlc:(cs.length:Int)=q.c.f17:=by rw [he.len];exact hl0
      rcases e.v.ask_op q.c with ⟨x,ex⟩|⟨a,ex⟩
      · rw [ex,hvw]
        have hw3:=at_own hc (kind:=3) (i:=q.p.who) (k:=0) (by decide) hq.who (by unfold Cfg.cnt;simp)
        have hi3:=own_in (c:=q.c) (a:=q.c.at 3 q.p.who 0) (by rw [hw3];dsimp only;omega)
        have g1:doMem cs q.p.who (mop 1 (q.c.at 3 q.p.who 0) x)=setOf cs (q.c.at 3 q.p.who 0) ⟨x,0⟩:=do_store hw8 (by omega) (by omega) _ _
        rw [g1]
        exact he.slot (by rw [hw3]) _
      · rw [ex,doMem_load];exact he
    have hem0:∀ o,m.tell q.c q.p q.progs o={ m with s:=Cs.read m.s.touch (e.tell q.c 0 (q.p.code q.progs) o).x,work:=.ex (e.tell q.c 0 (q.p.code q.progs) o) }:=fun o=>by
      rw [tell_w (.inl hn)]
      unfold Cm.worked
      rw [show ({ m with s:=m.s.touch }:Cm).work=m.work from rfl,hwk]
      rfl
    rw [ea,hem0]
    have k2:RdI q.c q.V g q.code q.ms q.p.args (Vw.new q.p.who q.n) p1 (k+1) (e.tell q.c 0 (q.p.code q.progs) (doOut cs q.p.who (e.ask q.c).1)):=k2
    generalize e.tell q.c 0 (q.p.code q.progs) (doOut cs q.p.who (e.ask q.c).1)=e2 at k2
    rcases k2.s01 with ⟨f1,f2⟩|⟨f1,f2⟩
    · have hem:Cs.read m.s.touch e2.x=m.s.touch:=by
        unfold Cs.read
        rw [if_neg (by omega),if_neg (by omega)]
      rw [hem]
      exact CI.upd rfl (.read (k+1) e2 g p1 ho hn rfl hg k2 f2 k1 hes hcr (by omega))
    · have hem:Cs.read m.s.touch e2.x=Cs.end m.s.touch e2.x.rc e2.x.rv true:=by
        unfold Cs.read
        rw [if_pos f1]
      rw [hem]
      exact CI.upd rfl (.done rfl (.read ho (k2.fin ho f2).2 rfl hcr hes) (by omega))
  | done hn hcd ht =>
    exfalso
    unfold Cm.ask at hak
    rw [if_neg (by omega),if_neg (by omega),if_neg (by omega),if_neg (by omega),if_neg (by omega),if_neg (by omega),if_neg (by omega)] at hak
    cases hak
end
end Go.Proofs.YthmbgodcpgkkeaaGreat
