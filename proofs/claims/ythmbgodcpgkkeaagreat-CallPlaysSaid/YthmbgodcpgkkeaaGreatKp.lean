/-
  Package tumblerref15, in plain terms: a transaction of one's own, and a call from its beginning to its end. Package tumblerref15, in plain terms: a call from its beginning to its end.
-/
import Derived.Test.YthmbgodcpgkkeaaGreatKn
set_option maxRecDepth 100000
namespace Go.Proofs.YthmbgodcpgkkeaaGreat
def rown (rows:List BRow)(who:Int):Option BRow:=rows.find? fun r=>r.who == who
def rtry3 (c:Cfg)(os:List Out)(p:Cp)(s:Rs)(now:Cell)(list:List (Int×Nat))(rows:List BRow)(row:BRow)(o:Out)(t:Tp):Tp×Rs :=
 if t.need=true∨o.ok=false then (t,s) else
 (rapply c os p.who p.who (now.seq+1) list (-1) t,Rs.ends { s with swap:=(t.at_:Int) - 1,rows:=rows } row.rc row.rv (rapply c os p.who p.who (now.seq+1) list (-1) t))
def rtry2 (c:Cfg)(os:List Out)(p:Cp)(s:Rs)(now:Cell)(b:RbE)(t:Tp):Tp×Rs :=
 match rown b.2.1 p.who with
 | none=>(t,s)
 | some row=>if b.2.2≠1 then (t,s) else
  rtry3 c os p s now (entriesOf c b.1) b.2.1 row (tdo os (rwrite c os p.who (now.seq+1) (entriesOf c b.1) t) ⟨2,c.at 0 0 0,now,⟨p.who.toNat,now.seq+1⟩⟩).2 (tdo os (rwrite c os p.who (now.seq+1) (entriesOf c b.1) t) ⟨2,c.at 0 0 0,now,⟨p.who.toNat,now.seq+1⟩⟩).1
def rtry1 (c:Cfg)(os:List Out)(p:Cp)(progs:Progs)(now:Cell)(s:Rs)(t:Tp):Tp×Rs :=
 if s.done=true∨t.need=true∨c.last≤now.seq then (t,s) else rtry2 c os p s now (rmake c os p.who now.seq progs t).2 (rmake c os p.who now.seq progs t).1
def rtry (c:Cfg)(os:List Out)(p:Cp)(progs:Progs)(s:Rs)(now:Cell)(t:Tp):Tp×Rs:=rtry1 c os p progs now (ranswer c os p progs s now.seq t).2 (ranswer c os p progs s now.seq t).1
attribute [irreducible] rtry1 rtry2 rtry3
section
variable {c:Cfg}{os:List Out}{p:Cp}{progs:Progs}{s:Rs}{t:Tp}
theorem rtry3_dead (h:t.need=true)(now:Cell)(list:List (Int×Nat))(rows:List BRow)(row:BRow)(o:Out):rtry3 c os p s now list rows row o t=(t,s):=by unfold rtry3;rw [if_pos (.inl h)]
theorem rtry2_dead (h:t.need=true)(now:Cell)(b:RbE):rtry2 c os p s now b t=(t,s):=by
 unfold rtry2;split
 ·rfl
 split
 ·rfl
 ·have e:(tdo os (rwrite c os p.who (now.seq+1) (entriesOf c b.1) t) ⟨2,c.at 0 0 0,now,⟨p.who.toNat,now.seq+1⟩⟩).1=t:=by rw [rwrite_dead h,tdo_dead h]
  rw [e,rtry3_dead h]
theorem rtry1_dead (h:t.need=true)(now:Cell):rtry1 c os p progs now s t=(t,s):=by unfold rtry1;rw [if_pos (.inr (.inl h))]
end
theorem rmk_nodup {c:Cfg}{os:List Out}{room:Nat}{progs:Progs}{q:Rp}:∀ (k u:Nat) (b:Rb) (t:Tp),(b.rows.map (·.who)).Nodup→(∀ r∈b.rows,r.who<u)→((rmk c os room progs q k u b t).2.2.1.map (·.who)).Nodup
 | 0,u,b,t,h1,h2=>h1
 | k+1,u,b,t,h1,h2=>by
  rw [rmk_succ];unfold rmkC;split
  ·exact List.nodup_nil
  split
  ·exact List.nodup_nil
  split
  ·exact rmk_nodup k (u+1) _ _ h1 (fun r hr=>by have:=h2 r hr;omega)
  ·unfold rmkP
   split
   ·exact List.nodup_nil
   ·refine rmk_nodup k (u+1) _ _ ?_ (fun r hr=>?_)
    ·dsimp only
     rw [List.map_append,List.nodup_append];refine ⟨h1,by simp,fun x hx y hy=>?_⟩;obtain ⟨r,hr,rfl⟩:=List.mem_map.1 hx;simp only [List.map_cons,List.map_nil,List.mem_singleton] at hy;subst hy;have:=h2 r hr;show r.who≠(u:Int);omega
    ·rcases List.mem_append.1 hr with hr|hr
     ·have:=h2 r hr;omega
     ·obtain rfl:=List.mem_singleton.1 hr
      show (u:Int)<((u+1:Nat):Int);omega
theorem rmake_nodup (c:Cfg)(os:List Out)(who:Int)(seq:Nat)(progs:Progs)(t:Tp):((rmake c os who seq progs t).2.2.1.map (·.who)).Nodup:=by
 unfold rmake;split
 ·exact List.nodup_nil
 ·exact rmk_nodup _ _ _ _ List.nodup_nil (fun r hr=>by cases hr)
def rowed (c:Cfg)(p:Cp)(b:Bm)(m:Cm)(r:BRow):Cm:={ m with s:={ m.s with oc:=r.rc,ov:=r.rv,next:=10 },b:=some b,work:=.sc (Sm.new c p.who (m.s.now.seq+1) (entriesOf c b.e.puts)) }
theorem foldl_rows (c:Cfg)(p:Cp)(b:Bm):∀ (l:List BRow) (m:Cm),(l.map (·.who)).Nodup→l.foldl (Cm.row c p b) m=(match rown l p.who with|none=>m|some r=>rowed c p b m r)
 | [],m,_=>rfl
 | r::l,m,h=>by
  rw [List.map_cons,List.nodup_cons] at h;rw [List.foldl_cons]
  by_cases hw:r.who=p.who
  ·have e:Cm.row c p b m r=rowed c p b m r:=by unfold Cm.row;rw [if_pos hw];rfl
   rw [e,foldl_rows c p b l _ h.2]
   have hn:rown l p.who=none:=by
    unfold rown;rw [List.find?_eq_none];intro x hx e;exact h.1 (List.mem_map.2 ⟨x,hx,by rw [hw];exact beq_iff_eq.1 e⟩)
   have hs:rown (r::l) p.who=some r:=by
    unfold rown;rw [List.find?_cons,show (r.who == p.who)=true from beq_iff_eq.2 hw]
   rw [hn,hs]
  ·have e:Cm.row c p b m r=m:=by unfold Cm.row;rw [if_neg hw]
   rw [e,foldl_rows c p b l _ h.2]
   have hs:rown (r::l) p.who=rown l p.who:=by
    unfold rown;rw [List.find?_cons,show (r.who == p.who)=false from beq_eq_false_iff_ne.2 hw]
   rw [hs]
theorem Sim.first {M α:Type}{X:Mch M}{os:List Out}{R:Tp→Tp×α}{K:α→M→Nat→Prop}{N:α→M→Prop}{m m':M}{n:Nat}(hask:X.ask m=X.ask m')(htell:∀ o,X.tell m o=X.tell m' o)(h:Sim X os R K N m' n) :
  Sim X os R (fun a x k=>(K a x k∧n<k)∨(k=n∧x=m∧K a m' n)) (fun a x=>(N a x∧n<os.length)∨(n=os.length∧x=m∧N a m')) m n:=by
 obtain ⟨x,k,hf,h⟩:=h
 cases hf with
 | nil =>
  refine ⟨m,n, .nil _ _, ?_⟩
  rcases h with ⟨h1,h2⟩|⟨h1,h2,h3,h4⟩
  ·exact .inl ⟨h1, .inr ⟨rfl,rfl,h2⟩⟩
  ·exact .inr ⟨h1,by rw [hask];exact h2,by rw [hask];exact h3, .inr ⟨h1,rfl,h4⟩⟩
 | cons ha hn hf =>
  have hle:=hf.le;refine ⟨x,k, .cons (by rw [hask];exact ha) hn (by rw [htell];exact hf), ?_⟩
  rcases h with ⟨h1,h2⟩|⟨h1,h2,h3,h4⟩
  ·exact .inl ⟨h1, .inl ⟨h2,hle⟩⟩
  ·exact .inr ⟨h1,h2,h3, .inl ⟨h4,hn⟩⟩
inductive TK (s:Rs) (x:Rs) (m':Cm) (k:Nat):Prop
 | done (h:CD x m') (ht:CT x m' k)
 | again (hg:CG x) (h:m'.s.next=2) (ha:m'.s.asked=true) (ht:CT x m' k)
section
variable {c:Cfg}{os:List Out}{p:Cp}{progs:Progs}
theorem rtry3_sim (hc:Small c){s:Rs}{m:Cm}(h11:m.s.next=11)(has:m.s.asked=true){b:Bm}(hb:m.b=some b){row:BRow}(ho:m.s.oc=row.rc∧m.s.ov=row.rv)(hfr:m.s.fresh=false)(hd:m.s.did=false){n:Nat}(hn:n≤os.length)(h0:0<n)(ht:CT s m n)(hg:CG s) :
  Sim (XC c p progs) os (fun t=>rtry3 c os p s m.s.now (entriesOf c b.e.puts) b.rows row (tdo os t ⟨2,c.at 0 0 0,m.s.now,⟨p.who.toNat,m.s.now.seq+1⟩⟩).2 (tdo os t ⟨2,c.at 0 0 0,m.s.now,⟨p.who.toNat,m.s.now.seq+1⟩⟩).1) (fun x m' k=>TK s x m' k) (fun x m'=>CG x∧CT x m' os.length) m n:=by
 have hto:m.s.touch=m.s:=touch_id (by omega) hfr hd
 have hask:(XC c p progs).ask m=(⟨2,c.at 0 0 0,m.s.now,⟨p.who.toNat,m.s.now.seq+1⟩⟩,true):=by
  rw [XC_ask];unfold Cm.ask;rw [if_neg (by omega),if_neg (by omega),if_neg (by omega),if_neg (by omega),if_neg (by omega),if_neg (by omega),if_pos h11]
 have hl1:=ht.l1;have hl2:=ht.l2;refine ((Sim.do' hask hn).bind (K:=fun x m' k=>TK s x m' k) (N:=fun x m'=>CG x∧CT x m' os.length) hn (S:=fun o t=>rtry3 c os p s m.s.now (entriesOf c b.e.puts) b.rows row o t) (fun o t h=>by rw [rtry3_dead h]) (fun o m' t h he=>?_) (fun o m' i hi hin he=>?_)).eq rfl
 ·obtain ⟨_,rfl,e⟩:=he
  rw [rtry3_dead h];exact ⟨hg,by rw [← e];exact ht⟩
 obtain ⟨rfl,rfl,hk2⟩:=he;have hnd:¬ (Tp.live (n+1)).need=true:=Bool.false_ne_true
 have e1:(XC c p progs).tell m o=m.swapped c p o.ok:=by
  rw [XC_tell];unfold Cm.tell Cm.go;dsimp only;rw [hto,if_neg (by omega),if_neg (by omega),if_neg (by omega),if_neg (by omega),if_neg (by omega),if_neg (by omega),if_pos h11]
 have esw:m.swapped c p o.ok=if o.ok=true then { m with s:={ m.s with next:=12,did:=true },work:=.hp (Hm.own c p.who (m.s.now.seq+1) (entriesOf c b.e.puts)) } else { m with s:={ m.s with next:=2 } }:=by
  unfold Cm.swapped;split
  ·rename_i b' hb'
   rw [hb] at hb'
   injection hb' with e
   subst e;rfl
  ·rename_i hb'
   rw [hb] at hb'
   cases hb'
 rw [e1,esw]
 cases hok:o.ok with
 | false =>
  rw [if_neg (by decide)];refine (Sim.ret (a:=s) (TK.again (m':={ m with s:={ m.s with next:=2 } }) hg rfl has (ht.quiet (k:=n+1) (by omega) hfr hd))).eq ?_;unfold rtry3;rw [if_pos (.inr hok)]
 | true =>
  rw [if_pos rfl]
  have hat:((Tp.live (n+1)).at_:Int) - 1=(n:Int):=by show ((n+1:Nat):Int) - 1=_;omega
  have hh0:Sim (XH c) os (un (rapply c os p.who p.who (m.s.now.seq+1) (entriesOf c b.e.puts) (-1))) (fun _ m' _=>m'.next=8) (fun _ _=>True) (Hm.own c p.who (m.s.now.seq+1) (entriesOf c b.e.puts)) (n+1) :=
   rapply_sim hc p.who p.who (m.s.now.seq+1) (entriesOf c b.e.puts) 0 (h:=⟨p.who,p.who,m.s.now.seq+1,entriesOf c b.e.puts,0,0,-1,⟨0,0⟩,0⟩) rfl rfl rfl rfl hk2
  have hh:=chelp_sim (c:=c) (p:=p) (progs:=progs) hh0 (m:={ m with s:={ m.s with next:=12 } }) (.inr rfl) hfr hd
  have hnx:(Hm.own c p.who (m.s.now.seq+1) (entriesOf c b.e.puts)).next≠8:=by
   have h:=entryL_nx c ⟨p.who,p.who,m.s.now.seq+1,entriesOf c b.e.puts,0,0,-1,⟨0,0⟩,0⟩ ((entriesOf c b.e.puts).drop 0) 0;show (Hm.entryL _ _ _ _).next≠8;intro e;rw [e] at h;omega
  have e0:Cm.helped c p progs { m with s:={ m.s with next:=12 },work:=.hp (Hm.own c p.who (m.s.now.seq+1) (entriesOf c b.e.puts)) } (Hm.own c p.who (m.s.now.seq+1) (entriesOf c b.e.puts))={ m with s:={ m.s with next:=12 },work:=.hp (Hm.own c p.who (m.s.now.seq+1) (entriesOf c b.e.puts)) }:=by
   unfold Cm.helped;rw [if_pos hnx]
  dsimp only at hh;rw [e0] at hh
  have hq:CT { s with swap:=(n:Int),rows:=b.rows } { m with s:={ m.s with next:=12,did:=true },work:=.hp (Hm.own c p.who (m.s.now.seq+1) (entriesOf c b.e.puts)) } (n+1):=by
   have h3:=ht.f2 hfr;exact ⟨fun e=>(by have e:m.s.fresh=true:=e;rw [hfr] at e;cases e),fun _=>.inl (by show s.look+1<((n+1:Nat):Int);omega),fun _=>⟨by show (0:Int)≤n;omega,by show (n:Int)+1=((n+1:Nat):Int);omega,b,hb,rfl⟩,fun e=>(by cases e),by show s.look+1≤((n+1:Nat):Int);omega,by show (n:Int)+1≤((n+1:Nat):Int);omega⟩
  have hf1:=hh.first (m:={ m with s:={ m.s with next:=12,did:=true },work:=.hp (Hm.own c p.who (m.s.now.seq+1) (entriesOf c b.e.puts)) }) (m':={ m with s:={ m.s with next:=12 },work:=.hp (Hm.own c p.who (m.s.now.seq+1) (entriesOf c b.e.puts)) }) rfl (fun o=>rfl)
  refine (hf1.bind (K:=fun x m' k=>TK s x m' k) (N:=fun x m'=>CG x∧CT x m' os.length) hk2 (S:=fun _ t=>(t,Rs.ends { s with swap:=(n:Int),rows:=b.rows } row.rc row.rv t)) (fun _ _ _=>rfl) (fun _ m' t h he=>?_) (fun _ m' k hk hkn he=>?_)).eq ?_
  ·have hg2:CG { s with swap:=(n:Int),rows:=b.rows }:=⟨hg.done,hg.alone⟩
   unfold Rs.ends;dsimp only;rw [if_pos h]
   rcases he with ⟨⟨h',rfl⟩,hlt⟩|⟨e,rfl,_⟩
   ·exact ⟨hg2,hq.quiet (k:=os.length) hlt hfr hd⟩
   ·exact ⟨hg2,by rw [← e];exact hq⟩
  ·rcases he with ⟨⟨h',rfl,h8⟩,hlt⟩|⟨rfl,rfl,h',e,h8⟩
   ·have ee:Cm.helped c p progs { m with s:={ m.s with next:=12 },work:=.hp h' } h'={ m with s:=Cs.end { m.s with next:=12 } m.s.oc m.s.ov false,work:=.hp h' }:=by
     unfold Cm.helped;rw [if_neg (fun e=>e h8),if_pos (by rfl)]
    dsimp only at ee⊢;rw [ee];refine Sim.ret (TK.done ⟨rfl,rfl,ho.1.symm,ho.2.symm,hg.alone⟩ ?_);exact (hq.quiet (k:=k) hlt (m':={ m with s:=Cs.end { m.s with next:=12 } m.s.oc m.s.ov false,work:=.hp h' }) hfr hd).of_s rfl rfl rfl rfl rfl rfl
   ·exfalso
    have e2:=congrArg (fun x:Cm=>x.s.next) e;unfold Cm.helped at e2;rw [if_neg (fun e=>e h8),if_pos (by rfl)] at e2;exact absurd (show (12:Int)=13 from e2) (by decide)
  ·unfold rtry3
   rw [if_neg (fun e=>e.elim hnd (fun e=>by rw [hok] at e;cases e)),hat];rfl
end
section
variable {c:Cfg}{os:List Out}{p:Cp}{progs:Progs}
theorem cmake_sim (hc:Small c)(hf:0≤c.fuel∧c.fuel≤1000)(seq:Nat){m:Cm}(h9:m.s.next=9)(hfr:m.s.fresh=false)(hd:m.s.did=false){n:Nat}(hn:n≤os.length) :
  Sim (XC c p progs) os (rmake c os p.who seq progs) (fun x m' _=>(∃ b,m'=Cm.built c p { m with work:=.bd b } b∧BE x b)∧(x.2.1.map (·.who)).Nodup) (fun x m'=>x.2.2=0∧∃ b,m'={ m with work:=.bd b }) { m with work:=.bd (Bm.new p.who seq) } n:=by
 have hto:m.s.touch=m.s:=touch_id (by omega) hfr hd
 have hasks:∀ b:Bm,((XB c progs).ask b).2=true→b.b.s=0:=fun b ha=>by
  rw [XB_ask] at ha;unfold Bm.ask at ha
  by_cases h:b.b.s=0
  ·exact h
  ·rw [if_pos h] at ha;cases ha
 have er:∀ b:Bm,b.b.s=0→Cm.built c p { m with work:=.bd b } b={ m with work:=.bd b }:=fun b hb=>by
  unfold Cm.built;rw [if_pos hb]
 have hl:=(rmake_sim (os:=os) (progs:=progs) hc hf p.who seq hn).lift (Y:=XC c p progs) (fun b=>Cm.built c p { m with work:=.bd b } b) (fun _=>True) (fun _ _ _ _=>trivial) (fun b _ ha=>by
  rw [er b (hasks b ha)];refine ⟨?_,fun o=>?_⟩
  ·rw [XC_ask]
   unfold Cm.ask;dsimp only;rw [if_neg (by omega),if_neg (by omega),if_neg (by omega),if_neg (by omega),if_neg (by omega),if_pos (by omega)];rfl
  ·rw [XC_tell]
   unfold Cm.tell Cm.go;dsimp only;rw [hto];rw [if_neg (by omega),if_neg (by omega),if_neg (by omega),if_neg (by omega),if_neg (by omega),if_neg (by omega),if_neg (by omega)]
   rfl) trivial
 rw [er (Bm.new p.who seq) rfl] at hl;refine ((hl.mono (K':=fun x m' _=>∃ b,m'=Cm.built c p { m with work:=.bd b } b∧BE x b) (N':=fun x m'=>x.2.2=0∧∃ b,m'={ m with work:=.bd b }) (fun x m' k hx=>?_) (fun x m' hx=>?_))).prop (rmake_nodup c os p.who seq progs (.live n))
 ·obtain ⟨b,e,_,hb,_⟩:=hx
  exact ⟨b,e,hb⟩
 ·obtain ⟨b,e,_,ha,hx⟩:=hx
  rw [er b (hasks b ha)] at e;exact ⟨hx,b,e⟩
theorem cwrite_sim (seq:Nat)(list:List (Int×Nat)){m:Cm}(h10:m.s.next=10)(hfr:m.s.fresh=false)(hd:m.s.did=false){n:Nat}(hn:n≤os.length) :
  Sim (XC c p progs) os (un (rwrite c os p.who seq list)) (fun _ m' _=>∃ sm,m'={ m with s:={ m.s with next:=11 },work:=.sc sm }) (fun _ m'=>∃ sm,m'={ m with work:=.sc sm }) { m with work:=.sc (Sm.new c p.who seq list) } n:=by
 have hto:m.s.touch=m.s:=touch_id (by omega) hfr hd
 have hasks:∀ sm:Sm,((XS c).ask sm).2=true→sm.over=false:=fun sm ha=>by
  rw [XS_ask] at ha;unfold Sm.ask at ha;unfold Sm.over
  by_cases h:sm.list.length+1<sm.done
  ·rw [if_pos h] at ha;cases ha
  ·exact decide_eq_false h
 have hl:=(rwrite_sim (c:=c) (os:=os) p.who seq list hn).lift (Y:=XC c p progs) (fun sm=>(if sm.over=true then { m with s:={ m.s with next:=11 },work:=.sc sm } else { m with work:=.sc sm }:Cm)) (fun _=>True) (fun _ _ _ _=>trivial) (fun sm _ ha=>by
  have ho:=hasks sm ha;rw [if_neg (by rw [ho];decide)];refine ⟨?_,fun o=>?_⟩
  ·rw [XC_ask]
   unfold Cm.ask;dsimp only;rw [if_neg (by omega),if_neg (by omega),if_neg (by omega),if_neg (by omega),if_neg (by omega),if_pos (by omega)];rfl
  ·rw [XC_tell]
   unfold Cm.tell Cm.go;dsimp only;rw [hto];rw [if_neg (by omega),if_neg (by omega),if_neg (by omega),if_neg (by omega),if_neg (by omega),if_neg (by omega),if_neg (by omega)]
   rfl) trivial
 have h0:((Sm.new c p.who seq list).over)=false:=decide_eq_false (by show ¬ (_+1<0);omega);rw [if_neg (by rw [h0];decide)] at hl;refine hl.mono (fun _ m' k hx=>?_) (fun _ m' hx=>?_)
 ·obtain ⟨sm,e,_,ho⟩:=hx
  rw [if_pos ho] at e;exact ⟨sm,e⟩
 ·obtain ⟨sm,e,_,ha,_⟩:=hx
  rw [if_neg (by rw [hasks sm ha];decide)] at e;exact ⟨sm,e⟩
theorem rtry_sim (hc:Small c)(hf:0≤c.fuel∧c.fuel≤1000)(ha4:p.args.length=4){s:Rs}{m:Cm}(h5:m.s.next=5)(has:m.s.asked=true)(hfr:m.s.fresh=false)(hd:m.s.did=false){n:Nat}(hn:n≤os.length)(h0:0<n)(ht:CT s m n)(hg:CG s) :
  Sim (XC c p progs) os (rtry c os p progs s m.s.now) (fun x m' k=>TK s x m' k) (fun x m'=>CG x∧CT x m' os.length) m n:=by
 refine ((ranswer_sim (os:=os) (progs:=progs) hc hf ha4 h5 has hfr hd hn h0 ht hg).bind (K:=fun x m' k=>TK s x m' k) (N:=fun x m'=>CG x∧CT x m' os.length) hn (S:=fun x t=>rtry1 c os p progs m.s.now x t) (fun x t h=>by rw [rtry1_dead h]) (fun x m' t h he=>by rw [rtry1_dead h];exact he) (fun x m' i hi hin he=>?_)).eq (by unfold rtry;rfl);have hnd:¬ (Tp.live i).need=true:=Bool.false_ne_true
 cases he with
 | done h1 h2 =>
  refine (Sim.ret (a:=x) (TK.done h1 h2)).eq ?_;unfold rtry1;rw [if_pos (.inl h1.done)]
 | again h1 h2 h3 h4 h6 =>
  subst h1;refine (Sim.ret (a:=x) (TK.again hg h3 h4 h6)).eq ?_;unfold rtry1;rw [if_pos (.inr (.inr h2))]
 | make h1 h2 h3 h4 =>
  subst h1;have hm:=cmake_sim (os:=os) (p:=p) (progs:=progs) hc hf m.s.now.seq (m:={ m with s:={ m.s with next:=9 } }) rfl hfr hd hin;rw [h3] at h4⊢;refine (hm.bind (K:=fun y m' k=>TK x y m' k) (N:=fun x m'=>CG x∧CT x m' os.length) hin (S:=fun b t=>rtry2 c os p x m.s.now b t) (fun b t h=>by rw [rtry2_dead h]) (fun b m' t h he=>?_) (fun b m' k hk hkn he=>?_)).eq ?_
  ·obtain ⟨_,b,rfl⟩:=he
   rw [rtry2_dead h];exact ⟨hg,h4.more (by omega) (by omega) ⟨hfr,hd⟩ hfr hd⟩
  ·obtain ⟨⟨bm,rfl,hb⟩,hnd2⟩:=he
   have hbs:=hb.s
   rcases hb.s2 with e1|e2
   ·obtain ⟨k1,k2⟩:=hb.ok e1
    have eb:Cm.built c p { m with s:={ m.s with next:=9 },work:=.bd bm } bm=(match rown bm.rows p.who with|none=>{ m with s:={ m.s with next:=2 },work:=.bd bm }|some r=>rowed c p bm { m with s:={ m.s with next:=2 },work:=.bd bm } r):=by
     unfold Cm.built;rw [if_neg (by omega),if_neg (by omega)];exact foldl_rows c p bm bm.rows _ (by rw [k2];exact hnd2)
    dsimp only at eb⊢;rw [eb]
    cases hrow:rown bm.rows p.who with
    | none =>
     refine (Sim.ret (a:=x) (TK.again (m':={ m with s:={ m.s with next:=2 },work:=.bd bm }) hg rfl has (h4.more (by omega) (by omega) ⟨hfr,hd⟩ hfr hd))).eq ?_;unfold rtry2;rw [← k2,hrow]
    | some row =>
     have hw:=cwrite_sim (c:=c) (os:=os) (p:=p) (progs:=progs) (m.s.now.seq+1) (entriesOf c bm.e.puts) (m:=rowed c p bm { m with s:={ m.s with next:=2 },work:=.bd bm } row) rfl hfr hd hkn
     have eR:rtry2 c os p x m.s.now b (.live k)=(fun t=>rtry3 c os p x m.s.now (entriesOf c bm.e.puts) bm.rows row (tdo os t ⟨2,c.at 0 0 0,m.s.now,⟨p.who.toNat,m.s.now.seq+1⟩⟩).2 (tdo os t ⟨2,c.at 0 0 0,m.s.now,⟨p.who.toNat,m.s.now.seq+1⟩⟩).1) (rwrite c os p.who (m.s.now.seq+1) (entriesOf c bm.e.puts) (.live k)):=by
      unfold rtry2;rw [← k2,hrow];dsimp only;rw [if_neg (by omega),k1]
     refine (hw.bind (K:=fun y m' k=>TK x y m' k) (N:=fun x m'=>CG x∧CT x m' os.length) hkn (S:=fun _ t=>rtry3 c os p x m.s.now (entriesOf c bm.e.puts) bm.rows row (tdo os t ⟨2,c.at 0 0 0,m.s.now,⟨p.who.toNat,m.s.now.seq+1⟩⟩).2 (tdo os t ⟨2,c.at 0 0 0,m.s.now,⟨p.who.toNat,m.s.now.seq+1⟩⟩).1) (fun _ t h=>by rw [tdo_dead h,rtry3_dead h]) (fun _ m' t h he=>?_) (fun _ m' l hl hln he=>?_)).eq eR
     ·obtain ⟨sm,rfl⟩:=he
      rw [tdo_dead h,rtry3_dead h];exact ⟨hg,h4.more (by omega) (by omega) ⟨hfr,hd⟩ hfr hd⟩
     ·obtain ⟨sm,rfl⟩:=he
      have h3:=rtry3_sim (os:=os) (p:=p) (progs:=progs) hc (s:=x) (m:={ rowed c p bm { m with s:={ m.s with next:=2 },work:=.bd bm } row with s:={ (rowed c p bm { m with s:={ m.s with next:=2 },work:=.bd bm } row).s with next:=11 },work:=.sc sm }) rfl has (b:=bm) rfl (row:=row) ⟨rfl,rfl⟩ hfr hd hln (by omega) (h4.more (by omega) (by omega) ⟨hfr,hd⟩ hfr hd) hg;exact h3
   ·have eb:Cm.built c p { m with s:={ m.s with next:=9 },work:=.bd bm } bm={ m with s:={ m.s with next:=2 },work:=.bd bm }:=by
     unfold Cm.built;rw [if_neg (by omega),if_pos (by omega)]
    dsimp only at eb⊢;rw [eb];refine (Sim.ret (a:=x) (TK.again (m':={ m with s:={ m.s with next:=2 },work:=.bd bm }) hg rfl has (h4.more (by omega) (by omega) ⟨hfr,hd⟩ hfr hd))).eq ?_;unfold rtry2;split
    ·rfl
    ·rw [if_pos (by omega)]
  ·unfold rtry1
   rw [if_neg (fun e=>e.elim (fun e=>by rw [hg.done] at e;cases e) (fun e=>e.elim hnd (fun e=>by omega)))]
end
end Go.Proofs.YthmbgodcpgkkeaaGreat
