/-
  A call that nobody disturbs, step by step, in plain terms. A call that nobody disturbs: between its steps.
-/
import Derived.Test.YthmbgodcpgkkeaaGreatUb
import Derived.Test.YthmbgodcpgkkeaaGreatVx
section
namespace Go.Proofs.YthmbgodcpgkkeaaGreat
set_option maxRecDepth 100000
structure Cq where
  c:Cfg
  progs:Progs
  cs:List Cell
  n:Nat
  p:Cp
  fs:List Nat
  ls:List Nat
  ms:Ms
def Cq.code (q:Cq):List Ins:=q.p.code q.progs
def Cq.pn (q:Cq):Nat:=(IntKind.u64.wrap q.p.prog).toNat
def Cq.cs1 (q:Cq):List Cell:=wantC q.c q.cs q.p.who q.pn q.p.args q.p.tag
def Cq.tq (q:Cq):Tq:=⟨q.c,q.progs,q.cs1,q.n,q.p.who,q.fs,q.ls,q.ms⟩
def Cq.V (q:Cq):Int→Nat:=fun a=>(cellI q.cs a).val
structure Mid (c:Cfg) (cs:List Cell) (n:Nat) (fs ls:List Nat) (ms:Ms):Prop where
  mem:MemH c cs n fs ls ms.roots ms.blocks
  lsz:2 * (ls.length:Int)≤2 * c.threads+c.writes
  now:(cellI cs 0).seq=n
  opens:∀ u:Int,0≤u∧u<c.threads→(cellI cs (c.at 4 u 0)).val=0
  pend:n<c.last→∀ u:Int,0≤u→u<c.threads→pendB c cs u=false
structure CQ (q:Cq):Prop where
  hc:Small q.c
  fu:0≤q.c.fuel∧q.c.fuel≤200
  mid:Mid q.c q.cs q.n q.fs q.ls q.ms
  who:0≤q.p.who∧q.p.who<q.c.threads
  args:q.p.args.length=4
  tag0:q.p.tag≠0
  tagne:(cellI q.cs (q.c.at 7 q.p.who 0)).val≠q.p.tag
  pl:(q.progs.length:Int)≤1000
section
variable {q:Cq}
theorem code_in {p:Cp} {progs:Progs} (h:rightB (p.code progs)=true):0≤p.prog∧p.prog<progs.length∧p.code progs=progs.getD p.prog.toNat []:=by
  unfold Cp.code at h⊢
  split at h
  · exact absurd h (by decide)
  · next hn=>exact ⟨by omega,by omega,if_neg hn⟩
theorem CQ.pn (hq:CQ q) (h:rightB q.code=true):(q.pn:Int)=q.p.prog∧progOf q.progs q.pn=q.code:=by
  obtain ⟨h0,h1,h2⟩:=code_in h
  have:=hq.pl
  have e:IntKind.u64.wrap q.p.prog=q.p.prog:=by simp [IntKind.wrap,IntKind.bits,IntKind.signed];omega
  unfold Cq.pn
  rw [e]
  refine ⟨by omega, ?_⟩
  unfold progOf Cq.code
  rw [h2]
theorem CQ.w8 (hq:CQ q):0≤q.p.who∧q.p.who<8:=⟨hq.who.1,by have:=hq.who.2;have:=hq.hc.t1;omega⟩
theorem CQ.sz (hq:CQ q):(q.cs.length:Int)=q.c.f17:=hq.mid.mem.mem.sz hq.hc
theorem CQ.tok (hq:CQ q):Tok q.tq:=⟨hq.hc,hq.fu,hq.mid.mem.want hq.hc hq.who q.pn hq.args q.p.tag,hq.who⟩
theorem wantC_ne {c:Cfg} {cs:List Cell} (hc:Small c) (hl:(cs.length:Int)=c.f17) {who:Int} (hw:0≤who∧who<c.threads) (prog:Nat) (args:List Nat) (tag:Nat) {a:Int} (h0:0≤a) (h1:a<cs.length) (hk:(c.what a).1≠1∧(c.what a).1≠2):cellI (wantC c cs who prog args tag) a=cellI cs a:=by
  have hN:=wantN_cell hc hl hw args ⟨h0,h1⟩ 4 (Nat.le_refl _)
  unfold wantC
  rw [cellI_setOf h0 (by rw [hN.1];exact h1),if_neg]
  · refine hN.2.1 fun j hj e=>hk.2 ?_
    rw [e,atArg hc hw hj]
  · intro e
    exact hk.1 (by rw [←e,atAnn hc hw])
theorem wantC_len {c:Cfg} {cs:List Cell} (hc:Small c) (hl:(cs.length:Int)=c.f17) {who:Int} (hw:0≤who∧who<c.threads) (prog:Nat) {args:List Nat} (h4:args.length=4) (tag:Nat):(wantC c cs who prog args tag).length=cs.length:=(want_ann hc hl hw prog h4 tag).1
theorem CQ.pend1 (hq:CQ q) (hn:q.n<q.c.last) {u:Int} (hu:0≤u∧u<q.c.threads):pendB q.c q.cs1 u=decide (u=q.p.who)∧(u=q.p.who→annC q.c q.cs1 u=⟨q.pn,q.p.tag⟩∧argsC q.c q.cs1 u=q.p.args):=by
  obtain ⟨g1,g2,g3⟩:=want_ann hq.hc hq.sz hq.who q.pn hq.args q.p.tag
  obtain ⟨k1,k2⟩:=g3 u hu
  have ht:=g2 _ (at_in hq.hc (kind:=7) (i:=u) (j:=0) (by decide) (in7 (by decide) hu))
  by_cases e:u=q.p.who
  · subst e
    rw [if_pos rfl] at k1 k2
    refine ⟨?_,fun _=>⟨k1,k2⟩⟩
    have k1:annC q.c q.cs1 q.p.who=⟨q.pn,q.p.tag⟩:=k1
    have ht:cellI q.cs1 (q.c.at 7 q.p.who 0)=cellI q.cs (q.c.at 7 q.p.who 0):=ht
    unfold pendB
    rw [k1,ht]
    dsimp only
    rw [decide_eq_true hq.tag0,decide_eq_true hq.tagne,decide_eq_true rfl];rfl
  · rw [if_neg e] at k1
    refine ⟨?_,fun e'=>absurd e' e⟩
    have k1:annC q.c q.cs1 u=annC q.c q.cs u:=k1
    have ht:cellI q.cs1 (q.c.at 7 u 0)=cellI q.cs (q.c.at 7 u 0):=ht
    have:=hq.mid.pend hn u hu.1 hu.2
    unfold pendB at this⊢
    rw [k1,ht,this,decide_eq_false e]
theorem only_one {l:List Int} {a:Int} (hnd:l.Nodup) (h:∀ x,x∈l↔x=a):l=[a]:=by
  match l,hnd,h with
  | [],_,h=>exact absurd ((h a).2 rfl) (by simp)
  | [x],_,h=>rw [(h x).1 (List.mem_cons_self ..)]
  | x::y::l,hnd,h =>
    have e1:=(h x).1 (List.mem_cons_self ..)
    have e2:=(h y).1 (List.mem_cons_of_mem _ (List.mem_cons_self ..))
    rw [List.nodup_cons] at hnd
    exact absurd (List.mem_cons_self ..) (by rw [e1,←e2] at hnd;exact hnd.1)
theorem CQ.rows (hq:CQ q) (hn:q.n<q.c.last) {rows:List BRow} (h:rows.map (·.who)=((List.range q.c.threads.toNat).map fun k:Nat=>(k:Int)).filter (pendB q.c q.cs1)):∃ r,rows=[r]∧r.who=q.p.who:=by
  have hnd:((List.range q.c.threads.toNat).map fun k:Nat=>(k:Int)).Nodup:=by
    refine List.Pairwise.map _ (fun a b hab=>?_) (List.nodup_range (n:=q.c.threads.toNat))
    intro e;exact hab (by omega)
  have e:=only_one (a:=q.p.who) (hnd.filter (pendB q.c q.cs1)) fun x=>by
    rw [List.mem_filter,List.mem_map]
    constructor
    · rintro ⟨⟨k,hk,rfl⟩,hp⟩
      have:=List.mem_range.1 hk
      rw [(hq.pend1 hn ⟨by omega,by omega⟩).1] at hp
      exact of_decide_eq_true hp
    · rintro rfl
      have:=hq.who
      refine ⟨⟨q.p.who.toNat,List.mem_range.2 (by omega),by omega⟩, ?_⟩
      rw [(hq.pend1 hn hq.who).1]
      exact decide_eq_true rfl
  rw [e] at h
  match rows,h with
  | [r],h =>
    injection h with h _
    exact ⟨r,rfl,h⟩
  | _::_::_,h =>
    injection h with _ h
    cases h
theorem MemH.congr {c:Cfg} {A B:List Cell} {n:Nat} {fs ls R:List Nat} {D:List (Int×List Nat)} (hc:Small c) (h:MemH c A n fs ls R D) (hl:B.length=A.length) (he:∀ a,Tx c a→cellI B a=cellI A a):MemH c B n fs ls R D:=by
  have hat:∀ {kind i j:Int},7≤kind∧kind≤16→(0≤i∧i<(c.cnt kind).1∧0≤j∧j<(c.cnt kind).2)→(cellI B (c.at kind i j)).val=(cellI A (c.at kind i j)).val:=fun hk hi=>by rw [he _ (at_in hc hk hi)]
  refine ⟨⟨hl.trans h.mem.len,fun b _=>rfl,fun b hb=>by rw [he b hb];exact h.mem.q b hb⟩, ?_, ?_, ?_⟩
  · exact h.rep.congr2 (fun kind i hk hi=>hat (by omega) hi) fun b w hb hw=>hat (by decide) (in16 hb hw)
  · rw [hat (by decide) (in12 c)];exact h.top
  · rw [hat (by decide) (in14 c)];exact h.lim
theorem tx_in {c:Cfg} (hc:Small c) {cs:List Cell} (hl:(cs.length:Int)=c.f17) {a:Int} (h:Tx c a):0≤a∧a<cs.length∧7≤(c.what a).1:=by
  have hf:=f717 hc
  unfold Tx at h
  refine ⟨by omega,by omega, ?_⟩
  have hf10:c.f10=c.f7+c.threads * 3:=rfl
  have ht0:=hc.t0
  have hn:=hc.nums.f7
  unfold Cfg.what
  rw [if_neg (by omega),if_neg (by omega),if_neg (by omega)]
  repeat' split
  all_goals (try dsimp only)
  all_goals omega
theorem Mid.eqs {c:Cfg} {A B:List Cell} {n:Nat} {fs ls:List Nat} {ms:Ms} (hc:Small c) (h:Mid c A n fs ls ms) (he:EqS c B A):Mid c B n fs ls ms∧(∀ u:Int,0≤u∧u<c.threads→annC c B u=annC c A u)∧∀ u:Int,0≤u∧u<c.threads→cellI B (c.at 7 u 0)=cellI A (c.at 7 u 0):=by
  have hl:=h.mem.mem.sz hc
  have hf:=f717 hc
  have hx:∀ a,Tx c a→cellI B a=cellI A a:=fun a ha=>by
    obtain ⟨h0,h1,h7⟩:=tx_in hc hl ha
    exact he.eq a h0 h1 (by omega)
  have ho:∀ {kind u:Int},(kind=1∨kind=4)→0≤u∧u<c.threads→cellI B (c.at kind u 0)=cellI A (c.at kind u 0):=fun {kind u} hk hu=>by
    have hw:=at_own hc (kind:=kind) (i:=u) (k:=0) (by omega) hu (by unfold Cfg.cnt;rcases hk with rfl|rfl<;>simp)
    have hi:=own_in (c:=c) (a:=c.at kind u 0) (by rw [hw];dsimp only;omega)
    exact he.eq _ (by omega) (by omega) (by rw [hw];dsimp only;omega)
  have h00:cellI B 0=cellI A 0:=he.eq 0 (by omega) (by omega) (by
    unfold Cfg.what
    rw [if_neg (by omega),if_pos rfl];dsimp only;omega)
  refine ⟨⟨h.mem.congr hc he.len hx,h.lsz,by rw [h00];exact h.now,fun u hu=>by rw [ho (.inr rfl) hu];exact h.opens u hu,fun hn u h0 h1=>?_⟩,fun u hu=>ho (.inl rfl) hu,fun u hu=>hx _ (at_in hc (by decide) (in7 (by decide) hu))⟩
  have:=h.pend hn u h0 h1
  unfold pendB annC at this⊢
  rw [ho (.inl rfl) ⟨h0,h1⟩,hx _ (at_in hc (by decide) (in7 (by decide) ⟨h0,h1⟩))]
  exact this
inductive CD (q:Cq) (cs:List Cell) (cr:List BRow) (s:Cs):Prop
  | bad:rightB q.code=false→s.rc=30→s.rv=0→s.alone=true→cr=[]→cs=q.cs→CD q cs cr s
  | read:onlyB q.code=true→RunTo q.c q.code q.ms q.p.args s.rc s.rv [] q.ms→s.alone=true→cr=[]→EqS q.c cs q.cs→CD q cs cr s
  | last:rightB q.code=true→onlyB q.code=false→q.c.last≤q.n→s.rc=45→s.rv=0→s.alone=true→cr=[]→cs=q.cs1→CD q cs cr s
  | wrote (r:BRow) (ms2:Ms) (fs ls:List Nat):rightB q.code=true→onlyB q.code=false→q.n<q.c.last→cr=[r]→r.who=q.p.who→r.tag=q.p.tag→MsOk q.ms→RunTo q.c q.code q.ms q.p.args r.rc r.rv r.news ms2→s.rc=r.rc→s.rv=r.rv→s.alone=false→Mid q.c cs (q.n+1) fs ls ms2→(∀ u:Int,0≤u∧u<q.c.threads→u≠q.p.who→(cellI cs (q.c.at 7 u 0)).val=(cellI q.cs (q.c.at 7 u 0)).val)→(cellI cs (q.c.at 7 q.p.who 0)).val=q.p.tag→CD q cs cr s
end
end Go.Proofs.YthmbgodcpgkkeaaGreat
end
section
namespace Go.Proofs.YthmbgodcpgkkeaaGreat
set_option maxRecDepth 100000
structure WB (q:Cq) (b:Bm) (csb:List Cell) (r:BRow) (ms2:Ms):Prop where
  rows:b.rows=[r]
  who:r.who=q.p.who
  tag:r.tag=q.p.tag
  run:RunTo q.c q.code q.ms q.p.args r.rc r.rv r.news ms2
  rc:0≤r.rc∧r.rc≤100
  ok:MsOk q.ms
  mb:MemB q.c q.cs1 csb q.n
  done:Bdone q.tq b.rows (putEs (q.n+1) (entriesOf q.c b.e.puts) csb) ms2
  keys:KfR q.c (entriesOf q.c b.e.puts)
  len:((entriesOf q.c b.e.puts).length:Int)≤q.c.cap
  nod:((entriesOf q.c b.e.puts).map (·.1)).Nodup
def Cq.E (q:Cq) (b:Bm):List (Int×Nat):=entriesOf q.c b.e.puts
def Cq.W (q:Cq) (b:Bm) (csb:List Cell):List Cell:=setOf (scrM q.c q.p.who (q.n+1) (q.E b) csb ((q.E b).length+2)) 0 ⟨q.p.who.toNat,q.n+1⟩
def Cq.B (q:Cq):Nat:=8+q.tq.K+q.c.threads.toNat * q.tq.W
def Cq.T (q:Cq):Nat:=q.B+5 * q.c.cap.toNat+5
structure RdB (q:Cq) (g:Bg) (p:Po):Prop where
  fits:Fits q.c q.c.cap.toNat g
  S:Start q.c [] p.nt p.nl
  who:g.who=q.p.who
  sq:g.sq=q.n
inductive CI (q:Cq) (t:Nat) (cs:List Cell) (cr:List BRow) (m:Cm):Prop
  | args (j:Nat):rightB q.code=true→onlyB q.code=false→m.s.next=0→m.s.given=(j:Int)→j<4→m.s.asked=false→cs=wantN q.c q.cs q.p.who q.p.args j→cr=[]→t=j→CI q t cs cr m
  | ask:rightB q.code=true→onlyB q.code=false→m.s.next=1→cs=wantN q.c q.cs q.p.who q.p.args 4→cr=[]→t=4→CI q t cs cr m
  | look:rightB q.code=true→onlyB q.code=false→m.s.next=2→m.s.asked=true→cs=q.cs1→cr=[]→t=5→CI q t cs cr m
  | open_:rightB q.code=true→onlyB q.code=false→m.s.next=3→m.s.asked=true→m.s.now=cellI q.cs1 0→cs=q.cs1→cr=[]→t=6→CI q t cs cr m
  | tag:rightB q.code=true→onlyB q.code=false→m.s.next=5→m.s.now=cellI q.cs1 0→cs=q.cs1→cr=[]→t=7→CI q t cs cr m
  | build (k:Nat) (b:Bm):rightB q.code=true→onlyB q.code=false→q.n<q.c.last→m.s.next=9→m.s.now=cellI q.cs1 0→m.work=.bd b→b.b.s=0→Binv q.c q.progs b→BI q.tq k cs b→cr=[]→t=8+k→CI q t cs cr m
  | write (i:Nat) (b:Bm) (csb:List Cell) (r:BRow) (ms2:Ms):rightB q.code=true→onlyB q.code=false→q.n<q.c.last→m.s.next=10→m.s.now=cellI q.cs1 0→m.b=some b→m.work=.sc ⟨q.p.who,q.n+1,q.E b,i⟩→i≤(q.E b).length+1→WB q b csb r ms2→cs=scrM q.c q.p.who (q.n+1) (q.E b) csb i→m.s.oc=r.rc→m.s.ov=r.rv→cr=[]→t≤q.B+i→CI q t cs cr m
  | swap (b:Bm) (csb:List Cell) (r:BRow) (ms2:Ms):rightB q.code=true→onlyB q.code=false→q.n<q.c.last→m.s.next=11→m.s.now=cellI q.cs1 0→m.b=some b→WB q b csb r ms2→cs=scrM q.c q.p.who (q.n+1) (q.E b) csb ((q.E b).length+2)→m.s.oc=r.rc→m.s.ov=r.rv→cr=[]→t≤q.B+(q.E b).length+2→CI q t cs cr m
  | help (h:Hm) (b:Bm) (csb:List Cell) (r:BRow) (ms2:Ms) (th:Nat):rightB q.code=true→onlyB q.code=false→q.n<q.c.last→m.s.next=12→m.work=.hp h→WB q b csb r ms2→HS q.c q.p.who (q.n+1) (q.E b) (q.W b csb) th h cs→m.s.oc=r.rc→m.s.ov=r.rv→cr=b.rows→t≤q.B+(q.E b).length+3+th→CI q t cs cr m
  | lookR:(rightB q.code=false∨onlyB q.code=true)→m.s.next=2→m.s.asked=false→cs=q.cs→cr=[]→t=0→CI q t cs cr m
  | openR:onlyB q.code=true→m.s.next=3→m.s.asked=false→m.s.now=cellI q.cs 0→cs=q.cs→cr=[]→t=1→CI q t cs cr m
  | read (k:Nat) (e:Xm) (g:Bg) (p1:Po):onlyB q.code=true→m.s.next=8→m.work=.ex e→RdB q g p1→RdI q.c q.V g q.code q.ms q.p.args (Vw.new q.p.who q.n) p1 k e→(e.ask q.c).2=true→MemV q.c cs q.V q.n→EqS q.c cs q.cs→cr=[]→t=2+k→CI q t cs cr m
  | done:m.s.next=13→CD q cs cr m.s→t≤q.T→CI q t cs cr m
theorem rows_nil {m:Cm} (h:m.s.did=false):m.rows=[]:=by
  unfold Cm.rows
  rw [if_neg (by rw [h];decide)]
section
variable {q:Cq} {t:Nat} {cs:List Cell} {cr:List BRow} {m:Cm}
theorem CI.new (_hq:CQ q):CI q 0 q.cs [] (Cm.new q.p q.progs):=by
  by_cases h:rightB q.code=true∧onlyB q.code=false
  · refine .args 0 h.1 h.2 ?_ rfl (by decide) rfl rfl rfl rfl
    unfold Cm.new
    exact if_pos h
  · refine .lookR ?_ ?_ rfl rfl rfl rfl
    · cases h1:rightB q.code with
      | false=>exact .inl rfl
      | true =>
        cases h2:onlyB q.code with
        | true=>exact .inr rfl
        | false=>exact absurd ⟨h1,h2⟩ h
    · unfold Cm.new
      exact if_neg h
theorem WB.of (hq:CQ q) (hr:rightB q.code=true) (hn:q.n<q.c.last) {k:Nat} {b:Bm} (hb:BI q.tq k cs b) (hak:(b.ask q.c).2=false):b.b.s=1∧∃ r ms2,WB q b cs r ms2:=by
  have hc:=hq.hc
  have ht0:=hc.t0
  obtain ⟨P,v,ms2,hs,hbu,he,hm⟩:=hb.fin hq.tok hak
  obtain ⟨r,hrows,hwho⟩:=hq.rows hn hbu.whos
  have hdone:=hbu.done hq.tok hm
  obtain ⟨hp1,hp2⟩:=hq.pend1 hn hq.who
  obtain ⟨ha1,ha2⟩:=hp2 rfl
  obtain ⟨_,hcode⟩:=hq.pn hr
  have hmem:r∈b.rows:=by rw [hrows];exact List.mem_cons_self ..
  have htag:=hbu.tags r hmem
  have hrc:=(hbu.told r hmem).2
  have hcf:=hbu.cf
  rw [hrows] at hcf
  have hkE:KfR q.c b.e.puts:=by
    have h12:=at_in hc (kind:=12) (i:=0) (j:=0) (by decide) (in12 q.c)
    have h14:=at_in hc (kind:=14) (i:=0) (j:=0) (by decide) (in14 q.c)
    unfold Tx at h12 h14
    have hk:KfR q.c P:=hbu.keys
    rw [he]
    show KfR q.c (endP q.c q.c.cap.toNat b.e.p P)
    unfold endP
    split
    · split
      · exact hk
      · exact hk.put h12.1 _
    · refine KfR.put ?_ h14.1 _
      split
      · exact hk
      · exact hk.put h12.1 _
  have hlen:(b.e.puts.length:Int)≤q.c.cap:=by
    obtain ⟨fs,ls,hj⟩:=hbu.jr
    have hl:=hbu.len
    have hl:b.rows.length≤q.c.threads.toNat:=hl
    have hrm:=hj.room hc (by show ((b.rows.length:Nat):Int)≤q.c.threads;omega) (by show ((b.rows.length:Nat):Int)≤q.c.threads;omega)
    have hcap:=hc.cap
    have h1:(endP q.c q.c.cap.toNat b.e.p P).length≤P.length+2:=by
      have h1:=putP_len q.c.cap.toNat P (q.c.at 12 0 0) b.e.p.nt.toNat
      unfold endP
      by_cases e1:b.e.p.nt=b.e.p.wt
      · rw [if_pos e1]
        have h2:=putP_len q.c.cap.toNat P (q.c.at 14 0 0) b.e.p.nl.toNat
        split<;>omega
      · rw [if_neg e1]
        have h2:=putP_len q.c.cap.toNat (putP q.c.cap.toNat P (q.c.at 12 0 0) b.e.p.nt.toNat) (q.c.at 14 0 0) b.e.p.nl.toNat
        split<;>omega
    have he':b.e.puts=endP q.c q.c.cap.toNat b.e.p P:=he
    have hrm:P.length+2≤q.c.cap.toNat:=hrm
    rw [he']
    omega
  have hE:∀ e∈entriesOf q.c b.e.puts,∃ x∈b.e.puts,x.1=e.1:=fun e hm=>by
    have h1:=(List.mem_filter.1 hm).1
    exact keysP_mem (List.mem_map.2 ⟨e,h1,rfl⟩)
  cases hcf with
  | cons k0 k1 k2 =>
    cases k2
    refine ⟨hs,r,ms2,⟨hrows,hwho, ?_, ?_,hrc,k0,hm, ?_,fun e hm=>?_, ?_, ?_⟩⟩
    · rw [htag,hwho]
      show (annC q.c q.cs1 q.p.who).seq=_
      rw [ha1]
    · have k1:RunTo q.c (progOf q.progs (annC q.c q.cs1 r.who).val) q.ms (argsC q.c q.cs1 r.who) r.rc r.rv r.news ms2:=k1
      rw [hwho,ha1,ha2] at k1
      dsimp only at k1
      rw [hcode] at k1
      exact k1
    · rw [he];exact hdone
    · obtain ⟨x,hx,e'⟩:=hE e hm
      rw [←e'];exact hkE x hx
    · have h1:(entriesOf q.c b.e.puts).length≤b.e.puts.length:=Nat.le_trans (List.length_filter_le _ _) (allP_len _)
      omega
    · exact (allP_nod b.e.puts).sublist (List.Sublist.map _ List.filter_sublist)
theorem WB.w {b:Bm} {r:BRow} {ms2:Ms} (hq:CQ q) (h:WB q b cs r ms2):((q.W b cs).length:Int)=q.c.f17∧(∀ a,Tx q.c a→cellI (q.W b cs) a=cellI cs a)∧cellI (q.W b cs) (q.c.at 4 q.p.who 0)=⟨1,q.n+1⟩∧cellI (q.W b cs) 0=⟨q.p.who.toNat,q.n+1⟩∧(∀ u:Int,0≤u∧u<q.c.threads→u≠q.p.who→(cellI (q.W b cs) (q.c.at 4 u 0)).val=0)∧(∀ u:Int,0≤u∧u<q.c.threads→cellI (q.W b cs) (q.c.at 1 u 0)=cellI q.cs1 (q.c.at 1 u 0))∧cellI (scrM q.c q.p.who (q.n+1) (q.E b) cs ((q.E b).length+2)) 0=cellI q.cs1 0:=by
  have hc:=hq.hc
  have hf:=f717 hc
  have hl0:=hq.sz
  have hl1:(q.cs1.length:Int)=q.c.f17:=by
    unfold Cq.cs1
    rw [wantC_len hc hl0 hq.who _ hq.args];exact hl0
  have hl:(cs.length:Int)=q.c.f17:=by rw [h.mb.e.1];exact hl1
  have hw0:(q.c.what 0).1=0:=by
    unfold Cfg.what
    rw [if_neg (by omega),if_pos rfl]
  have hE:((q.E b).length:Int)≤q.c.cap:=h.len
  have hne:∀ a:Int,0≤a→a<cs.length→((q.c.what a).1≠4∧(q.c.what a).1≠5∧(q.c.what a).1≠6)∨(q.c.what a).2.1≠q.p.who→cellI (scrM q.c q.p.who (q.n+1) (q.E b) cs ((q.E b).length+2)) a=cellI cs a:=fun a h0 h1 hk=>scrM_ne hc hq.who hE h0 h1 hk _ (Nat.le_refl _)
  have hW:∀ a:Int,0≤a→a<cs.length→cellI (q.W b cs) a=if (0:Int)=a then ⟨q.p.who.toNat,q.n+1⟩ else cellI (scrM q.c q.p.who (q.n+1) (q.E b) cs ((q.E b).length+2)) a:=fun a h0 h1=>by
    unfold Cq.W
    rw [cellI_setOf h0 (by rw [scrM_len];exact h1)]
  have hown:∀ {kind u:Int},1≤kind∧kind≤5∧kind≠2→0≤u∧u<q.c.threads→q.c.what (q.c.at kind u 0)=(kind,u,0)∧1≤q.c.at kind u 0∧q.c.at kind u 0<q.c.f7:=fun {kind u} hk hu=>by
    have hw:=at_own hc (kind:=kind) (i:=u) (k:=0) (by omega) hu (by
      unfold Cfg.cnt
      rw [if_neg (by omega),if_pos (by omega)];exact ⟨Int.le_refl _,(by decide:(0:Int)<1)⟩)
    exact ⟨hw,own_in (by rw [hw];dsimp only;omega)⟩
  refine ⟨by unfold Cq.W;rw [setOf_len,scrM_len];exact hl,fun a ha=>?_, ?_, ?_,fun u hu hne'=>?_,fun u hu=>?_, ?_⟩
  · obtain ⟨h0,h1,h7⟩:=tx_in hc hl ha
    rw [hW a h0 h1,if_neg (by unfold Tx at ha;omega)]
    exact hne a h0 h1 (.inl (by omega))
  · obtain ⟨hw,h1,h2⟩:=hown (kind:=4) (by decide) hq.who
    rw [hW _ (by omega) (by omega),if_neg (by omega)]
    exact scrM_open hc hq.who (by omega) (by omega)
  · rw [hW 0 (by omega) (by omega),if_pos rfl]
  · obtain ⟨hw,h1,h2⟩:=hown (kind:=4) (by decide) hu
    rw [hW _ (by omega) (by omega),if_neg (by omega),hne _ (by omega) (by omega) (.inr (by rw [hw];exact hne')),h.mb.e.2 _ (by omega) (by omega) (by rw [hw];dsimp only;omega)]
    unfold Cq.cs1
    rw [wantC_ne hc hl0 hq.who _ _ _ (by omega) (by omega) (by rw [hw];dsimp only;omega)]
    exact hq.mid.opens u hu
  · obtain ⟨hw,h1,h2⟩:=hown (kind:=1) (by decide) hu
    rw [hW _ (by omega) (by omega),if_neg (by omega),hne _ (by omega) (by omega) (.inl (by rw [hw];dsimp only;omega)),h.mb.e.2 _ (by omega) (by omega) (by rw [hw];dsimp only;omega)]
  · rw [hne 0 (by omega) (by omega) (.inl (by omega)),h.mb.e.2 0 (by omega) (by omega) (by omega)]
theorem WB.fin {b:Bm} {csb:List Cell} {r:BRow} {ms2:Ms} (hq:CQ q) (hr:rightB q.code=true) (ho:onlyB q.code=false) (hn:q.n<q.c.last) (h:WB q b csb r ms2) (he:EqS q.c cs (setOf (putEs (q.n+1) (q.E b) (q.W b csb)) (q.c.at 4 q.p.who 0) ⟨0,q.n+1⟩)) {s:Cs} (h1:s.rc=r.rc) (h2:s.rv=r.rv) (h3:s.alone=false) (hcr:cr=[r]):CD q cs cr s:=by
  have hc:=hq.hc
  have hf:=f717 hc
  obtain ⟨w1,w2,w3,w4,w5,w6,_⟩:=h.w hq
  have hl0:=hq.sz
  have hl1:(q.cs1.length:Int)=q.c.f17:=by
    unfold Cq.cs1
    rw [wantC_len hc hl0 hq.who _ hq.args];exact hl0
  have hlb:(csb.length:Int)=q.c.f17:=by rw [h.mb.e.1];exact hl1
  have hown:∀ {kind u:Int},(kind=1∨kind=4)→0≤u∧u<q.c.threads→q.c.what (q.c.at kind u 0)=(kind,u,0)∧1≤q.c.at kind u 0∧q.c.at kind u 0<q.c.f7:=fun {kind u} hk hu=>by
    have hw:=at_own hc (kind:=kind) (i:=u) (k:=0) (by omega) hu (by unfold Cfg.cnt;rcases hk with rfl|rfl<;>simp)
    exact ⟨hw,own_in (by rw [hw];dsimp only;omega)⟩
  have hkf:∀ a:Int,0≤a→a<q.c.f7→∀ e∈q.E b,e.1≠a:=fun a h0 h1 e hm=>by
    have:=h.keys e hm
    omega
  obtain ⟨o1,o2,o3⟩:=hown (kind:=4) (.inr rfl) hq.who
  have hcell:∀ a:Int,0≤a→a<q.c.f17→(q.c.what a).1≠3→cellI cs a=if q.c.at 4 q.p.who 0=a then ⟨0,q.n+1⟩ else cellI (putEs (q.n+1) (q.E b) (q.W b csb)) a:=fun a h0 h1 hk=>by
    rw [he.eq a h0 (by rw [setOf_len,putEs_len];omega) hk,cellI_setOf h0 (by rw [putEs_len];omega)]
  have hlow:∀ a:Int,0≤a→a<q.c.f7→(q.c.what a).1≠3→q.c.at 4 q.p.who 0≠a→cellI cs a=cellI (q.W b csb) a:=fun a h0 h1 hk hne=>by
    rw [hcell a h0 (by omega) hk,if_neg hne]
    exact putEs_ne _ _ _ h0 (by omega) (hkf a h0 h1)
  have hx:∀ a,Tx q.c a→cellI cs a=cellI (putEs (q.n+1) (q.E b) csb) a:=fun a ha=>by
    obtain ⟨h0,h1,h7⟩:=tx_in hc hlb ha
    rw [hcell a h0 (by omega) (by omega),if_neg (by unfold Tx at ha;omega)]
    exact putEs_congr _ _ _ _ (by omega) h0 h1 (w2 a ha)
  have hlc:cs.length=(putEs (q.n+1) (q.E b) csb).length:=by
    rw [he.len,setOf_len,putEs_len,putEs_len];omega
  obtain ⟨fs,ls,hm,hls⟩:=h.done.memL
  have hls:2 * (ls.length:Int)≤2 * q.c.threads+(b.rows.length:Int) * q.c.writes:=hls
  rw [h.rows] at hls
  have hrl:((([r]:List BRow).length:Nat):Int) * q.c.writes=q.c.writes:=Int.one_mul _
  rw [hrl] at hls
  have htag:∀ u:Int,0≤u∧u<q.c.threads→(cellI cs (q.c.at 7 u 0)).val=if pendB q.c q.cs1 u=true then (annC q.c q.cs1 u).seq else (cellI q.cs1 (q.c.at 7 u 0)).val:=fun u hu=>by
    rw [hx _ (at_in hc (by decide) (in7 (by decide) hu))]
    exact h.done.tag u hu
  have hann:∀ u:Int,0≤u∧u<q.c.threads→annC q.c cs u=annC q.c q.cs1 u:=fun u hu=>by
    obtain ⟨k1,k2,k3⟩:=hown (kind:=1) (.inl rfl) hu
    unfold annC
    rw [hlow _ (by omega) (by omega) (by rw [k1];dsimp only;omega) (fun e=>by rw [e,k1] at o1;injection o1 with o1;omega)]
    exact w6 u hu
  refine .wrote r ms2 fs ls hr ho hn hcr h.who h.tag h.ok h.run h1 h2 h3 ⟨MemH.congr hc hm hlc hx,hls, ?_,fun u hu=>?_,fun _ u h0 h1=>?_⟩ (fun u hu hne=>?_) ?_
  · rw [hlow 0 (by omega) (by omega) (by unfold Cfg.what;rw [if_neg (by omega),if_pos rfl];dsimp only;omega) (by omega),w4]
  · obtain ⟨k1,k2,k3⟩:=hown (kind:=4) (.inr rfl) hu
    by_cases e:u=q.p.who
    · subst e
      rw [hcell _ (by omega) (by omega) (by rw [k1];dsimp only;omega),if_pos rfl]
    · rw [hlow _ (by omega) (by omega) (by rw [k1];dsimp only;omega) (fun e'=>by rw [e',k1] at o1;injection o1 with _ o1;injection o1 with o1;exact e o1)]
      exact w5 u hu e
  · have e1:=hann u ⟨h0,h1⟩
    have e2:=htag u ⟨h0,h1⟩
    unfold pendB
    rw [e1,e2]
    cases hp:pendB q.c q.cs1 u with
    | true=>rw [if_pos rfl];simp
    | false=>rw [if_neg (by decide)];exact hp
  · have hp:=(hq.pend1 hn hu).1
    obtain ⟨g1,g2,g3⟩:=want_ann hc hl0 hq.who q.pn hq.args q.p.tag
    have g2:cellI q.cs1 (q.c.at 7 u 0)=cellI q.cs (q.c.at 7 u 0):=g2 _ (at_in hc (by decide) (in7 (by decide) hu))
    rw [htag u hu,hp,if_neg (by rw [decide_eq_false hne];decide),g2]
  · rw [htag _ hq.who,(hq.pend1 hn hq.who).1,if_pos (decide_eq_true rfl),((hq.pend1 hn hq.who).2 rfl).1]
end
end Go.Proofs.YthmbgodcpgkkeaaGreat
end
