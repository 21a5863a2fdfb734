/-
  A transaction over a memory that nobody else turns, step by step: it does just what is asked for and was not done, and comes to what programs come to.
-/
import Derived.Test.YthmbgodcpgkkeaaGreatWf
namespace Go.Proofs.YthmbgodcpgkkeaaGreat
set_option maxRecDepth 100000
structure Tq where
  c:Cfg
  progs:Progs
  cs:List Cell
  n:Nat
  who:Int
  fs:List Nat
  ls:List Nat
  ms:Ms
def Tq.V (q:Tq):Int→Nat:=fun a=>(cellI q.cs a).val
def Tq.K (q:Tq):Nat:=q.c.threads.toNat+2+q.ls.length
def Tq.W (q:Tq):Nat:=7+3 * q.c.fuel.toNat
def Tq.p1 (q:Tq):Po:=pool1 q.c q.cs q.n q.fs.length q.ls
def Tq.P0 (q:Tq):List (Int×Nat):=(set1 q.c q.c.cap.toNat q.p1 []).puts
def Tq.p0 (q:Tq):Po:=q.p1.settled q.c q.c.cap.toNat []
def Tq.code (q:Tq) (u:Int):List Ins:=progOf q.progs (annC q.c q.cs u).val
structure Tok (q:Tq):Prop where
  hc:Small q.c
  fu:0≤q.c.fuel∧q.c.fuel≤200
  mem:MemH q.c q.cs q.n q.fs q.ls q.ms.roots q.ms.blocks
  who:0≤q.who∧q.who<q.c.threads
theorem Tok.fu' {q:Tq} (h:Tok q):0≤q.c.fuel∧q.c.fuel≤1000:=⟨h.fu.1,by have:=h.fu.2;omega⟩
theorem JR.told {c:Cfg} {V:Int→Nat} {sq T L:Nat} {who:Int} {k j:Nat} {ms:Ms} {P:List (Int×Nat)} {p:Po} {v:Vw} {fs ls:List Nat} (hc:Small c) (h:JR c V sq T L who k j ms P p v fs ls) (hk:(k:Int)≤c.threads) (hj:(j:Int)+1≤c.threads) {u:Int} (hu:0≤u∧u<c.threads) (x y z:Nat) :
    JR c V sq T L who k (j+1) ms (putP c.cap.toNat (putP c.cap.toNat (putP c.cap.toNat P (c.at 8 u 0) x) (c.at 9 u 0) y) (c.at 7 u 0) z) p v fs ls∧P.length+3≤c.cap.toNat:=by
  have hcap:c.cap=c.threads * (c.writes+3)+3 * c.limit+2:=rfl
  have hlm:c.limit=c.threads * (c.writes+1):=rfl
  have ht0:=hc.t0;have hw0:=hc.w0
  have hlim:=hc.limit
  have hmul:(k:Int) * c.writes≤c.threads * c.writes:=Int.mul_le_mul_of_nonneg_right hk hw0
  have hkw:0≤(k:Int) * c.writes:=Int.mul_nonneg (by omega) hw0
  rw [Int.mul_add] at hcap hlm
  have h1:=h.lim;have h2:=h.len
  have hr:P.length+3≤c.cap.toNat:=by omega
  have l1:=putP_len c.cap.toNat P (c.at 8 u 0) x
  have l2:=putP_len c.cap.toNat (putP c.cap.toNat P (c.at 8 u 0) x) (c.at 9 u 0) y
  have l3:=putP_len c.cap.toNat (putP c.cap.toNat (putP c.cap.toNat P (c.at 8 u 0) x) (c.at 9 u 0) y) (c.at 7 u 0) z
  refine ⟨⟨?_, ?_,h.nt,h.nl,h.wt,h.wl,h1,by omega,h.ns,h.who,h.sq,h.held,h.vb,h.blk,h.vgo⟩,hr⟩
  · exact (((h.rep.own hc (by decide) hu (by omega) x).own hc (by decide) hu (by omega) y).own hc (by decide) hu (by omega) z)
  · exact (((h.pk.own hc (by decide) hu (by omega) x).own hc (by decide) hu (by omega) y).own hc (by decide) hu (by omega) z)
structure BU (q:Tq) (u:Nat) (rows:List BRow) (P:List (Int×Nat)) (p:Po) (v:Vw) (ms:Ms):Prop where
  jr:∃ fs ls,JR q.c q.V q.n q.fs.length q.ls.length q.who rows.length rows.length ms P p v fs ls
  cf:Cf q.c q.progs q.cs q.ms rows ms
  whos:rows.map (·.who)=((List.range u).map fun k:Nat=>(k:Int)).filter (pendB q.c q.cs)
  tags:∀ r∈rows,r.tag=(annC q.c q.cs r.who).seq
  told:∀ r∈rows,(ovl P q.V (q.c.at 8 r.who 0)=r.rc.toNat∧ovl P q.V (q.c.at 9 r.who 0)=r.rv∧ovl P q.V (q.c.at 7 r.who 0)=r.tag)∧0≤r.rc∧r.rc≤100
  rest:∀ i:Int,0≤i→i<q.c.threads→(¬ i∈rows.map (·.who))→ovl P q.V (q.c.at 7 i 0)=q.V (q.c.at 7 i 0)
  triv:rows=[]→P=q.P0∧p=q.p0
  keys:KfR q.c P
section
variable {q:Tq} {u:Nat} {rows:List BRow} {P:List (Int×Nat)} {p:Po} {v:Vw} {ms:Ms}
theorem BU.who_lt (h:BU q u rows P p v ms) {r:BRow} (hr:r∈rows):0≤r.who∧r.who<u∧pendB q.c q.cs r.who=true:=by
  have:r.who∈rows.map (·.who):=List.mem_map.2 ⟨r,hr,rfl⟩
  rw [h.whos,List.mem_filter,List.mem_map] at this
  obtain ⟨⟨k,hk,e⟩,hp⟩:=this
  have:=List.mem_range.1 hk
  rw [←e] at hp⊢
  exact ⟨by omega,by omega,hp⟩
theorem BU.len (h:BU q u rows P p v ms):rows.length≤u:=by
  have h1:=congrArg List.length h.whos
  rw [List.length_map] at h1
  have h2:=List.length_filter_le (pendB q.c q.cs) ((List.range u).map fun k:Nat=>(k:Int))
  rw [List.length_map,List.length_range] at h2
  omega
theorem BU.zero (hq:Tok q):BU q 0 [] q.P0 q.p0 (Vw.new q.who q.n) q.ms:=by
  refine ⟨JR.init hq.hc hq.mem q.who, .nil _,rfl,fun r hr=>(by cases hr),fun r hr=>(by cases hr),fun i h0 h1 _=>?_,fun _=>⟨rfl,rfl⟩, ?_⟩
  · have:=PA.setGo hq.hc q.c.cap.toNat q.p1.names (P0:=[]) q.p1.limbo 0 0 ⟨0,q.p1.nt,[]⟩ (PA.nil q.c [] 0)
    exact (PA.ovl7 (V:=q.V) hq.hc this (by decide) ⟨h0,h1⟩).trans rfl
  · exact KfR.adds hq.hc (P:=[]) (fun x hx=>by cases hx) (PA.setGo hq.hc q.c.cap.toNat q.p1.names (P0:=[]) q.p1.limbo 0 0 ⟨0,q.p1.nt,[]⟩ (PA.nil q.c [] 0))
theorem range_snoc (u:Nat):(List.range (u+1)).map (fun k:Nat=>(k:Int))=(List.range u).map (fun k:Nat=>(k:Int))++[(u:Int)]:=by
  rw [List.range_succ,List.map_append];rfl
theorem BU.pass (_hq:Tok q) (h:BU q u rows P p v ms) (hp:pendB q.c q.cs u=false):BU q (u+1) rows P p v ms:=by
  refine ⟨h.jr,h.cf, ?_,h.tags,h.told,h.rest,h.triv,h.keys⟩
  rw [h.whos,range_snoc,List.filter_append]
  simp [hp]
theorem BU.told_ (hq:Tok q) (h:BU q u rows P p v ms) (hp:pendB q.c q.cs u=true) (hu:(u:Int)<q.c.threads) {g:Bg} {fs ls:List Nat} (hg:JB q.c q.V q.n q.fs.length q.ls.length q.who ms P p v g fs ls) (hjr:JR q.c q.V q.n q.fs.length q.ls.length q.who rows.length rows.length ms P p v fs ls) {m:Xm} {ms':Ms} (hf:JF q.c q.V g (q.code u) ms (argsC q.c q.cs u) P v p m ms') :
    BU q (u+1) (rows++[⟨u,(annC q.c q.cs u).seq,m.x.rc,m.x.rv,m.news⟩]) (putP q.c.cap.toNat (putP q.c.cap.toNat (putP q.c.cap.toNat m.puts (q.c.at 8 u 0) m.x.rc.toNat) (q.c.at 9 u 0) m.x.rv) (q.c.at 7 u 0) (annC q.c q.cs u).seq) m.p m.v ms':=by
  have hc:=hq.hc
  have hl:=h.len
  have hu0:0≤(u:Int)∧(u:Int)<q.c.threads:=⟨by omega,hu⟩
  obtain ⟨fs',ls',hj⟩:=hjr.next hc hg hf
  obtain ⟨hj2,hr⟩:=hj.told hc (by omega) (by omega) hu0 m.x.rc.toNat m.x.rv (annC q.c q.cs u).seq
  obtain ⟨hrc,hpa⟩:=hf.num
  have l1:=putP_len q.c.cap.toNat m.puts (q.c.at 8 u 0) m.x.rc.toNat
  have l2:=putP_len q.c.cap.toNat (putP q.c.cap.toNat m.puts (q.c.at 8 u 0) m.x.rc.toNat) (q.c.at 9 u 0) m.x.rv
  have n78:=ne_kind hc (k1:=8) (k2:=7) (by decide) (by decide) (in7 (by decide) hu0) (in7 (by decide) hu0) (by omega)
  have n79:=ne_kind hc (k1:=9) (k2:=7) (by decide) (by decide) (in7 (by decide) hu0) (in7 (by decide) hu0) (by omega)
  have n89:=ne_kind hc (k1:=8) (k2:=9) (by decide) (by decide) (in7 (by decide) hu0) (in7 (by decide) hu0) (by omega)
  have hov:∀ a,ovl (putP q.c.cap.toNat (putP q.c.cap.toNat (putP q.c.cap.toNat m.puts (q.c.at 8 u 0) m.x.rc.toNat) (q.c.at 9 u 0) m.x.rv) (q.c.at 7 u 0) (annC q.c q.cs u).seq) q.V a=if a=q.c.at 7 u 0 then (annC q.c q.cs u).seq else if a=q.c.at 9 u 0 then m.x.rv else if a=q.c.at 8 u 0 then m.x.rc.toNat else ovl m.puts q.V a:=fun a=>by
    rw [putP_ovl q.V (by omega),putP_ovl q.V (by omega),putP_ovl q.V (by omega)]
    rfl
  have hold:∀ kind i:Int,7≤kind∧kind≤9→0≤i→i<q.c.threads→i≠u→ovl (putP q.c.cap.toNat (putP q.c.cap.toNat (putP q.c.cap.toNat m.puts (q.c.at 8 u 0) m.x.rc.toNat) (q.c.at 9 u 0) m.x.rv) (q.c.at 7 u 0) (annC q.c q.cs u).seq) q.V (q.c.at kind i 0)=ovl P q.V (q.c.at kind i 0):=fun kind i hk h0 h1 hne=>by
    have hi:=in7 (c:=q.c) hk ⟨h0,h1⟩
    rw [hov,if_neg (ne_kind hc (by omega) (by decide) hi (in7 (by decide) hu0) (by omega)),if_neg (ne_kind hc (by omega) (by decide) hi (in7 (by decide) hu0) (by omega)),if_neg (ne_kind hc (by omega) (by decide) hi (in7 (by decide) hu0) (by omega))]
    exact hpa.ovl7 hc hk ⟨h0,h1⟩
  refine ⟨⟨fs',ls', ?_⟩,h.cf.snoc ⟨hjr.rep.rl,fun x hx=>hjr.rep.len x hx⟩ hf.run, ?_,fun r hr=>?_,fun r hr=>?_,fun i h0 h1 hn=>?_,fun e=>?_, ?_⟩
  · rw [List.length_append];exact hj2
  · rw [List.map_append,h.whos,range_snoc,List.filter_append]
    simp [hp]
  · rcases List.mem_append.1 hr with hr|hr
    · exact h.tags r hr
    · rw [List.mem_singleton.1 hr]
  · rcases List.mem_append.1 hr with hr|hr
    · obtain ⟨⟨h1,h2,h3⟩,h4⟩:=h.told r hr
      obtain ⟨w1,w2,_⟩:=h.who_lt hr
      exact ⟨⟨(hold 8 _ (by decide) w1 (by omega) (by omega)).trans h1,(hold 9 _ (by decide) w1 (by omega) (by omega)).trans h2,(hold 7 _ (by decide) w1 (by omega) (by omega)).trans h3⟩,h4⟩
    · rw [List.mem_singleton.1 hr]
      dsimp only
      refine ⟨⟨?_, ?_, ?_⟩,hrc⟩
      · rw [hov,if_neg n78,if_neg n89,if_pos rfl]
      · rw [hov,if_neg n79,if_pos rfl]
      · rw [hov,if_pos rfl]
  · rw [List.map_append,List.mem_append] at hn
    rw [hold 7 i (by decide) h0 h1 (fun e=>hn (.inr (by rw [e];simp)))]
    exact h.rest i h0 h1 fun e=>hn (.inl e)
  · exact absurd e (by simp)
  · exact ((h.keys.adds hc hpa).put (at7_in hc (by decide) hu0).1 _).put (at7_in hc (by decide) hu0).1 _ |>.put (at7_in hc (by decide) hu0).1 _
theorem BU.keys1 (hq:Tok q) (h:BU q u rows P p v ms) (p':Po) {i:Int} (hi:0≤i∧i<q.c.threads):∀ x∈endP q.c q.c.cap.toNat p' P,x.1≠q.c.at 1 i 0:=by
  have hc:=hq.hc
  have h12:=at_in hc (kind:=12) (i:=0) (j:=0) (by decide) (in12 q.c)
  have h14:=at_in hc (kind:=14) (i:=0) (j:=0) (by decide) (in14 q.c)
  have ho:=own_in (c:=q.c) (a:=q.c.at 1 i 0) (by rw [at_own hc (by decide) hi (by unfold Cfg.cnt;simp)];dsimp only;omega)
  unfold Tx at h12 h14
  have hk:KfR q.c (endP q.c q.c.cap.toNat p' P):=by
    unfold endP
    split
    · split
      · exact h.keys
      · exact h.keys.put h12.1 _
    · refine KfR.put ?_ h14.1 _
      split
      · exact h.keys
      · exact h.keys.put h12.1 _
  intro x hx e
  have:=hk x hx
  omega
end
inductive BI (q:Tq) (t:Nat) (cs:List Cell) (m:Bm):Prop
  | pool (k:Nat):m.b.s=0→m.b.next=0→m.b.u=0→k<q.K→m.e.p=poK q.c q.n (slotS q.c q.cs) q.fs.length q.ls k→m.e.puts=[]→m.rows=[]→m.e.v=Vw.new q.who q.n→t=k→cs=q.cs→BI q t cs m
  | ann (u:Nat) (ms:Ms):m.b.s=0→m.b.next=1→m.b.u=u→(u:Int)<q.c.threads→BU q u m.rows m.e.puts m.e.p m.e.v ms→t≤q.K+u * q.W→MemB q.c q.cs cs q.n→BI q t cs m
  | tag (u:Nat) (ms:Ms) (v0:Vw):m.b.s=0→m.b.next=2→m.b.u=u→(u:Int)<q.c.threads→m.b.ann=annC q.c q.cs u→m.b.ann.seq≠0→m.e.v=v0.cell q.c (q.c.at 7 u 0)→BU q u m.rows m.e.puts m.e.p v0 ms→t≤q.K+u * q.W+1→MemB q.c q.cs cs q.n→BI q t cs m
  | arg (u:Nat) (ms:Ms) (j:Nat):m.b.s=0→m.b.next=3→m.b.u=u→(u:Int)<q.c.threads→m.b.ann=annC q.c q.cs u→pendB q.c q.cs u=true→m.b.given=(j:Int)→j<4→m.b.args.take j=(argsC q.c q.cs u).take j→BU q u m.rows m.e.puts m.e.p m.e.v ms→t≤q.K+u * q.W+2+j→MemB q.c q.cs cs q.n→BI q t cs m
  | run (u:Nat) (ms:Ms) (P:List (Int×Nat)) (p:Po) (v:Vw) (g:Bg) (fs ls:List Nat) (k:Nat):m.b.s=0→m.b.next=4→m.b.u=u→(u:Int)<q.c.threads→m.b.ann=annC q.c q.cs u→pendB q.c q.cs u=true→BU q u m.rows P p v ms→JB q.c q.V q.n q.fs.length q.ls.length q.who ms P p v g fs ls→JR q.c q.V q.n q.fs.length q.ls.length q.who m.rows.length m.rows.length ms P p v fs ls→JQ q.c q.V g q.c.cap.toNat (q.code u) ms (argsC q.c q.cs u) P v p k m.e→(m.e.ask q.c).2=true→t≤q.K+u * q.W+6+k→MemB q.c q.cs cs q.n→BI q t cs m
  | done (P:List (Int×Nat)) (v:Vw) (ms:Ms):m.b.s=1→BU q q.c.threads.toNat m.rows P m.e.p v ms→m.e.puts=endP q.c q.c.cap.toNat m.e.p P→t≤q.K+q.c.threads.toNat * q.W→MemB q.c q.cs cs q.n→BI q t cs m
section
variable {q:Tq} {t:Nat} {cs:List Cell} {m:Bm}
theorem Tq.uw (q:Tq) {u:Nat} (h:(u:Int)<q.c.threads):(u+1) * q.W=u * q.W+q.W∧(u+1) * q.W≤q.c.threads.toNat * q.W :=
  ⟨Nat.succ_mul u q.W,Nat.mul_le_mul_right q.W (by omega)⟩
theorem BI.passed {u:Nat} {ms:Ms} (hu:(u:Int)<q.c.threads) (hb:BU q (u+1) m.rows m.e.puts m.e.p m.e.v ms) (hs:m.b.s=0) (hmu:m.b.u=u) (ht:t≤q.K+(u+1) * q.W) (hm:MemB q.c q.cs cs q.n):BI q t cs (m.pass q.c q.c.cap.toNat):=by
  have hw:=q.uw hu
  unfold Bm.pass
  by_cases e:m.b.u+1=q.c.threads
  · rw [if_pos e]
    have e':u+1=q.c.threads.toNat:=by omega
    rw [e'] at hb
    exact .done m.e.puts m.e.v ms rfl hb rfl (by omega) hm
  · rw [if_neg e]
    exact .ann (u+1) ms hs rfl (by dsimp only;omega) (by omega) hb ht hm
theorem BI.ran (hq:Tok q) {u:Nat} {ms:Ms} {P:List (Int×Nat)} {p:Po} {v:Vw} {g:Bg} {fs ls:List Nat} {k:Nat} (hs:m.b.s=0) (hn:m.b.next=4) (hmu:m.b.u=u) (hu:(u:Int)<q.c.threads) (ha:m.b.ann=annC q.c q.cs u) (hp:pendB q.c q.cs u=true) (hb:BU q u m.rows P p v ms) (hg:JB q.c q.V q.n q.fs.length q.ls.length q.who ms P p v g fs ls) (hjr:JR q.c q.V q.n q.fs.length q.ls.length q.who m.rows.length m.rows.length ms P p v fs ls) (h:JQ q.c q.V g q.c.cap.toNat (q.code u) ms (argsC q.c q.cs u) P v p k m.e) (ht:t≤q.K+u * q.W+6+k) (hm:MemB q.c q.cs cs q.n):BI q t cs (m.ran q.c q.c.cap.toNat):=by
  have hst:=h.steps hq.fu.1
  have hw:=q.uw hu
  have hW:q.W=7+3 * q.c.fuel.toNat:=rfl
  cases hak:(m.e.ask q.c).2 with
  | true =>
    have hs0:m.e.x.s=0:=Decidable.by_contra fun e=>by
      unfold Xm.ask at hak
      rw [if_pos e] at hak
      cases hak
    unfold Bm.ran
    rw [if_neg (by omega),if_neg (by omega)]
    exact .run u ms P p v g fs ls k hs hn hmu hu ha hp hb hg hjr h hak ht hm
  | false =>
    obtain ⟨hs1,ms',hj⟩:=h.fin hak
    unfold Bm.ran
    rw [if_neg (by omega),if_pos hs1]
    have hb2:=hb.told_ hq hp hu hg hjr hj
    refine BI.passed (ms:=ms') hu ?_ hs hmu (by omega) hm
    unfold Bm.told
    rw [hmu,ha]
    exact hb2
theorem BI.bound (h:BI q t cs m) (hf:0≤q.c.fuel):t≤q.K+q.c.threads.toNat * q.W:=by
  have hW:q.W=7+3 * q.c.fuel.toNat:=rfl
  cases h with
  | pool k _ _ _ hk _ _ _ _ ht=>omega
  | ann u ms _ _ _ hu _ ht=>have:=q.uw hu;omega
  | tag u ms v0 _ _ _ hu _ _ _ _ ht=>have:=q.uw hu;omega
  | arg u ms j _ _ _ hu _ _ _ hj _ _ ht=>have:=q.uw hu;omega
  | run u ms P p v g fs ls k _ _ _ hu _ _ _ _ _ hq ha ht =>
    have:=q.uw hu
    have:=hq.steps hf
    rw [if_pos ha] at this
    omega
  | done P v ms _ _ _ ht=>exact ht
theorem tag_v {v:Vw} (_hc:Small q.c) (hs:v.s≠2) {a:Int} (ha:7≤(q.c.what a).1∧(q.c.what a).1<16):v.cell q.c a={ v with val:=0,step:=3,s:=0,at_:=a }:=by
  unfold Vw.cell
  have e:(decide (7≤(q.c.what a).1) && decide ((q.c.what a).1<16))=true:=by simp [ha.1,ha.2]
  rw [e]
  obtain ⟨h1,h2⟩:=beg_ok hs
  rw [h1,h2];rfl
theorem BI.fin (hq:Tok q) (h:BI q t cs m) (ha:(m.ask q.c).2=false):∃ P v ms,m.b.s=1∧BU q q.c.threads.toNat m.rows P m.e.p v ms∧m.e.puts=endP q.c q.c.cap.toNat m.e.p P∧MemB q.c q.cs cs q.n:=by
  have hK:q.K=q.c.threads.toNat+2+q.ls.length:=rfl
  have ht0:=hq.hc.t0
  unfold Bm.ask at ha
  cases h with
  | pool k hs hn _ hk hp =>
    exfalso
    rw [if_neg (by omega),if_pos hn,hp,poK_ask hq.hc (by omega)] at ha
    cases ha
  | ann u ms hs hn =>
    exfalso
    rw [if_neg (by omega),if_neg (by omega),if_pos hn] at ha
    cases ha
  | tag u ms v0 hs hn hmu hu _ _ hv hb =>
    exfalso
    obtain ⟨fs,ls,hj⟩:=hb.jr
    have hw:=at_rest hq.hc (kind:=7) (i:=u) (k:=0) (by decide) (by have:=in7 (c:=q.c) (kind:=7) (u:=u) (by decide) ⟨by omega,hu⟩;exact ⟨this.1,this.2.1⟩) (by have:=in7 (c:=q.c) (kind:=7) (u:=u) (by decide) ⟨by omega,hu⟩;exact ⟨this.2.2.1,this.2.2.2⟩)
    rw [if_neg (by omega),if_neg (by omega),if_neg (by omega),if_pos hn,hv,tag_v hq.hc hj.ns (by rw [hw];dsimp only;omega)] at ha
    cases ha
  | arg u ms j hs hn =>
    exfalso
    rw [if_neg (by omega),if_neg (by omega),if_neg (by omega),if_neg (by omega),if_pos hn] at ha
    cases ha
  | run u ms P p v g fs ls k hs hn _ _ _ _ _ _ _ _ hak =>
    exfalso
    rw [if_neg (by omega),if_neg (by omega),if_neg (by omega),if_neg (by omega),if_neg (by omega),hak] at ha
    cases ha
  | done P v ms hs hb he ht hm=>exact ⟨P,v,ms,hs,hb,he,hm⟩
theorem take4 {a b:List Nat} (ha:a.length=4) (hb:b.length=4) {j:Nat} (hj:j<4) (h:a.take j=b.take j):(a.set j (b.getD j 0)).take (j+1)=b.take (j+1)∧(j+1=4→a.set j (b.getD j 0)=b):=by
  obtain ⟨a0,a1,a2,a3,rfl⟩:=len4 ha
  obtain ⟨b0,b1,b2,b3,rfl⟩:=len4 hb
  rcases j with _|_|_|_|j
  · simp
  · simp at h⊢;exact h
  · simp at h⊢;exact h
  · simp at h⊢;exact h
  · omega
theorem BI.step (hq:Tok q) (hal:m.b.args.length=4) (h:BI q t cs m) (hak:(m.ask q.c).2=true):BI q (t+1) (doMem cs q.who (m.ask q.c).1) (m.tell q.c q.c.cap.toNat q.progs (doOut cs q.who (m.ask q.c).1)):=by
  have hc:=hq.hc
  have hK:q.K=q.c.threads.toNat+2+q.ls.length:=rfl
  have hW:q.W=7+3 * q.c.fuel.toNat:=rfl
  have ht0:=hc.t0;have ht1:=hc.t1
  have hwho:=hq.who
  have hw8:0≤q.who∧q.who<8:=⟨hwho.1,by omega⟩
  have hpm:=hq.mem.pool
  unfold Bm.ask at hak⊢
  unfold Bm.tell
  cases h with
  | pool k hs hn hu hk hp hpu hro hv ht hcs =>
    subst hcs
    rw [if_neg (by omega),if_pos hn] at hak⊢
    rw [if_neg (by omega),if_pos hn,hp,poK_ask hc (by omega)]
    obtain ⟨g1,g2,g3⟩:=pool_out hc hpm hw8 (k:=k) (by omega)
    rw [poK_tell hc hpm.F1 hpm.L1 (by omega) g1 fun e=>g2 e,g3]
    unfold Bm.pooled
    dsimp only
    rw [poK_s hc]
    by_cases e:((k+1:Nat):Int)=q.c.threads+2+q.ls.length
    · rw [if_pos e,if_neg (by decide),if_pos rfl]
      have e':k+1=q.c.threads.toNat+2+q.ls.length:=by omega
      have hz:=BU.zero hq
      unfold Tq.P0 Tq.p0 Tq.p1 at hz
      rw [hpu,hro,e',hv]
      refine .ann 0 q.ms hs rfl hu (by show (0:Int)<_;omega) hz ?_ ⟨hq.mem.mem,fun a _=>rfl,fun _=>rfl,rfl,fun _ _ _ _=>rfl⟩
      omega
    · rw [if_neg e,if_neg (by decide),if_neg (by decide)]
      exact .pool (k+1) hs hn hu (by omega) rfl hpu hro hv (by omega) rfl
  | ann u ms hs hn hmu hu hb ht hm =>
    rw [if_neg (by omega),if_neg (by omega),if_pos hn] at hak⊢
    rw [if_neg (by omega),if_neg (by omega),if_pos hn,hmu]
    have hwa:=at_own hc (kind:=1) (i:=u) (k:=0) (by decide) ⟨by omega,hu⟩ (by unfold Cfg.cnt;simp)
    rw [hm.load hc hwho (by rw [hwa];exact .inl rfl),doMem_load]
    unfold Bm.announce
    dsimp only
    show BI q (t+1) cs (if (annC q.c q.cs u).seq=0 then _ else _)
    by_cases e:(annC q.c q.cs u).seq=0
    · rw [if_pos e]
      refine BI.passed hu (hb.pass hq ?_) hs (by exact hmu) (by have:=q.uw hu;omega) hm
      unfold pendB
      rw [e];rfl
    · rw [if_neg e]
      exact .tag u ms m.e.v hs rfl hmu hu rfl e (by dsimp only;first|rfl|rw [hmu]) hb (by omega) hm
  | tag u ms v0 hs hn hmu hu ha hne hv hb ht hm =>
    obtain ⟨fs,ls,hj⟩:=hb.jr
    have hin:=in7 (c:=q.c) (kind:=7) (u:=u) (by decide) ⟨by omega,hu⟩
    have hw:=at_rest hc (kind:=7) (i:=u) (k:=0) (by decide) ⟨hin.1,hin.2.1⟩ ⟨hin.2.2.1,hin.2.2.2⟩
    have hve:=tag_v hc hj.ns (a:=q.c.at 7 u 0) (by rw [hw];dsimp only;omega)
    rw [if_neg (by omega),if_neg (by omega),if_neg (by omega),if_pos hn] at hak⊢
    rw [if_neg (by omega),if_neg (by omega),if_neg (by omega),if_pos hn,hv,hve]
    have eop:(Vw.ask q.c { v0 with val:=0,step:=3,s:=0,at_:=q.c.at 7 u 0 }).1=mop 0 (q.c.at 7 u 0) 0:=rfl
    rw [eop]
    obtain ⟨g1,g2,g3⟩:=hm.v.load hc hw8 (at_in hc (by decide) hin)
    rw [g3]
    generalize doOut cs q.who (mop 0 (q.c.at 7 u 0) 0)=o at g1 g2
    have hsq:=hj.sq
    have etl:Vw.tell { v0 with val:=0,step:=3,s:=0,at_:=q.c.at 7 u 0 } o={ v0 with val:=o.was.val,step:=0,s:=1,at_:=q.c.at 7 u 0 }:=by
      unfold Vw.tell
      rw [if_neg (show ¬ (3:Int)=1 by decide),if_pos (.inr rfl)]
      unfold Vw.loaded
      rw [if_neg (show ¬ v0.seq<o.was.seq by omega),if_pos rfl]
    rw [etl]
    have hb2:BU q u m.rows m.e.puts m.e.p { v0 with val:=o.was.val,step:=0,s:=1,at_:=q.c.at 7 u 0 } ms :=
      ⟨⟨fs,ls,⟨hj.rep,hj.pk,hj.nt,hj.nl,hj.wt,hj.wl,hj.lim,hj.len,(by show (1:Int)≠2;decide),hj.who,hj.sq,hj.held,hj.vb,hj.blk,fun e=>(by cases e)⟩⟩,hb.cf,hb.whos,hb.tags,hb.told,hb.rest,hb.triv,hb.keys⟩
    unfold Bm.tag
    dsimp only
    rw [if_neg (by decide),g1]
    rw [g1] at hb2
    have hcell:(fun a=>(cellI q.cs a).val) (q.c.at 7 u 0)=(cellI q.cs (q.c.at 7 u 0)).val:=rfl
    by_cases e:(cellI q.cs (q.c.at 7 u 0)).val=m.b.ann.seq
    · rw [if_pos e]
      rw [ha] at e
      refine BI.passed hu (hb2.pass hq ?_) hs hmu (by have:=q.uw hu;omega) hm
      unfold pendB
      rw [decide_eq_false (show ¬ (cellI q.cs (q.c.at 7 u 0)).val≠(annC q.c q.cs u).seq from fun h=>h e)]
      simp
    · rw [if_neg e]
      rw [ha] at e hne
      refine .arg u ms 0 hs rfl hmu hu ha ?_ rfl (by decide) rfl hb2 (by omega) hm
      unfold pendB
      rw [decide_eq_true hne,decide_eq_true e];rfl
  | arg u ms j hs hn hmu hu ha hp hg hj hta hb ht hm =>
    rw [if_neg (by omega),if_neg (by omega),if_neg (by omega),if_neg (by omega),if_pos hn] at hak⊢
    rw [if_neg (by omega),if_neg (by omega),if_neg (by omega),if_neg (by omega),if_pos hn,hmu,hg]
    have hwa:=at_own hc (kind:=2) (i:=u) (k:=j) (by decide) ⟨by omega,hu⟩ (by unfold Cfg.cnt;simp;omega)
    rw [hm.load hc hwho (by rw [hwa];exact .inr rfl),doMem_load]
    dsimp only
    have hx:(cellI q.cs (q.c.at 2 u j)).val=(argsC q.c q.cs u).getD j 0:=by
      rcases j with _|_|_|_|j
      · rfl
      · rfl
      · rfl
      · rfl
      · omega
    obtain ⟨k1,k2⟩:=take4 hal (b:=argsC q.c q.cs u) rfl hj hta
    rw [show ((j:Int)).toNat=j from rfl,hx]
    by_cases e:(j:Int)+1=4
    · rw [if_pos e,k2 (by omega)]
      unfold Bm.begin
      dsimp only
      obtain ⟨fs,ls,hjr⟩:=hb.jr
      have hrl:=hb.len
      obtain ⟨g,hgb⟩:=hjr.begin hc hq.fu' (by omega) (by omega)
      rw [ha]
      refine BI.ran (u:=u) (ms:=ms) (k:=0) hq hs rfl hmu hu rfl hp hb hgb hjr ?_ (by omega) hm
      exact JQ.init hgb.fits hgb.S fun hr=>hgb.xj _ _ rfl hr
    · rw [if_neg e]
      exact .arg u ms (j+1) hs hn hmu hu ha hp (by dsimp only;omega) (by omega) k1 hb (by omega) hm
  | run u ms P p v g fs ls k hs hn hmu hu ha hp hb hg hjr hjq hak2 ht hm =>
    rw [if_neg (by omega),if_neg (by omega),if_neg (by omega),if_neg (by omega),if_neg (by omega)] at hak⊢
    rw [if_neg (by omega),if_neg (by omega),if_neg (by omega),if_neg (by omega),if_neg (by omega)]
    have hgw:=hg.who
    have hs0:m.e.x.s=0:=Decidable.by_contra fun e=>by
      unfold Xm.ask at hak2
      rw [if_pos e] at hak2
      cases hak2
    have ea:m.e.ask q.c=m.e.v.ask q.c:=by unfold Xm.ask;rw [if_neg (by omega)]
    obtain ⟨hr,hmv,hx2,hj2⟩:=hjq.step hg.fits hg.S hak2 hm.v (by rw [hg.sq];exact Nat.le_refl _) (by rw [hgw];exact hwho)
    rw [hgw] at hj2
    have hvw:m.e.v.who=q.who:=by
      cases hjq with
      | right h1 h2 h3=>exact h2.xi.ns.who.trans hgw
      | wrong h1 h2 h3=>rw [h2] at hs0;cases hs0
    have hm2:MemB q.c q.cs (doMem cs q.who (m.e.ask q.c).1) q.n:=by
      rw [ea];exact hm.ask hc hwho hvw ⟨by omega,hu⟩ hp
    refine BI.ran (u:=u) (ms:=ms) (k:=k+1) hq hs hn hmu hu ha hp hb hg hjr ?_ (by omega) hm2
    dsimp only
    rw [ha]
    exact hj2
  | done P v ms hs =>
    rw [if_pos (by omega)] at hak
    cases hak
theorem BI.new (hq:Tok q):BI q 0 q.cs (Bm.new q.who q.n):=by
  have ht0:=hq.hc.t0
  have hK:q.K=q.c.threads.toNat+2+q.ls.length:=rfl
  exact .pool 0 rfl rfl rfl (by omega) (poK_zero hq.hc).symm rfl rfl rfl rfl rfl
theorem least {f:Nat→Bool}:∀ B:Nat,f B=false→∃ N,N≤B∧f N=false∧∀ i,i<N→f i=true
  | 0,h=>⟨0,Nat.le_refl _,h,fun i hi=>absurd hi (Nat.not_lt_zero _)⟩
  | B+1,h=>by
    by_cases hall:∃ k,k≤B∧f k=false
    · obtain ⟨k,hk,hf⟩:=hall
      have hi:∀ B,(∃ k,k≤B∧f k=false)→∃ N,N≤B∧f N=false∧∀ i,i<N→f i=true:=fun B=>by
        induction B with
        | zero =>
          rintro ⟨k,hk,hf⟩
          obtain rfl:k=0:=by omega
          exact ⟨0,Nat.le_refl _,hf,fun i hi=>absurd hi (Nat.not_lt_zero _)⟩
        | succ B ih =>
          rintro ⟨k,hk,hf⟩
          by_cases h2:∃ k,k≤B∧f k=false
          · obtain ⟨N,h3,h4⟩:=ih h2
            exact ⟨N,by omega,h4⟩
          · refine ⟨k,hk,hf,fun i hi=>?_⟩
            cases e:f i with
            | true=>rfl
            | false=>exact absurd ⟨i,by omega,e⟩ h2
      obtain ⟨N,h3,h4⟩:=hi B ⟨k,hk,hf⟩
      exact ⟨N,by omega,h4⟩
    · refine ⟨B+1,Nat.le_refl _,h,fun i hi=>?_⟩
      cases e:f i with
      | true=>rfl
      | false=>exact absurd ⟨i,by omega,e⟩ hall
end
end Go.Proofs.YthmbgodcpgkkeaaGreat
