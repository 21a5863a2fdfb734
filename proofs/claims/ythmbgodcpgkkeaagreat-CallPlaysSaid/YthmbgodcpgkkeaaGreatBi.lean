/-
  A transaction that is made, in plain terms: what each reply keeps. Package build: begin. Package build: Tell. Package build: New, Status, Ask, Entries.
-/
import Derived.Test.YthmbgodcpgkkeaaGreatBe
set_option maxRecDepth 100000
namespace Go.Proofs.YthmbgodcpgkkeaaGreat
structure Bgen (c:Cfg)(m:Bm):Prop where
 u:0≤m.b.u
 args:m.b.args.length=4
 rows:(m.rows.length:Int)≤m.b.u+1
 news:∀ r∈m.rows,r.news.length≤1000∧0≤r.rc∧r.rc≤100
 vb:0≤m.e.v.block∧m.e.v.block≤1000
 vgo:Vgo m.e.v
 nt:0≤m.e.p.nt∧m.e.p.nt≤1000
 nl:0≤m.e.p.nl∧m.e.p.nl≤1000
structure Binv (c:Cfg)(progs:Progs)(m:Bm):Prop where
 gen:Bgen c m
 nx:0≤m.b.next∧m.b.next≤4
 u:m.b.u≤c.threads
 rows:(m.rows.length:Int)≤m.b.u
 st:m.b.s=0∨m.b.s=1∨m.b.s=2
 given:m.b.next=3→0≤m.b.given∧m.b.given≤3
 len:m.e.puts.length≤100000
 pool:m.b.s=0→m.b.next=0→PoI c m.e.p∧m.e.puts=[]∧m.rows=[]∧m.b.u=0
 mid:m.b.s=0→1≤m.b.next→m.b.next≤3→m.b.u<c.threads∧Bq c m.b.u m.rows m.e.puts
 run:m.b.s=0→m.b.next=4→m.b.u<c.threads∧m.e.x.s=0∧∃ P0 n nt0 nl0,Start c P0 nt0 nl0∧Bq c m.b.u m.rows P0∧Xr c (progOf progs m.b.ann.val) P0 nt0 nl0 n m.e
 done:m.b.s=1→Bz c m.rows m.e.puts
section
variable {c:Cfg}{progs:Progs}{m:Bm}
theorem Bq.short (hc:Small c){u:Int}(hu0:0≤u)(hu:u≤c.threads){rows:List BRow}{P:List (Int×Nat)}(h:Bq c u rows P):P.length≤2000:=by
 have:=h.len;have:=hc.uw hu0 hu;have:=hc.tw3;have:=hc.limit;omega
theorem Binv.pass (hc:Small c)(g:Bgen c m)(hs:m.b.s=0)(hu:m.b.u<c.threads)(hq:Bq c (m.b.u+1) m.rows m.e.puts):Binv c progs (m.pass c c.cap.toNat):=by
 have hu0:=g.u;have hcap:=hc.cap;unfold Bm.pass;split
 ·rename_i he
  have hz:=(he▸hq).ends hc m.e.p;have hl:=hz.len
  exact ⟨⟨by dsimp only;omega,g.args,by have:=g.rows;dsimp only;omega,g.news,g.vb,g.vgo,g.nt,g.nl⟩,⟨by dsimp only;decide,by dsimp only;decide⟩,by dsimp only;omega,g.rows, .inr (.inl rfl),fun e=>(by cases e),by dsimp only;omega,
   fun e=>(by cases e),fun e=>(by cases e),fun e=>(by cases e),fun _=>hz⟩
 ·rename_i he
  have hl:=hq.short hc (by omega) (by omega)
  exact ⟨⟨by dsimp only;omega,g.args,by have:=g.rows;dsimp only;omega,g.news,g.vb,g.vgo,g.nt,g.nl⟩,⟨by dsimp only;decide,by dsimp only;decide⟩,by dsimp only;omega,g.rows, .inl hs,fun e=>(by cases e),by dsimp only;omega,
   fun _ e=>(by cases e),fun _ _ _=>⟨by dsimp only;omega,hq⟩,fun _ e=>(by cases e),fun e=>by dsimp only at e;omega⟩
theorem Binv.stale (h:Binv c progs m):Binv c progs { m with b:={ m.b with s:=2 } } :=
 ⟨⟨h.gen.u,h.gen.args,h.gen.rows,h.gen.news,h.gen.vb,h.gen.vgo,h.gen.nt,h.gen.nl⟩,h.nx,h.u,h.rows, .inr (.inr rfl),h.given,h.len,fun e=>(by cases e),fun e=>(by cases e),fun e=>(by cases e),fun e=>(by cases e)⟩
theorem Binv.ran (hc:Small c)(g:Bgen c m)(hr:(m.rows.length:Int)≤m.b.u)(hs:m.b.s=0)(hx:m.b.next=4)(hu:m.b.u<c.threads){P0:List (Int×Nat)}{n:Nat}{nt0 nl0:Int}(hS:Start c P0 nt0 nl0)(hq:Bq c m.b.u m.rows P0)
  (hX:Xr c (progOf progs m.b.ann.val) P0 nt0 nl0 n m.e):Binv c progs (m.ran c c.cap.toNat):=by
 have hu0:=g.u;obtain ⟨hrc,hnt,hnl,hvb,hvg,hnw,hpa,hsx,hri⟩:=hX.num hS
 have hpl:m.e.puts.length≤3000:=by
  have:=hq.short hc hu0 (by omega);have:=hc.w1;have:=hc.w0;obtain ⟨l,e,hl,_⟩:=hpa;rw [e,List.length_append];omega
 unfold Bm.ran;split
 ·exact ⟨⟨g.u,g.args,g.rows,g.news,hvb,hvg,hnt,hnl⟩,⟨by dsimp only;omega,by dsimp only;omega⟩,by dsimp only;omega,hr, .inr (.inr rfl),fun e=>by dsimp only at e;omega,by dsimp only;omega,fun e=>(by cases e),fun e=>(by cases e),fun e=>(by cases e),fun e=>(by cases e)⟩
 split
 ·refine Binv.pass hc (m:=m.told c c.cap.toNat) ⟨g.u,g.args, ?_, ?_,hvb,hvg,hnt,hnl⟩ hs hu (hq.told hc hu0 hu hpa _ rfl _ _ _)
  ·show ((m.rows++[_]).length:Int)≤m.b.u+1
   rw [List.length_append,List.length_singleton];omega
  ·intro r hr
   rcases List.mem_append.1 hr with hr|hr
   ·exact g.news r hr
   ·obtain rfl:=List.mem_singleton.1 hr
    exact ⟨hnw,hrc⟩
 ·exact ⟨⟨g.u,g.args,g.rows,g.news,hvb,hvg,hnt,hnl⟩,⟨by omega,by omega⟩,by omega,hr, .inl hs,fun e=>by omega,by omega,fun _ e=>by omega,fun _ _ e=>by omega,fun _ _=>⟨hu,by omega,P0,n,nt0,nl0,hS,hq,hX⟩,fun e=>by omega⟩
theorem Binv.begin (hc:Small c)(hf:0≤c.fuel∧c.fuel≤1000)(g:Bgen c m)(hr:(m.rows.length:Int)≤m.b.u)(hs:m.b.s=0)(hu:m.b.u<c.threads)(hq:Bq c m.b.u m.rows m.e.puts):Binv c progs (m.begin c c.cap.toNat progs):=by
 have hS:Start c m.e.puts m.e.p.nt m.e.p.nl:=⟨hc,hf.2,by have:=hq.short hc g.u (by omega);omega,g.nt,g.nl⟩
 have hX:=Xr.start (code:=progOf progs m.b.ann.val) hS hf.1 c.cap.toNat m.e.v m.e.p rfl rfl m.b.args g.args g.vb g.vgo;obtain ⟨hrc,hnt,hnl,hvb,hvg,hnw,hpa,hsx,hri⟩:=hX.num hS;unfold Bm.begin;exact Binv.ran hc (m:={ m with b:={ m.b with next:=4 },e:=_ }) ⟨g.u,g.args,g.rows,g.news,hvb,hvg,hnt,hnl⟩ hr hs rfl hu hS hq hX
theorem Vw.cell_vb {v:Vw}(h:0≤v.block∧v.block≤1000)(c:Cfg)(a:Int):0≤(v.cell c a).block∧(v.cell c a).block≤1000:=by rw [Vw.cell_block];exact h
theorem PoI.settled (hc:Small c)(room:Nat){p:Po}(h:PoI c p):(0≤(p.settled c room []).nt∧(p.settled c room []).nt≤1000)∧(0≤(p.settled c room []).nl∧(p.settled c room []).nl≤1000)∧Bq c 0 [] (setGo c room p.names 0 p.limbo ⟨0,p.nt,[]⟩).puts:=by
 have h1:=setGo_ok hc room p.names p.limbo 0 ⟨0,p.nt,[]⟩ h.nt;have h2:=h.limbo;have h3:=hc.limit;dsimp only [List.length_nil] at h1;refine ⟨⟨h1.1.1,by show (setGo _ _ _ _ _ _).nt≤1000;omega⟩,⟨by show (0:Int)≤((setGo _ _ _ _ _ _).kept:Int);omega,by show ((setGo _ _ _ _ _ _).kept:Int)≤1000;omega⟩, ?_⟩;obtain ⟨l,e,hl,hk⟩:=PA.setGo hc room p.names (P0:=[]) p.limbo 0 0 ⟨0,p.nt,[]⟩ (PA.nil c [] 0);rw [List.nil_append] at e;rw [e];exact ⟨by omega,fun x hx h1 h2=>absurd ⟨h1,h2⟩ (hk x hx),fun r hr=>by simp at hr⟩
theorem Binv.tell (hc:Small c)(hf:0≤c.fuel∧c.fuel≤1000)(h:Binv c progs m)(o:Out):Binv c progs (m.tell c c.cap.toNat progs o):=by
 have g:=h.gen;have hnx:=h.nx;have ht:=hc.t0;unfold Bm.tell;split
 ·exact h
 rename_i hs'
 have hs:m.b.s=0:=by omega
 split
 ·rename_i h0
  obtain ⟨hp,hpu,hro,hu⟩:=h.pool hs h0;have hp':=hp.tell hc o
  have hi:Binv c progs { m with e:={ m.e with p:=m.e.p.tell c o } } :=
   ⟨⟨g.u,g.args,g.rows,g.news,g.vb,g.vgo,⟨hp'.nt.1,by have:=hp'.nt;dsimp only;omega⟩,⟨hp'.nl.1,by have:=hp'.nl;dsimp only;omega⟩⟩,h.nx,h.u,h.rows,h.st,h.given,h.len,fun _ _=>⟨hp',hpu,hro,hu⟩,fun _ e=>by dsimp only at e;omega,fun _ e=>by dsimp only at e;omega,fun e=>by dsimp only at e;omega⟩
  unfold Bm.pooled;split
  ·exact hi.stale
  split
  ·obtain ⟨h1,h2,h3⟩:=hp'.settled hc c.cap.toNat
   dsimp only;rw [hpu]
   exact ⟨⟨g.u,g.args,g.rows,g.news,g.vb,g.vgo,h1,h2⟩,⟨by dsimp only;decide,by dsimp only;decide⟩,h.u,h.rows,h.st,fun e=>(by cases e),by have:=h3.short hc (Int.le_refl 0) (by omega);dsimp only;omega,
    fun _ e=>(by cases e),fun _ _ _=>⟨by dsimp only;omega,by dsimp only;rw [hu,hro];exact h3⟩,fun _ e=>(by cases e),fun e=>by dsimp only at e;omega⟩
  ·exact hi
 rename_i h0;split
 ·rename_i h1
  obtain ⟨hu,hq⟩:=h.mid hs (by omega) (by omega);unfold Bm.announce;split
  ·exact Binv.pass hc (m:={ m with b:={ m.b with ann:=o.was } }) ⟨g.u,g.args,g.rows,g.news,g.vb,g.vgo,g.nt,g.nl⟩ hs hu (hq.next hc g.u hu)
  ·exact ⟨⟨g.u,g.args,g.rows,g.news,Vw.cell_vb g.vb c _,g.vgo.cell c _ _,g.nt,g.nl⟩,⟨by dsimp only;decide,by dsimp only;decide⟩,h.u,h.rows,h.st,fun e=>(by cases e),h.len,fun _ e=>(by cases e),fun _ _ _=>⟨hu,hq⟩,fun _ e=>(by cases e),fun e=>by dsimp only at e;omega⟩
 split
 ·rename_i h1 h2
  obtain ⟨hu,hq⟩:=h.mid hs (by omega) (by omega)
  have g':Bgen c { m with e:={ m.e with v:=m.e.v.tell o } }:=⟨g.u,g.args,g.rows,g.news,by rw [Vw.tell_block];exact g.vb,g.vgo.tell _ o,g.nt,g.nl⟩
  have hi:Binv c progs { m with e:={ m.e with v:=m.e.v.tell o } }:=⟨g',h.nx,h.u,h.rows,h.st,h.given,h.len,fun _ e=>absurd e h0,h.mid,fun _ e=>by dsimp only at e;omega,h.done⟩
  unfold Bm.tag;split
  ·exact hi.stale
  split
  ·exact Binv.pass hc g' hs hu (hq.next hc g.u hu)
  ·exact ⟨⟨g.u,g.args,g.rows,g.news,g'.vb,g'.vgo,g.nt,g.nl⟩,⟨by dsimp only;decide,by dsimp only;decide⟩,h.u,h.rows,h.st,fun _=>⟨by dsimp only;decide,by dsimp only;decide⟩,h.len,fun _ e=>(by cases e),fun _ _ _=>⟨hu,hq⟩,fun _ e=>(by cases e),fun e=>by dsimp only at e;omega⟩
 split
 ·rename_i h1 h2 h3
  obtain ⟨hu,hq⟩:=h.mid hs (by omega) (by omega);have hg:=h.given h3
  have g':Bgen c { m with b:={ m.b with args:=m.b.args.set m.b.given.toNat o.was.val,given:=m.b.given+1 } }:=⟨g.u,by dsimp only;rw [List.length_set];exact g.args,g.rows,g.news,g.vb,g.vgo,g.nt,g.nl⟩
  split
  ·exact Binv.begin hc hf g' h.rows hs hu hq
  ·exact ⟨g',h.nx,h.u,h.rows,h.st,fun _=>⟨by dsimp only;omega,by dsimp only;omega⟩,h.len,fun _ e=>absurd e h0,h.mid,fun _ e=>by dsimp only at e;omega,h.done⟩
 ·rename_i h1 h2 h3
  obtain ⟨hu,hx,P0,n,nt0,nl0,hS,hq,hX⟩:=h.run hs (by omega);obtain ⟨_,_,hX'⟩:=hX.tell hS c.cap.toNat hx o;obtain ⟨hrc,hnt,hnl,hvb,hvg,hnw,hpa,hsx,hri⟩:=hX'.num hS;exact Binv.ran hc (m:={ m with e:=m.e.tell c c.cap.toNat (progOf progs m.b.ann.val) o }) ⟨g.u,g.args,g.rows,g.news,hvb,hvg,hnt,hnl⟩ h.rows hs (by dsimp only;omega) hu hS hq hX'
theorem Binv.new (hc:Small c)(who:Int)(seq:Nat):Binv c progs (Bm.new who seq):=by
 have:=hc.t0;refine ⟨⟨Int.le_refl 0,rfl,(by decide:(0:Int)≤0+1),fun r hr=>(by cases hr),(by decide:(0:Int)≤0∧(0:Int)≤1000),Vgo.new who seq,(by decide:(0:Int)≤0∧(0:Int)≤1000),(by decide:(0:Int)≤0∧(0:Int)≤1000)⟩,(by decide:(0:Int)≤0∧(0:Int)≤4),by show (0:Int)≤_;omega,Int.le_refl _, .inl rfl,fun e=>(by cases e),Nat.zero_le _,fun _ _=>⟨PoI.new hc seq,rfl,rfl,rfl⟩,fun _ e=>by have:(Bm.new who seq).b.next=0:=rfl;omega,fun _ e=>(by cases e),fun e=>(by cases e)⟩
end
def ProgsR (q:HProp)(pv:Value)(progs:Progs):Prop :=
 ∃ pad pcap,pv=.slice pad progs.length pcap∧progs.length≤1000∧∀ (i:Nat) (h:i<progs.length),∃ b o l cv,pad=some ⟨b,o,none⟩∧RdC q b l∧NthN (o+(i:Int).toNat * 1) l cv∧InsR q cv progs[i]
theorem Bm.ran_e (c:Cfg)(room:Nat)(m:Bm):(m.ran c room).e.v=m.e.v∧(m.ran c room).e.p=m.e.p∧(m.ran c room).e.x=m.e.x∧(m.ran c room).e.news=m.e.news∧(m.ran c room).b.ann=m.b.ann:=by
 have hp:=fun m:Bm=>Bm.pass_e c room m
 have ha:∀ m:Bm,(m.pass c room).b.ann=m.b.ann:=fun m=>by unfold Bm.pass;split<;>rfl
 unfold Bm.ran;split
 ·exact ⟨rfl,rfl,rfl,rfl,rfl⟩
 split
 ·obtain ⟨h1,h2,h3,h4,_⟩:=hp (m.told c room)
  exact ⟨h1,h2,h3,h4,ha _⟩
 ·exact ⟨rfl,rfl,rfl,rfl,rfl⟩
def begQ (B V Pb W room:Nat)(c:Cfg)(pv:Value)(q:HProp)(code:List Ins)(m':Bm)(r:Value)(L:List HProp):Prop:=∃ (X:Nat) (cv:Value) (rs:List RowH) (rad:Option Addr) (rcap:Nat),rs.map (·.1)=m'.rows∧InsR q cv code∧r=.tuple ⟨[]⟩∧
 L=bdO B V Pb W room c pv (.pointer (some ⟨X,0,none⟩)) (.slice rad m'.rows.length rcap) m'++[Xe X c cv V Pb W m'.e.x m'.e.news,Row (.slice rad m'.rows.length rcap) 128 5 m'.rows.length (rs.flatMap rowV),star (rs.map rowP),q]
theorem InsR.nil (q:HProp):InsR q (.slice none 0 0) []:=⟨none,0,rfl, .inl rfl⟩
set_option maxHeartbeats 1000000 in
theorem bbegin_t (B V Pb W:Nat)(c:Cfg)(hc:Small c)(hf:0≤c.fuel∧c.fuel≤1000)(pv xv:Value)(q:HProp)(progs:Progs)(hpv:ProgsR q pv progs)(m:Bm)(g:Bgen c m)(hu:m.b.u<c.threads)(hq:Bq c m.b.u m.rows m.e.puts)
  (rs:List RowH) (hrs:rs.map (·.1)=m.rows) (rad:Option Addr) (rcap:Nat) :
  Tri Tryz.prog 138 #[.pointer (some ⟨B,0,none⟩)] (bdO B V Pb W c.cap.toNat c pv xv (.slice rad m.rows.length rcap) m++[Row (.slice rad m.rows.length rcap) 128 5 m.rows.length (rs.flatMap rowV),star (rs.map rowP),q])
   (begQ B V Pb W c.cap.toNat c pv q (progOf progs m.b.ann.val) (m.begin c c.cap.toNat progs)):=by
 obtain ⟨pad,pcap,rfl,hpl,hpr⟩:=hpv
 have hS:Start c m.e.puts m.e.p.nt m.e.p.nl:=⟨hc,hf.2,by have:=hq.short hc g.u (by omega);omega,g.nt,g.nl⟩
 have hpu:=hq.short hc g.u (by omega);have ht1:=hc.t1;have htk:=take_b c (.slice pad progs.length pcap) V Pb W xv (.slice rad m.rows.length rcap) m.b;have hX:=Xr.start (code:=progOf progs m.b.ann.val) hS hf.1 c.cap.toNat m.e.v m.e.p rfl rfl m.b.args g.args g.vb g.vgo;obtain ⟨hrc,hnt,hnl,hvb,hvg,hnw,hpa,hsx,hri⟩:=hX.num hS
 have hpl2:(Xm.start c c.cap.toNat (progOf progs m.b.ann.val) m.e.v m.e.p m.e.puts m.b.args).puts.length≤3000:=by
  have:=hc.w1;have:=hc.w0;obtain ⟨l,e,hl,_⟩:=hpa;rw [e,List.length_append];omega
 have hru:=g.rows;have hu0:=g.u
 have hran:=fun X cv=>bran_t B V Pb W X c.cap.toNat c hc cv (.slice pad progs.length pcap) { m with b:={ m.b with next:=4 },e:=Xm.start c c.cap.toNat (progOf progs m.b.ann.val) m.e.v m.e.p m.e.puts m.b.args } ⟨by dsimp only;omega,by dsimp only;omega,by dsimp only;omega,by dsimp only;omega⟩ rs hrs rad rcap (by dsimp only;omega) (by dsimp only;omega) (by dsimp only;omega) (by dsimp only;omega)
 have hnew:=fun cv hcv=>xnew_s V Pb W c.cap.toNat c hc cv q (progOf progs m.b.ann.val) hcv m.e.v m.e.p m.e.puts m.b.args (by omega) (Xi c (progOf progs m.b.ann.val) m.e.puts m.e.p.nt m.e.p.nl 0) (fun hr=>xi_run hS c.cap.toNat hr 0) (fun hr=>⟨Xinv.init hr hS hf.1 m.e.v m.e.p rfl rfl m.b.args g.args g.vb,Xw.init m.e.v m.e.p m.b.args g.vgo⟩)
 obtain ⟨d1,d2,d3,d4,d5⟩:=Bm.ran_e c c.cap.toNat { m with b:={ m.b with next:=4 },e:=Xm.start c c.cap.toNat (progOf progs m.b.ann.val) m.e.v m.e.p m.e.puts m.b.args };unfold Bm.begin
 by_cases hlt:m.b.ann.val<progs.length
 ·obtain ⟨pb,po,pl,cv,rfl,hrd,hnth,hins⟩:=hpr m.b.ann.val hlt
  have hcode:progOf progs m.b.ann.val=progs[m.b.ann.val]:=by unfold progOf;rw [List.getD_eq_getElem?_getD,List.getElem?_eq_getElem hlt];rfl
  rw [← hcode] at hins;have hins0:=hins;obtain ⟨cad,ccap,rfl,_⟩:=hins0;have hnew1:=hnew _ hins
  have hran1:=fun X=>hran X (.slice cad (progOf progs m.b.ann.val).length ccap)
  unfold bdO
  refine TB (vs:=[_]) Tryz.func138 fun w0 F=>?_
  repeat' (first|refine Ga ?_|(refine Dr 1 [(0,0),(1,0),(2,0),(3,0),(4,1),(5,0),(6,0),(7,0),(8,1),(9,0),(10,0),(11,0)] [] ?_)|(refine Dr 2 [(0,0),(1,0),(2,0),(3,1),(4,0),(5,0),(6,0),(7,0),(8,1),(9,0),(10,1),(11,0)] [] ?_)|(refine Dr 3 [(0,0),(1,0),(2,0),(3,0),(4,1),(5,0),(6,0),(7,0),(8,0),(9,1),(10,0),(11,0),(12,0),(13,1),(14,0),(15,0),(16,0),(17,1),(18,0),(19,0),(20,0),(21,1),(22,3),(23,0),(24,0),(25,3)] [22,25] ?_)|(refine Gt hnew1 ?_;rintro _ _ ⟨X,rfl,rfl⟩)|(refine Ge ?_ ?_<;>intro h<;>try omega)|fail)
  have hr2:=hran1 X
  repeat' (first|refine Ga ?_|(refine Gt hr2 ?_;rintro _ _ ⟨rs',rad',rcap',hrs',rfl,rfl⟩)|fail)
  refine St.f1 Tryz.func138 ⟨_,⟨X,_,rs',rad',rcap',hrs',hins,rfl,rfl⟩, ?_⟩;unfold bdO;rw [d1,d3,d4];exact Ent.go
 ·have hcode:progOf progs m.b.ann.val=[]:=by unfold progOf;rw [List.getD_eq_getElem?_getD,List.getElem?_eq_none (by omega)];rfl
  have hnew1:=hnew (.slice none 0 0) (by rw [hcode];exact InsR.nil q)
  have hran1:=fun X=>hran X (.slice none 0 0)
  unfold bdO
  refine TB (vs:=[_]) Tryz.func138 fun w0 F=>?_
  repeat' (first|refine Ga ?_|(refine Dr 1 [(0,0),(1,0),(2,0),(3,0),(4,1),(5,0),(6,0),(7,0),(8,1),(9,0),(10,0),(11,0)] [] ?_)|(refine Dr 3 [(0,0),(1,0),(2,0),(3,0),(4,1),(5,0),(6,0),(7,0),(8,0),(9,1),(10,0),(11,0),(12,0),(13,1),(14,0),(15,0),(16,0),(17,1),(18,0),(19,0),(20,0),(21,1),(22,3),(23,0),(24,0),(25,3)] [22,25] ?_)|(refine Gt hnew1 ?_;rintro _ _ ⟨X,rfl,rfl⟩)|(refine Ge ?_ ?_<;>intro h<;>try omega)|fail)
  have hr2:=hran1 X
  repeat' (first|refine Ga ?_|(refine Gt hr2 ?_;rintro _ _ ⟨rs',rad',rcap',hrs',rfl,rfl⟩)|fail)
  refine St.f1 Tryz.func138 ⟨_,⟨X,_,rs',rad',rcap',hrs',by rw [hcode];exact InsR.nil q,rfl,rfl⟩, ?_⟩;unfold bdO;rw [d1,d3,d4];exact Ent.go
structure BdH (q:HProp)(progs:Progs)(m:Bm) where
 V:Nat
 Pb:Nat
 W:Nat
 X:Nat
 xv:Value
 cv:Value
 rs:List RowH
 rad:Option Addr
 rcap:Nat
 hrs:rs.map (·.1)=m.rows
 hx:m.b.s=0→m.b.next=4→xv=.pointer (some ⟨X,0,none⟩)∧InsR q cv (progOf progs m.b.ann.val)
def xpP (X V Pb W:Nat)(c:Cfg)(cv:Value)(m:Bm):HProp:=if m.b.s=0∧m.b.next=4 then Xe X c cv V Pb W m.e.x m.e.news else star []
def bdL (B room:Nat)(c:Cfg)(pv:Value)(q:HProp)(progs:Progs)(m:Bm)(h:BdH q progs m):List HProp :=
 bdO B h.V h.Pb h.W room c pv h.xv (.slice h.rad m.rows.length h.rcap) m++[Row (.slice h.rad m.rows.length h.rcap) 128 5 m.rows.length (h.rs.flatMap rowV),star (h.rs.map rowP),xpP h.X h.V h.Pb h.W c h.cv m]
def BdE (B room:Nat)(c:Cfg)(pv:Value)(q:HProp)(progs:Progs)(m:Bm):HProp:=ex (bdL B room c pv q progs m)
theorem Ent.xp_none {X V Pb W:Nat}{c:Cfg}{cv:Value}{m:Bm}(h:¬ (m.b.s=0∧m.b.next=4)){L:List HProp}:Ent L (xpP X V Pb W c cv m::L):=by
 unfold xpP;rw [if_neg h];exact Ent.star_in []
theorem Ent.xp_some {X V Pb W:Nat}{c:Cfg}{cv:Value}{m:Bm}{L:List HProp}:Ent (Xe X c cv V Pb W m.e.x m.e.news::L) (xpP X V Pb W c cv m::L):=by
 by_cases h:m.b.s=0∧m.b.next=4
 ·unfold xpP;rw [if_pos h];exact Ent.refl _
 ·exact Ent.trans (Ent.drop (Ent.refl _)) (Ent.xp_none h)
theorem BdE.shut {B V Pb W X room:Nat}{c:Cfg}{pv xv cv:Value}{q:HProp}{progs:Progs}{m:Bm}{rs:List RowH}{rad:Option Addr}{rcap:Nat}(hrs:rs.map (·.1)=m.rows)(hx:m.b.s=0→m.b.next=4→xv=.pointer (some ⟨X,0,none⟩)∧InsR q cv (progOf progs m.b.ann.val)){L M:List HProp}
  (h:Ent L (xpP X V Pb W c cv m::bl B 228 (bdV c pv V Pb W xv (.slice rad m.rows.length rcap) m.b)::bl V 215 (viewV c m.e.v)::Pl Pb c m.e.p::Ws W room m.e.puts::Row (.slice rad m.rows.length rcap) 128 5 m.rows.length (rs.flatMap rowV)::star (rs.map rowP)::M)):Ent L (BdE B room c pv q progs m::M):=by
 refine Ent.trans h (Ent.trans ?_ (Ent.ex_in (Ls:=bdL B room c pv q progs m) ⟨V,Pb,W,X,xv,cv,rs,rad,rcap,hrs,hx⟩));unfold bdL bdO;exact Ent.go
theorem BdE.shut0 {B V Pb W room:Nat}{c:Cfg}{pv xv:Value}{q:HProp}{progs:Progs}{m:Bm}{rs:List RowH}{rad:Option Addr}{rcap:Nat}(hrs:rs.map (·.1)=m.rows)(hno:¬ (m.b.s=0∧m.b.next=4)){L M:List HProp}
  (h:Ent L (bl B 228 (bdV c pv V Pb W xv (.slice rad m.rows.length rcap) m.b)::bl V 215 (viewV c m.e.v)::Pl Pb c m.e.p::Ws W room m.e.puts::Row (.slice rad m.rows.length rcap) 128 5 m.rows.length (rs.flatMap rowV)::star (rs.map rowP)::M)):Ent L (BdE B room c pv q progs m::M) :=
 BdE.shut (X:=0) (cv:=pv) hrs (fun e1 e2=>absurd ⟨e1,e2⟩ hno) (Ent.trans h (Ent.xp_none hno))
theorem BdE.shut1 {B V Pb W X room:Nat}{c:Cfg}{pv cv:Value}{q:HProp}{progs:Progs}{m:Bm}{rs:List RowH}{rad:Option Addr}{rcap:Nat}(hrs:rs.map (·.1)=m.rows)(hins:InsR q cv (progOf progs m.b.ann.val)){L M:List HProp}
  (h:Ent L (Xe X c cv V Pb W m.e.x m.e.news::bl B 228 (bdV c pv V Pb W (.pointer (some ⟨X,0,none⟩)) (.slice rad m.rows.length rcap) m.b)::bl V 215 (viewV c m.e.v)::Pl Pb c m.e.p::Ws W room m.e.puts::Row (.slice rad m.rows.length rcap) 128 5 m.rows.length (rs.flatMap rowV)::star (rs.map rowP)::M)):Ent L (BdE B room c pv q progs m::M) :=
 BdE.shut (X:=X) (cv:=cv) hrs (fun _ _=>⟨rfl,hins⟩) (Ent.trans h Ent.xp_some)
theorem bd_setarg (c:Cfg)(pv:Value)(V Pb W:Nat)(xv rv:Value)(b:Bs)(hl:b.args.length=4){a:Int}(h0:0≤a)(h1:a<4)(n:Nat):SetN (.int .u64 (n:Int)) (0+33+a.toNat * 1) (bdV c pv V Pb W xv rv b) (bdV c pv V Pb W xv rv { b with args:=b.args.set a.toNat n }):=by
 have h:a=0∨a=1∨a=2∨a=3:=by omega
 obtain ⟨next,u,ann,args,given,s⟩:=b;obtain ⟨a0,a1,a2,a3,rfl⟩:=len4 hl
 have key:∀ (k:Nat) (l l':List Value),k<l.length→l.set k (.int .u64 (n:Int))=l'→SetN (.int .u64 (n:Int)) k l l':=fun k l l' hk e=>e▸SetN.of hk
 rcases h with rfl|rfl|rfl|rfl<;>exact key _ _ _ (by simp [bdV,Cfg.m,Cfg.v,Cfg.fr,g4]) rfl
theorem Bm.pass_r (c:Cfg)(room:Nat)(m:Bm):(m.pass c room).b.next=1:=by unfold Bm.pass;split<;>rfl
theorem Bm.announce_r (c:Cfg)(room:Nat)(m:Bm):(m.announce c room).rows=m.rows∧(m.announce c room).b.next≠4:=by
 unfold Bm.announce;split
 ·exact ⟨(m.pass_e c room).2.2.2.2,by rw [Bm.pass_r];decide⟩
 ·exact ⟨rfl,by dsimp only;decide⟩
theorem Bm.tag_r (c:Cfg)(room:Nat)(m:Bm):(m.tag c room).rows=m.rows∧((m.tag c room).b.s=0→(m.tag c room).b.next≠4):=by
 unfold Bm.tag;split
 ·exact ⟨rfl,fun e=>(by cases e)⟩
 split
 ·exact ⟨(m.pass_e c room).2.2.2.2,fun _=>by rw [Bm.pass_r];decide⟩
 ·exact ⟨rfl,fun _=>by dsimp only;decide⟩
theorem Bm.pooled_r (c:Cfg)(room:Nat)(m:Bm)(h:m.b.next≠4):(m.pooled c room).rows=m.rows∧(m.pooled c room).b.next≠4:=by
 unfold Bm.pooled;split
 ·exact ⟨rfl,h⟩
 split
 ·exact ⟨rfl,by dsimp only;decide⟩
 ·exact ⟨rfl,h⟩
theorem Bm.begin_ann (c:Cfg)(room:Nat)(progs:Progs)(m:Bm):(m.begin c room progs).b.ann=m.b.ann:=(Bm.ran_e c room _).2.2.2.2
set_option maxHeartbeats 2000000 in
theorem btell_tE (B:Nat)(c:Cfg)(hc:Small c)(hf:0≤c.fuel∧c.fuel≤1000)(pv:Value)(q:HProp)(progs:Progs)(hpv:ProgsR q pv progs)(m:Bm)(hi:Binv c progs m)(o:Out) :
  Tri Tryz.prog 49 #[.pointer (some ⟨B,0,none⟩), .agg ⟨o.v⟩] [BdE B c.cap.toNat c pv q progs m,q]
   fun r L=>r=.tuple ⟨[]⟩∧L=[BdE B c.cap.toNat c pv q progs (m.tell c c.cap.toNat progs o),q]:=by
 refine Tri.ex_out ?_;rintro ⟨V,Pb,W,X,xv,cv,rs,rad,rcap,hrs,hx⟩;have g:=hi.gen;have hu:=hi.u;have hlen:=hi.len;have ht1:=hc.t1;have hu0:=g.u;have hnt:=g.nt;have hnl:=g.nl;have hnx:=hi.nx
 have hbn:Bn m:=⟨by omega,by omega,by omega,by omega⟩
 unfold bdL bdO;dsimp only;unfold Bm.tell
 by_cases hs:m.b.s≠0
 ·rw [if_pos hs]
  refine TB (vs:=[_,_]) Tryz.func49 fun w0 F=>?_
  repeat' (first|refine Ga ?_|(refine Gb ?_;intro b)|(refine Ge ?_ ?_<;>intro h<;>try omega)|fail)
  refine St.d1 Tryz.func49 ⟨_,⟨rfl,rfl⟩,BdE.shut hrs hx Ent.go⟩
 ·rw [if_neg hs]
  have hs0:m.b.s=0:=by omega
  by_cases h0:m.b.next=0
  ·rw [if_pos h0]
   have hp:=(hi.pool hs0 h0).1;have hp':=hp.tell hc o;have hn:=hp.next;have hna:=hp.names;have hli:=hp.limbo;have hlm:=hc.limit;have hli':=hp'.limbo;have hnt':=hp'.nt;have hnl':=hp'.nl;have ht:=ptell_t Pb c hc m.e.p o (by omega) (by omega) (by omega);have hpo:=bpooled_t B V Pb W c.cap.toNat c hc pv xv (.slice rad m.rows.length rcap) { m with e:={ m.e with p:=m.e.p.tell c o } } ⟨by dsimp only;omega,by dsimp only;omega,by dsimp only;omega,by dsimp only;omega⟩ (by dsimp only;omega);unfold bdO at hpo;obtain ⟨r1,r2⟩:=Bm.pooled_r c c.cap.toNat { m with e:={ m.e with p:=m.e.p.tell c o } } (by dsimp only;omega)
   refine TB (vs:=[_,_]) Tryz.func49 fun w0 F=>?_
   repeat' (first|refine Ga ?_|(refine Gb ?_;intro b)|(refine Dr 6 [(0,0),(1,0),(2,0),(3,1),(4,1),(5,3)] [5] ?_)|(refine Gt ht ?_;rintro _ _ ⟨rfl,rfl⟩)|(refine Gt hpo ?_;rintro _ _ ⟨rfl,rfl⟩)|(refine Ge ?_ ?_<;>intro h<;>try omega)|fail)
   refine St.f1 Tryz.func49 ⟨_,⟨rfl,rfl⟩,BdE.shut0 (V:=V) (Pb:=Pb) (W:=W) (xv:=xv) (rad:=rad) (rcap:=rcap) (by rw [r1];exact hrs) (fun e=>r2 e.2) ?_⟩;rw [r1];exact Ent.go
  ·rw [if_neg h0]
   by_cases h1:m.b.next=1
   ·rw [if_pos h1]
    have han:=bannounce_t B V Pb W c.cap.toNat c hc pv xv (.slice rad m.rows.length rcap) { m with b:={ m.b with ann:=o.was } } ⟨by dsimp only;omega,by dsimp only;omega,by dsimp only;omega,by dsimp only;omega⟩;unfold bdO at han;obtain ⟨r1,r2⟩:=Bm.announce_r c c.cap.toNat { m with b:={ m.b with ann:=o.was } }
    refine TB (vs:=[_,_]) Tryz.func49 fun w0 F=>?_
    repeat' (first|refine Ga ?_|(refine Gb ?_;intro b)|(refine Gt han ?_;rintro _ _ ⟨rfl,rfl⟩)|(refine Ge ?_ ?_<;>intro h<;>try omega)|fail)
    refine St.f1 Tryz.func49 ⟨_,⟨rfl,rfl⟩,BdE.shut0 (V:=V) (Pb:=Pb) (W:=W) (xv:=xv) (rad:=rad) (rcap:=rcap) (by rw [r1];exact hrs) (fun e=>r2 e.2) ?_⟩;rw [r1];exact Ent.go
   ·rw [if_neg h1]
    by_cases h2:m.b.next=2
    ·rw [if_pos h2]
     have hv:=vtell_t c V m.e.v o;have hta:=btag_t B V Pb W c.cap.toNat c hc pv xv (.slice rad m.rows.length rcap) { m with e:={ m.e with v:=m.e.v.tell o } } ⟨by dsimp only;omega,by dsimp only;omega,by dsimp only;omega,by dsimp only;omega⟩;unfold bdO at hta;obtain ⟨r1,r2⟩:=Bm.tag_r c c.cap.toNat { m with e:={ m.e with v:=m.e.v.tell o } }
     refine TB (vs:=[_,_]) Tryz.func49 fun w0 F=>?_
     repeat' (first|refine Ga ?_|(refine Gb ?_;intro b)|(refine Dr 12 [(0,0),(1,0),(2,0),(3,1),(4,1),(5,3)] [5] ?_)|(refine Gt hv ?_;rintro _ _ ⟨rfl,rfl⟩)|(refine Gt hta ?_;rintro _ _ ⟨rfl,rfl⟩)|(refine Ge ?_ ?_<;>intro h<;>try omega)|fail)
     refine St.f1 Tryz.func49 ⟨_,⟨rfl,rfl⟩,BdE.shut0 (V:=V) (Pb:=Pb) (W:=W) (xv:=xv) (rad:=rad) (rcap:=rcap) (by rw [r1];exact hrs) (fun e=>r2 e.1 e.2) ?_⟩;rw [r1];exact Ent.go
    ·rw [if_neg h2]
     by_cases h3:m.b.next=3
     ·rw [if_pos h3]
      have hg:=hi.given h3;obtain ⟨hult,hq⟩:=hi.mid hs0 (by omega) (by omega);have hset:=bd_setarg c pv V Pb W xv (.slice rad m.rows.length rcap) m.b g.args hg.1 (by omega) o.was.val;unfold bdV at hset;dsimp only at hset
      by_cases h4:m.b.given+1=4
      ·rw [if_pos h4]
       have hbe:=bbegin_t B V Pb W c hc hf pv xv q progs hpv { m with b:={ m.b with args:=m.b.args.set m.b.given.toNat o.was.val,given:=m.b.given+1 } } ⟨g.u,by dsimp only;rw [List.length_set];exact g.args,g.rows,g.news,g.vb,g.vgo,g.nt,g.nl⟩ hult hq rs hrs rad rcap;unfold bdO begQ bdO at hbe
       refine TB (vs:=[_,_]) Tryz.func49 fun w0 F=>?_
       repeat' (first|refine Ga ?_|(refine Gb ?_;intro b)|(refine Dr 15 [(0,0),(1,0),(2,0),(3,0),(4,1),(5,0),(6,0),(7,1),(8,0),(9,0),(10,0),(11,3)] [11] ?_)|(refine Gt hbe ?_;rintro _ _ ⟨X',cv',rs',rad',rcap',hrs',hins',rfl,rfl⟩)|(refine Ge ?_ ?_<;>intro h<;>try omega)|fail)
       refine St.f1 Tryz.func49 ⟨_,⟨rfl,rfl⟩,BdE.shut1 (V:=V) (Pb:=Pb) (W:=W) (X:=X') (rad:=rad') (rcap:=rcap') (cv:=cv') hrs' (by rw [Bm.begin_ann];exact hins') ?_⟩;exact Ent.go
      ·rw [if_neg h4]
       refine TB (vs:=[_,_]) Tryz.func49 fun w0 F=>?_
       repeat' (first|refine Ga ?_|(refine Gb ?_;intro b)|(refine Dr 15 [(0,0),(1,0),(2,0),(3,0),(4,1),(5,0),(6,0),(7,1),(8,0),(9,0),(10,0),(11,3)] [11] ?_)|(refine Ge ?_ ?_<;>intro h<;>try omega)|fail)
       refine St.f1 Tryz.func49 ⟨_,⟨rfl,rfl⟩,BdE.shut0 (m:={ m with b:={ m.b with args:=m.b.args.set m.b.given.toNat o.was.val,given:=m.b.given+1 } }) (V:=V) (Pb:=Pb) (W:=W) (xv:=xv) (rad:=rad) (rcap:=rcap) hrs (show ¬ (m.b.s=0∧m.b.next=4) by omega) ?_⟩;exact Ent.go
     ·rw [if_neg h3]
      have hx4:m.b.next=4:=by omega
      obtain ⟨hult,hxs,P0,n,nt0,nl0,hS,hq,hX⟩:=hi.run hs0 hx4;obtain ⟨rfl,hins⟩:=hx hs0 hx4;obtain ⟨hr,hxi,hX'⟩:=hX.tell hS c.cap.toNat hxs o;obtain ⟨hrc,hnt2,hnl2,hvb,hvg,hnw,hpa,hsx,hri⟩:=hX'.num hS
      have hpl2:(m.e.tell c c.cap.toNat (progOf progs m.b.ann.val) o).puts.length≤3000:=by
       have:=hq.short hc g.u (by omega);have:=hc.w1;have:=hc.w0;obtain ⟨l,e,hl,_⟩:=hpa;rw [e,List.length_append];omega
      have hro:=hi.rows;have htl:=xtell_s X V Pb W c.cap.toNat c hc cv q (progOf progs m.b.ann.val) hr hins (Xi c (progOf progs m.b.ann.val) P0 nt0 nl0 (n+1)) (xi_run hS c.cap.toNat hr (n+1)) m.e o (fun _=>hxi);unfold xsL at htl;have hran:=bran_t B V Pb W X c.cap.toNat c hc cv pv { m with e:=m.e.tell c c.cap.toNat (progOf progs m.b.ann.val) o } ⟨by dsimp only;omega,by dsimp only;omega,by dsimp only;omega,by dsimp only;omega⟩ rs hrs rad rcap (by dsimp only;omega) (by dsimp only;omega) (by dsimp only;omega) (by dsimp only;omega);unfold ranQ at hran;obtain ⟨d1,d2,d3,d4,d5⟩:=Bm.ran_e c c.cap.toNat { m with e:=m.e.tell c c.cap.toNat (progOf progs m.b.ann.val) o };unfold xpP;rw [if_pos ⟨hs0,hx4⟩]
      refine TB (vs:=[_,_]) Tryz.func49 fun w0 F=>?_
      repeat' (first|refine Ga ?_|(refine Gb ?_;intro b)|(refine Dr 3 [(0,0),(1,0),(2,0),(3,1),(4,1),(5,3)] [5] ?_)|(refine Gt htl ?_;rintro _ _ ⟨rfl,rfl⟩)|(refine Gt hran ?_;rintro _ _ ⟨rs',rad',rcap',hrs',rfl,rfl⟩)|(refine Ge ?_ ?_<;>intro h<;>try omega)|fail)
      refine St.f1 Tryz.func49 ⟨_,⟨rfl,rfl⟩,BdE.shut1 (V:=V) (Pb:=Pb) (W:=W) (X:=X) (rad:=rad') (rcap:=rcap') hrs' (by rw [d5];exact hins) ?_⟩;rw [d1,d3,d4];exact Ent.go
theorem bnew_tE (c:Cfg)(hc:Small c)(who:Int)(seq:Nat)(pv:Value)(q:HProp)(progs:Progs)(hpv:ProgsR q pv progs) :
  Tri Tryz.prog 38 #[.agg ⟨c.m⟩, .int .i64 who, .int .u64 (seq:Int),pv] [] fun r L=>∃ B,r=.pointer (some ⟨B,0,none⟩)∧L=[BdE B c.cap.toNat c pv q progs (Bm.new who seq)]:=by
 obtain ⟨pad,pcap,rfl,hpl,hpr⟩:=hpv;have hcap:=hc.cap;have h1:=vnew_t c who seq;have h2:=pnew_t c seq;have h3:=wnew_t c.cap.toNat (by omega);rw [show ((c.cap.toNat:Nat):Int)=c.cap by omega] at h3;have hcp:=cap_r c hc c.fr rfl
 refine TB (vs:=[_,_,_,_]) Tryz.func38 fun w0 F=>?_
 repeat' (first|refine Ga ?_|(refine Gb ?_;intro b)|(refine Dr 1 [(0,1),(1,0),(2,1),(3,0),(4,0),(6,1),(7,0),(9,1),(5,2),(8,2),(10,1),(11,2),(12,0),(13,2),(14,0)] [] ?_)|refine Gl hcp ?_|(refine Gu h1 ?_;rintro _ _ ⟨V,rfl,rfl⟩;refine ⟨Ent.go, ?_⟩)|(refine Gu h2 ?_;rintro _ _ ⟨Pb,rfl,rfl⟩;refine ⟨Ent.go, ?_⟩)|(refine Gu h3 ?_;rintro _ _ ⟨W,rfl,rfl⟩;refine ⟨Ent.go, ?_⟩)|fail)
 all_goals
  refine St.d1 Tryz.func38 ⟨_,⟨_,rfl,rfl⟩,BdE.shut0 (V:=V) (Pb:=Pb) (W:=W) (xv:=.pointer none) (rad:=none) (rcap:=0) (rs:=[]) rfl (fun e=>by have:=e.2;cases this) ?_⟩;refine Ent.trans (Ent.row_nil 128 5) (Ent.trans (Ent.star_in []) ?_);exact Ent.go
theorem bstatus_rE (B room:Nat)(c:Cfg)(pv:Value)(q:HProp)(progs:Progs)(m:Bm):RTri Tryz.prog 41 #[.pointer (some ⟨B,0,none⟩)] [BdE B room c pv q progs m] (.int .i64 m.b.s):=by
 refine RTri.of_exact fun W0 hs=>?_
 obtain ⟨h,hs⟩:=sat_ex hs;have hB:=RdC.exact hs (ReadsC.here RdC.bl)
 refine TB (vs:=[_]) Tryz.func41 fun w0 F=>?_
 repeat' (first|refine Ga ?_|fail)
 refine St.dn Tryz.func41 ⟨?_,rfl⟩ Ent.go;rfl
set_option maxHeartbeats 1000000 in
theorem bask_rE (B:Nat)(c:Cfg)(hc:Small c)(pv:Value)(q:HProp)(progs:Progs)(m:Bm)(hi:Binv c progs m):RTri Tryz.prog 40 #[.pointer (some ⟨B,0,none⟩)] [BdE B c.cap.toNat c pv q progs m] (.tuple ⟨[.agg ⟨(m.ask c).1.v⟩, .bool (m.ask c).2]⟩):=by
 refine RTri.of_exact fun W0 hs=>?_
 obtain ⟨h,hs⟩:=sat_ex hs;have hB:=RdC.exact hs (ReadsC.here RdC.bl);have g:=hi.gen;have hvb:=g.vb;have hnx:=hi.nx
 have sub:∀ {M:List HProp},Ent (bdL B c.cap.toNat c pv q progs m h++[]) M→∀ k,exact' W0 k→Sat M k:=fun {M} he k hk=>by
  rw [show k=hpOf W0 from hk];unfold Ent at he;exact he _ hs
 have htk:=take_b c pv h.V h.Pb h.W h.xv (.slice h.rad m.rows.length h.rcap) m.b
 have hat:=fun k i j=>at_r c hc k i j
 unfold Bm.ask
 by_cases h0:m.b.s≠0
 ·rw [if_pos h0]
  refine TB (vs:=[_]) Tryz.func40 fun w0 F=>?_
  repeat' (first|refine Ga ?_|(refine Gb ?_;intro b)|(refine Ge ?_ ?_<;>intro h<;>try omega)|fail)
  refine St.dn Tryz.func40 ⟨?_,rfl⟩ Ent.go;rfl
 rw [if_neg h0]
 have hs0:m.b.s=0:=by omega
 by_cases h1:m.b.next=0
 ·rw [if_pos h1]
  have hp:=(hi.pool hs0 h1).1;have hask:=(pask_r h.Pb c hc m.e.p (by have:=hp.next;omega)).of_read (p:=exact' W0) (sub (by unfold bdL bdO;exact Ent.go))
  refine TB (vs:=[_]) Tryz.func40 fun w0 F=>?_
  repeat' (first|refine Ga ?_|(refine Gb ?_;intro b)|refine Gl hask ?_|(refine Ge ?_ ?_<;>intro h<;>try omega)|fail)
  refine St.dn Tryz.func40 ⟨?_,rfl⟩ Ent.go;rfl
 rw [if_neg h1]
 by_cases h2:m.b.next=1
 ·rw [if_pos h2]
  refine TB (vs:=[_]) Tryz.func40 fun w0 F=>?_
  repeat' (first|refine Ga ?_|(refine Gb ?_;intro b)|(refine Dr 7 [(0,0),(1,0),(2,0),(3,1),(4,0),(5,0),(6,0),(7,1),(8,1),(9,0),(10,3),(11,0)] [10] ?_)|refine Gl (hat _ _ _) ?_|(refine Ge ?_ ?_<;>intro h<;>try omega)|fail)
  refine St.dn Tryz.func40 ⟨?_,rfl⟩ Ent.go;rfl
 rw [if_neg h2]
 by_cases h3:m.b.next=2
 ·rw [if_pos h3]
  have hask:=(vask_r c hc h.V m.e.v (by omega)).of_read (p:=exact' W0) (sub (by unfold bdL bdO;exact Ent.go))
  refine TB (vs:=[_]) Tryz.func40 fun w0 F=>?_
  repeat' (first|refine Ga ?_|(refine Gb ?_;intro b)|refine Gl hask ?_|(refine Ge ?_ ?_<;>intro h<;>try omega)|fail)
  refine St.dn Tryz.func40 ⟨?_,rfl⟩ Ent.go;rfl
 rw [if_neg h3]
 by_cases h4:m.b.next=3
 ·rw [if_pos h4]
  refine TB (vs:=[_]) Tryz.func40 fun w0 F=>?_
  repeat' (first|refine Ga ?_|(refine Gb ?_;intro b)|(refine Dr 11 [(0,0),(1,0),(2,0),(3,1),(4,0),(5,0),(6,0),(7,1),(8,0),(9,0),(10,0),(11,1),(12,1),(13,0),(14,3),(15,0)] [14] ?_)|refine Gl (hat _ _ _) ?_|(refine Ge ?_ ?_<;>intro h<;>try omega)|fail)
  refine St.dn Tryz.func40 ⟨?_,rfl⟩ Ent.go;rfl
 ·rw [if_neg h4]
  have h5:m.b.next=4:=by omega
  obtain ⟨hxv,hins⟩:=h.hx hs0 h5;rw [hxv] at hB;have hask:=(xask_s h.X h.V h.Pb h.W c hc h.cv m.e (by omega)).of_read (p:=exact' W0) (sub (by unfold bdL bdO xpP;rw [if_pos ⟨hs0,h5⟩];exact Ent.go))
  refine TB (vs:=[_]) Tryz.func40 fun w0 F=>?_
  repeat' (first|refine Ga ?_|(refine Gb ?_;intro b)|refine Gl hask ?_|(refine Ge ?_ ?_<;>intro h<;>try omega)|fail)
  refine St.dn Tryz.func40 ⟨?_,rfl⟩ Ent.go;rfl
def entB (c:Cfg)(P:List (Int×Nat))(e:Int×Nat):Bool :=
 if (c.what e.1).1=16 then !((mget (allP P) (c.at 11 (c.what e.1).2.1 0)).isSome && ((((mget (allP P) (c.at 11 (c.what e.1).2.1 0)).getD 0:Nat):Int) != 1)) else true
def entriesOf (c:Cfg)(P:List (Int×Nat)):List (Int×Nat):=(allP P).filter (entB c P)
end Go.Proofs.YthmbgodcpgkkeaaGreat
