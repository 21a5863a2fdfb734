/-
  A transaction that is made, in plain terms: what each reply keeps. Package build: begin.
-/
import Derived.Test.YthmbgodcpgkkeaaGreatBe
section
namespace Go.Proofs.YthmbgodcpgkkeaaGreat
structure Bgen (c:Cfg) (m:Bm):Prop where
  u:0≤m.b.u
  args:m.b.args.length=4
  rows:(m.rows.length:Int)≤m.b.u+1
  news:∀ r∈m.rows,r.news.length≤1000∧0≤r.rc∧r.rc≤100
  vb:0≤m.e.v.block∧m.e.v.block≤1000
  vgo:Vgo m.e.v
  nt:0≤m.e.p.nt∧m.e.p.nt≤1000
  nl:0≤m.e.p.nl∧m.e.p.nl≤1000
structure Binv (c:Cfg) (progs:Progs) (m:Bm):Prop where
  gen:Bgen c m
  nx:0≤m.b.next∧m.b.next≤4
  u:m.b.u≤c.threads
  rows:(m.rows.length:Int)≤m.b.u
  st:m.b.s=0∨m.b.s=1∨m.b.s=2
  given:m.b.next=3→0≤m.b.given∧m.b.given≤3
  len:m.e.puts.length≤100000
  pool:m.b.s=0→m.b.next=0→PoI c m.e.p∧m.e.puts=[]∧m.rows=[]∧m.b.u=0
  mid:m.b.s=0→1≤m.b.next→m.b.next≤3→m.b.u<c.threads∧Bq c m.b.u m.rows m.e.puts
  run:m.b.s=0→m.b.next=4→m.b.u<c.threads∧m.e.x.s=0∧∃ P0 n nt0 nl0,Start c P0 nt0 nl0∧Bq c m.b.u m.rows P0∧Xr c (progOf progs m.b.ann.val) P0 nt0 nl0 n m.e
  done:m.b.s=1→Bz c m.rows m.e.puts
section
variable {c:Cfg} {progs:Progs} {m:Bm}
theorem Bq.short (hc:Small c) {u:Int} (hu0:0≤u) (hu:u≤c.threads) {rows:List BRow} {P:List (Int×Nat)} (h:Bq c u rows P):P.length≤2000:=by
  have:=h.len;have:=hc.uw hu0 hu;have:=hc.tw3;have:=hc.limit
  omega
theorem Binv.pass (hc:Small c) (g:Bgen c m) (hs:m.b.s=0) (hu:m.b.u<c.threads) (hq:Bq c (m.b.u+1) m.rows m.e.puts):Binv c progs (m.pass c c.cap.toNat):=by
  have hu0:=g.u
  have hcap:=hc.cap
  unfold Bm.pass
  split
  · rename_i he
    have hz:=(he▸hq).ends hc m.e.p
    have hl:=hz.len
    exact ⟨⟨by dsimp only;omega,g.args,by have:=g.rows;dsimp only;omega,g.news,g.vb,g.vgo,g.nt,g.nl⟩,⟨by dsimp only;decide,by dsimp only;decide⟩,by dsimp only;omega,g.rows, .inr (.inl rfl),fun e=>(by cases e),by dsimp only;omega,
      fun e=>(by cases e),fun e=>(by cases e),fun e=>(by cases e),fun _=>hz⟩
  · rename_i he
    have hl:=hq.short hc (by omega) (by omega)
    exact ⟨⟨by dsimp only;omega,g.args,by have:=g.rows;dsimp only;omega,g.news,g.vb,g.vgo,g.nt,g.nl⟩,⟨by dsimp only;decide,by dsimp only;decide⟩,by dsimp only;omega,g.rows, .inl hs,fun e=>(by cases e),by dsimp only;omega,
      fun _ e=>(by cases e),fun _ _ _=>⟨by dsimp only;omega,hq⟩,fun _ e=>(by cases e),fun e=>by dsimp only at e;omega⟩
theorem Binv.stale (h:Binv c progs m):Binv c progs { m with b:={ m.b with s:=2 } } :=
  ⟨⟨h.gen.u,h.gen.args,h.gen.rows,h.gen.news,h.gen.vb,h.gen.vgo,h.gen.nt,h.gen.nl⟩,h.nx,h.u,h.rows, .inr (.inr rfl),h.given,h.len,fun e=>(by cases e),fun e=>(by cases e),fun e=>(by cases e),fun e=>(by cases e)⟩
theorem Binv.ran (hc:Small c) (g:Bgen c m) (hr:(m.rows.length:Int)≤m.b.u) (hs:m.b.s=0) (hx:m.b.next=4) (hu:m.b.u<c.threads) {P0:List (Int×Nat)} {n:Nat} {nt0 nl0:Int} (hS:Start c P0 nt0 nl0) (hq:Bq c m.b.u m.rows P0)
    (hX:Xr c (progOf progs m.b.ann.val) P0 nt0 nl0 n m.e):Binv c progs (m.ran c c.cap.toNat):=by
  have hu0:=g.u
  obtain ⟨hrc,hnt,hnl,hvb,hvg,hnw,hpa,hsx,hri⟩:=hX.num hS
  have hpl:m.e.puts.length≤3000:=by
    have:=hq.short hc hu0 (by omega);have:=hc.w1;have:=hc.w0
    obtain ⟨l,e,hl,_⟩:=hpa
    rw [e,List.length_append];omega
  unfold Bm.ran
  split
  · exact ⟨⟨g.u,g.args,g.rows,g.news,hvb,hvg,hnt,hnl⟩,⟨by dsimp only;omega,by dsimp only;omega⟩,by dsimp only;omega,hr, .inr (.inr rfl),fun e=>by dsimp only at e;omega,by dsimp only;omega,fun e=>(by cases e),fun e=>(by cases e),fun e=>(by cases e),fun e=>(by cases e)⟩
  split
  · refine Binv.pass hc (m:=m.told c c.cap.toNat) ⟨g.u,g.args, ?_, ?_,hvb,hvg,hnt,hnl⟩ hs hu (hq.told hc hu0 hu hpa _ rfl _ _ _)
    · show ((m.rows++[_]).length:Int)≤m.b.u+1
      rw [List.length_append,List.length_singleton];omega
    · intro r hr
      rcases List.mem_append.1 hr with hr|hr
      · exact g.news r hr
      · obtain rfl:=List.mem_singleton.1 hr
        exact ⟨hnw,hrc⟩
  · exact ⟨⟨g.u,g.args,g.rows,g.news,hvb,hvg,hnt,hnl⟩,⟨by omega,by omega⟩,by omega,hr, .inl hs,fun e=>by omega,by omega,fun _ e=>by omega,fun _ _ e=>by omega,fun _ _=>⟨hu,by omega,P0,n,nt0,nl0,hS,hq,hX⟩,fun e=>by omega⟩
theorem Binv.begin (hc:Small c) (hf:0≤c.fuel∧c.fuel≤1000) (g:Bgen c m) (hr:(m.rows.length:Int)≤m.b.u) (hs:m.b.s=0) (hu:m.b.u<c.threads) (hq:Bq c m.b.u m.rows m.e.puts):Binv c progs (m.begin c c.cap.toNat progs):=by
  have hS:Start c m.e.puts m.e.p.nt m.e.p.nl:=⟨hc,hf.2,by have:=hq.short hc g.u (by omega);omega,g.nt,g.nl⟩
  have hX:=Xr.start (code:=progOf progs m.b.ann.val) hS hf.1 c.cap.toNat m.e.v m.e.p rfl rfl m.b.args g.args g.vb g.vgo
  obtain ⟨hrc,hnt,hnl,hvb,hvg,hnw,hpa,hsx,hri⟩:=hX.num hS
  unfold Bm.begin
  exact Binv.ran hc (m:={ m with b:={ m.b with next:=4 },e:=_ }) ⟨g.u,g.args,g.rows,g.news,hvb,hvg,hnt,hnl⟩ hr hs rfl hu hS hq hX
theorem Vw.cell_vb {v:Vw} (h:0≤v.block∧v.block≤1000) (c:Cfg) (a:Int):0≤(v.cell c a).block∧(v.cell c a).block≤1000:=by rw [Vw.cell_block];exact h
theorem PoI.settled (hc:Small c) (room:Nat) {p:Po} (h:PoI c p):(0≤(p.settled c room []).nt∧(p.settled c room []).nt≤1000)∧(0≤(p.settled c room []).nl∧(p.settled c room []).nl≤1000)∧Bq c 0 [] (setGo c room p.names 0 p.limbo ⟨0,p.nt,[]⟩).puts:=by
  have h1:=setGo_ok hc room p.names p.limbo 0 ⟨0,p.nt,[]⟩ h.nt
  have h2:=h.limbo;have h3:=hc.limit
  dsimp only [List.length_nil] at h1
  refine ⟨⟨h1.1.1,by show (setGo _ _ _ _ _ _).nt≤1000;omega⟩,⟨by show (0:Int)≤((setGo _ _ _ _ _ _).kept:Int);omega,by show ((setGo _ _ _ _ _ _).kept:Int)≤1000;omega⟩, ?_⟩
  obtain ⟨l,e,hl,hk⟩:=PA.setGo hc room p.names (P0:=[]) p.limbo 0 0 ⟨0,p.nt,[]⟩ (PA.nil c [] 0)
  rw [List.nil_append] at e
  rw [e]
  exact ⟨by omega,fun x hx h1 h2=>absurd ⟨by have:=hc.nums.f7;omega,h2⟩ (hk x hx),fun r hr=>by simp at hr⟩
theorem Binv.tell (hc:Small c) (hf:0≤c.fuel∧c.fuel≤1000) (h:Binv c progs m) (o:Out):Binv c progs (m.tell c c.cap.toNat progs o):=by
  have g:=h.gen
  have hnx:=h.nx
  have ht:=hc.t0
  unfold Bm.tell
  split
  · exact h
  rename_i hs'
  have hs:m.b.s=0:=by omega
  split
  · rename_i h0
    obtain ⟨hp,hpu,hro,hu⟩:=h.pool hs h0
    have hp':=hp.tell hc o
    have hi:Binv c progs { m with e:={ m.e with p:=m.e.p.tell c o } } :=
      ⟨⟨g.u,g.args,g.rows,g.news,g.vb,g.vgo,⟨hp'.nt.1,by have:=hp'.nt;dsimp only;omega⟩,⟨hp'.nl.1,by have:=hp'.nl;dsimp only;omega⟩⟩,h.nx,h.u,h.rows,h.st,h.given,h.len,fun _ _=>⟨hp',hpu,hro,hu⟩,fun _ e=>by dsimp only at e;omega,fun _ e=>by dsimp only at e;omega,fun e=>by dsimp only at e;omega⟩
    unfold Bm.pooled
    split
    · exact hi.stale
    split
    · obtain ⟨h1,h2,h3⟩:=hp'.settled hc c.cap.toNat
      dsimp only
      rw [hpu]
      exact ⟨⟨g.u,g.args,g.rows,g.news,g.vb,g.vgo,h1,h2⟩,⟨by dsimp only;decide,by dsimp only;decide⟩,h.u,h.rows,h.st,fun e=>(by cases e),by have:=h3.short hc (Int.le_refl 0) (by omega);dsimp only;omega,
        fun _ e=>(by cases e),fun _ _ _=>⟨by dsimp only;omega,by dsimp only;rw [hu,hro];exact h3⟩,fun _ e=>(by cases e),fun e=>by dsimp only at e;omega⟩
    · exact hi
  rename_i h0
  split
  · rename_i h1
    obtain ⟨hu,hq⟩:=h.mid hs (by omega) (by omega)
    unfold Bm.announce
    split
    · exact Binv.pass hc (m:={ m with b:={ m.b with ann:=o.was } }) ⟨g.u,g.args,g.rows,g.news,g.vb,g.vgo,g.nt,g.nl⟩ hs hu (hq.next hc g.u hu)
    · exact ⟨⟨g.u,g.args,g.rows,g.news,Vw.cell_vb g.vb c _,g.vgo.cell c _ _,g.nt,g.nl⟩,⟨by dsimp only;decide,by dsimp only;decide⟩,h.u,h.rows,h.st,fun e=>(by cases e),h.len,fun _ e=>(by cases e),fun _ _ _=>⟨hu,hq⟩,fun _ e=>(by cases e),fun e=>by dsimp only at e;omega⟩
  split
  · rename_i h1 h2
    obtain ⟨hu,hq⟩:=h.mid hs (by omega) (by omega)
    have g':Bgen c { m with e:={ m.e with v:=m.e.v.tell o } }:=⟨g.u,g.args,g.rows,g.news,by rw [Vw.tell_block];exact g.vb,g.vgo.tell _ o,g.nt,g.nl⟩
    have hi:Binv c progs { m with e:={ m.e with v:=m.e.v.tell o } }:=⟨g',h.nx,h.u,h.rows,h.st,h.given,h.len,fun _ e=>absurd e h0,h.mid,fun _ e=>by dsimp only at e;omega,h.done⟩
    unfold Bm.tag
    split
    · exact hi.stale
    split
    · exact Binv.pass hc g' hs hu (hq.next hc g.u hu)
    · exact ⟨⟨g.u,g.args,g.rows,g.news,g'.vb,g'.vgo,g.nt,g.nl⟩,⟨by dsimp only;decide,by dsimp only;decide⟩,h.u,h.rows,h.st,fun _=>⟨by dsimp only;decide,by dsimp only;decide⟩,h.len,fun _ e=>(by cases e),fun _ _ _=>⟨hu,hq⟩,fun _ e=>(by cases e),fun e=>by dsimp only at e;omega⟩
  split
  · rename_i h1 h2 h3
    obtain ⟨hu,hq⟩:=h.mid hs (by omega) (by omega)
    have hg:=h.given h3
    have g':Bgen c { m with b:={ m.b with args:=m.b.args.set m.b.given.toNat o.was.val,given:=m.b.given+1 } }:=⟨g.u,by dsimp only;rw [List.length_set];exact g.args,g.rows,g.news,g.vb,g.vgo,g.nt,g.nl⟩
    split
    · exact Binv.begin hc hf g' h.rows hs hu hq
    · exact ⟨g',h.nx,h.u,h.rows,h.st,fun _=>⟨by dsimp only;omega,by dsimp only;omega⟩,h.len,fun _ e=>absurd e h0,h.mid,fun _ e=>by dsimp only at e;omega,h.done⟩
  · rename_i h1 h2 h3
    obtain ⟨hu,hx,P0,n,nt0,nl0,hS,hq,hX⟩:=h.run hs (by omega)
    obtain ⟨_,_,hX'⟩:=hX.tell hS c.cap.toNat hx o
    obtain ⟨hrc,hnt,hnl,hvb,hvg,hnw,hpa,hsx,hri⟩:=hX'.num hS
    exact Binv.ran hc (m:={ m with e:=m.e.tell c c.cap.toNat (progOf progs m.b.ann.val) o }) ⟨g.u,g.args,g.rows,g.news,hvb,hvg,hnt,hnl⟩ h.rows hs (by dsimp only;omega) hu hS hq hX'
theorem Binv.new (hc:Small c) (who:Int) (seq:Nat):Binv c progs (Bm.new who seq):=by
  have:=hc.t0
  refine ⟨⟨Int.le_refl 0,rfl,(by decide:(0:Int)≤0+1),fun r hr=>(by cases hr),(by decide:(0:Int)≤0∧(0:Int)≤1000),Vgo.new who seq,(by decide:(0:Int)≤0∧(0:Int)≤1000),(by decide:(0:Int)≤0∧(0:Int)≤1000)⟩,(by decide:(0:Int)≤0∧(0:Int)≤4),by show (0:Int)≤_;omega,Int.le_refl _, .inl rfl,fun e=>(by cases e),Nat.zero_le _,fun _ _=>⟨PoI.new hc seq,rfl,rfl,rfl⟩,fun _ e=>by have:(Bm.new who seq).b.next=0:=rfl;omega,fun _ e=>(by cases e),fun e=>(by cases e)⟩
end
end Go.Proofs.YthmbgodcpgkkeaaGreat
end
section
namespace Go.Proofs.YthmbgodcpgkkeaaGreat
set_option maxRecDepth 100000
def ProgsR (q:HProp) (pv:Value) (progs:Progs):Prop :=
  ∃ pad pcap,pv=.slice pad progs.length pcap∧progs.length≤1000∧∀ (i:Nat) (h:i<progs.length),∃ b o l cv,pad=some ⟨b,o,none⟩∧RdC q b l∧NthN (o+(i:Int).toNat * 1) l cv∧InsR q cv progs[i]
theorem Bm.ran_e (c:Cfg) (room:Nat) (m:Bm):(m.ran c room).e.v=m.e.v∧(m.ran c room).e.p=m.e.p∧(m.ran c room).e.x=m.e.x∧(m.ran c room).e.news=m.e.news∧(m.ran c room).b.ann=m.b.ann:=by
  have hp:=fun m:Bm=>Bm.pass_e c room m
  have ha:∀ m:Bm,(m.pass c room).b.ann=m.b.ann:=fun m=>by unfold Bm.pass;split<;>rfl
  unfold Bm.ran
  split
  · exact ⟨rfl,rfl,rfl,rfl,rfl⟩
  split
  · obtain ⟨h1,h2,h3,h4,_⟩:=hp (m.told c room)
    exact ⟨h1,h2,h3,h4,ha _⟩
  · exact ⟨rfl,rfl,rfl,rfl,rfl⟩
def begQ (B V Pb W room:Nat) (c:Cfg) (pv:Value) (q:HProp) (code:List Ins) (m':Bm) (r:Value) (L:List HProp):Prop:=∃ (X:Nat) (cv:Value) (rs:List RowH) (rad:Option Addr) (rcap:Nat),rs.map (·.1)=m'.rows∧InsR q cv code∧r=.tuple ⟨[]⟩∧
  L=bdO B V Pb W room c pv (.pointer (some ⟨X,0,none⟩)) (.slice rad m'.rows.length rcap) m'++[Xe X c cv V Pb W m'.e.x m'.e.news,Row (.slice rad m'.rows.length rcap) 128 5 m'.rows.length (rs.flatMap rowV),star (rs.map rowP),q]
theorem InsR.nil (q:HProp):InsR q (.slice none 0 0) []:=⟨none,0,rfl, .inl rfl⟩
set_option maxHeartbeats 1000000 in
theorem bbegin_t (B V Pb W:Nat) (c:Cfg) (hc:Small c) (hf:0≤c.fuel∧c.fuel≤1000) (pv xv:Value) (q:HProp) (progs:Progs) (hpv:ProgsR q pv progs) (m:Bm) (g:Bgen c m) (hu:m.b.u<c.threads) (hq:Bq c m.b.u m.rows m.e.puts)
    (rs:List RowH) (hrs:rs.map (·.1)=m.rows) (rad:Option Addr) (rcap:Nat) :
    Tri Tryz.prog 138 #[.pointer (some ⟨B,0,none⟩)] (bdO B V Pb W c.cap.toNat c pv xv (.slice rad m.rows.length rcap) m++[Row (.slice rad m.rows.length rcap) 128 5 m.rows.length (rs.flatMap rowV),star (rs.map rowP),q])
      (begQ B V Pb W c.cap.toNat c pv q (progOf progs m.b.ann.val) (m.begin c c.cap.toNat progs)):=by
  obtain ⟨pad,pcap,rfl,hpl,hpr⟩:=hpv
  have hS:Start c m.e.puts m.e.p.nt m.e.p.nl:=⟨hc,hf.2,by have:=hq.short hc g.u (by omega);omega,g.nt,g.nl⟩
  have hpu:=hq.short hc g.u (by omega)
  have ht1:=hc.t1
  have htk:=take_b c (.slice pad progs.length pcap) V Pb W xv (.slice rad m.rows.length rcap) m.b
  have hX:=Xr.start (code:=progOf progs m.b.ann.val) hS hf.1 c.cap.toNat m.e.v m.e.p rfl rfl m.b.args g.args g.vb g.vgo
  obtain ⟨hrc,hnt,hnl,hvb,hvg,hnw,hpa,hsx,hri⟩:=hX.num hS
  have hpl2:(Xm.start c c.cap.toNat (progOf progs m.b.ann.val) m.e.v m.e.p m.e.puts m.b.args).puts.length≤3000:=by
    have:=hc.w1;have:=hc.w0
    obtain ⟨l,e,hl,_⟩:=hpa
    rw [e,List.length_append];omega
  have hru:=g.rows;have hu0:=g.u
  have hran:=fun X cv=>bran_t B V Pb W X c.cap.toNat c hc cv (.slice pad progs.length pcap) { m with b:={ m.b with next:=4 },e:=Xm.start c c.cap.toNat (progOf progs m.b.ann.val) m.e.v m.e.p m.e.puts m.b.args } ⟨by dsimp only;omega,by dsimp only;omega,by dsimp only;omega,by dsimp only;omega⟩ rs hrs rad rcap (by dsimp only;omega) (by dsimp only;omega) (by dsimp only;omega) (by dsimp only;omega)
  have hnew:=fun cv hcv=>xnew_s V Pb W c.cap.toNat c hc cv q (progOf progs m.b.ann.val) hcv m.e.v m.e.p m.e.puts m.b.args (by omega) (Xi c (progOf progs m.b.ann.val) m.e.puts m.e.p.nt m.e.p.nl 0) (fun hr=>xi_run hS c.cap.toNat hr 0) (fun hr=>⟨Xinv.init hr hS hf.1 m.e.v m.e.p rfl rfl m.b.args g.args g.vb,Xw.init m.e.v m.e.p m.b.args g.vgo⟩)
  obtain ⟨d1,d2,d3,d4,d5⟩:=Bm.ran_e c c.cap.toNat { m with b:={ m.b with next:=4 },e:=Xm.start c c.cap.toNat (progOf progs m.b.ann.val) m.e.v m.e.p m.e.puts m.b.args }
  unfold Bm.begin
  by_cases hlt:m.b.ann.val<progs.length
  · obtain ⟨pb,po,pl,cv,rfl,hrd,hnth,hins⟩:=hpr m.b.ann.val hlt
    have hcode:progOf progs m.b.ann.val=progs[m.b.ann.val]:=by unfold progOf;rw [List.getD_eq_getElem?_getD,List.getElem?_eq_getElem hlt];rfl
    rw [←hcode] at hins
    have hins0:=hins
    obtain ⟨cad,ccap,rfl,_⟩:=hins0
    have hnew1:=hnew _ hins
    have hran1:=fun X=>hran X (.slice cad (progOf progs m.b.ann.val).length ccap)
    unfold bdO
    refine Tri.of_body (vs:=[_]) Tryz.func138 rfl rfl fun w0 F=>?_
    repeat' (first|refine Ga ?_|(refine Gb ?_;intro b)|(refine Gd ?_;intro g cap rest hcap)|(refine Gc ?_;intro ad cap)|(refine St.draw (id:=1) [(0,0),(1,0),(2,0),(3,0),(4,1),(5,0),(6,0),(7,0),(8,1),(9,0),(10,0),(11,0)] [] mixed (by kernel_rfl) ?_)|(refine St.draw (id:=2) [(0,0),(1,0),(2,0),(3,1),(4,0),(5,0),(6,0),(7,0),(8,1),(9,0),(10,1),(11,0)] [] mixed (by kernel_rfl) ?_)|(refine St.draw (id:=3) [(0,0),(1,0),(2,0),(3,0),(4,1),(5,0),(6,0),(7,0),(8,0),(9,1),(10,0),(11,0),(12,0),(13,1),(14,0),(15,0),(16,0),(17,1),(18,0),(19,0),(20,0),(21,1),(22,3),(23,0),(24,0),(25,3)] [22,25] mixed (by kernel_rfl) ?_)|(refine Gt hnew1 ?_;rintro _ _ ⟨X,rfl,rfl⟩)|(refine Ge ?_ ?_<;>(intro h;try (exfalso;omega)))|fail)
    have hr2:=hran1 X
    repeat' (first|refine Ga ?_|(refine Gb ?_;intro b)|(refine Gd ?_;intro g cap rest hcap)|(refine Gc ?_;intro ad cap)|(refine St.draw (id:=1) [(0,0),(1,0),(2,0),(3,0),(4,1),(5,0),(6,0),(7,0),(8,1),(9,0),(10,0),(11,0)] [] mixed (by kernel_rfl) ?_)|(refine St.draw (id:=2) [(0,0),(1,0),(2,0),(3,1),(4,0),(5,0),(6,0),(7,0),(8,1),(9,0),(10,1),(11,0)] [] mixed (by kernel_rfl) ?_)|(refine St.draw (id:=3) [(0,0),(1,0),(2,0),(3,0),(4,1),(5,0),(6,0),(7,0),(8,0),(9,1),(10,0),(11,0),(12,0),(13,1),(14,0),(15,0),(16,0),(17,1),(18,0),(19,0),(20,0),(21,1),(22,3),(23,0),(24,0),(25,3)] [22,25] mixed (by kernel_rfl) ?_)|(refine Gt hr2 ?_;rintro _ _ ⟨rs',rad',rcap',hrs',rfl,rfl⟩)|(refine Ge ?_ ?_<;>(intro h;try (exfalso;omega)))|fail)
    refine St.f1 Tryz.func138 ⟨_,⟨X,_,rs',rad',rcap',hrs',hins,rfl,rfl⟩, ?_⟩
    unfold bdO
    rw [d1,d3,d4]
    exact Ent.go
  · have hcode:progOf progs m.b.ann.val=[]:=by unfold progOf;rw [List.getD_eq_getElem?_getD,List.getElem?_eq_none (by omega)];rfl
    have hnew1:=hnew (.slice none 0 0) (by rw [hcode];exact InsR.nil q)
    have hran1:=fun X=>hran X (.slice none 0 0)
    unfold bdO
    refine Tri.of_body (vs:=[_]) Tryz.func138 rfl rfl fun w0 F=>?_
    repeat' (first|refine Ga ?_|(refine Gb ?_;intro b)|(refine Gd ?_;intro g cap rest hcap)|(refine Gc ?_;intro ad cap)|(refine St.draw (id:=1) [(0,0),(1,0),(2,0),(3,0),(4,1),(5,0),(6,0),(7,0),(8,1),(9,0),(10,0),(11,0)] [] mixed (by kernel_rfl) ?_)|(refine St.draw (id:=2) [(0,0),(1,0),(2,0),(3,1),(4,0),(5,0),(6,0),(7,0),(8,1),(9,0),(10,1),(11,0)] [] mixed (by kernel_rfl) ?_)|(refine St.draw (id:=3) [(0,0),(1,0),(2,0),(3,0),(4,1),(5,0),(6,0),(7,0),(8,0),(9,1),(10,0),(11,0),(12,0),(13,1),(14,0),(15,0),(16,0),(17,1),(18,0),(19,0),(20,0),(21,1),(22,3),(23,0),(24,0),(25,3)] [22,25] mixed (by kernel_rfl) ?_)|(refine Gt hnew1 ?_;rintro _ _ ⟨X,rfl,rfl⟩)|(refine Ge ?_ ?_<;>(intro h;try (exfalso;omega)))|fail)
    have hr2:=hran1 X
    repeat' (first|refine Ga ?_|(refine Gb ?_;intro b)|(refine Gd ?_;intro g cap rest hcap)|(refine Gc ?_;intro ad cap)|(refine St.draw (id:=1) [(0,0),(1,0),(2,0),(3,0),(4,1),(5,0),(6,0),(7,0),(8,1),(9,0),(10,0),(11,0)] [] mixed (by kernel_rfl) ?_)|(refine St.draw (id:=2) [(0,0),(1,0),(2,0),(3,1),(4,0),(5,0),(6,0),(7,0),(8,1),(9,0),(10,1),(11,0)] [] mixed (by kernel_rfl) ?_)|(refine St.draw (id:=3) [(0,0),(1,0),(2,0),(3,0),(4,1),(5,0),(6,0),(7,0),(8,0),(9,1),(10,0),(11,0),(12,0),(13,1),(14,0),(15,0),(16,0),(17,1),(18,0),(19,0),(20,0),(21,1),(22,3),(23,0),(24,0),(25,3)] [22,25] mixed (by kernel_rfl) ?_)|(refine Gt hr2 ?_;rintro _ _ ⟨rs',rad',rcap',hrs',rfl,rfl⟩)|(refine Ge ?_ ?_<;>(intro h;try (exfalso;omega)))|fail)
    refine St.f1 Tryz.func138 ⟨_,⟨X,_,rs',rad',rcap',hrs',by rw [hcode];exact InsR.nil q,rfl,rfl⟩, ?_⟩
    unfold bdO
    rw [d1,d3,d4]
    exact Ent.go
end Go.Proofs.YthmbgodcpgkkeaaGreat
end
