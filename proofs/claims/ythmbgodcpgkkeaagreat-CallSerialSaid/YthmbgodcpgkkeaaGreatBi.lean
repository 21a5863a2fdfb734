/-
  Package build: Tell. Package build: New, Status, Ask, Entries.
-/
import Derived.Test.YthmbgodcpgkkeaaGreatBg
section
namespace Go.Proofs.YthmbgodcpgkkeaaGreat
set_option maxRecDepth 100000
structure BdH (q:HProp) (progs:Progs) (m:Bm) where
  V:Nat
  Pb:Nat
  W:Nat
  X:Nat
  xv:Value
  cv:Value
  rs:List RowH
  rad:Option Addr
  rcap:Nat
  hrs:rs.map (·.1)=m.rows
  hx:m.b.s=0→m.b.next=4→xv=.pointer (some ⟨X,0,none⟩)∧InsR q cv (progOf progs m.b.ann.val)
def xpP (X V Pb W:Nat) (c:Cfg) (cv:Value) (m:Bm):HProp:=if m.b.s=0∧m.b.next=4 then Xe X c cv V Pb W m.e.x m.e.news else star []
def bdL (B room:Nat) (c:Cfg) (pv:Value) (q:HProp) (progs:Progs) (m:Bm) (h:BdH q progs m):List HProp :=
  bdO B h.V h.Pb h.W room c pv h.xv (.slice h.rad m.rows.length h.rcap) m++[Row (.slice h.rad m.rows.length h.rcap) 128 5 m.rows.length (h.rs.flatMap rowV),star (h.rs.map rowP),xpP h.X h.V h.Pb h.W c h.cv m]
def BdE (B room:Nat) (c:Cfg) (pv:Value) (q:HProp) (progs:Progs) (m:Bm):HProp:=ex (bdL B room c pv q progs m)
theorem Ent.xp_none {X V Pb W:Nat} {c:Cfg} {cv:Value} {m:Bm} (h:¬ (m.b.s=0∧m.b.next=4)) {L:List HProp}:Ent L (xpP X V Pb W c cv m::L):=by
  unfold xpP;rw [if_neg h];exact Ent.star_in []
theorem Ent.xp_some {X V Pb W:Nat} {c:Cfg} {cv:Value} {m:Bm} {L:List HProp}:Ent (Xe X c cv V Pb W m.e.x m.e.news::L) (xpP X V Pb W c cv m::L):=by
  by_cases h:m.b.s=0∧m.b.next=4
  · unfold xpP;rw [if_pos h];exact Ent.refl _
  · exact Ent.trans (Ent.drop (Ent.refl _)) (Ent.xp_none h)
theorem BdE.shut {B V Pb W X room:Nat} {c:Cfg} {pv xv cv:Value} {q:HProp} {progs:Progs} {m:Bm} {rs:List RowH} {rad:Option Addr} {rcap:Nat} (hrs:rs.map (·.1)=m.rows) (hx:m.b.s=0→m.b.next=4→xv=.pointer (some ⟨X,0,none⟩)∧InsR q cv (progOf progs m.b.ann.val)) {L M:List HProp}
    (h:Ent L (xpP X V Pb W c cv m::bl B 228 (bdV c pv V Pb W xv (.slice rad m.rows.length rcap) m.b)::bl V 215 (viewV c m.e.v)::Pl Pb c m.e.p::Ws W room m.e.puts::Row (.slice rad m.rows.length rcap) 128 5 m.rows.length (rs.flatMap rowV)::star (rs.map rowP)::M)):Ent L (BdE B room c pv q progs m::M):=by
  refine Ent.trans h (Ent.trans ?_ (Ent.ex_in (Ls:=bdL B room c pv q progs m) ⟨V,Pb,W,X,xv,cv,rs,rad,rcap,hrs,hx⟩))
  unfold bdL bdO
  exact Ent.go
theorem BdE.shut0 {B V Pb W room:Nat} {c:Cfg} {pv xv:Value} {q:HProp} {progs:Progs} {m:Bm} {rs:List RowH} {rad:Option Addr} {rcap:Nat} (hrs:rs.map (·.1)=m.rows) (hno:¬ (m.b.s=0∧m.b.next=4)) {L M:List HProp}
    (h:Ent L (bl B 228 (bdV c pv V Pb W xv (.slice rad m.rows.length rcap) m.b)::bl V 215 (viewV c m.e.v)::Pl Pb c m.e.p::Ws W room m.e.puts::Row (.slice rad m.rows.length rcap) 128 5 m.rows.length (rs.flatMap rowV)::star (rs.map rowP)::M)):Ent L (BdE B room c pv q progs m::M) :=
  BdE.shut (X:=0) (cv:=pv) hrs (fun e1 e2=>absurd ⟨e1,e2⟩ hno) (Ent.trans h (Ent.xp_none hno))
theorem BdE.shut1 {B V Pb W X room:Nat} {c:Cfg} {pv cv:Value} {q:HProp} {progs:Progs} {m:Bm} {rs:List RowH} {rad:Option Addr} {rcap:Nat} (hrs:rs.map (·.1)=m.rows) (hins:InsR q cv (progOf progs m.b.ann.val)) {L M:List HProp}
    (h:Ent L (Xe X c cv V Pb W m.e.x m.e.news::bl B 228 (bdV c pv V Pb W (.pointer (some ⟨X,0,none⟩)) (.slice rad m.rows.length rcap) m.b)::bl V 215 (viewV c m.e.v)::Pl Pb c m.e.p::Ws W room m.e.puts::Row (.slice rad m.rows.length rcap) 128 5 m.rows.length (rs.flatMap rowV)::star (rs.map rowP)::M)):Ent L (BdE B room c pv q progs m::M) :=
  BdE.shut (X:=X) (cv:=cv) hrs (fun _ _=>⟨rfl,hins⟩) (Ent.trans h Ent.xp_some)
theorem bd_setarg (c:Cfg) (pv:Value) (V Pb W:Nat) (xv rv:Value) (b:Bs) (hl:b.args.length=4) {a:Int} (h0:0≤a) (h1:a<4) (n:Nat):SetN (.int .u64 (n:Int)) (0+33+a.toNat * 1) (bdV c pv V Pb W xv rv b) (bdV c pv V Pb W xv rv { b with args:=b.args.set a.toNat n }):=by
  have h:a=0∨a=1∨a=2∨a=3:=by omega
  obtain ⟨next,u,ann,args,given,s⟩:=b
  obtain ⟨a0,a1,a2,a3,rfl⟩:=len4 hl
  have key:∀ (k:Nat) (l l':List Value),k<l.length→l.set k (.int .u64 (n:Int))=l'→SetN (.int .u64 (n:Int)) k l l':=fun k l l' hk e=>e▸SetN.of hk
  rcases h with rfl|rfl|rfl|rfl<;>exact key _ _ _ (by simp [bdV,Cfg.m,Cfg.v,Cfg.fr,g4]) rfl
theorem Bm.pass_r (c:Cfg) (room:Nat) (m:Bm):(m.pass c room).b.next=1:=by unfold Bm.pass;split<;>rfl
theorem Bm.announce_r (c:Cfg) (room:Nat) (m:Bm):(m.announce c room).rows=m.rows∧(m.announce c room).b.next≠4:=by
  unfold Bm.announce;split
  · exact ⟨(m.pass_e c room).2.2.2.2,by rw [Bm.pass_r];decide⟩
  · exact ⟨rfl,by dsimp only;decide⟩
theorem Bm.tag_r (c:Cfg) (room:Nat) (m:Bm):(m.tag c room).rows=m.rows∧((m.tag c room).b.s=0→(m.tag c room).b.next≠4):=by
  unfold Bm.tag;split
  · exact ⟨rfl,fun e=>(by cases e)⟩
  split
  · exact ⟨(m.pass_e c room).2.2.2.2,fun _=>by rw [Bm.pass_r];decide⟩
  · exact ⟨rfl,fun _=>by dsimp only;decide⟩
theorem Bm.pooled_r (c:Cfg) (room:Nat) (m:Bm) (h:m.b.next≠4):(m.pooled c room).rows=m.rows∧(m.pooled c room).b.next≠4:=by
  unfold Bm.pooled;split
  · exact ⟨rfl,h⟩
  split
  · exact ⟨rfl,by dsimp only;decide⟩
  · exact ⟨rfl,h⟩
theorem Bm.begin_ann (c:Cfg) (room:Nat) (progs:Progs) (m:Bm):(m.begin c room progs).b.ann=m.b.ann:=(Bm.ran_e c room _).2.2.2.2
set_option maxHeartbeats 2000000 in
theorem btell_tE (B:Nat) (c:Cfg) (hc:Small c) (hf:0≤c.fuel∧c.fuel≤1000) (pv:Value) (q:HProp) (progs:Progs) (hpv:ProgsR q pv progs) (m:Bm) (hi:Binv c progs m) (o:Out) :
    Tri Tryz.prog 49 #[.pointer (some ⟨B,0,none⟩), .agg ⟨o.v⟩] [BdE B c.cap.toNat c pv q progs m,q]
      fun r L=>r=.tuple ⟨[]⟩∧L=[BdE B c.cap.toNat c pv q progs (m.tell c c.cap.toNat progs o),q]:=by
  refine Tri.ex_out ?_
  rintro ⟨V,Pb,W,X,xv,cv,rs,rad,rcap,hrs,hx⟩
  have g:=hi.gen
  have hu:=hi.u;have hlen:=hi.len;have ht1:=hc.t1;have hu0:=g.u;have hnt:=g.nt;have hnl:=g.nl;have hnx:=hi.nx
  have hbn:Bn m:=⟨by omega,by omega,by omega,by omega⟩
  unfold bdL bdO
  dsimp only
  unfold Bm.tell
  by_cases hs:m.b.s≠0
  · rw [if_pos hs]
    refine Tri.of_body (vs:=[_,_]) Tryz.func49 rfl rfl fun w0 F=>?_
    repeat' (first|refine Ga ?_|(refine Gb ?_;intro b)|(refine Gd ?_;intro g cap rest hcap)|(refine Gc ?_;intro ad cap)|(refine St.draw (id:=6) [(0,0),(1,0),(2,0),(3,1),(4,1),(5,3)] [5] mixed (by kernel_rfl) ?_)|(refine St.draw (id:=12) [(0,0),(1,0),(2,0),(3,1),(4,1),(5,3)] [5] mixed (by kernel_rfl) ?_)|(refine St.draw (id:=15) [(0,0),(1,0),(2,0),(3,0),(4,1),(5,0),(6,0),(7,1),(8,0),(9,0),(10,0),(11,3)] [11] mixed (by kernel_rfl) ?_)|(refine St.draw (id:=3) [(0,0),(1,0),(2,0),(3,1),(4,1),(5,3)] [5] mixed (by kernel_rfl) ?_)|(refine Ge ?_ ?_<;>(intro h;try (exfalso;omega)))|fail)
    refine St.d1 Tryz.func49 ⟨_,⟨rfl,rfl⟩,BdE.shut hrs hx Ent.go⟩
  · rw [if_neg hs]
    have hs0:m.b.s=0:=by omega
    by_cases h0:m.b.next=0
    · rw [if_pos h0]
      have hp:=(hi.pool hs0 h0).1
      have hp':=hp.tell hc o
      have hn:=hp.next;have hna:=hp.names;have hli:=hp.limbo;have hlm:=hc.limit;have hli':=hp'.limbo;have hnt':=hp'.nt;have hnl':=hp'.nl
      have ht:=ptell_t Pb c hc m.e.p o (by omega) (by omega) (by omega)
      have hpo:=bpooled_t B V Pb W c.cap.toNat c hc pv xv (.slice rad m.rows.length rcap) { m with e:={ m.e with p:=m.e.p.tell c o } } ⟨by dsimp only;omega,by dsimp only;omega,by dsimp only;omega,by dsimp only;omega⟩ (by dsimp only;omega)
      unfold bdO at hpo
      obtain ⟨r1,r2⟩:=Bm.pooled_r c c.cap.toNat { m with e:={ m.e with p:=m.e.p.tell c o } } (by dsimp only;omega)
      refine Tri.of_body (vs:=[_,_]) Tryz.func49 rfl rfl fun w0 F=>?_
      repeat' (first|refine Ga ?_|(refine Gb ?_;intro b)|(refine Gd ?_;intro g cap rest hcap)|(refine Gc ?_;intro ad cap)|(refine St.draw (id:=6) [(0,0),(1,0),(2,0),(3,1),(4,1),(5,3)] [5] mixed (by kernel_rfl) ?_)|(refine St.draw (id:=12) [(0,0),(1,0),(2,0),(3,1),(4,1),(5,3)] [5] mixed (by kernel_rfl) ?_)|(refine St.draw (id:=15) [(0,0),(1,0),(2,0),(3,0),(4,1),(5,0),(6,0),(7,1),(8,0),(9,0),(10,0),(11,3)] [11] mixed (by kernel_rfl) ?_)|(refine St.draw (id:=3) [(0,0),(1,0),(2,0),(3,1),(4,1),(5,3)] [5] mixed (by kernel_rfl) ?_)|(refine Gt ht ?_;rintro _ _ ⟨rfl,rfl⟩)|(refine Gt hpo ?_;rintro _ _ ⟨rfl,rfl⟩)|(refine Ge ?_ ?_<;>(intro h;try (exfalso;omega)))|fail)
      refine St.f1 Tryz.func49 ⟨_,⟨rfl,rfl⟩,BdE.shut0 (V:=V) (Pb:=Pb) (W:=W) (xv:=xv) (rad:=rad) (rcap:=rcap) (by rw [r1];exact hrs) (fun e=>r2 e.2) ?_⟩
      rw [r1];exact Ent.go
    · rw [if_neg h0]
      by_cases h1:m.b.next=1
      · rw [if_pos h1]
        have han:=bannounce_t B V Pb W c.cap.toNat c hc pv xv (.slice rad m.rows.length rcap) { m with b:={ m.b with ann:=o.was } } ⟨by dsimp only;omega,by dsimp only;omega,by dsimp only;omega,by dsimp only;omega⟩
        unfold bdO at han
        obtain ⟨r1,r2⟩:=Bm.announce_r c c.cap.toNat { m with b:={ m.b with ann:=o.was } }
        refine Tri.of_body (vs:=[_,_]) Tryz.func49 rfl rfl fun w0 F=>?_
        repeat' (first|refine Ga ?_|(refine Gb ?_;intro b)|(refine Gd ?_;intro g cap rest hcap)|(refine Gc ?_;intro ad cap)|(refine St.draw (id:=6) [(0,0),(1,0),(2,0),(3,1),(4,1),(5,3)] [5] mixed (by kernel_rfl) ?_)|(refine St.draw (id:=12) [(0,0),(1,0),(2,0),(3,1),(4,1),(5,3)] [5] mixed (by kernel_rfl) ?_)|(refine St.draw (id:=15) [(0,0),(1,0),(2,0),(3,0),(4,1),(5,0),(6,0),(7,1),(8,0),(9,0),(10,0),(11,3)] [11] mixed (by kernel_rfl) ?_)|(refine St.draw (id:=3) [(0,0),(1,0),(2,0),(3,1),(4,1),(5,3)] [5] mixed (by kernel_rfl) ?_)|(refine Gt han ?_;rintro _ _ ⟨rfl,rfl⟩)|(refine Ge ?_ ?_<;>(intro h;try (exfalso;omega)))|fail)
        refine St.f1 Tryz.func49 ⟨_,⟨rfl,rfl⟩,BdE.shut0 (V:=V) (Pb:=Pb) (W:=W) (xv:=xv) (rad:=rad) (rcap:=rcap) (by rw [r1];exact hrs) (fun e=>r2 e.2) ?_⟩
        rw [r1];exact Ent.go
      · rw [if_neg h1]
        by_cases h2:m.b.next=2
        · rw [if_pos h2]
          have hv:=vtell_t c V m.e.v o
          have hta:=btag_t B V Pb W c.cap.toNat c hc pv xv (.slice rad m.rows.length rcap) { m with e:={ m.e with v:=m.e.v.tell o } } ⟨by dsimp only;omega,by dsimp only;omega,by dsimp only;omega,by dsimp only;omega⟩
          unfold bdO at hta
          obtain ⟨r1,r2⟩:=Bm.tag_r c c.cap.toNat { m with e:={ m.e with v:=m.e.v.tell o } }
          refine Tri.of_body (vs:=[_,_]) Tryz.func49 rfl rfl fun w0 F=>?_
          repeat' (first|refine Ga ?_|(refine Gb ?_;intro b)|(refine Gd ?_;intro g cap rest hcap)|(refine Gc ?_;intro ad cap)|(refine St.draw (id:=6) [(0,0),(1,0),(2,0),(3,1),(4,1),(5,3)] [5] mixed (by kernel_rfl) ?_)|(refine St.draw (id:=12) [(0,0),(1,0),(2,0),(3,1),(4,1),(5,3)] [5] mixed (by kernel_rfl) ?_)|(refine St.draw (id:=15) [(0,0),(1,0),(2,0),(3,0),(4,1),(5,0),(6,0),(7,1),(8,0),(9,0),(10,0),(11,3)] [11] mixed (by kernel_rfl) ?_)|(refine St.draw (id:=3) [(0,0),(1,0),(2,0),(3,1),(4,1),(5,3)] [5] mixed (by kernel_rfl) ?_)|(refine Gt hv ?_;rintro _ _ ⟨rfl,rfl⟩)|(refine Gt hta ?_;rintro _ _ ⟨rfl,rfl⟩)|(refine Ge ?_ ?_<;>(intro h;try (exfalso;omega)))|fail)
          refine St.f1 Tryz.func49 ⟨_,⟨rfl,rfl⟩,BdE.shut0 (V:=V) (Pb:=Pb) (W:=W) (xv:=xv) (rad:=rad) (rcap:=rcap) (by rw [r1];exact hrs) (fun e=>r2 e.1 e.2) ?_⟩
          rw [r1];exact Ent.go
        · rw [if_neg h2]
          by_cases h3:m.b.next=3
          · rw [if_pos h3]
            have hg:=hi.given h3
            obtain ⟨hult,hq⟩:=hi.mid hs0 (by omega) (by omega)
            have hset:=bd_setarg c pv V Pb W xv (.slice rad m.rows.length rcap) m.b g.args hg.1 (by omega) o.was.val
            unfold bdV at hset
            dsimp only at hset
            by_cases h4:m.b.given+1=4
            · rw [if_pos h4]
              have hbe:=bbegin_t B V Pb W c hc hf pv xv q progs hpv { m with b:={ m.b with args:=m.b.args.set m.b.given.toNat o.was.val,given:=m.b.given+1 } } ⟨g.u,by dsimp only;rw [List.length_set];exact g.args,g.rows,g.news,g.vb,g.vgo,g.nt,g.nl⟩ hult hq rs hrs rad rcap
              unfold bdO begQ bdO at hbe
              refine Tri.of_body (vs:=[_,_]) Tryz.func49 rfl rfl fun w0 F=>?_
              repeat' (first|refine Ga ?_|(refine Gb ?_;intro b)|(refine Gd ?_;intro g cap rest hcap)|(refine Gc ?_;intro ad cap)|(refine St.draw (id:=6) [(0,0),(1,0),(2,0),(3,1),(4,1),(5,3)] [5] mixed (by kernel_rfl) ?_)|(refine St.draw (id:=12) [(0,0),(1,0),(2,0),(3,1),(4,1),(5,3)] [5] mixed (by kernel_rfl) ?_)|(refine St.draw (id:=15) [(0,0),(1,0),(2,0),(3,0),(4,1),(5,0),(6,0),(7,1),(8,0),(9,0),(10,0),(11,3)] [11] mixed (by kernel_rfl) ?_)|(refine St.draw (id:=3) [(0,0),(1,0),(2,0),(3,1),(4,1),(5,3)] [5] mixed (by kernel_rfl) ?_)|(refine Gt hbe ?_;rintro _ _ ⟨X',cv',rs',rad',rcap',hrs',hins',rfl,rfl⟩)|(refine Ge ?_ ?_<;>(intro h;try (exfalso;omega)))|fail)
              refine St.f1 Tryz.func49 ⟨_,⟨rfl,rfl⟩,BdE.shut1 (V:=V) (Pb:=Pb) (W:=W) (X:=X') (rad:=rad') (rcap:=rcap') (cv:=cv') hrs' (by rw [Bm.begin_ann];exact hins') ?_⟩
              exact Ent.go
            · rw [if_neg h4]
              refine Tri.of_body (vs:=[_,_]) Tryz.func49 rfl rfl fun w0 F=>?_
              repeat' (first|refine Ga ?_|(refine Gb ?_;intro b)|(refine Gd ?_;intro g cap rest hcap)|(refine Gc ?_;intro ad cap)|(refine St.draw (id:=6) [(0,0),(1,0),(2,0),(3,1),(4,1),(5,3)] [5] mixed (by kernel_rfl) ?_)|(refine St.draw (id:=12) [(0,0),(1,0),(2,0),(3,1),(4,1),(5,3)] [5] mixed (by kernel_rfl) ?_)|(refine St.draw (id:=15) [(0,0),(1,0),(2,0),(3,0),(4,1),(5,0),(6,0),(7,1),(8,0),(9,0),(10,0),(11,3)] [11] mixed (by kernel_rfl) ?_)|(refine St.draw (id:=3) [(0,0),(1,0),(2,0),(3,1),(4,1),(5,3)] [5] mixed (by kernel_rfl) ?_)|(refine Ge ?_ ?_<;>(intro h;try (exfalso;omega)))|fail)
              refine St.f1 Tryz.func49 ⟨_,⟨rfl,rfl⟩,BdE.shut0 (m:={ m with b:={ m.b with args:=m.b.args.set m.b.given.toNat o.was.val,given:=m.b.given+1 } }) (V:=V) (Pb:=Pb) (W:=W) (xv:=xv) (rad:=rad) (rcap:=rcap) hrs (show ¬ (m.b.s=0∧m.b.next=4) by omega) ?_⟩
              exact Ent.go
          · rw [if_neg h3]
            have hx4:m.b.next=4:=by omega
            obtain ⟨hult,hxs,P0,n,nt0,nl0,hS,hq,hX⟩:=hi.run hs0 hx4
            obtain ⟨rfl,hins⟩:=hx hs0 hx4
            obtain ⟨hr,hxi,hX'⟩:=hX.tell hS c.cap.toNat hxs o
            obtain ⟨hrc,hnt2,hnl2,hvb,hvg,hnw,hpa,hsx,hri⟩:=hX'.num hS
            have hpl2:(m.e.tell c c.cap.toNat (progOf progs m.b.ann.val) o).puts.length≤3000:=by
              have:=hq.short hc g.u (by omega);have:=hc.w1;have:=hc.w0
              obtain ⟨l,e,hl,_⟩:=hpa
              rw [e,List.length_append];omega
            have hro:=hi.rows
            have htl:=xtell_s X V Pb W c.cap.toNat c hc cv q (progOf progs m.b.ann.val) hr hins (Xi c (progOf progs m.b.ann.val) P0 nt0 nl0 (n+1)) (xi_run hS c.cap.toNat hr (n+1)) m.e o (fun _=>hxi)
            unfold xsL at htl
            have hran:=bran_t B V Pb W X c.cap.toNat c hc cv pv { m with e:=m.e.tell c c.cap.toNat (progOf progs m.b.ann.val) o } ⟨by dsimp only;omega,by dsimp only;omega,by dsimp only;omega,by dsimp only;omega⟩ rs hrs rad rcap (by dsimp only;omega) (by dsimp only;omega) (by dsimp only;omega) (by dsimp only;omega)
            unfold ranQ at hran
            obtain ⟨d1,d2,d3,d4,d5⟩:=Bm.ran_e c c.cap.toNat { m with e:=m.e.tell c c.cap.toNat (progOf progs m.b.ann.val) o }
            unfold xpP
            rw [if_pos ⟨hs0,hx4⟩]
            refine Tri.of_body (vs:=[_,_]) Tryz.func49 rfl rfl fun w0 F=>?_
            repeat' (first|refine Ga ?_|(refine Gb ?_;intro b)|(refine Gd ?_;intro g cap rest hcap)|(refine Gc ?_;intro ad cap)|(refine St.draw (id:=6) [(0,0),(1,0),(2,0),(3,1),(4,1),(5,3)] [5] mixed (by kernel_rfl) ?_)|(refine St.draw (id:=12) [(0,0),(1,0),(2,0),(3,1),(4,1),(5,3)] [5] mixed (by kernel_rfl) ?_)|(refine St.draw (id:=15) [(0,0),(1,0),(2,0),(3,0),(4,1),(5,0),(6,0),(7,1),(8,0),(9,0),(10,0),(11,3)] [11] mixed (by kernel_rfl) ?_)|(refine St.draw (id:=3) [(0,0),(1,0),(2,0),(3,1),(4,1),(5,3)] [5] mixed (by kernel_rfl) ?_)|(refine Gt htl ?_;rintro _ _ ⟨rfl,rfl⟩)|(refine Gt hran ?_;rintro _ _ ⟨rs',rad',rcap',hrs',rfl,rfl⟩)|(refine Ge ?_ ?_<;>(intro h;try (exfalso;omega)))|fail)
            refine St.f1 Tryz.func49 ⟨_,⟨rfl,rfl⟩,BdE.shut1 (V:=V) (Pb:=Pb) (W:=W) (X:=X) (rad:=rad') (rcap:=rcap') hrs' (by rw [d5];exact hins) ?_⟩
            rw [d1,d3,d4]
            exact Ent.go
end Go.Proofs.YthmbgodcpgkkeaaGreat
end
section
namespace Go.Proofs.YthmbgodcpgkkeaaGreat
set_option maxRecDepth 100000
theorem bnew_tE (c:Cfg) (hc:Small c) (who:Int) (seq:Nat) (pv:Value) (q:HProp) (progs:Progs) (hpv:ProgsR q pv progs) :
    Tri Tryz.prog 38 #[.agg ⟨c.m⟩, .int .i64 who, .int .u64 (seq:Int),pv] [] fun r L=>∃ B,r=.pointer (some ⟨B,0,none⟩)∧L=[BdE B c.cap.toNat c pv q progs (Bm.new who seq)]:=by
  obtain ⟨pad,pcap,rfl,hpl,hpr⟩:=hpv
  have hcap:=hc.cap
  have h1:=vnew_t c who seq
  have h2:=pnew_t c seq
  have h3:=wnew_t c.cap.toNat (by omega)
  rw [show ((c.cap.toNat:Nat):Int)=c.cap by omega] at h3
  have hcp:=cap_r c hc c.fr rfl
  refine Tri.of_body (vs:=[_,_,_,_]) Tryz.func38 rfl rfl fun w0 F=>?_
  repeat' (first|refine Ga ?_|(refine Gb ?_;intro b)|(refine Gd ?_;intro g cap rest hcap)|(refine Gc ?_;intro ad cap)|(refine St.draw (id:=1) [(0,1),(1,0),(2,1),(3,0),(4,0),(6,1),(7,0),(9,1),(5,2),(8,2),(10,1),(11,2),(12,0),(13,2),(14,0)] [] mixed (by kernel_rfl) ?_)| refine Gl hcp ?_|(refine Gt h1 ?_;rintro _ _ ⟨V,rfl,rfl⟩)|(refine Gu h1 ?_;rintro _ _ ⟨V,rfl,rfl⟩;refine ⟨Ent.go, ?_⟩)|(refine Gt h2 ?_;rintro _ _ ⟨Pb,rfl,rfl⟩)|(refine Gu h2 ?_;rintro _ _ ⟨Pb,rfl,rfl⟩;refine ⟨Ent.go, ?_⟩)|(refine Gt h3 ?_;rintro _ _ ⟨W,rfl,rfl⟩)|(refine Gu h3 ?_;rintro _ _ ⟨W,rfl,rfl⟩;refine ⟨Ent.go, ?_⟩)|(refine Ge ?_ ?_<;>(intro h;try (exfalso;omega)))|fail)
  all_goals
    refine St.d1 Tryz.func38 ⟨_,⟨_,rfl,rfl⟩,BdE.shut0 (V:=V) (Pb:=Pb) (W:=W) (xv:=.pointer none) (rad:=none) (rcap:=0) (rs:=[]) rfl (fun e=>by have:=e.2;cases this) ?_⟩
    refine Ent.trans (Ent.row_nil 128 5) (Ent.trans (Ent.star_in []) ?_)
    exact Ent.go
theorem bstatus_rE (B room:Nat) (c:Cfg) (pv:Value) (q:HProp) (progs:Progs) (m:Bm):RTri Tryz.prog 41 #[.pointer (some ⟨B,0,none⟩)] [BdE B room c pv q progs m] (.int .i64 m.b.s):=by
  refine RTri.of_exact fun W0 hs=>?_
  obtain ⟨h,hs⟩:=sat_ex hs
  have hB:=RdC.exact hs (ReadsC.here RdC.bl)
  refine Tri.of_body (vs:=[_]) Tryz.func41 rfl rfl fun w0 F=>?_
  repeat' (first|refine Ga ?_|(refine Gb ?_;intro b)|(refine Gd ?_;intro g cap rest hcap)|(refine Gc ?_;intro ad cap) |(refine Ge ?_ ?_<;>(intro h;try (exfalso;omega)))|fail)
  (first|refine St.dn Tryz.func41 ⟨?_,rfl⟩ Ent.go|refine St.fl Tryz.func41 ⟨?_,rfl⟩ Ent.go)
  rfl
set_option maxHeartbeats 1000000 in
theorem bask_rE (B:Nat) (c:Cfg) (hc:Small c) (pv:Value) (q:HProp) (progs:Progs) (m:Bm) (hi:Binv c progs m):RTri Tryz.prog 40 #[.pointer (some ⟨B,0,none⟩)] [BdE B c.cap.toNat c pv q progs m] (.tuple ⟨[.agg ⟨(m.ask c).1.v⟩, .bool (m.ask c).2]⟩):=by
  refine RTri.of_exact fun W0 hs=>?_
  obtain ⟨h,hs⟩:=sat_ex hs
  have hB:=RdC.exact hs (ReadsC.here RdC.bl)
  have g:=hi.gen
  have hvb:=g.vb;have hnx:=hi.nx
  have sub:∀ {M:List HProp},Ent (bdL B c.cap.toNat c pv q progs m h++[]) M→∀ k,exact' W0 k→Sat M k:=fun {M} he k hk=>by
    rw [show k=hpOf W0 from hk]
    unfold Ent at he
    exact he _ hs
  have htk:=take_b c pv h.V h.Pb h.W h.xv (.slice h.rad m.rows.length h.rcap) m.b
  have hat:=fun k i j=>at_r c hc k i j
  unfold Bm.ask
  by_cases h0:m.b.s≠0
  · rw [if_pos h0]
    refine Tri.of_body (vs:=[_]) Tryz.func40 rfl rfl fun w0 F=>?_
    repeat' (first|refine Ga ?_|(refine Gb ?_;intro b)|(refine Gd ?_;intro g cap rest hcap)|(refine Gc ?_;intro ad cap)|(refine St.draw (id:=7) [(0,0),(1,0),(2,0),(3,1),(4,0),(5,0),(6,0),(7,1),(8,1),(9,0),(10,3),(11,0)] [10] mixed (by kernel_rfl) ?_)|(refine St.draw (id:=11) [(0,0),(1,0),(2,0),(3,1),(4,0),(5,0),(6,0),(7,1),(8,0),(9,0),(10,0),(11,1),(12,1),(13,0),(14,3),(15,0)] [14] mixed (by kernel_rfl) ?_)|(refine Ge ?_ ?_<;>(intro h;try (exfalso;omega)))|fail)
    (first|refine St.dn Tryz.func40 ⟨?_,rfl⟩ Ent.go|refine St.fl Tryz.func40 ⟨?_,rfl⟩ Ent.go)
    rfl
  rw [if_neg h0]
  have hs0:m.b.s=0:=by omega
  by_cases h1:m.b.next=0
  · rw [if_pos h1]
    have hp:=(hi.pool hs0 h1).1
    have hask:=(pask_r h.Pb c hc m.e.p (by have:=hp.next;omega)).of_read (p:=exact' W0) (sub (by unfold bdL bdO;exact Ent.go))
    refine Tri.of_body (vs:=[_]) Tryz.func40 rfl rfl fun w0 F=>?_
    repeat' (first|refine Ga ?_|(refine Gb ?_;intro b)|(refine Gd ?_;intro g cap rest hcap)|(refine Gc ?_;intro ad cap)|(refine St.draw (id:=7) [(0,0),(1,0),(2,0),(3,1),(4,0),(5,0),(6,0),(7,1),(8,1),(9,0),(10,3),(11,0)] [10] mixed (by kernel_rfl) ?_)|(refine St.draw (id:=11) [(0,0),(1,0),(2,0),(3,1),(4,0),(5,0),(6,0),(7,1),(8,0),(9,0),(10,0),(11,1),(12,1),(13,0),(14,3),(15,0)] [14] mixed (by kernel_rfl) ?_)| refine Gl hask ?_|(refine Ge ?_ ?_<;>(intro h;try (exfalso;omega)))|fail)
    (first|refine St.dn Tryz.func40 ⟨?_,rfl⟩ Ent.go|refine St.fl Tryz.func40 ⟨?_,rfl⟩ Ent.go)
    rfl
  rw [if_neg h1]
  by_cases h2:m.b.next=1
  · rw [if_pos h2]
    refine Tri.of_body (vs:=[_]) Tryz.func40 rfl rfl fun w0 F=>?_
    repeat' (first|refine Ga ?_|(refine Gb ?_;intro b)|(refine Gd ?_;intro g cap rest hcap)|(refine Gc ?_;intro ad cap)|(refine St.draw (id:=7) [(0,0),(1,0),(2,0),(3,1),(4,0),(5,0),(6,0),(7,1),(8,1),(9,0),(10,3),(11,0)] [10] mixed (by kernel_rfl) ?_)|(refine St.draw (id:=11) [(0,0),(1,0),(2,0),(3,1),(4,0),(5,0),(6,0),(7,1),(8,0),(9,0),(10,0),(11,1),(12,1),(13,0),(14,3),(15,0)] [14] mixed (by kernel_rfl) ?_)| refine Gl (hat _ _ _) ?_|(refine Ge ?_ ?_<;>(intro h;try (exfalso;omega)))|fail)
    (first|refine St.dn Tryz.func40 ⟨?_,rfl⟩ Ent.go|refine St.fl Tryz.func40 ⟨?_,rfl⟩ Ent.go)
    rfl
  rw [if_neg h2]
  by_cases h3:m.b.next=2
  · rw [if_pos h3]
    have hask:=(vask_r c hc h.V m.e.v (by omega)).of_read (p:=exact' W0) (sub (by unfold bdL bdO;exact Ent.go))
    refine Tri.of_body (vs:=[_]) Tryz.func40 rfl rfl fun w0 F=>?_
    repeat' (first|refine Ga ?_|(refine Gb ?_;intro b)|(refine Gd ?_;intro g cap rest hcap)|(refine Gc ?_;intro ad cap)|(refine St.draw (id:=7) [(0,0),(1,0),(2,0),(3,1),(4,0),(5,0),(6,0),(7,1),(8,1),(9,0),(10,3),(11,0)] [10] mixed (by kernel_rfl) ?_)|(refine St.draw (id:=11) [(0,0),(1,0),(2,0),(3,1),(4,0),(5,0),(6,0),(7,1),(8,0),(9,0),(10,0),(11,1),(12,1),(13,0),(14,3),(15,0)] [14] mixed (by kernel_rfl) ?_)| refine Gl hask ?_|(refine Ge ?_ ?_<;>(intro h;try (exfalso;omega)))|fail)
    (first|refine St.dn Tryz.func40 ⟨?_,rfl⟩ Ent.go|refine St.fl Tryz.func40 ⟨?_,rfl⟩ Ent.go)
    rfl
  rw [if_neg h3]
  by_cases h4:m.b.next=3
  · rw [if_pos h4]
    refine Tri.of_body (vs:=[_]) Tryz.func40 rfl rfl fun w0 F=>?_
    repeat' (first|refine Ga ?_|(refine Gb ?_;intro b)|(refine Gd ?_;intro g cap rest hcap)|(refine Gc ?_;intro ad cap)|(refine St.draw (id:=7) [(0,0),(1,0),(2,0),(3,1),(4,0),(5,0),(6,0),(7,1),(8,1),(9,0),(10,3),(11,0)] [10] mixed (by kernel_rfl) ?_)|(refine St.draw (id:=11) [(0,0),(1,0),(2,0),(3,1),(4,0),(5,0),(6,0),(7,1),(8,0),(9,0),(10,0),(11,1),(12,1),(13,0),(14,3),(15,0)] [14] mixed (by kernel_rfl) ?_)| refine Gl (hat _ _ _) ?_|(refine Ge ?_ ?_<;>(intro h;try (exfalso;omega)))|fail)
    (first|refine St.dn Tryz.func40 ⟨?_,rfl⟩ Ent.go|refine St.fl Tryz.func40 ⟨?_,rfl⟩ Ent.go)
    rfl
  · rw [if_neg h4]
    have h5:m.b.next=4:=by omega
    obtain ⟨hxv,hins⟩:=h.hx hs0 h5
    rw [hxv] at hB
    have hask:=(xask_s h.X h.V h.Pb h.W c hc h.cv m.e (by omega)).of_read (p:=exact' W0) (sub (by unfold bdL bdO xpP;rw [if_pos ⟨hs0,h5⟩];exact Ent.go))
    refine Tri.of_body (vs:=[_]) Tryz.func40 rfl rfl fun w0 F=>?_
    repeat' (first|refine Ga ?_|(refine Gb ?_;intro b)|(refine Gd ?_;intro g cap rest hcap)|(refine Gc ?_;intro ad cap)|(refine St.draw (id:=7) [(0,0),(1,0),(2,0),(3,1),(4,0),(5,0),(6,0),(7,1),(8,1),(9,0),(10,3),(11,0)] [10] mixed (by kernel_rfl) ?_)|(refine St.draw (id:=11) [(0,0),(1,0),(2,0),(3,1),(4,0),(5,0),(6,0),(7,1),(8,0),(9,0),(10,0),(11,1),(12,1),(13,0),(14,3),(15,0)] [14] mixed (by kernel_rfl) ?_)| refine Gl hask ?_|(refine Ge ?_ ?_<;>(intro h;try (exfalso;omega)))|fail)
    (first|refine St.dn Tryz.func40 ⟨?_,rfl⟩ Ent.go|refine St.fl Tryz.func40 ⟨?_,rfl⟩ Ent.go)
    rfl
def entB (c:Cfg) (P:List (Int×Nat)) (e:Int×Nat):Bool :=
  if (c.what e.1).1=16 then !((mget (allP P) (c.at 11 (c.what e.1).2.1 0)).isSome && ((((mget (allP P) (c.at 11 (c.what e.1).2.1 0)).getD 0:Nat):Int) != 1)) else true
def entriesOf (c:Cfg) (P:List (Int×Nat)):List (Int×Nat):=(allP P).filter (entB c P)
end Go.Proofs.YthmbgodcpgkkeaaGreat
end
