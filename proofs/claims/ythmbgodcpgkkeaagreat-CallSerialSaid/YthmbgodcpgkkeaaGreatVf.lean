/-
  Package call: Tell.
-/
import Derived.Test.YthmbgodcpgkkeaaGreatVe
namespace Go.Proofs.YthmbgodcpgkkeaaGreat
set_option maxRecDepth 100000
section
variable (Cb:Nat) (c:Cfg) (hc:Small c) (pv:Value) (p:Cp) (hp:p.args.length=4) (q:HProp) (progs:Progs) (hpv:ProgsR q pv progs) (hf:0≤c.fuel∧c.fuel≤1000) (hlast:c.last≤140737488355328)
include hc hp hpv hf hlast in
set_option maxHeartbeats 2000000 in
theorem ctell_t (m:Cm) (hi:Cinv c p progs m) (hrt:Crt p progs m) (o:Out):Tri Tryz.prog 70 #[.pointer (some ⟨Cb,0,none⟩), .agg ⟨o.v⟩] [ClE Cb c pv p q progs m,q]
    fun r L=>r=.tuple ⟨[]⟩∧L=[ClE Cb c pv p q progs (m.tell c p progs o),q]:=by
  have hnx:=hi.nx
  obtain ⟨s,work,b0⟩:=m
  obtain ⟨⟨wval,wseq⟩,ok⟩:=o
  refine Tri.ex_out ?_
  rintro ⟨wv,bv⟩
  have hpv0:=hpv
  obtain ⟨pad,pcap,rfl,_⟩:=hpv0
  unfold clL Out.v
  dsimp only at hnx⊢
  have hdn:=cdone_r Cb c (.slice pad progs.length pcap) p wv bv s
  have shut:∀ (m':Cm) (wv' bv':Value) {M:List HProp},Ent (bl Cb 263 (clV c (.slice pad progs.length pcap) p wv' bv' m'.s)::WkP c (.slice pad progs.length pcap) q progs (p.code progs) wv' m'.work::BkP c (.slice pad progs.length pcap) q progs bv' m'.b::M) (ClE Cb c (.slice pad progs.length pcap) p q progs m'::M):=fun m' wv' bv' M=>Ent.cl Cb c _ p q progs m' wv' bv'
  unfold Cm.tell
  dsimp only
  by_cases h13:s.next=13
  · rw [if_pos h13]
    rw [decide_eq_true h13] at hdn
    refine Tri.of_body (vs:=[_,_]) Tryz.func70 rfl rfl fun w0 F=>?_
    repeat' (first|refine Ga ?_|(refine Gb ?_;intro b)|(refine Gd ?_;intro g cap rest hcap)|(refine Gc ?_;intro ad cap)|(refine St.draw (id:=4) [(0,0),(1,0),(2,0),(3,1),(4,1),(5,3)] [5] mixed (by kernel_rfl) ?_)| refine Gl hdn ?_|(refine Ge ?_ ?_<;>(intro h;try (exfalso;omega)))|fail)
    refine St.d1 Tryz.func70 ⟨_,⟨rfl,rfl⟩, ?_⟩
    exact Ent.trans (Ent.trans Ent.go (shut ⟨s,work,b0⟩ wv bv)) Ent.go
  rw [if_neg h13]
  rw [decide_eq_false h13] at hdn
  have hright:=fun h2=>hrt.right h2 h13
  unfold Cm.go
  have hnt:s.touch.next=s.next:=rfl
  dsimp only
  rw [hnt]
  by_cases h0:s.next=0
  · rw [if_pos h0]
    have hg:=hi.given h0
    dsimp only at hg
    have eg:s.touch.given=s.given:=rfl
    rw [eg]
    by_cases h4:s.given+1=4
    · rw [if_pos h4]
      refine Tri.of_body (vs:=[_,_]) Tryz.func70 rfl rfl fun w0 F=>?_
      repeat' (first|refine Ga ?_|(refine Gb ?_;intro b)|(refine Gd ?_;intro g cap rest hcap)|(refine Gc ?_;intro ad cap)|(refine St.draw (id:=4) [(0,0),(1,0),(2,0),(3,1),(4,1),(5,3)] [5] mixed (by kernel_rfl) ?_)| refine Gl hdn ?_|(refine Ge ?_ ?_<;>(intro h;try (exfalso;omega)))|fail)
      all_goals first|(exfalso;omega)|skip
      refine St.f1 Tryz.func70 ⟨_,⟨rfl,rfl⟩, ?_⟩
      exact Ent.trans (Ent.trans Ent.go (shut ⟨{ s.touch with given:=s.given+1,next:=1 },work,b0⟩ wv bv)) Ent.go
    · rw [if_neg h4]
      refine Tri.of_body (vs:=[_,_]) Tryz.func70 rfl rfl fun w0 F=>?_
      repeat' (first|refine Ga ?_|(refine Gb ?_;intro b)|(refine Gd ?_;intro g cap rest hcap)|(refine Gc ?_;intro ad cap)|(refine St.draw (id:=4) [(0,0),(1,0),(2,0),(3,1),(4,1),(5,3)] [5] mixed (by kernel_rfl) ?_)| refine Gl hdn ?_|(refine Ge ?_ ?_<;>(intro h;try (exfalso;omega)))|fail)
      all_goals first|(exfalso;omega)|skip
      refine St.f1 Tryz.func70 ⟨_,⟨rfl,rfl⟩, ?_⟩
      exact Ent.trans (Ent.trans Ent.go (shut ⟨{ s.touch with given:=s.given+1 },work,b0⟩ wv bv)) Ent.go
  rw [if_neg h0]
  by_cases h1:s.next=1
  · rw [if_pos h1]
    refine Tri.of_body (vs:=[_,_]) Tryz.func70 rfl rfl fun w0 F=>?_
    repeat' (first|refine Ga ?_|(refine Gb ?_;intro b)|(refine Gd ?_;intro g cap rest hcap)|(refine Gc ?_;intro ad cap)|(refine St.draw (id:=4) [(0,0),(1,0),(2,0),(3,1),(4,1),(5,3)] [5] mixed (by kernel_rfl) ?_)| refine Gl hdn ?_|(refine Ge ?_ ?_<;>(intro h;try (exfalso;omega)))|fail)
    all_goals first|(exfalso;omega)|skip
    refine St.f1 Tryz.func70 ⟨_,⟨rfl,rfl⟩, ?_⟩
    exact Ent.trans (Ent.trans Ent.go (shut ⟨{ s.touch with asked:=true,next:=2 },work,b0⟩ wv bv)) Ent.go
  rw [if_neg h1]
  by_cases h2:s.next=2
  · rw [if_pos h2]
    have hlk:=clooks_t Cb c (.slice pad progs.length pcap) p wv bv { s.touch with now:=⟨wval,wseq⟩ } q progs hpv
    refine Tri.of_body (vs:=[_,_]) Tryz.func70 rfl rfl fun w0 F=>?_
    repeat' (first|refine Ga ?_|(refine Gb ?_;intro b)|(refine Gd ?_;intro g cap rest hcap)|(refine Gc ?_;intro ad cap)|(refine St.draw (id:=4) [(0,0),(1,0),(2,0),(3,1),(4,1),(5,3)] [5] mixed (by kernel_rfl) ?_)| refine Gl hdn ?_|(refine Gt hlk ?_;rintro _ _ ⟨rfl,rfl⟩)|(refine Ge ?_ ?_<;>(intro h;try (exfalso;omega)))|fail)
    all_goals first|(exfalso;omega)|skip
    refine St.f1 Tryz.func70 ⟨_,⟨rfl,rfl⟩, ?_⟩
    exact Ent.trans (Ent.trans Ent.go (shut ⟨Cs.looks { s.touch with now:=⟨wval,wseq⟩ } (rightB (p.code progs)),work,b0⟩ wv bv)) Ent.go
  rw [if_neg h2]
  by_cases h3:s.next=3
  · rw [if_pos h3]
    have hop:=copened_t Cb c hc (.slice pad progs.length pcap) p hp q progs hpv hf wv bv ⟨s.touch,work,b0⟩ ⟨wval,wseq⟩
    have eb:=Cm.opened_b c p progs ⟨s.touch,work,b0⟩ ⟨wval,wseq⟩
    unfold cpost at hop
    generalize hR:Cm.opened c p progs ⟨s.touch,work,b0⟩ ⟨wval,wseq⟩=R at hop eb⊢
    dsimp only at hop eb
    subst eb
    refine Tri.of_body (vs:=[_,_]) Tryz.func70 rfl rfl fun w0 F=>?_
    repeat' (first|refine Ga ?_|(refine Gb ?_;intro b)|(refine Gd ?_;intro g cap rest hcap)|(refine Gc ?_;intro ad cap)|(refine St.draw (id:=4) [(0,0),(1,0),(2,0),(3,1),(4,1),(5,3)] [5] mixed (by kernel_rfl) ?_)| refine Gl hdn ?_|(refine Gt hop ?_;rintro _ _ ⟨wv',rfl,rfl⟩)|(refine Ge ?_ ?_<;>(intro h;try (exfalso;omega)))|fail)
    all_goals first|(exfalso;omega)|skip
    refine St.f1 Tryz.func70 ⟨_,⟨rfl,rfl⟩, ?_⟩
    exact Ent.trans (Ent.trans Ent.go (shut R wv' bv)) Ent.go
  rw [if_neg h3]
  by_cases h5:s.next=5∨s.next=6∨s.next=7
  · rw [if_pos h5]
    have hop:=canswer_t Cb c hc (.slice pad progs.length pcap) p hp q progs hpv hf (hright h2) wv bv ⟨s.touch,work,b0⟩ wval
    have eb:=Cm.answer_b c p progs ⟨s.touch,work,b0⟩ wval
    unfold cpost at hop
    generalize hR:Cm.answer c p progs ⟨s.touch,work,b0⟩ wval=R at hop eb⊢
    dsimp only at hop eb
    subst eb
    rcases h5 with h5|h5|h5
    all_goals refine Tri.of_body (vs:=[_,_]) Tryz.func70 rfl rfl fun w0 F=>?_
    all_goals repeat' (first|refine Ga ?_|(refine Gb ?_;intro b)|(refine Gd ?_;intro g cap rest hcap)|(refine Gc ?_;intro ad cap)|(refine St.draw (id:=4) [(0,0),(1,0),(2,0),(3,1),(4,1),(5,3)] [5] mixed (by kernel_rfl) ?_)| refine Gl hdn ?_|(refine Gt hop ?_;rintro _ _ ⟨wv',rfl,rfl⟩)|(refine Ge ?_ ?_<;>(intro h;try (exfalso;omega)))|fail)
    all_goals first|(exfalso;omega)|skip
    all_goals refine St.f1 Tryz.func70 ⟨_,⟨rfl,rfl⟩, ?_⟩
    all_goals exact Ent.trans (Ent.trans Ent.go (shut R wv' bv)) Ent.go
  rw [if_neg h5]
  by_cases h11:s.next=11
  · rw [if_pos h11]
    obtain ⟨hs,bt,hb,hbi⟩:=hi.sw h11
    dsimp only at hb hs
    subst hb
    unfold BkP
    refine Tri.ent (Tri.ex_out (L:=[bl Cb 263 (clV c (.slice pad progs.length pcap) p wv bv s),WkP c (.slice pad progs.length pcap) q progs (p.code progs) wv work,q]) ?_) (Ent.of_take (.there (.there .here)))
    rintro ⟨B,rfl⟩
    dsimp only
    have hop:=cswapped_t Cb c hc (.slice pad progs.length pcap) p q progs hpv B wv ⟨s.touch,work,some bt⟩ bt rfl hbi (by show s.now.seq<140737488355328;omega) ok
    have eb:=Cm.swapped_b c p ⟨s.touch,work,some bt⟩ ok
    generalize hR:Cm.swapped c p ⟨s.touch,work,some bt⟩ ok=R at hop eb⊢
    dsimp only at hop eb
    have shut:=shut R
    rw [eb] at shut
    refine Tri.of_body (vs:=[_,_]) Tryz.func70 rfl rfl fun w0 F=>?_
    repeat' (first|refine Ga ?_|(refine Gb ?_;intro b)|(refine Gd ?_;intro g cap rest hcap)|(refine Gc ?_;intro ad cap)|(refine St.draw (id:=4) [(0,0),(1,0),(2,0),(3,1),(4,1),(5,3)] [5] mixed (by kernel_rfl) ?_)| refine Gl hdn ?_|(refine Gt hop ?_;rintro _ _ ⟨wv',rfl,rfl⟩)|(refine Ge ?_ ?_<;>(intro h;try (exfalso;omega)))|fail)
    all_goals first|(exfalso;omega)|skip
    refine St.f1 Tryz.func70 ⟨_,⟨rfl,rfl⟩, ?_⟩
    exact Ent.trans (Ent.trans (Ent.trans (Ent.of_take (p:=Bd B c (.slice pad progs.length pcap) q progs bt) Take.go) (Ent.bbd bt B)) (Ent.trans Ent.go (shut wv' (.pointer (some ⟨B,0,none⟩))))) Ent.go
  rw [if_neg h11]
  unfold Cm.worked
  dsimp only
  have hwk:∀ w:Wk,WkI c progs ⟨s.touch,w,b0⟩→Tri Tryz.prog 162 #[.pointer (some ⟨Cb,0,none⟩)] [bl Cb 263 (clV c (.slice pad progs.length pcap) p wv bv s.touch),WkP c (.slice pad progs.length pcap) q progs (p.code progs) wv w,BkP c (.slice pad progs.length pcap) q progs bv b0,q] fun r L=>∃ wv' bv',r=.tuple ⟨[]⟩∧L=cpost2 Cb c (.slice pad progs.length pcap) p q progs wv' bv' (Cm.after c p progs ⟨s.touch,w,b0⟩):=fun w hk=>cworked_t Cb c hc _ p hp q progs hpv hf wv bv ⟨s.touch,w,b0⟩ hk
  unfold cpost2 at hwk
  rcases (by omega:(s.next=4∨s.next=12)∨s.next=8∨s.next=9∨s.next=10) with e|e|e|e
  · obtain ⟨h0',hw,hh,_⟩:=hi.hp e
    dsimp only at hw
    subst hw
    have hwk:=hwk (.hp (h0'.tell c ⟨⟨wval,wseq⟩,ok⟩)) ⟨fun _ h=>(by cases h),fun _ h=>(by cases h),fun _ h=>(by cases h),fun h=>(by cases h)⟩
    unfold Wk.tell
    dsimp only
    generalize hR:Cm.after c p progs ⟨s.touch, .hp (h0'.tell c ⟨⟨wval,wseq⟩,ok⟩),b0⟩=R at hwk⊢
    unfold WkP at hwk⊢
    refine Tri.ent (Tri.ex_out (L:=[bl Cb 263 (clV c (.slice pad progs.length pcap) p wv bv s),BkP c (.slice pad progs.length pcap) q progs bv b0,q]) ?_) (Ent.of_take (.there .here))
    rintro ⟨H,rfl⟩
    dsimp only
    have hte:=htell_t H c hc h0' hh.1 ⟨⟨wval,wseq⟩,ok⟩
    unfold Out.v at hte
    dsimp only at hte
    have hwk:=hwk.ent (L:=[HpE H c (h0'.tell c ⟨⟨wval,wseq⟩,ok⟩),bl Cb 263 (clV c (.slice pad progs.length pcap) p (ifv 345 H) bv s.touch),BkP c (.slice pad progs.length pcap) q progs bv b0,q]) (Ent.trans (Ent.whp (pv:=.slice pad progs.length pcap) (q:=q) (progs:=progs) (code:=p.code progs) _ H) Ent.go)
    refine Tri.of_body (vs:=[_,_]) Tryz.func70 rfl rfl fun w0 F=>?_
    repeat' (first|refine Ga ?_|(refine Gb ?_;intro b)|(refine Gd ?_;intro g cap rest hcap)|(refine Gc ?_;intro ad cap)|(refine St.draw (id:=4) [(0,0),(1,0),(2,0),(3,1),(4,1),(5,3)] [5] mixed (by kernel_rfl) ?_)| refine Gl hdn ?_|(refine Kd (OpC.ifc (by rfl) Evs.go (by intro w;kernel_rfl)) hte Oh ?_;rintro _ _ ⟨rfl,rfl⟩)|(refine Ke rfl (OpC.ifc (by rfl) Evs.go (by intro w;kernel_rfl)) hte Oh ?_;rintro _ _ ⟨rfl,rfl⟩)|(refine Gt hwk ?_;rintro _ _ ⟨wv',bv',rfl,rfl⟩)|(refine Ge ?_ ?_<;>(intro h;try (exfalso;omega)))|fail)
    all_goals first|(exfalso;omega)|skip
    all_goals refine St.f1 Tryz.func70 ⟨_,⟨rfl,rfl⟩, ?_⟩
    all_goals exact Ent.trans (shut R wv' bv') Ent.go
  · obtain ⟨x0,hw,hx0,n,hS,hX⟩:=hi.ex e
    dsimp only at hw
    subst hw
    obtain ⟨hcode,hxi,hX'⟩:=hX.tell hS 0 hx0 ⟨⟨wval,wseq⟩,ok⟩
    have hnum:=hX'.num hS
    have hwk:=hwk (.ex (x0.tell c 0 (p.code progs) ⟨⟨wval,wseq⟩,ok⟩)) ⟨fun e' h=>(by injection h with h;subst h;have:=hnum.2.2.2.2.2.1;omega),fun _ h=>(by cases h),fun _ h=>(by cases h),fun h=>(by cases h)⟩
    unfold Wk.tell
    dsimp only
    generalize hR:Cm.after c p progs ⟨s.touch, .ex (x0.tell c 0 (p.code progs) ⟨⟨wval,wseq⟩,ok⟩),b0⟩=R at hwk⊢
    unfold WkP at hwk⊢
    refine Tri.ent (Tri.ex_out (L:=[bl Cb 263 (clV c (.slice pad progs.length pcap) p wv bv s),BkP c (.slice pad progs.length pcap) q progs bv b0,q]) ?_) (Ent.of_take (.there .here))
    rintro ⟨⟨X,V,Pb,W,cv,hins⟩,rfl⟩
    unfold exL
    dsimp only
    have hte:=xtell_s X V Pb W 0 c hc cv q (p.code progs) hcode hins (Xi c (p.code progs) [] 0 0 (n+1)) (xi_run hS 0 hcode (n+1)) x0 ⟨⟨wval,wseq⟩,ok⟩ (fun _=>hxi)
    unfold Out.v xsL at hte
    dsimp only at hte
    generalize x0.tell c 0 (p.code progs) ⟨⟨wval,wseq⟩,ok⟩=x1 at hte hwk
    have hwk:=hwk.ent (L:=[Xe X c cv V Pb W x1.x x1.news,bl V 215 (viewV c x1.v),Pl Pb c x1.p,Ws W 0 x1.puts,q,bl Cb 263 (clV c (.slice pad progs.length pcap) p (ifv 71 X) bv s.touch),BkP c (.slice pad progs.length pcap) q progs bv b0]) (Ent.trans (Ent.wex (pv:=.slice pad progs.length pcap) (progs:=progs) x1 X V Pb W cv hins) Ent.go)
    refine Tri.of_body (vs:=[_,_]) Tryz.func70 rfl rfl fun w0 F=>?_
    repeat' (first|refine Ga ?_|(refine Gb ?_;intro b)|(refine Gd ?_;intro g cap rest hcap)|(refine Gc ?_;intro ad cap)|(refine St.draw (id:=4) [(0,0),(1,0),(2,0),(3,1),(4,1),(5,3)] [5] mixed (by kernel_rfl) ?_)| refine Gl hdn ?_|(refine Kd (OpC.ifc (by rfl) Evs.go (by intro w;kernel_rfl)) hte Oh ?_;rintro _ _ ⟨rfl,rfl⟩)|(refine Ke rfl (OpC.ifc (by rfl) Evs.go (by intro w;kernel_rfl)) hte Oh ?_;rintro _ _ ⟨rfl,rfl⟩)|(refine Gt hwk ?_;rintro _ _ ⟨wv',bv',rfl,rfl⟩)|(refine Ge ?_ ?_<;>(intro h;try (exfalso;omega)))|fail)
    all_goals first|(exfalso;omega)|skip
    all_goals refine St.f1 Tryz.func70 ⟨_,⟨rfl,rfl⟩, ?_⟩
    all_goals exact Ent.trans (shut R wv' bv') Ent.go
  · obtain ⟨hs,bt,hw,hb,_⟩:=hi.bd e
    dsimp only at hw hs
    subst hw
    have hwk:=hwk (.bd (bt.tell c c.cap.toNat progs ⟨⟨wval,wseq⟩,ok⟩)) ⟨fun _ h=>(by cases h),fun e' h=>(by injection h with h;subst h;exact ⟨hb.tell hc hf _,by show s.now.seq<140737488355328;omega⟩),fun _ h=>(by cases h),fun h=>(by cases h)⟩
    unfold Wk.tell
    dsimp only
    generalize hR:Cm.after c p progs ⟨s.touch, .bd (bt.tell c c.cap.toNat progs ⟨⟨wval,wseq⟩,ok⟩),b0⟩=R at hwk⊢
    unfold WkP at hwk⊢
    refine Tri.ent (Tri.ex_out (L:=[bl Cb 263 (clV c (.slice pad progs.length pcap) p wv bv s),BkP c (.slice pad progs.length pcap) q progs bv b0,q]) ?_) (Ent.of_take (.there .here))
    rintro ⟨B,rfl⟩
    dsimp only
    have hte:=btell_t B c hc (.slice pad progs.length pcap) q progs bt hf hpv hb ⟨⟨wval,wseq⟩,ok⟩
    unfold Out.v at hte
    dsimp only at hte
    generalize bt.tell c c.cap.toNat progs ⟨⟨wval,wseq⟩,ok⟩=b1 at hte hwk
    have hwk:=hwk.ent (L:=[Bd B c (.slice pad progs.length pcap) q progs b1,q,bl Cb 263 (clV c (.slice pad progs.length pcap) p (ifv 93 B) bv s.touch),BkP c (.slice pad progs.length pcap) q progs bv b0]) (Ent.trans (Ent.wbd (code:=p.code progs) b1 B) Ent.go)
    refine Tri.of_body (vs:=[_,_]) Tryz.func70 rfl rfl fun w0 F=>?_
    repeat' (first|refine Ga ?_|(refine Gb ?_;intro b)|(refine Gd ?_;intro g cap rest hcap)|(refine Gc ?_;intro ad cap)|(refine St.draw (id:=4) [(0,0),(1,0),(2,0),(3,1),(4,1),(5,3)] [5] mixed (by kernel_rfl) ?_)| refine Gl hdn ?_|(refine Kd (OpC.ifc (by rfl) Evs.go (by intro w;kernel_rfl)) hte Oh ?_;rintro _ _ ⟨rfl,rfl⟩)|(refine Ke rfl (OpC.ifc (by rfl) Evs.go (by intro w;kernel_rfl)) hte Oh ?_;rintro _ _ ⟨rfl,rfl⟩)|(refine Gt hwk ?_;rintro _ _ ⟨wv',bv',rfl,rfl⟩)|(refine Ge ?_ ?_<;>(intro h;try (exfalso;omega)))|fail)
    all_goals first|(exfalso;omega)|skip
    all_goals refine St.f1 Tryz.func70 ⟨_,⟨rfl,rfl⟩, ?_⟩
    all_goals exact Ent.trans (shut R wv' bv') Ent.go
  · obtain ⟨hs,⟨s0,hw,hk,_⟩,_⟩:=hi.sc e
    dsimp only at hw
    subst hw
    have hwk:=hwk (.sc s0.tell) ⟨fun _ h=>(by cases h),fun _ h=>(by cases h),fun e' h=>(by injection h with h;subst h;exact hk.tell),fun h=>(by cases h)⟩
    unfold Wk.tell
    dsimp only
    generalize hR:Cm.after c p progs ⟨s.touch, .sc s0.tell,b0⟩=R at hwk⊢
    unfold WkP at hwk⊢
    refine Tri.ent (Tri.ex_out (L:=[bl Cb 263 (clV c (.slice pad progs.length pcap) p wv bv s),BkP c (.slice pad progs.length pcap) q progs bv b0,q]) ?_) (Ent.of_take (.there .here))
    rintro ⟨S,rfl⟩
    dsimp only
    have hte:=stell_t S c s0 hk.1 (by have:=hk.1;have:=hk.2;omega) ⟨⟨wval,wseq⟩,ok⟩
    unfold Out.v at hte
    dsimp only at hte
    generalize s0.tell=s1 at hte hwk
    have hwk:=hwk.ent (L:=[ScE S c s1,bl Cb 263 (clV c (.slice pad progs.length pcap) p (ifv 351 S) bv s.touch),BkP c (.slice pad progs.length pcap) q progs bv b0,q]) (Ent.trans (Ent.wsc (pv:=.slice pad progs.length pcap) (q:=q) (progs:=progs) (code:=p.code progs) s1 S) Ent.go)
    refine Tri.of_body (vs:=[_,_]) Tryz.func70 rfl rfl fun w0 F=>?_
    repeat' (first|refine Ga ?_|(refine Gb ?_;intro b)|(refine Gd ?_;intro g cap rest hcap)|(refine Gc ?_;intro ad cap)|(refine St.draw (id:=4) [(0,0),(1,0),(2,0),(3,1),(4,1),(5,3)] [5] mixed (by kernel_rfl) ?_)| refine Gl hdn ?_|(refine Kd (OpC.ifc (by rfl) Evs.go (by intro w;kernel_rfl)) hte Oh ?_;rintro _ _ ⟨rfl,rfl⟩)|(refine Ke rfl (OpC.ifc (by rfl) Evs.go (by intro w;kernel_rfl)) hte Oh ?_;rintro _ _ ⟨rfl,rfl⟩)|(refine Gt hwk ?_;rintro _ _ ⟨wv',bv',rfl,rfl⟩)|(refine Ge ?_ ?_<;>(intro h;try (exfalso;omega)))|fail)
    all_goals first|(exfalso;omega)|skip
    all_goals refine St.f1 Tryz.func70 ⟨_,⟨rfl,rfl⟩, ?_⟩
    all_goals exact Ent.trans (shut R wv' bv') Ent.go
end
end Go.Proofs.YthmbgodcpgkkeaaGreat
