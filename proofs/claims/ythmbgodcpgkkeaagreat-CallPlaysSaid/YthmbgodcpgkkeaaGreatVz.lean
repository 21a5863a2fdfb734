/-
  Package call: Tell. Package call: Ask, New, Rows. Package call: Rows, New. Packages call, tumblerref07, tumblerref15, tumblerlaw15: the bound.
-/
import Derived.Test.YthmbgodcpgkkeaaGreatVe
import Derived.Test.YthmbgodcpgkkeaaGreatRowq
set_option maxRecDepth 100000
namespace Go.Proofs.YthmbgodcpgkkeaaGreat
section
variable (Cb:Nat)(c:Cfg)(hc:Small c)(pv:Value)(p:Cp)(hp:p.args.length=4)(q:HProp)(progs:Progs)(hpv:ProgsR q pv progs)(hf:0≤c.fuel∧c.fuel≤1000)(hlast:c.last≤140737488355328)
include hc hp hpv hf hlast in
set_option maxHeartbeats 2000000 in
theorem ctell_t (m:Cm)(hi:Cinv c p progs m)(hrt:Crt p progs m)(o:Out):Tri Tryz.prog 70 #[.pointer (some ⟨Cb,0,none⟩), .agg ⟨o.v⟩] [ClE Cb c pv p q progs m,q]
  fun r L=>r=.tuple ⟨[]⟩∧L=[ClE Cb c pv p q progs (m.tell c p progs o),q]:=by
 have hnx:=hi.nx;obtain ⟨s,work,b0⟩:=m;obtain ⟨⟨wval,wseq⟩,ok⟩:=o;refine Tri.ex_out ?_;rintro ⟨wv,bv⟩;have hpv0:=hpv;obtain ⟨pad,pcap,rfl,_⟩:=hpv0;unfold clL Out.v;dsimp only at hnx⊢;have hdn:=cdone_r Cb c (.slice pad progs.length pcap) p wv bv s
 have shut:∀ (m':Cm) (wv' bv':Value) {M:List HProp},Ent (bl Cb 263 (clV c (.slice pad progs.length pcap) p wv' bv' m'.s)::WkP c (.slice pad progs.length pcap) q progs (p.code progs) wv' m'.work::BkP c (.slice pad progs.length pcap) q progs bv' m'.b::M) (ClE Cb c (.slice pad progs.length pcap) p q progs m'::M):=fun m' wv' bv' M=>Ent.cl Cb c _ p q progs m' wv' bv'
 unfold Cm.tell;dsimp only
 by_cases h13:s.next=13
 ·rw [if_pos h13]
  rw [decide_eq_true h13] at hdn
  refine TB (vs:=[_,_]) Tryz.func70 fun w0 F=>?_
  repeat' (first|refine Ga ?_|(refine Gb ?_;intro b)|refine Gl hdn ?_|fail)
  refine St.d1 Tryz.func70 ⟨_,⟨rfl,rfl⟩, ?_⟩;exact Ent.trans (Ent.trans Ent.go (shut ⟨s,work,b0⟩ wv bv)) Ent.go
 rw [if_neg h13];rw [decide_eq_false h13] at hdn
 have hright:=fun h2=>hrt.right h2 h13
 unfold Cm.go;have hnt:s.touch.next=s.next:=rfl;dsimp only;rw [hnt]
 by_cases h0:s.next=0
 ·rw [if_pos h0]
  have hg:=hi.given h0;dsimp only at hg;have eg:s.touch.given=s.given:=rfl;rw [eg]
  by_cases h4:s.given+1=4
  ·rw [if_pos h4]
   refine TB (vs:=[_,_]) Tryz.func70 fun w0 F=>?_
   repeat' (first|refine Ga ?_|(refine Gb ?_;intro b)|refine Gl hdn ?_|(refine Ge ?_ ?_<;>intro h<;>try omega)|fail)
   refine St.f1 Tryz.func70 ⟨_,⟨rfl,rfl⟩, ?_⟩;exact Ent.trans (Ent.trans Ent.go (shut ⟨{ s.touch with given:=s.given+1,next:=1 },work,b0⟩ wv bv)) Ent.go
  ·rw [if_neg h4]
   refine TB (vs:=[_,_]) Tryz.func70 fun w0 F=>?_
   repeat' (first|refine Ga ?_|(refine Gb ?_;intro b)|refine Gl hdn ?_|(refine Ge ?_ ?_<;>intro h<;>try omega)|fail)
   refine St.f1 Tryz.func70 ⟨_,⟨rfl,rfl⟩, ?_⟩;exact Ent.trans (Ent.trans Ent.go (shut ⟨{ s.touch with given:=s.given+1 },work,b0⟩ wv bv)) Ent.go
 rw [if_neg h0]
 by_cases h1:s.next=1
 ·rw [if_pos h1]
  refine TB (vs:=[_,_]) Tryz.func70 fun w0 F=>?_
  repeat' (first|refine Ga ?_|(refine Gb ?_;intro b)|refine Gl hdn ?_|(refine Ge ?_ ?_<;>intro h<;>try omega)|fail)
  refine St.f1 Tryz.func70 ⟨_,⟨rfl,rfl⟩, ?_⟩;exact Ent.trans (Ent.trans Ent.go (shut ⟨{ s.touch with asked:=true,next:=2 },work,b0⟩ wv bv)) Ent.go
 rw [if_neg h1]
 by_cases h2:s.next=2
 ·rw [if_pos h2]
  have hlk:=clooks_t Cb c (.slice pad progs.length pcap) p wv bv { s.touch with now:=⟨wval,wseq⟩ } q progs hpv
  refine TB (vs:=[_,_]) Tryz.func70 fun w0 F=>?_
  repeat' (first|refine Ga ?_|(refine Gb ?_;intro b)|refine Gl hdn ?_|(refine Gt hlk ?_;rintro _ _ ⟨rfl,rfl⟩)|(refine Ge ?_ ?_<;>intro h<;>try omega)|fail)
  refine St.f1 Tryz.func70 ⟨_,⟨rfl,rfl⟩, ?_⟩;exact Ent.trans (Ent.trans Ent.go (shut ⟨Cs.looks { s.touch with now:=⟨wval,wseq⟩ } (rightB (p.code progs)),work,b0⟩ wv bv)) Ent.go
 rw [if_neg h2]
 by_cases h3:s.next=3
 ·rw [if_pos h3]
  have hop:=copened_t Cb c hc (.slice pad progs.length pcap) p hp q progs hpv hf wv bv ⟨s.touch,work,b0⟩ ⟨wval,wseq⟩;have eb:=Cm.opened_b c p progs ⟨s.touch,work,b0⟩ ⟨wval,wseq⟩;unfold cpost at hop;generalize hR:Cm.opened c p progs ⟨s.touch,work,b0⟩ ⟨wval,wseq⟩=R at hop eb⊢;dsimp only at hop eb;subst eb
  refine TB (vs:=[_,_]) Tryz.func70 fun w0 F=>?_
  repeat' (first|refine Ga ?_|(refine Gb ?_;intro b)|refine Gl hdn ?_|(refine Gt hop ?_;rintro _ _ ⟨wv',rfl,rfl⟩)|(refine Ge ?_ ?_<;>intro h<;>try omega)|fail)
  refine St.f1 Tryz.func70 ⟨_,⟨rfl,rfl⟩, ?_⟩;exact Ent.trans (Ent.trans Ent.go (shut R wv' bv)) Ent.go
 rw [if_neg h3]
 by_cases h5:s.next=5∨s.next=6∨s.next=7
 ·rw [if_pos h5]
  have hop:=canswer_t Cb c hc (.slice pad progs.length pcap) p hp q progs hpv hf (hright h2) wv bv ⟨s.touch,work,b0⟩ wval;have eb:=Cm.answer_b c p progs ⟨s.touch,work,b0⟩ wval;unfold cpost at hop;generalize hR:Cm.answer c p progs ⟨s.touch,work,b0⟩ wval=R at hop eb⊢;dsimp only at hop eb;subst eb
  rcases h5 with h5|h5|h5
  all_goals refine TB (vs:=[_,_]) Tryz.func70 fun w0 F=>?_
  all_goals repeat' (first|refine Ga ?_|(refine Gb ?_;intro b)|refine Gl hdn ?_|(refine Gt hop ?_;rintro _ _ ⟨wv',rfl,rfl⟩)|(refine Ge ?_ ?_<;>intro h<;>try omega)|fail)
  all_goals refine St.f1 Tryz.func70 ⟨_,⟨rfl,rfl⟩, ?_⟩
  all_goals exact Ent.trans (Ent.trans Ent.go (shut R wv' bv)) Ent.go
 rw [if_neg h5]
 by_cases h11:s.next=11
 ·rw [if_pos h11]
  obtain ⟨hs,bt,hb,hbi⟩:=hi.sw h11;dsimp only at hb hs;subst hb;unfold BkP;refine Tri.ent (Tri.ex_out (L:=[bl Cb 263 (clV c (.slice pad progs.length pcap) p wv bv s),WkP c (.slice pad progs.length pcap) q progs (p.code progs) wv work,q]) ?_) (Ent.of_take (.there (.there .here)));rintro ⟨B,rfl⟩;dsimp only;have hop:=cswapped_t Cb c hc (.slice pad progs.length pcap) p q progs hpv B wv ⟨s.touch,work,some bt⟩ bt rfl hbi (by show s.now.seq<140737488355328;omega) ok;have eb:=Cm.swapped_b c p ⟨s.touch,work,some bt⟩ ok;generalize hR:Cm.swapped c p ⟨s.touch,work,some bt⟩ ok=R at hop eb⊢;dsimp only at hop eb;have shut:=shut R;rw [eb] at shut
  refine TB (vs:=[_,_]) Tryz.func70 fun w0 F=>?_
  repeat' (first|refine Ga ?_|(refine Gb ?_;intro b)|refine Gl hdn ?_|(refine Gt hop ?_;rintro _ _ ⟨wv',rfl,rfl⟩)|(refine Ge ?_ ?_<;>intro h<;>try omega)|fail)
  refine St.f1 Tryz.func70 ⟨_,⟨rfl,rfl⟩, ?_⟩;exact Ent.trans (Ent.trans (Ent.trans (Ent.of_take (p:=Bd B c (.slice pad progs.length pcap) q progs bt) Take.go) (Ent.bbd bt B)) (Ent.trans Ent.go (shut wv' (.pointer (some ⟨B,0,none⟩))))) Ent.go
 rw [if_neg h11];unfold Cm.worked;dsimp only
 have hwk:∀ w:Wk,WkI c progs ⟨s.touch,w,b0⟩→Tri Tryz.prog 162 #[.pointer (some ⟨Cb,0,none⟩)] [bl Cb 263 (clV c (.slice pad progs.length pcap) p wv bv s.touch),WkP c (.slice pad progs.length pcap) q progs (p.code progs) wv w,BkP c (.slice pad progs.length pcap) q progs bv b0,q] fun r L=>∃ wv' bv',r=.tuple ⟨[]⟩∧L=cpost2 Cb c (.slice pad progs.length pcap) p q progs wv' bv' (Cm.after c p progs ⟨s.touch,w,b0⟩):=fun w hk=>cworked_t Cb c hc _ p hp q progs hpv hf wv bv ⟨s.touch,w,b0⟩ hk
 unfold cpost2 at hwk
 rcases (by omega:(s.next=4∨s.next=12)∨s.next=8∨s.next=9∨s.next=10) with e|e|e|e
 ·obtain ⟨h0',hw,hh,_⟩:=hi.hp e
  dsimp only at hw;subst hw;have hwk:=hwk (.hp (h0'.tell c ⟨⟨wval,wseq⟩,ok⟩)) ⟨fun _ h=>(by cases h),fun _ h=>(by cases h),fun _ h=>(by cases h),fun h=>(by cases h)⟩;unfold Wk.tell;dsimp only;generalize hR:Cm.after c p progs ⟨s.touch, .hp (h0'.tell c ⟨⟨wval,wseq⟩,ok⟩),b0⟩=R at hwk⊢;unfold WkP at hwk⊢;refine Tri.ent (Tri.ex_out (L:=[bl Cb 263 (clV c (.slice pad progs.length pcap) p wv bv s),BkP c (.slice pad progs.length pcap) q progs bv b0,q]) ?_) (Ent.of_take (.there .here));rintro ⟨H,rfl⟩;dsimp only;have hte:=htell_t H c hc h0' hh.1 ⟨⟨wval,wseq⟩,ok⟩;unfold Out.v at hte;dsimp only at hte;have hwk:=hwk.ent (L:=[HpE H c (h0'.tell c ⟨⟨wval,wseq⟩,ok⟩),bl Cb 263 (clV c (.slice pad progs.length pcap) p (ifv 345 H) bv s.touch),BkP c (.slice pad progs.length pcap) q progs bv b0,q]) (Ent.trans (Ent.whp (pv:=.slice pad progs.length pcap) (q:=q) (progs:=progs) (code:=p.code progs) _ H) Ent.go)
  refine TB (vs:=[_,_]) Tryz.func70 fun w0 F=>?_
  repeat' (first|refine Ga ?_|(refine Gb ?_;intro b)|(refine Dr 4 [(0,0),(1,0),(2,0),(3,1),(4,1),(5,3)] [5] ?_)|refine Gl hdn ?_|(refine Ke rfl (OpC.ifc (by rfl) Evs.go (by intro w;kernel_rfl)) hte Oh ?_;rintro _ _ ⟨rfl,rfl⟩)|(refine Gt hwk ?_;rintro _ _ ⟨wv',bv',rfl,rfl⟩)|(refine Ge ?_ ?_<;>intro h<;>try omega)|fail)
  all_goals refine St.f1 Tryz.func70 ⟨_,⟨rfl,rfl⟩, ?_⟩
  all_goals exact Ent.trans (shut R wv' bv') Ent.go
 ·obtain ⟨x0,hw,hx0,n,hS,hX⟩:=hi.ex e
  dsimp only at hw;subst hw;obtain ⟨hcode,hxi,hX'⟩:=hX.tell hS 0 hx0 ⟨⟨wval,wseq⟩,ok⟩;have hnum:=hX'.num hS;have hwk:=hwk (.ex (x0.tell c 0 (p.code progs) ⟨⟨wval,wseq⟩,ok⟩)) ⟨fun e' h=>(by injection h with h;subst h;have:=hnum.2.2.2.2.2.1;omega),fun _ h=>(by cases h),fun _ h=>(by cases h),fun h=>(by cases h)⟩;unfold Wk.tell;dsimp only;generalize hR:Cm.after c p progs ⟨s.touch, .ex (x0.tell c 0 (p.code progs) ⟨⟨wval,wseq⟩,ok⟩),b0⟩=R at hwk⊢;unfold WkP at hwk⊢;refine Tri.ent (Tri.ex_out (L:=[bl Cb 263 (clV c (.slice pad progs.length pcap) p wv bv s),BkP c (.slice pad progs.length pcap) q progs bv b0,q]) ?_) (Ent.of_take (.there .here));rintro ⟨⟨X,V,Pb,W,cv,hins⟩,rfl⟩;unfold exL;dsimp only;have hte:=xtell_s X V Pb W 0 c hc cv q (p.code progs) hcode hins (Xi c (p.code progs) [] 0 0 (n+1)) (xi_run hS 0 hcode (n+1)) x0 ⟨⟨wval,wseq⟩,ok⟩ (fun _=>hxi);unfold Out.v xsL at hte;dsimp only at hte;generalize x0.tell c 0 (p.code progs) ⟨⟨wval,wseq⟩,ok⟩=x1 at hte hwk;have hwk:=hwk.ent (L:=[Xe X c cv V Pb W x1.x x1.news,bl V 215 (viewV c x1.v),Pl Pb c x1.p,Ws W 0 x1.puts,q,bl Cb 263 (clV c (.slice pad progs.length pcap) p (ifv 71 X) bv s.touch),BkP c (.slice pad progs.length pcap) q progs bv b0]) (Ent.trans (Ent.wex (pv:=.slice pad progs.length pcap) (progs:=progs) x1 X V Pb W cv hins) Ent.go)
  refine TB (vs:=[_,_]) Tryz.func70 fun w0 F=>?_
  repeat' (first|refine Ga ?_|(refine Gb ?_;intro b)|(refine Dr 4 [(0,0),(1,0),(2,0),(3,1),(4,1),(5,3)] [5] ?_)|refine Gl hdn ?_|(refine Ke rfl (OpC.ifc (by rfl) Evs.go (by intro w;kernel_rfl)) hte Oh ?_;rintro _ _ ⟨rfl,rfl⟩)|(refine Gt hwk ?_;rintro _ _ ⟨wv',bv',rfl,rfl⟩)|(refine Ge ?_ ?_<;>intro h<;>try omega)|fail)
  all_goals refine St.f1 Tryz.func70 ⟨_,⟨rfl,rfl⟩, ?_⟩
  all_goals exact Ent.trans (shut R wv' bv') Ent.go
 ·obtain ⟨hs,bt,hw,hb,_⟩:=hi.bd e
  dsimp only at hw hs;subst hw;have hwk:=hwk (.bd (bt.tell c c.cap.toNat progs ⟨⟨wval,wseq⟩,ok⟩)) ⟨fun _ h=>(by cases h),fun e' h=>(by injection h with h;subst h;exact ⟨hb.tell hc hf _,by show s.now.seq<140737488355328;omega⟩),fun _ h=>(by cases h),fun h=>(by cases h)⟩;unfold Wk.tell;dsimp only;generalize hR:Cm.after c p progs ⟨s.touch, .bd (bt.tell c c.cap.toNat progs ⟨⟨wval,wseq⟩,ok⟩),b0⟩=R at hwk⊢;unfold WkP at hwk⊢;refine Tri.ent (Tri.ex_out (L:=[bl Cb 263 (clV c (.slice pad progs.length pcap) p wv bv s),BkP c (.slice pad progs.length pcap) q progs bv b0,q]) ?_) (Ent.of_take (.there .here));rintro ⟨B,rfl⟩;dsimp only;have hte:=btell_t B c hc (.slice pad progs.length pcap) q progs bt hf hpv hb ⟨⟨wval,wseq⟩,ok⟩;unfold Out.v at hte;dsimp only at hte;generalize bt.tell c c.cap.toNat progs ⟨⟨wval,wseq⟩,ok⟩=b1 at hte hwk;have hwk:=hwk.ent (L:=[Bd B c (.slice pad progs.length pcap) q progs b1,q,bl Cb 263 (clV c (.slice pad progs.length pcap) p (ifv 93 B) bv s.touch),BkP c (.slice pad progs.length pcap) q progs bv b0]) (Ent.trans (Ent.wbd (code:=p.code progs) b1 B) Ent.go)
  refine TB (vs:=[_,_]) Tryz.func70 fun w0 F=>?_
  repeat' (first|refine Ga ?_|(refine Gb ?_;intro b)|(refine Dr 4 [(0,0),(1,0),(2,0),(3,1),(4,1),(5,3)] [5] ?_)|refine Gl hdn ?_|(refine Ke rfl (OpC.ifc (by rfl) Evs.go (by intro w;kernel_rfl)) hte Oh ?_;rintro _ _ ⟨rfl,rfl⟩)|(refine Gt hwk ?_;rintro _ _ ⟨wv',bv',rfl,rfl⟩)|(refine Ge ?_ ?_<;>intro h<;>try omega)|fail)
  all_goals refine St.f1 Tryz.func70 ⟨_,⟨rfl,rfl⟩, ?_⟩
  all_goals exact Ent.trans (shut R wv' bv') Ent.go
 ·obtain ⟨hs,⟨s0,hw,hk,_⟩,_⟩:=hi.sc e
  dsimp only at hw;subst hw;have hwk:=hwk (.sc s0.tell) ⟨fun _ h=>(by cases h),fun _ h=>(by cases h),fun e' h=>(by injection h with h;subst h;exact hk.tell),fun h=>(by cases h)⟩;unfold Wk.tell;dsimp only;generalize hR:Cm.after c p progs ⟨s.touch, .sc s0.tell,b0⟩=R at hwk⊢;unfold WkP at hwk⊢;refine Tri.ent (Tri.ex_out (L:=[bl Cb 263 (clV c (.slice pad progs.length pcap) p wv bv s),BkP c (.slice pad progs.length pcap) q progs bv b0,q]) ?_) (Ent.of_take (.there .here));rintro ⟨S,rfl⟩;dsimp only;have hte:=stell_t S c s0 hk.1 (by have:=hk.1;have:=hk.2;omega) ⟨⟨wval,wseq⟩,ok⟩;unfold Out.v at hte;dsimp only at hte;generalize s0.tell=s1 at hte hwk;have hwk:=hwk.ent (L:=[ScE S c s1,bl Cb 263 (clV c (.slice pad progs.length pcap) p (ifv 351 S) bv s.touch),BkP c (.slice pad progs.length pcap) q progs bv b0,q]) (Ent.trans (Ent.wsc (pv:=.slice pad progs.length pcap) (q:=q) (progs:=progs) (code:=p.code progs) s1 S) Ent.go)
  refine TB (vs:=[_,_]) Tryz.func70 fun w0 F=>?_
  repeat' (first|refine Ga ?_|(refine Gb ?_;intro b)|(refine Dr 4 [(0,0),(1,0),(2,0),(3,1),(4,1),(5,3)] [5] ?_)|refine Gl hdn ?_|(refine Ke rfl (OpC.ifc (by rfl) Evs.go (by intro w;kernel_rfl)) hte Oh ?_;rintro _ _ ⟨rfl,rfl⟩)|(refine Gt hwk ?_;rintro _ _ ⟨wv',bv',rfl,rfl⟩)|(refine Ge ?_ ?_<;>intro h<;>try omega)|fail)
  all_goals refine St.f1 Tryz.func70 ⟨_,⟨rfl,rfl⟩, ?_⟩
  all_goals exact Ent.trans (shut R wv' bv') Ent.go
end
theorem crows_len {c:Cfg}(hc:Small c){p:Cp}{progs:Progs}{m:Cm}(h:Cinv c p progs m):m.rows.length≤1000:=by
 unfold Cm.rows;split
 ·rename_i hd
  obtain ⟨bt,hb,hi⟩:=h.did hd;rw [hb];have:=hi.rows;have:=hi.u;have:=hc.t1;dsimp only;omega
 ·exact Nat.zero_le _
theorem valueof_r (n:Int)(h:5≤n∧n≤7):RTri Tryz.prog 157 #[.int .i64 n] [] (.int .i64 (n - 5)):=by
 apply RTri.of_pure
 refine TB (vs:=[_]) Tryz.func157 fun w0 F=>?_
 repeat' (first|refine Ga ?_|fail)
 refine St.dn Tryz.func157 ⟨?_,rfl⟩ Ent.go;rfl
section
variable (Cb:Nat)(c:Cfg)(hc:Small c)(pv:Value)(p:Cp)(q:HProp)(progs:Progs)(hpv:ProgsR q pv progs)(hwho:0≤p.who∧p.who≤1000)(hlast:c.last≤140737488355328)
include hc hwho hlast in
set_option maxHeartbeats 2000000 in
theorem cask_r (m:Cm)(hi:Cinv c p progs m):RTri Tryz.prog 63 #[.pointer (some ⟨Cb,0,none⟩)] [ClE Cb c pv p q progs m] (.tuple ⟨[.agg ⟨(m.ask c p).1.v⟩, .bool (m.ask c p).2]⟩):=by
 have hnx:=hi.nx;obtain ⟨s,work,b0⟩:=m
 refine RTri.of_exact fun W0 hs=>?_
 obtain ⟨⟨wv,bv⟩,hs⟩:=sat_ex hs;have hH:=RdC.exact hs (ReadsC.here RdC.bl);have how0:=(cowner_r Cb c pv p wv bv s hc).ent (M:=clL Cb c pv p q progs ⟨s,work,b0⟩ (wv,bv)++[]) (by unfold clL;exact Ent.go);have how:=how0.of_read (p:=exact' W0) (fun k hk=>by rw [show k=hpOf W0 from hk];exact hs);have htk:=take_cl c pv p wv bv s;dsimp only at hnx
 have hat:=fun k i j=>at_r c hc k i j
 unfold Cm.ask;dsimp only at hH htk⊢
 by_cases h0:s.next=0
 ·rw [if_pos h0]
  have hg:=hi.given h0;dsimp only at hg;have ha:=hat 2 p.who s.given;unfold MOp.v
  have hn:NthN (28+s.given.toNat * 1) (clV c pv p wv bv s) (.int .u64 ((p.args.getD s.given.toNat 0:Nat):Int)):=by
   have:s.given=0∨s.given=1∨s.given=2∨s.given=3:=by omega
   rcases this with e|e|e|e<;>rw [e]<;>exact NthN.of rfl
  refine TB (vs:=[_]) Tryz.func63 fun w0 F=>?_
  repeat' (first|refine Ga ?_|(refine Gb ?_;intro b)|(refine Dr 3 [(0,0),(1,0),(2,0),(3,1),(4,0),(5,0),(6,0),(7,1),(8,0),(9,0),(10,0),(11,1),(12,1),(13,0),(14,0),(15,0),(16,0),(17,1),(18,0),(19,0),(20,0),(21,0),(22,1),(23,0),(24,0),(25,3),(26,0)] [25] ?_)|refine Gl ha ?_|(refine Ge ?_ ?_<;>intro h<;>try omega)|fail)
  refine St.d1 Tryz.func63 ⟨_,⟨rfl,rfl⟩,Ent.go⟩
 rw [if_neg h0]
 by_cases h1:s.next=1
 ·rw [if_pos h1]
  have ha:=hat 1 p.who 0;have e1:((IntKind.u64.wrap p.prog).toNat:Int)=IntKind.u64.wrap p.prog:=Int.toNat_of_nonneg (u64_nn _);unfold MOp.v;dsimp only;rw [e1]
  refine TB (vs:=[_]) Tryz.func63 fun w0 F=>?_
  repeat' (first|refine Ga ?_|(refine Gb ?_;intro b)|(refine Dr 5 [(0,0),(1,0),(2,0),(3,1),(4,0),(5,0),(6,0),(7,1),(8,1),(9,0),(10,0),(11,0),(12,0),(13,1),(14,0),(15,0),(16,0),(17,0),(18,1),(19,0),(20,0),(21,3),(22,0)] [21] ?_)|refine Gl ha ?_|(refine Ge ?_ ?_<;>intro h<;>try omega)|fail)
  refine St.d1 Tryz.func63 ⟨_,⟨rfl,rfl⟩,Ent.go⟩
 rw [if_neg h1]
 by_cases h2:s.next=2
 ·rw [if_pos h2]
  have ha:=hat 0 0 0;unfold mop MOp.v
  refine TB (vs:=[_]) Tryz.func63 fun w0 F=>?_
  repeat' (first|refine Ga ?_|(refine Gb ?_;intro b)|refine Gl ha ?_|(refine Ge ?_ ?_<;>intro h<;>try omega)|fail)
  refine St.d1 Tryz.func63 ⟨_,⟨rfl,rfl⟩,Ent.go⟩
 rw [if_neg h2]
 by_cases h3:s.next=3
 ·rw [if_pos h3]
  have ha:=hat 4 (s.owner c) 0;unfold mop MOp.v
  refine TB (vs:=[_]) Tryz.func63 fun w0 F=>?_
  repeat' (first|refine Ga ?_|(refine Gb ?_;intro b)|(refine Dr 9 [(0,0),(1,0),(2,0),(3,1),(4,0),(5,1),(6,1),(7,0),(8,3),(9,0)] [8] ?_)|refine Gl ha ?_|refine Gl how ?_|(refine Ge ?_ ?_<;>intro h<;>try omega)|fail)
  refine St.d1 Tryz.func63 ⟨_,⟨rfl,rfl⟩,Ent.go⟩
 rw [if_neg h3]
 by_cases h5:s.next=5∨s.next=6∨s.next=7
 ·rw [if_pos h5]
  have ha:=hat (7+(s.next - 5)) p.who 0;have hvo:=valueof_r s.next (by omega);unfold mop MOp.v
  rcases h5 with h5|h5|h5
  all_goals refine TB (vs:=[_]) Tryz.func63 fun w0 F=>?_
  all_goals repeat' (first|refine Ga ?_|(refine Gb ?_;intro b)|(refine Dr 13 [(0,0),(1,0),(2,0),(3,1),(4,0),(5,0),(6,0),(7,1),(8,1),(9,0),(10,0),(11,0),(12,0),(13,1),(14,1),(15,0),(16,3),(17,0)] [16] ?_)|refine Gl ha ?_|refine Gl hvo ?_|(refine Ge ?_ ?_<;>intro h<;>try omega)|fail)
  all_goals refine St.d1 Tryz.func63 ⟨_,⟨rfl,rfl⟩,Ent.go⟩
 rw [if_neg h5]
 by_cases hw:s.next=4∨s.next=12∨s.next=8∨s.next=9∨s.next=10
 ·rw [if_pos hw]
  have hsw:=hs.tail;unfold clL at hsw;dsimp only at hsw
  rcases (by omega:(s.next=4∨s.next=12)∨s.next=8∨s.next=9∨s.next=10) with e|e|e|e
  ·obtain ⟨x0,hw0,hh,_⟩:=hi.hp e
   dsimp only at hw0;subst hw0;unfold WkP at hsw;obtain ⟨⟨H,rfl⟩,hsw⟩:=sat_ex hsw;have hk:=((hask_r H c hc x0 hh.1).ent (M:=[HpE H c x0]++([BkP c pv q progs bv b0]++[])) Ent.go).of_read (p:=exact' W0) (fun k hk=>by rw [show k=hpOf W0 from hk];exact hsw);unfold Wk.ask;dsimp only;unfold MOp.v at hk⊢;generalize x0.ask c=y0 at hk⊢;obtain ⟨⟨yk,ya,⟨yo,yp⟩,⟨yn,ym⟩⟩,yb⟩:=y0;dsimp only at hk⊢
   refine TB (vs:=[_]) Tryz.func63 fun w0 F=>?_
   repeat' (first|refine Ga ?_|(refine Gb ?_;intro b)|refine Ka (OpC.ifc (by rfl) Evs.go (by intro w;kernel_rfl)) hk Oh ?_|(refine Ge ?_ ?_<;>intro h<;>try omega)|fail)
   all_goals refine St.d1 Tryz.func63 ⟨_,⟨rfl,rfl⟩,Ent.go⟩
  ·obtain ⟨x0,hw0,hx0,n,hS,hX⟩:=hi.ex e
   dsimp only at hw0;subst hw0;have hnum:=hX.num hS;unfold WkP at hsw;obtain ⟨⟨⟨X,V,Pb,W,cv,hins⟩,rfl⟩,hsw⟩:=sat_ex hsw;have hk:=((xask_s X V Pb W c hc cv x0 (by omega)).ent (M:=exL c q (p.code progs) x0 ⟨X,V,Pb,W,cv,hins⟩++([BkP c pv q progs bv b0]++[])) (by unfold exL;exact Ent.go)).of_read (p:=exact' W0) (fun k hk=>by rw [show k=hpOf W0 from hk];exact hsw);unfold Wk.ask;dsimp only;unfold MOp.v at hk⊢;generalize x0.ask c=y0 at hk⊢;obtain ⟨⟨yk,ya,⟨yo,yp⟩,⟨yn,ym⟩⟩,yb⟩:=y0;dsimp only at hk⊢
   refine TB (vs:=[_]) Tryz.func63 fun w0 F=>?_
   repeat' (first|refine Ga ?_|(refine Gb ?_;intro b)|refine Ka (OpC.ifc (by rfl) Evs.go (by intro w;kernel_rfl)) hk Oh ?_|(refine Ge ?_ ?_<;>intro h<;>try omega)|fail)
   all_goals refine St.d1 Tryz.func63 ⟨_,⟨rfl,rfl⟩,Ent.go⟩
  ·obtain ⟨_,x0,hw0,hb,_⟩:=hi.bd e
   dsimp only at hw0;subst hw0;unfold WkP at hsw;obtain ⟨⟨B,rfl⟩,hsw⟩:=sat_ex hsw;have hk:=((bask_r B c hc pv q progs x0 hb).ent (M:=[Bd B c pv q progs x0]++([BkP c pv q progs bv b0]++[])) Ent.go).of_read (p:=exact' W0) (fun k hk=>by rw [show k=hpOf W0 from hk];exact hsw);unfold Wk.ask;dsimp only;unfold MOp.v at hk⊢;generalize x0.ask c=y0 at hk⊢;obtain ⟨⟨yk,ya,⟨yo,yp⟩,⟨yn,ym⟩⟩,yb⟩:=y0;dsimp only at hk⊢
   refine TB (vs:=[_]) Tryz.func63 fun w0 F=>?_
   repeat' (first|refine Ga ?_|(refine Gb ?_;intro b)|refine Ka (OpC.ifc (by rfl) Evs.go (by intro w;kernel_rfl)) hk Oh ?_|(refine Ge ?_ ?_<;>intro h<;>try omega)|fail)
   all_goals refine St.d1 Tryz.func63 ⟨_,⟨rfl,rfl⟩,Ent.go⟩
  ·obtain ⟨_,⟨x0,hw0,hk0,_⟩,_⟩:=hi.sc e
   dsimp only at hw0;subst hw0;unfold WkP at hsw;obtain ⟨⟨S,rfl⟩,hsw⟩:=sat_ex hsw;have hk:=((sask_r S c hc x0 hk0.1 (by have:=hk0.1;have:=hk0.2;omega)).ent (M:=[ScE S c x0]++([BkP c pv q progs bv b0]++[])) Ent.go).of_read (p:=exact' W0) (fun k hk=>by rw [show k=hpOf W0 from hk];exact hsw);unfold Wk.ask;dsimp only;unfold MOp.v at hk⊢;generalize x0.ask c=y0 at hk⊢;obtain ⟨⟨yk,ya,⟨yo,yp⟩,⟨yn,ym⟩⟩,yb⟩:=y0;dsimp only at hk⊢
   refine TB (vs:=[_]) Tryz.func63 fun w0 F=>?_
   repeat' (first|refine Ga ?_|(refine Gb ?_;intro b)|refine Ka (OpC.ifc (by rfl) Evs.go (by intro w;kernel_rfl)) hk Oh ?_|(refine Ge ?_ ?_<;>intro h<;>try omega)|fail)
   all_goals refine St.d1 Tryz.func63 ⟨_,⟨rfl,rfl⟩,Ent.go⟩
 rw [if_neg hw]
 by_cases h11:s.next=11
 ·rw [if_pos h11]
  have ha:=hat 0 0 0;obtain ⟨hsq,_⟩:=hi.sw h11;dsimp only at hsq
  have e1:((p.who.toNat:Nat):Int)=p.who:=by omega
  unfold MOp.v;dsimp only;rw [e1]
  refine TB (vs:=[_]) Tryz.func63 fun w0 F=>?_
  repeat' (first|refine Ga ?_|(refine Gb ?_;intro b)|(refine Dr 21 [(0,0),(1,0),(2,0),(3,1),(4,1),(5,0),(6,0),(7,0),(8,1),(9,0),(10,0),(11,0),(12,1),(13,0),(14,0),(15,0),(16,0),(17,0),(18,1),(19,0),(20,0),(21,0),(22,3),(23,0)] [22] ?_)|refine Gl ha ?_|(refine Ge ?_ ?_<;>intro h<;>try omega)|fail)
  refine St.d1 Tryz.func63 ⟨_,⟨rfl,rfl⟩,Ent.go⟩
 ·rw [if_neg h11]
  unfold mop MOp.v
  refine TB (vs:=[_]) Tryz.func63 fun w0 F=>?_
  repeat' (first|refine Ga ?_|(refine Gb ?_;intro b)|(refine Ge ?_ ?_<;>intro h<;>try omega)|fail)
  refine St.d1 Tryz.func63 ⟨_,⟨rfl,rfl⟩,Ent.go⟩
end
structure RwH (v:Value)(rows:List BRow) where
 ad:Option Addr
 cap:Nat
 rs:List RowH
 h:rs.map (·.1)=rows
 e:v=.slice ad rows.length cap
def RwE (v:Value)(rows:List BRow):HProp:=ex (ι:=RwH v rows) fun x=>[Row v 128 5 rows.length (x.rs.flatMap rowV),star (x.rs.map rowP)]
theorem Ent.rw {L:List HProp}{ad:Option Addr}{cap:Nat}{rows:List BRow}(rs:List RowH)(h:rs.map (·.1)=rows):Ent (Row (.slice ad rows.length cap) 128 5 rows.length (rs.flatMap rowV)::star (rs.map rowP)::L) (RwE (.slice ad rows.length cap) rows::L):=Ent.ex_in (Ls:=fun x:RwH (.slice ad rows.length cap) rows=>[Row (.slice ad rows.length cap) 128 5 rows.length (x.rs.flatMap rowV),star (x.rs.map rowP)]) ⟨ad,cap,rs,h,rfl⟩
theorem Ent.rw0 {L:List HProp}:Ent L (RwE (.slice none 0 0) []::L):=by
 refine Ent.trans (Ent.row_nil 128 5) (Ent.trans ?_ (Ent.rw (ad:=none) (cap:=0) (rows:=[]) [] rfl));exact Ent.cons (Ent.star_in [])
section
variable (Cb:Nat)(c:Cfg)(hc:Small c)(pv:Value)(p:Cp)(q:HProp)(progs:Progs)(hpv:ProgsR q pv progs)
include hc hpv in
theorem crows_t (m:Cm)(hi:Cinv c p progs m):Tri Tryz.prog 67 #[.pointer (some ⟨Cb,0,none⟩)] [ClE Cb c pv p q progs m]
  fun r L=>∃ ad cap,r=.slice ad m.rows.length cap∧L=[ClE Cb c pv p q progs m,RwE (.slice ad m.rows.length cap) m.rows]:=by
 obtain ⟨s,work,b0⟩:=m;refine Tri.ex_out ?_;rintro ⟨wv,bv⟩;have hdid:=hi.did;obtain ⟨pad,pcap,rfl,_⟩:=hpv;unfold clL;dsimp only at hdid⊢;unfold Cm.rows;dsimp only
 cases hd:s.did with
 | false =>
  rw [if_neg (by decide)]
  refine TB (vs:=[_]) Tryz.func67 fun w0 F=>?_
  repeat' (first|refine Ga ?_|(refine Ge ?_ ?_<;>intro h<;>try omega)|fail)
  all_goals first|(exact absurd h (by rw [hd];decide))|skip
  refine St.d1 Tryz.func67 ⟨_,⟨none,0,rfl,rfl⟩, ?_⟩;refine Ent.trans ?_ (Ent.cons Ent.rw0);exact Ent.cl Cb c _ p q progs ⟨s,work,b0⟩ wv bv
 | true =>
  rw [if_pos rfl];obtain ⟨bt,hb,hbi⟩:=hdid hd;subst hb;unfold BkP;refine Tri.ent (Tri.ex_out (L:=[bl Cb 263 (clV c (.slice pad progs.length pcap) p wv bv s),WkP c (.slice pad progs.length pcap) q progs (p.code progs) wv work]) ?_) (Ent.of_take (.there (.there .here)));rintro ⟨B,rfl⟩;dsimp only;have hrw:=brows_t B c hc (.slice pad progs.length pcap) q progs bt hbi
  refine TB (vs:=[_]) Tryz.func67 fun w0 F=>?_
  repeat' (first|refine Ga ?_|(refine Gt hrw ?_;rintro _ _ ⟨rad,rcap,rs,hrs,rfl,rfl⟩)|(refine Ge ?_ ?_<;>intro h<;>try omega)|fail)
  all_goals first|(exact absurd h (by rw [hd];decide))|skip
  refine St.d1 Tryz.func67 ⟨_,⟨rad,rcap,rfl,rfl⟩, ?_⟩;refine Ent.trans (M:=Row (.slice rad bt.rows.length rcap) 128 5 bt.rows.length (rs.flatMap rowV)::star (rs.map rowP)::Bd B c (.slice pad progs.length pcap) q progs bt::bl Cb 263 (clV c (.slice pad progs.length pcap) p wv (.pointer (some ⟨B,0,none⟩)) s)::WkP c (.slice pad progs.length pcap) q progs (p.code progs) wv work::F) Ent.go ?_;refine Ent.trans (Ent.rw rs hrs) ?_;refine Ent.trans (M:=Bd B c (.slice pad progs.length pcap) q progs bt::RwE (.slice rad bt.rows.length rcap) bt.rows::bl Cb 263 (clV c (.slice pad progs.length pcap) p wv (.pointer (some ⟨B,0,none⟩)) s)::WkP c (.slice pad progs.length pcap) q progs (p.code progs) wv work::F) Ent.go ?_;refine Ent.trans (Ent.bbd bt B) ?_;refine Ent.trans (M:=bl Cb 263 (clV c (.slice pad progs.length pcap) p wv (.pointer (some ⟨B,0,none⟩)) s)::WkP c (.slice pad progs.length pcap) q progs (p.code progs) wv work::BkP c (.slice pad progs.length pcap) q progs (.pointer (some ⟨B,0,none⟩)) (some bt)::RwE (.slice rad bt.rows.length rcap) bt.rows::F) Ent.go ?_;exact Ent.cl Cb c _ p q progs ⟨s,work,some bt⟩ wv (.pointer (some ⟨B,0,none⟩))
end
set_option maxHeartbeats 1000000 in
theorem cnew_t (c:Cfg)(_hc:Small c)(pv:Value)(p:Cp)(q:HProp)(progs:Progs)(hpv:ProgsR q pv progs):Tri Tryz.prog 61 #[.agg ⟨c.m⟩, .int .i64 p.who, .int .u64 (p.tag:Int),pv, .agg ⟨.int .i64 p.prog::g4 p.args⟩] [q]
  fun r L=>∃ Cb,r=.pointer (some ⟨Cb,0,none⟩)∧L=[ClE Cb c pv p q progs (Cm.new p progs),q]:=by
 obtain ⟨cv,hins,hcode⟩:=ccode_e q pv progs hpv p;have hri:=right_rr q cv (p.code progs) hins
 have hc1:=fun Cb=>hcode Cb c .nilIface (.pointer none) ⟨0,0,0,false,⟨0,0⟩,false,false,0,0,0,0,false⟩
 have hro:=fun hr:rightB (p.code progs)=true=>reads_r q cv (p.code progs) hins (by have:=(right_at hr).2.1;omega)
 have shut:∀ (Cb:Nat) (m:Cm),m.work=.none→m.b=none→∀ {M:List HProp},Ent (bl Cb 263 (clV c pv p .nilIface (.pointer none) m.s)::M) (ClE Cb c pv p q progs m::M):=fun Cb m h1 h2 M=>by
  have:=Ent.cl Cb c pv p q progs m .nilIface (.pointer none) (L:=M);rw [h1,h2] at this;exact Ent.trans (Ent.cons (Ent.trans (Ent.star_in []) (Ent.cons (Ent.star_in [])))) this
 unfold clV at hc1;dsimp only at hc1;have hm:Cfg.m c=Cfg.m c:=rfl;obtain ⟨cad,ccap,rfl,_⟩:=hins;obtain ⟨pad,pcap,rfl,_⟩:=hpv
 have hnew:∀ r o:Bool,rightB (p.code progs)=r→onlyB (p.code progs)=o→Cm.new p progs=⟨⟨if r=true∧o=false then 0 else 2,0,0,false,⟨0,0⟩,false,false,0,0,0,0,false⟩, .none,none⟩:=fun r o h1 h2=>by subst h1;subst h2;rfl
 unfold g4
 cases hr:rightB (p.code progs) with
 | false =>
  rw [hr] at hri;clear hro;rw [hnew false _ hr rfl,if_neg (by simp)]
  refine TB (vs:=[_,_,_,_,_]) Tryz.func61 fun w0 F=>?_
  repeat' (first|refine Ga ?_|(refine Gb ?_;intro b)|refine Gl (hc1 _) ?_|refine Gl hri ?_|fail)
  refine St.d1 Tryz.func61 ⟨_,⟨_,rfl,rfl⟩, ?_⟩;exact Ent.trans (Ent.trans Ent.go (shut _ ⟨⟨2,0,0,false,⟨0,0⟩,false,false,0,0,0,0,false⟩, .none,none⟩ rfl rfl)) Ent.go
 | true =>
  rw [hr] at hri;have hro:=hro hr
  cases ho:onlyB (p.code progs) with
  | true =>
   rw [ho] at hro;rw [hnew true true hr ho,if_neg (by simp)]
   refine TB (vs:=[_,_,_,_,_]) Tryz.func61 fun w0 F=>?_
   repeat' (first|refine Ga ?_|(refine Gb ?_;intro b)|refine Gl (hc1 _) ?_|refine Gl hri ?_|refine Gl hro ?_|fail)
   refine St.d1 Tryz.func61 ⟨_,⟨_,rfl,rfl⟩, ?_⟩;exact Ent.trans (Ent.trans Ent.go (shut _ ⟨⟨2,0,0,false,⟨0,0⟩,false,false,0,0,0,0,false⟩, .none,none⟩ rfl rfl)) Ent.go
  | false =>
   rw [ho] at hro;rw [hnew true false hr ho,if_pos ⟨rfl,rfl⟩]
   refine TB (vs:=[_,_,_,_,_]) Tryz.func61 fun w0 F=>?_
   repeat' (first|refine Ga ?_|(refine Gb ?_;intro b)|refine Gl (hc1 _) ?_|refine Gl hri ?_|refine Gl hro ?_|fail)
   refine St.d1 Tryz.func61 ⟨_,⟨_,rfl,rfl⟩, ?_⟩;exact Ent.trans (Ent.trans Ent.go (shut _ ⟨⟨0,0,0,false,⟨0,0⟩,false,false,0,0,0,0,false⟩, .none,none⟩ rfl rfl)) Ent.go
def boundN (c:Cfg):Int:=if c.right=true then 5+5 * (10 * c.cap+c.threads * (3 * c.fuel+7)+c.limit+14) else 0
structure Bd15 (c:Cfg):Prop where
 small:Small c
 f:1≤c.fuel∧c.fuel≤1000
 p:0≤c.threads * (3 * c.fuel+7)∧c.threads * (3 * c.fuel+7)≤24056
theorem bd15 {c:Cfg}(h:c.right=true):Bd15 c:=by
 have hs:=Cfg.small h;have h:=of_decide_eq_true h;have h0:=hs.t0;have h1:=hs.t1
 have f0:1≤c.fuel:=by omega
 have f1:c.fuel≤1000:=by omega
 refine ⟨hs,⟨f0,f1⟩,Int.mul_nonneg (by omega) (by omega), ?_⟩;have:=Int.mul_le_mul (a:=c.threads) (b:=3 * c.fuel+7) (c:=8) (d:=3007) h1 (by omega) (by omega) (by omega);omega
theorem bound_r (c:Cfg):RTri Tryz.prog 84 #[.agg ⟨c.v⟩] [] (.int .i64 (boundN c)):=by
 apply RTri.of_pure;have hof:=of_r c;unfold Cfg.ofV at hof;unfold boundN
 cases hr:c.right with
 | true =>
  rw [hr] at hof;obtain ⟨hc,hf,hp⟩:=bd15 hr;have hcap:=hc.cap;have hlim:=hc.limit;have hcp:=cap_r c hc c.fr rfl;have hlm:=limit_r c hc c.fr;rw [if_pos rfl]
  refine TB (vs:=[_]) Tryz.func84 fun w0 F=>?_
  repeat' (first|refine Ga ?_|(refine Gb ?_;intro b)|(refine Dr 4 [(0,1),(1,1),(2,0),(3,0),(4,1),(5,0),(6,1),(7,0),(8,0),(9,0),(10,0),(11,1),(12,1),(13,0),(14,0),(15,0),(16,0),(17,0)] [] ?_)|refine Gl hof ?_|refine Gl hcp ?_|refine Gl hlm ?_|fail)
  all_goals refine St.dn Tryz.func84 ⟨?_,rfl⟩ Ent.go
  all_goals rfl
 | false =>
  rw [hr] at hof;rw [if_neg (by decide)]
  refine TB (vs:=[_]) Tryz.func84 fun w0 F=>?_
  repeat' (first|refine Ga ?_|(refine Gb ?_;intro b)|refine Gl hof ?_|fail)
  all_goals refine St.dn Tryz.func84 ⟨?_,rfl⟩ Ent.go
  all_goals rfl
end Go.Proofs.YthmbgodcpgkkeaaGreat
