/-
  Package call: its small functions. Package call: what follows on what was seen. Package call: what follows on an answer, a transaction that is made, a swap. Package call: worked, Tell, Ask, New, Rows.
-/
import Derived.Test.YthmbgodcpgkkeaaGreatVa
import Derived.Test.YthmbgodcpgkkeaaGreatHi
set_option maxRecDepth 100000
namespace Go.Proofs.YthmbgodcpgkkeaaGreat
def clV (c:Cfg)(pv:Value)(p:Cp)(wv bv:Value)(s:Cs):List Value :=
 c.m++(.int .i64 p.who::.int .u64 (p.tag:Int)::pv::.int .i64 p.prog::(g4 p.args++[.int .i64 s.next, .int .i64 s.given, .int .i64 s.tried, .bool s.asked, .int .u64 (s.now.val:Int), .int .u64 (s.now.seq:Int),wv,bv, .bool s.fresh, .bool s.did, .int .i64 s.oc, .int .u64 (s.ov:Int), .int .i64 s.rc, .int .u64 (s.rv:Int), .bool s.alone]))
theorem take_cl (c:Cfg)(pv:Value)(p:Cp)(wv bv:Value)(s:Cs):TakeN 24 (clV c pv p wv bv s) c.m:=TakeN.app c.m _
theorem ccode_e (q:HProp)(pv:Value)(progs:Progs)(hpv:ProgsR q pv progs)(p:Cp):∃ cv,InsR q cv (p.code progs)∧∀ (Cb:Nat) (c:Cfg) (wv bv:Value) (s:Cs),RTri Tryz.prog 149 #[.pointer (some ⟨Cb,0,none⟩)] [bl Cb 263 (clV c pv p wv bv s),q] cv:=by
 obtain ⟨pad,pcap,rfl,hpl,hpr⟩:=hpv;unfold Cp.code
 by_cases h:p.prog<0∨(progs.length:Int)≤p.prog
 ·rw [if_pos h]
  refine ⟨_,InsR.nil q,fun Cb c wv bv s=>?_⟩
  refine RTri.of_exact fun W0 hs=>?_
  have hH:=RdC.exact hs (ReadsC.here RdC.bl)
  refine TB (vs:=[_]) Tryz.func149 fun w0 F=>?_
  repeat' (first|refine Ga ?_|(refine Dr 1 [(0,0),(1,0),(2,0),(3,0),(4,1),(5,0),(6,0),(7,0),(8,0),(9,0),(10,0),(11,1),(12,0),(13,0),(14,0),(15,1),(16,0),(17,0),(18,0)] [] ?_)|(refine Ge ?_ ?_<;>intro h<;>try omega)|fail)
  all_goals refine St.d1 Tryz.func149 ⟨_,⟨rfl,rfl⟩,Ent.go⟩
 ·rw [if_neg h]
  obtain ⟨pb,po,pl,cv,rfl,hrd,hnth,hins⟩:=hpr p.prog.toNat (by omega);rw [show ((p.prog.toNat:Nat):Int)=p.prog by omega] at hnth
  have e:progs.getD p.prog.toNat []=progs[p.prog.toNat]'(by omega):=by rw [List.getD_eq_getElem?_getD,List.getElem?_eq_getElem];rfl
  rw [e];refine ⟨cv,hins,fun Cb c wv bv s=>?_⟩;obtain ⟨cad,ccap,rfl,_⟩:=hins
  refine RTri.of_exact fun W0 hs=>?_
  have hH:=RdC.exact hs (ReadsC.here RdC.bl);have hQ:=RdC.exact hs (ReadsC.there (ReadsC.here hrd))
  refine TB (vs:=[_]) Tryz.func149 fun w0 F=>?_
  repeat' (first|refine Ga ?_|(refine Dr 1 [(0,0),(1,0),(2,0),(3,0),(4,1),(5,0),(6,0),(7,0),(8,0),(9,0),(10,0),(11,1),(12,0),(13,0),(14,0),(15,1),(16,0),(17,0),(18,0)] [] ?_)|(refine Dr 3 [(0,0),(1,0),(2,0),(3,1),(4,0),(5,0),(6,0),(7,0),(8,1),(9,0),(10,1),(11,0)] [] ?_)|(refine Ge ?_ ?_<;>intro h<;>try omega)|fail)
  refine St.d1 Tryz.func149 ⟨_,⟨rfl,rfl⟩,Ent.go⟩
section
variable (Cb:Nat)(c:Cfg)(pv:Value)(p:Cp)(wv bv:Value)(s:Cs)
theorem cdone_r:RTri Tryz.prog 64 #[.pointer (some ⟨Cb,0,none⟩)] [bl Cb 263 (clV c pv p wv bv s)] (.bool (decide (s.next=13))):=by
 refine RTri.of_exact fun W0 hs=>?_
 have hH:=RdC.exact hs (ReadsC.here RdC.bl)
 refine TB (vs:=[_]) Tryz.func64 fun w0 F=>?_
 repeat' (first|refine Ga ?_|fail)
 refine St.dn Tryz.func64 ⟨?_,rfl⟩ Ent.go;rw [beq_dec];rfl
theorem cresult_r:RTri Tryz.prog 68 #[.pointer (some ⟨Cb,0,none⟩)] [bl Cb 263 (clV c pv p wv bv s)] (.agg ⟨[.int .i64 s.rc, .int .u64 (s.rv:Int)]⟩):=by
 refine RTri.of_exact fun W0 hs=>?_
 have hH:=RdC.exact hs (ReadsC.here RdC.bl)
 refine TB (vs:=[_]) Tryz.func68 fun w0 F=>?_
 repeat' (first|refine Ga ?_|(refine Gb ?_;intro b)|fail)
 refine St.dn Tryz.func68 ⟨?_,rfl⟩ Ent.go;rfl
theorem clooked_r:RTri Tryz.prog 65 #[.pointer (some ⟨Cb,0,none⟩)] [bl Cb 263 (clV c pv p wv bv s)] (.bool s.fresh):=by
 refine RTri.of_exact fun W0 hs=>?_
 have hH:=RdC.exact hs (ReadsC.here RdC.bl)
 refine TB (vs:=[_]) Tryz.func65 fun w0 F=>?_
 repeat' (first|refine Ga ?_|fail)
 refine St.dn Tryz.func65 ⟨?_,rfl⟩ Ent.go;rfl
theorem calone_r:RTri Tryz.prog 69 #[.pointer (some ⟨Cb,0,none⟩)] [bl Cb 263 (clV c pv p wv bv s)] (.bool s.alone):=by
 refine RTri.of_exact fun W0 hs=>?_
 have hH:=RdC.exact hs (ReadsC.here RdC.bl)
 refine TB (vs:=[_]) Tryz.func69 fun w0 F=>?_
 repeat' (first|refine Ga ?_|fail)
 refine St.dn Tryz.func69 ⟨?_,rfl⟩ Ent.go;rfl
theorem cowner_r (hc:Small c):RTri Tryz.prog 156 #[.pointer (some ⟨Cb,0,none⟩)] [bl Cb 263 (clV c pv p wv bv s)] (.int .i64 (s.owner c)):=by
 have ht0:=hc.t0;have ht1:=hc.t1;have hm0:=Int.emod_nonneg (s.now.val:Int) (show c.threads≠0 by omega);have hm1:=Int.emod_lt_of_pos (s.now.val:Int) (show 0<c.threads by omega);have hcf:=cfg_r c
 refine RTri.of_exact fun W0 hs=>?_
 have hH:=RdC.exact hs (ReadsC.here RdC.bl);have htk:=take_cl c pv p wv bv s
 refine TB (vs:=[_]) Tryz.func156 fun w0 F=>?_
 repeat' (first|refine Ga ?_|(refine Dr 1 [(0,0),(1,0),(2,0),(3,0),(4,1),(5,0),(6,0),(7,0),(8,1),(9,1),(10,0),(11,0),(12,0),(13,0),(14,0)] [] ?_)|refine Gl hcf ?_|fail)
 refine St.dn Tryz.func156 ⟨?_,rfl⟩ Ent.go;rfl
theorem cend_t (rc:Int)(rv:Nat)(alone:Bool):Tri Tryz.prog 222 #[.pointer (some ⟨Cb,0,none⟩), .agg ⟨[.int .i64 rc, .int .u64 (rv:Int)]⟩, .bool alone] [bl Cb 263 (clV c pv p wv bv s)]
  fun r L=>r=.tuple ⟨[]⟩∧L=[bl Cb 263 (clV c pv p wv bv (s.end rc rv alone))]:=by
 refine TB (vs:=[_,_,_]) Tryz.func222 fun w0 F=>?_
 repeat' (first|refine Ga ?_|(refine Gb ?_;intro b)|(refine Dt 1 [(0,0),(1,0),(2,0),(4,0),(5,0),(6,0)] (.pick [(3,2),(7,3),(8,0),(9,0),(10,3),(11,0),(12,0),(13,3)] .done (.pick [(7,3),(3,2),(8,0),(9,0),(10,3),(11,0),(12,0),(13,3)] .done .nope)) [7,10,13] ?_)|apply StD.pick|exact StD.nope|fail)
 all_goals refine St.f1 Tryz.func222 ⟨_,⟨rfl,rfl⟩,Ent.go⟩
theorem clooks_t (q:HProp)(progs:Progs)(hpv:ProgsR q pv progs):Tri Tryz.prog 158 #[.pointer (some ⟨Cb,0,none⟩)] [bl Cb 263 (clV c pv p wv bv s),q]
  fun r L=>r=.tuple ⟨[]⟩∧L=[bl Cb 263 (clV c pv p wv bv (s.looks (rightB (p.code progs)))),q]:=by
 obtain ⟨cv,hins,hcode⟩:=ccode_e q pv progs hpv p;have hri:=right_rr q cv (p.code progs) hins;have hc1:=hcode Cb c wv bv { s with next:=3 };have hen:=cend_t Cb c pv p wv bv { s with next:=3 } 30 0 true;obtain ⟨cad,ccap,rfl,_⟩:=hins;obtain ⟨pad,pcap,rfl,_⟩:=hpv;unfold Cs.looks;generalize rightB (p.code progs)=r at hri⊢
 cases r with
 | true =>
  refine TB (vs:=[_]) Tryz.func158 fun w0 F=>?_
  repeat' (first|refine Ga ?_|refine Gl hc1 ?_|refine Gl hri ?_|fail)
  refine St.f1 Tryz.func158 ⟨_,⟨rfl,rfl⟩,Ent.go⟩
 | false =>
  refine TB (vs:=[_]) Tryz.func158 fun w0 F=>?_
  repeat' (first|refine Ga ?_|refine Gl hc1 ?_|refine Gl hri ?_|(refine Gt hen ?_;rintro _ _ ⟨rfl,rfl⟩)|fail)
  refine St.f1 Tryz.func158 ⟨_,⟨rfl,rfl⟩,Ent.go⟩
structure ExH (q:HProp)(code:List Ins) where
 X:Nat
 V:Nat
 Pb:Nat
 W:Nat
 cv:Value
 h:InsR q cv code
def exL (c:Cfg)(q:HProp)(code:List Ins)(e:Xm)(h:ExH q code):List HProp:=[Xe h.X c h.cv h.V h.Pb h.W e.x e.news,bl h.V 215 (viewV c e.v),Pl h.Pb c e.p,Ws h.W 0 e.puts]
theorem cread_t (X:Nat)(cv:Value)(V Pb W:Nat)(e:Xm)(hn:e.news.length≤1000000):Tri Tryz.prog 227 #[.pointer (some ⟨Cb,0,none⟩), .pointer (some ⟨X,0,none⟩)] [bl Cb 263 (clV c pv p wv bv s),Xe X c cv V Pb W e.x e.news]
  fun r L=>r=.tuple ⟨[]⟩∧L=[bl Cb 263 (clV c pv p wv bv (s.read e.x)),Xe X c cv V Pb W e.x e.news]:=by
 have hst:=xstatus_s X V Pb W c cv e;have hre:=xresult_s X V Pb W c cv e hn;have hen:=cend_t Cb c pv p wv bv s e.x.rc e.x.rv true;unfold Cs.read Cs.stale
 by_cases h1:e.x.s=1
 ·rw [if_pos h1]
  refine TB (vs:=[_,_]) Tryz.func227 fun w0 F=>?_
  repeat' (first|refine Ga ?_|(refine Gb ?_;intro b)|refine Gl hst ?_|(refine Gt hre ?_;rintro _ _ ⟨rad,rcap,rfl,rfl⟩)|(refine Gt hen ?_;rintro _ _ ⟨rfl,rfl⟩)|(refine Ge ?_ ?_<;>intro h<;>try omega)|fail)
  refine St.f1 Tryz.func227 ⟨_,⟨rfl,rfl⟩,Ent.go⟩
 rw [if_neg h1];clear hre hen
 by_cases h2:e.x.s=2
 ·rw [if_pos h2]
  by_cases h3:IntKind.i64.wrap (s.tried+1)=2
  ·cases ha:s.asked with
   | false =>
    rw [if_pos ⟨h3,rfl⟩]
    refine TB (vs:=[_,_]) Tryz.func227 fun w0 F=>?_
    repeat' (first|refine Ga ?_|refine Gl hst ?_|(refine Ge ?_ ?_<;>intro h<;>try omega)|fail)
    all_goals first|(exfalso;simp_all;done)|(refine St.f1 Tryz.func227 ⟨_,⟨rfl,rfl⟩, ?_⟩;rw [ha];exact Ent.go)|(refine St.f1 Tryz.func227 ⟨_,⟨rfl,rfl⟩,Ent.go⟩)
   | true =>
    rw [if_neg (fun h=>by cases h.2)]
    refine TB (vs:=[_,_]) Tryz.func227 fun w0 F=>?_
    repeat' (first|refine Ga ?_|refine Gl hst ?_|(refine Ge ?_ ?_<;>intro h<;>try omega)|fail)
    all_goals first|(exfalso;simp_all;done)|(refine St.f1 Tryz.func227 ⟨_,⟨rfl,rfl⟩, ?_⟩;rw [ha];exact Ent.go)|(refine St.f1 Tryz.func227 ⟨_,⟨rfl,rfl⟩,Ent.go⟩)
  ·rw [if_neg (fun h=>h3 h.1)]
   refine TB (vs:=[_,_]) Tryz.func227 fun w0 F=>?_
   repeat' (first|refine Ga ?_|refine Gl hst ?_|(refine Ge ?_ ?_<;>intro h<;>try omega)|fail)
   refine St.f1 Tryz.func227 ⟨_,⟨rfl,rfl⟩,Ent.go⟩
 ·rw [if_neg h2]
  refine TB (vs:=[_,_]) Tryz.func227 fun w0 F=>?_
  repeat' (first|refine Ga ?_|refine Gl hst ?_|(refine Ge ?_ ?_<;>intro h<;>try omega)|fail)
  refine St.f1 Tryz.func227 ⟨_,⟨rfl,rfl⟩,Ent.go⟩
end
abbrev ifv (T:Nat)(b:Nat):Value:=.iface T (.pointer (some ⟨b,0,none⟩))
def WkP (c:Cfg)(pv:Value)(q:HProp)(progs:Progs)(code:List Ins)(wv:Value):Wk→HProp
 | .none=>star []
 | .ex e=>ex (ι:={ h:ExH q code // wv=ifv 71 h.X }) fun h=>exL c q code e h.1
 | .bd b=>ex (ι:={ B:Nat // wv=ifv 93 B }) fun B=>[Bd B.1 c pv q progs b]
 | .hp h=>ex (ι:={ H:Nat // wv=ifv 345 H }) fun H=>[HpE H.1 c h]
 | .sc s=>ex (ι:={ S:Nat // wv=ifv 351 S }) fun S=>[ScE S.1 c s]
def BkP (c:Cfg)(pv:Value)(q:HProp)(progs:Progs)(bv:Value):Option Bm→HProp
 | none=>star []
 | some b=>ex (ι:={ B:Nat // bv=.pointer (some ⟨B,0,none⟩) }) fun B=>[Bd B.1 c pv q progs b]
section
variable {c:Cfg}{pv:Value}{q:HProp}{progs:Progs}{code:List Ins}{L:List HProp}
theorem Ent.wex (e:Xm)(X V Pb W:Nat)(cv:Value)(h:InsR q cv code):Ent (Xe X c cv V Pb W e.x e.news::bl V 215 (viewV c e.v)::Pl Pb c e.p::Ws W 0 e.puts::L) (WkP c pv q progs code (ifv 71 X) (.ex e)::L):=Ent.ex_in (Ls:=fun h:{ h:ExH q code // ifv 71 X=ifv 71 h.X }=>exL c q code e h.1) ⟨⟨X,V,Pb,W,cv,h⟩,rfl⟩
theorem Ent.wbd (b:Bm)(B:Nat):Ent (Bd B c pv q progs b::L) (WkP c pv q progs code (ifv 93 B) (.bd b)::L):=Ent.ex_in (Ls:=fun B':{ B':Nat // ifv 93 B=ifv 93 B' }=>[Bd B'.1 c pv q progs b]) ⟨B,rfl⟩
theorem Ent.whp (h:Hm)(H:Nat):Ent (HpE H c h::L) (WkP c pv q progs code (ifv 345 H) (.hp h)::L):=Ent.ex_in (Ls:=fun B':{ B':Nat // ifv 345 H=ifv 345 B' }=>[HpE B'.1 c h]) ⟨H,rfl⟩
theorem Ent.wsc (s:Sm)(S:Nat):Ent (ScE S c s::L) (WkP c pv q progs code (ifv 351 S) (.sc s)::L):=Ent.ex_in (Ls:=fun B':{ B':Nat // ifv 351 S=ifv 351 B' }=>[ScE B'.1 c s]) ⟨S,rfl⟩
theorem Ent.bbd (b:Bm)(B:Nat):Ent (Bd B c pv q progs b::L) (BkP c pv q progs (.pointer (some ⟨B,0,none⟩)) (some b)::L):=Ent.ex_in (Ls:=fun B':{ B':Nat // Value.pointer (some ⟨B,0,none⟩)=.pointer (some ⟨B',0,none⟩) }=>[Bd B'.1 c pv q progs b]) ⟨B,rfl⟩
end
section
variable (Cb:Nat)(c:Cfg)(hc:Small c)(pv:Value)(p:Cp)(hp:p.args.length=4)(q:HProp)(progs:Progs)(hpv:ProgsR q pv progs)(hf:0≤c.fuel∧c.fuel≤1000)
def cpost (wv:Value)(bv:Value)(m:Cm):List HProp:=[bl Cb 263 (clV c pv p wv bv m.s),WkP c pv q progs (p.code progs) wv m.work,q]
include hc hp hpv hf in
set_option maxHeartbeats 1000000 in
theorem crun_t (wv bv:Value)(m:Cm):Tri Tryz.prog 225 #[.pointer (some ⟨Cb,0,none⟩)] [bl Cb 263 (clV c pv p wv bv m.s),q]
  fun r L=>∃ wv',r=.tuple ⟨[]⟩∧L=cpost Cb c pv p q progs wv' bv (m.run c p progs):=by
 obtain ⟨cv,hins,hcode⟩:=ccode_e q pv progs hpv p;have hc1:=hcode Cb c wv bv m.s
 have hS:Start c [] 0 0:=⟨hc,hf.2,Nat.zero_le _,by decide,by decide⟩
 have hvn:=vnew_t c p.who m.s.now.seq;have hpn:=pnew_t c m.s.now.seq;have hwn:=wnew_t 0 (by decide)
 have hnew:=fun V Pb W=>xnew_s V Pb W 0 c hc cv q (p.code progs) hins (Vw.new p.who m.s.now.seq) (Po.new m.s.now.seq) [] p.args (Nat.zero_le _) (Xi c (p.code progs) [] 0 0 0) (fun hr=>xi_run hS 0 hr 0) (fun hr=>⟨Xinv.init hr hS hf.1 _ _ rfl rfl p.args hp (by show (0:Int)≤0∧(0:Int)≤1000;decide),Xw.init _ _ p.args (Vgo.new _ _)⟩)
 have hXr:=Xr.start (code:=p.code progs) hS hf.1 0 (Vw.new p.who m.s.now.seq) (Po.new m.s.now.seq) rfl rfl p.args hp (by show (0:Int)≤0∧(0:Int)≤1000;decide) (Vgo.new _ _);have hnum:=hXr.num hS
 have hrd:=fun X V Pb W=>cread_t Cb c pv p (ifv 71 X) bv { m.s with next:=8 } X cv V Pb W (exStart c p progs m.s.now.seq) (by have:=hnum.2.2.2.2.2.1;show (Xm.start _ _ _ _ _ _ _).news.length≤_;omega)
 have hins0:=hins;obtain ⟨cad,ccap,rfl,_⟩:=hins;obtain ⟨pad,pcap,rfl,_⟩:=hpv;have htk:=take_cl c (.slice pad progs.length pcap) p wv bv m.s;unfold xsL at hnew;unfold cpost Cm.run;rw [show Xm.start c 0 (p.code progs) (Vw.new p.who m.s.now.seq) (Po.new m.s.now.seq) [] p.args=exStart c p progs m.s.now.seq from rfl] at hnew;dsimp only;generalize exStart c p progs m.s.now.seq=e at hnew hrd⊢
 refine TB (vs:=[_]) Tryz.func225 fun w0 F=>?_
 repeat' (first|refine Ga ?_|(refine Dr 0 [(0,0),(1,0),(2,0),(3,1),(4,0),(5,1),(6,0),(7,0),(8,0),(9,0),(10,1),(11,0),(12,0),(13,0),(14,1),(15,0),(16,0),(17,0),(18,1),(19,0),(20,0),(21,0),(22,0),(23,1),(25,0),(26,0),(27,0),(28,1),(29,0),(30,0),(31,0),(32,0),(33,1),(24,2),(34,2),(35,2),(36,3),(37,0)] [36] ?_)|refine Gl hc1 ?_|(refine Gu hvn ?_;rintro _ _ ⟨V,rfl,rfl⟩;refine ⟨Ent.go, ?_⟩)|(refine Gu hpn ?_;rintro _ _ ⟨Pb,rfl,rfl⟩;refine ⟨Ent.go, ?_⟩)|(refine Gu hwn ?_;rintro _ _ ⟨W,rfl,rfl⟩;refine ⟨Ent.go, ?_⟩)|(refine Gt (hnew _ _ _) ?_;rintro _ _ ⟨X,rfl,rfl⟩)|(refine Gt (hrd _ _ _ _) ?_;rintro _ _ ⟨rfl,rfl⟩)|fail)
 refine St.f1 Tryz.func225 ⟨_,⟨ifv 71 X,rfl,rfl⟩, ?_⟩;refine Ent.trans (M:=Xe X c (.slice cad (p.code progs).length ccap) V Pb W e.x e.news::bl V 215 (viewV c e.v)::Pl Pb c e.p::Ws W 0 e.puts::bl Cb 263 (clV c (.slice pad progs.length pcap) p (ifv 71 X) bv (Cs.read { m.s with next:=8 } e.x))::q::F) Ent.go ?_;refine Ent.trans (Ent.wex (pv:=.slice pad progs.length pcap) (progs:=progs) e X V Pb W _ hins0) ?_;exact Ent.go
include hc hp hpv hf in
theorem ctry_t (wv bv:Value)(m:Cm):Tri Tryz.prog 224 #[.pointer (some ⟨Cb,0,none⟩)] [bl Cb 263 (clV c pv p wv bv m.s),WkP c pv q progs (p.code progs) wv m.work,q]
  fun r L=>∃ wv',r=.tuple ⟨[]⟩∧L=cpost Cb c pv p q progs wv' bv (m.try_ c p progs):=by
 have hrun:=crun_t Cb c hc pv p hp q progs hpv hf wv bv m;obtain ⟨pad,pcap,rfl,_⟩:=hpv;unfold cpost at hrun⊢;unfold Cm.try_
 cases ha:m.s.asked with
 | true =>
  rw [if_pos rfl];clear hrun
  refine TB (vs:=[_]) Tryz.func224 fun w0 F=>?_
  repeat' (first|refine Ga ?_|(refine Ge ?_ ?_<;>intro h<;>try omega)|fail)
  all_goals first|(exfalso;simp_all;done)|skip
  refine St.d1 Tryz.func224 ⟨_,⟨wv,rfl,rfl⟩,Ent.go⟩
 | false =>
  rw [if_neg (by decide)]
  refine TB (vs:=[_]) Tryz.func224 fun w0 F=>?_
  repeat' (first|refine Ga ?_|(refine Gt hrun ?_;rintro _ _ ⟨wv',rfl,rfl⟩)|(refine Ge ?_ ?_<;>intro h<;>try omega)|fail)
  all_goals first|(exfalso;simp_all;done)|skip
  refine St.f1 Tryz.func224 ⟨_,⟨wv',rfl,rfl⟩,Ent.go⟩
include hc hp hpv hf in
theorem copened_t (wv bv:Value)(m:Cm)(x:Cell):Tri Tryz.prog 159 #[.pointer (some ⟨Cb,0,none⟩), .agg ⟨x.v⟩] [bl Cb 263 (clV c pv p wv bv m.s),WkP c pv q progs (p.code progs) wv m.work,q]
  fun r L=>∃ wv',r=.tuple ⟨[]⟩∧L=cpost Cb c pv p q progs wv' bv (m.opened c p progs x):=by
 have htr:=ctry_t Cb c hc pv p hp q progs hpv hf wv bv m;have how:=cowner_r Cb c pv p wv bv m.s hc;have hnew:=hnew_t c p.who (m.s.owner c) m.s.now.seq;have hce:=cell_eq x m.s.now.seq;have htk:=take_cl c pv p wv bv m.s;obtain ⟨pad,pcap,rfl,_⟩:=hpv;obtain ⟨xv,xs⟩:=x;unfold cpost at htr⊢;unfold Cm.opened Cell.v;dsimp only at hce⊢
 by_cases he:(⟨xv,xs⟩:Cell)=⟨1,m.s.now.seq⟩
 ·rw [if_pos he]
  rw [decide_eq_true he] at hce
  injection he with he1 he2
  clear htr
  refine TB (vs:=[_,_]) Tryz.func159 fun w0 F=>?_
  repeat' (first|refine Ga ?_|(refine Gb ?_;intro b)|(refine Dr 1 [(0,1),(1,0),(2,0),(3,0),(4,0),(5,1),(6,0),(7,0)] [] ?_)|(refine Dr 2 [(0,0),(1,0),(2,0),(3,0),(4,1),(5,0),(6,0),(7,0),(8,1),(9,0),(10,1),(11,0),(12,0),(13,0),(14,0),(15,1),(16,3),(17,0),(18,0),(19,0),(20,3)] [16,20] ?_)|refine Gl how ?_|(refine Gt hnew ?_;rintro _ _ ⟨H,rfl,rfl⟩)|(refine Ge ?_ ?_<;>intro h<;>try omega)|fail)
  all_goals first|(exfalso;omega)|(exact Bool.noConfusion (hce.symm.trans h))|(exact Bool.noConfusion (h.symm.trans hce))|skip
  all_goals refine St.d1 Tryz.func159 ⟨_,⟨ifv 345 H,rfl,rfl⟩, ?_⟩
  all_goals exact Ent.trans (Ent.trans Ent.go (Ent.whp (pv:=.slice pad progs.length pcap) (q:=q) (progs:=progs) (code:=p.code progs) (Hm.new p.who (m.s.owner c) m.s.now.seq) H)) Ent.go
 ·rw [if_neg he]
  rw [decide_eq_false he] at hce
  have he1:¬ (xv=1∧xs=m.s.now.seq):=fun h=>he (by rw [h.1,h.2])
  clear hnew how
  refine TB (vs:=[_,_]) Tryz.func159 fun w0 F=>?_
  repeat' (first|refine Ga ?_|(refine Gb ?_;intro b)|(refine Dr 1 [(0,1),(1,0),(2,0),(3,0),(4,0),(5,1),(6,0),(7,0)] [] ?_)|(refine Dr 2 [(0,0),(1,0),(2,0),(3,0),(4,1),(5,0),(6,0),(7,0),(8,1),(9,0),(10,1),(11,0),(12,0),(13,0),(14,0),(15,1),(16,3),(17,0),(18,0),(19,0),(20,3)] [16,20] ?_)|(refine Gt htr ?_;rintro _ _ ⟨wv',rfl,rfl⟩)|(refine Ge ?_ ?_<;>intro h<;>try omega)|fail)
  all_goals first|(exfalso;omega)|(exact Bool.noConfusion (hce.symm.trans h))|(exact Bool.noConfusion (h.symm.trans hce))|skip
  all_goals refine St.f1 Tryz.func159 ⟨_,⟨wv',rfl,rfl⟩,Ent.go⟩
end
section
variable (Cb:Nat)(c:Cfg)(hc:Small c)(pv:Value)(p:Cp)(hp:p.args.length=4)(q:HProp)(progs:Progs)(hpv:ProgsR q pv progs)(hf:0≤c.fuel∧c.fuel≤1000)
include hc hp hpv hf in
set_option maxHeartbeats 1000000 in
theorem canswer_t (hr:rightB (p.code progs)=true)(wv bv:Value)(m:Cm)(val:Nat):Tri Tryz.prog 160 #[.pointer (some ⟨Cb,0,none⟩), .int .u64 (val:Int)] [bl Cb 263 (clV c pv p wv bv m.s),WkP c pv q progs (p.code progs) wv m.work,q]
  fun r L=>∃ wv',r=.tuple ⟨[]⟩∧L=cpost Cb c pv p q progs wv' bv (m.answer c p progs val):=by
 have hrun:=crun_t Cb c hc pv p hp q progs hpv hf wv bv m;obtain ⟨cv,hins,hcode⟩:=ccode_e q pv progs hpv p;have hro:=reads_r q cv (p.code progs) hins (by have:=(right_at hr).2.1;omega);have hc1:=hcode Cb c wv bv m.s;have hcf:=cfg_r c;have hen1:=cend_t Cb c pv p wv bv { m.s with ov:=val } m.s.oc val false;have hen2:=cend_t Cb c pv p wv bv m.s 45 0 true;have hnew:=bnew_t c hc pv q progs p.who m.s.now.seq hpv;have htk:=take_cl c pv p wv bv m.s;obtain ⟨cad,ccap,rfl,_⟩:=hins;obtain ⟨pad,pcap,rfl,_⟩:=hpv;unfold cpost at hrun⊢;unfold Cm.answer
 by_cases h6:m.s.next=6
 ·rw [if_pos h6]
  clear hrun hen1 hen2
  refine TB (vs:=[_,_]) Tryz.func160 fun w0 F=>?_
  repeat' (first|refine Ga ?_|(refine Ge ?_ ?_<;>intro h<;>try omega)|fail)
  refine St.f1 Tryz.func160 ⟨_,⟨wv,rfl,rfl⟩,Ent.go⟩
 rw [if_neg h6]
 by_cases h7:m.s.next=7
 ·rw [if_pos h7]
  clear hrun hen2
  refine TB (vs:=[_,_]) Tryz.func160 fun w0 F=>?_
  repeat' (first|refine Ga ?_|(refine Gt hen1 ?_;rintro _ _ ⟨rfl,rfl⟩)|(refine Ge ?_ ?_<;>intro h<;>try omega)|fail)
  refine St.f1 Tryz.func160 ⟨_,⟨wv,rfl,rfl⟩,Ent.go⟩
 rw [if_neg h7]
 by_cases hv:val=p.tag
 ·rw [if_pos hv]
  subst hv;clear hrun hen1 hen2
  refine TB (vs:=[_,_]) Tryz.func160 fun w0 F=>?_
  repeat' (first|refine Ga ?_|(refine Ge ?_ ?_<;>intro h<;>try omega)|fail)
  refine St.f1 Tryz.func160 ⟨_,⟨wv,rfl,rfl⟩,Ent.go⟩
 rw [if_neg hv]
 by_cases hl:c.last≤m.s.now.seq
 ·rw [if_pos hl]
  generalize onlyB (p.code progs)=r at hro⊢
  cases r with
  | true =>
   rw [if_pos rfl];clear hen1 hen2
   refine TB (vs:=[_,_]) Tryz.func160 fun w0 F=>?_
   repeat' (first|refine Ga ?_|(refine Dr 8 [(0,0),(1,0),(2,0),(3,0),(4,1),(5,0),(6,0),(7,0),(8,1),(9,1),(10,0),(11,0),(12,0),(13,0),(14,1),(15,1),(16,0),(17,0)] [] ?_)|refine Gl hcf ?_|refine Gl hc1 ?_|refine Gl hro ?_|(refine Gt hrun ?_;rintro _ _ ⟨wv',rfl,rfl⟩)|(refine Ge ?_ ?_<;>intro h<;>try omega)|fail)
   refine St.f1 Tryz.func160 ⟨_,⟨wv',rfl,rfl⟩,Ent.go⟩
  | false =>
   rw [if_neg (by decide)];clear hrun hen1
   refine TB (vs:=[_,_]) Tryz.func160 fun w0 F=>?_
   repeat' (first|refine Ga ?_|(refine Dr 8 [(0,0),(1,0),(2,0),(3,0),(4,1),(5,0),(6,0),(7,0),(8,1),(9,1),(10,0),(11,0),(12,0),(13,0),(14,1),(15,1),(16,0),(17,0)] [] ?_)|(refine Dr 10 [(0,0),(1,0),(2,0),(3,0),(4,1),(5,0),(6,0),(7,0),(8,1),(9,1),(10,0),(11,0),(12,0)] [] ?_)|refine Gl hcf ?_|refine Gl hc1 ?_|refine Gl hro ?_|(refine Gt hen2 ?_;rintro _ _ ⟨rfl,rfl⟩)|(refine Ge ?_ ?_<;>intro h<;>try omega)|fail)
   refine St.f1 Tryz.func160 ⟨_,⟨wv,rfl,rfl⟩,Ent.go⟩
 ·rw [if_neg hl]
  clear hrun hen1 hen2
  refine TB (vs:=[_,_]) Tryz.func160 fun w0 F=>?_
  repeat' (first|refine Ga ?_|(refine Dr 8 [(0,0),(1,0),(2,0),(3,0),(4,1),(5,0),(6,0),(7,0),(8,1),(9,1),(10,0),(11,0),(12,0),(13,0),(14,1),(15,1),(16,0),(17,0)] [] ?_)|(refine Dr 10 [(0,0),(1,0),(2,0),(3,0),(4,1),(5,0),(6,0),(7,0),(8,1),(9,1),(10,0),(11,0),(12,0)] [] ?_)|(refine Dr 0 [(0,0),(1,0),(2,0),(3,0),(4,0),(5,1),(6,0),(7,0),(8,0),(9,1),(10,0),(11,0),(12,0),(13,0),(14,1),(15,0),(16,0),(17,0),(18,1),(19,3),(20,0),(21,0),(22,0),(23,3),(24,0),(25,0),(26,3)] [19,23,26] ?_)|refine Gl hcf ?_|(refine Gt hnew ?_;rintro _ _ ⟨B,rfl,rfl⟩)|(refine Ge ?_ ?_<;>intro h<;>try omega)|fail)
  refine St.f1 Tryz.func160 ⟨_,⟨ifv 93 B,rfl,rfl⟩, ?_⟩;refine Ent.trans (M:=Bd B c (.slice pad progs.length pcap) q progs (Bm.new p.who m.s.now.seq)::_) Ent.go ?_;exact Ent.trans (Ent.wbd _ B) Ent.go
include hc hp hpv hf in
theorem chelped_t (H:Nat)(bv:Value)(m:Cm)(h0:Hm)(hw:m.work=.hp h0):Tri Tryz.prog 229 #[.pointer (some ⟨Cb,0,none⟩), .pointer (some ⟨H,0,none⟩)] [bl Cb 263 (clV c pv p (ifv 345 H) bv m.s),HpE H c h0,q]
  fun r L=>∃ wv',r=.tuple ⟨[]⟩∧L=cpost Cb c pv p q progs wv' bv (m.helped c p progs h0):=by
 have htr:=(ctry_t Cb c hc pv p hp q progs hpv hf (ifv 345 H) bv m).ent (L:=[bl Cb 263 (clV c pv p (ifv 345 H) bv m.s),HpE H c h0,q]) (by
  rw [hw]
  exact Ent.cons (Ent.whp h0 H))
 have hdo:=hdone_r H c h0;have hen:=cend_t Cb c pv p (ifv 345 H) bv m.s m.s.oc m.s.ov false;obtain ⟨pad,pcap,rfl,_⟩:=hpv;unfold cpost at htr⊢;unfold Cm.helped
 by_cases h8:h0.next=8
 ·rw [if_neg (by omega)]
  rw [decide_eq_true h8] at hdo
  by_cases h12:m.s.next=12
  ·rw [if_pos h12]
   clear htr
   refine TB (vs:=[_,_]) Tryz.func229 fun w0 F=>?_
   repeat' (first|refine Ga ?_|refine Gl hdo ?_|(refine Gt hen ?_;rintro _ _ ⟨rfl,rfl⟩)|(refine Ge ?_ ?_<;>intro h<;>try omega)|fail)
   refine St.f1 Tryz.func229 ⟨_,⟨ifv 345 H,rfl,rfl⟩, ?_⟩;dsimp only;rw [hw];exact Ent.trans (Ent.trans Ent.go (Ent.whp (pv:=.slice pad progs.length pcap) (q:=q) (progs:=progs) (code:=p.code progs) h0 H)) Ent.go
  ·rw [if_neg h12]
   clear hen
   refine TB (vs:=[_,_]) Tryz.func229 fun w0 F=>?_
   repeat' (first|refine Ga ?_|refine Gl hdo ?_|(refine Gt htr ?_;rintro _ _ ⟨wv',rfl,rfl⟩)|(refine Ge ?_ ?_<;>intro h<;>try omega)|fail)
   refine St.f1 Tryz.func229 ⟨_,⟨wv',rfl,rfl⟩,Ent.go⟩
 ·rw [if_pos (by omega)]
  rw [decide_eq_false h8] at hdo;clear htr hen
  refine TB (vs:=[_,_]) Tryz.func229 fun w0 F=>?_
  repeat' (first|refine Ga ?_|refine Gl hdo ?_|fail)
  refine St.d1 Tryz.func229 ⟨_,⟨ifv 345 H,rfl,rfl⟩, ?_⟩;rw [hw];exact Ent.trans (Ent.trans Ent.go (Ent.whp (pv:=.slice pad progs.length pcap) (q:=q) (progs:=progs) (code:=p.code progs) h0 H)) Ent.go
include hc hpv in
set_option maxHeartbeats 1000000 in
theorem cswapped_t (B:Nat)(wv:Value)(m:Cm)(b:Bm)(hb:m.b=some b)(hi:Binv c progs b)(hs:m.s.now.seq<140737488355328)(ok:Bool):Tri Tryz.prog 161 #[.pointer (some ⟨Cb,0,none⟩), .bool ok] [bl Cb 263 (clV c pv p wv (.pointer (some ⟨B,0,none⟩)) m.s),WkP c pv q progs (p.code progs) wv m.work,Bd B c pv q progs b]
  fun r L=>∃ wv',r=.tuple ⟨[]⟩∧L=[bl Cb 263 (clV c pv p wv' (.pointer (some ⟨B,0,none⟩)) (m.swapped c p ok).s),WkP c pv q progs (p.code progs) wv' (m.swapped c p ok).work,Bd B c pv q progs b]:=by
 have hen:=bentries_t B c hc pv q progs b hi;have hsh:=ents_short hi
 have hown:=fun ad cap=>hown_t c hc p.who (m.s.now.seq+1) (entriesOf c b.e.puts) (by omega) ad cap
 have htk:=take_cl c pv p wv (.pointer (some ⟨B,0,none⟩)) m.s;obtain ⟨pad,pcap,rfl,_⟩:=hpv;unfold Cm.swapped;rw [hb];dsimp only;generalize entriesOf c b.e.puts=es at hen hown hsh⊢
 cases ok with
 | true =>
  rw [if_pos rfl]
  refine TB (vs:=[_,_]) Tryz.func161 fun w0 F=>?_
  repeat' (first|refine Ga ?_|(refine Dr 3 [(0,0),(1,0),(2,0),(3,0),(4,0),(5,1),(6,0),(7,0),(8,0),(9,1),(10,0),(11,0),(12,0),(13,0),(14,1),(15,0),(16,0),(17,0),(18,0),(19,1),(20,2),(21,3),(22,0),(23,0),(24,0),(25,3),(26,0),(27,0),(28,3)] [21,25,28] ?_)|(refine Gu hen ?_;rintro _ _ ⟨ead,ecap,rfl,rfl⟩;refine ⟨Ent.go, ?_⟩)|(refine Gt (hown _ _) ?_;rintro _ _ ⟨H,rfl,rfl⟩)|fail)
  refine St.f1 Tryz.func161 ⟨_,⟨ifv 345 H,rfl,rfl⟩, ?_⟩;exact Ent.trans (Ent.trans Ent.go (Ent.whp (pv:=.slice pad progs.length pcap) (q:=q) (progs:=progs) (code:=p.code progs) (Hm.own c p.who (m.s.now.seq+1) es) H)) Ent.go
 | false =>
  rw [if_neg (by decide)];clear hen hown
  refine TB (vs:=[_,_]) Tryz.func161 fun w0 F=>?_
  repeat' (first|refine Ga ?_|fail)
  refine St.f1 Tryz.func161 ⟨_,⟨wv,rfl,rfl⟩,Ent.go⟩
def WkS (c:Cfg)(wv:Value):Wk→HProp
 | .sc s=>ex (ι:={ S:Nat // wv=ifv 351 S }) fun S=>[ScE S.1 c s]
 | _=>star []
theorem Ent.ws (s:Sm)(S:Nat){c:Cfg}{L:List HProp}:Ent (ScE S c s::L) (WkS c (ifv 351 S) (.sc s)::L):=Ent.ex_in (Ls:=fun B':{ B':Nat // ifv 351 S=ifv 351 B' }=>[ScE B'.1 c s]) ⟨S,rfl⟩
theorem Ent.ws0 {c:Cfg}{wv:Value}{b:Bm}{L:List HProp}:Ent L (WkS c wv (.bd b)::L):=Ent.star_in []
def BtI (c:Cfg)(p:Cp)(B:Nat)(bv:Value)(m:Cm)(b:Bm)(k:Nat)(wv bvk:Value)(mk:Cm):Prop :=
 mk=(b.rows.take k).foldl (Cm.row c p b) { m with s:={ m.s with next:=2 } }∧mk.s.now=m.s.now∧((bvk=bv∧mk.b=m.b∧wv=ifv 93 B∧mk.work=.bd b)∨(bvk=.pointer (some ⟨B,0,none⟩)∧mk.b=some b∧∃ s,mk.work=.sc s))
include hc hpv in
set_option maxHeartbeats 2000000 in
theorem cbuilt_t (B:Nat)(bv:Value)(m:Cm)(bt:Bm)(hw:m.work=.bd bt)(hi:Binv c progs bt)(hs:m.s.now.seq<140737488355328):Tri Tryz.prog 228 #[.pointer (some ⟨Cb,0,none⟩), .pointer (some ⟨B,0,none⟩)] [bl Cb 263 (clV c pv p (ifv 93 B) bv m.s),Bd B c pv q progs bt,BkP c pv q progs bv m.b]
  fun r L=>∃ wv' bv',r=.tuple ⟨[]⟩∧L=[bl Cb 263 (clV c pv p wv' bv' (m.built c p bt).s),WkP c pv q progs (p.code progs) wv' (m.built c p bt).work,BkP c pv q progs bv' (m.built c p bt).b]:=by
 have hst:=bstatus_r B c pv q progs bt;have hen:=bentries_t B c hc pv q progs bt hi;have hrw:=brows_t B c hc pv q progs bt hi;have hsh:=ents_short hi
 have hrl:bt.rows.length≤1000:=by have:=hi.rows;have:=hi.u;have:=hc.t1;omega
 have hsn:=fun ad cap=>snew_t c hc p.who (m.s.now.seq+1) (entriesOf c bt.e.puts) (by omega) ad cap
 obtain ⟨pad,pcap,rfl,_⟩:=hpv
 have hres:Cm.built c p m bt=if bt.b.s=0 then m else if bt.b.s=2 then { m with s:={ m.s with next:=2 } } else bt.rows.foldl (Cm.row c p bt) { m with s:={ m.s with next:=2 } }:=rfl
 by_cases h0:bt.b.s=0
 ·rw [if_pos h0] at hres
  rw [hres,hw];clear hen hrw hsn
  refine TB (vs:=[_,_]) Tryz.func228 fun w0 F=>?_
  repeat' (first|refine Ga ?_|refine Gl hst ?_|(refine Ge ?_ ?_<;>intro h<;>try omega)|fail)
  refine St.d1 Tryz.func228 ⟨_,⟨ifv 93 B,bv,rfl,rfl⟩, ?_⟩;exact Ent.trans (Ent.trans Ent.go (Ent.wbd (code:=p.code progs) bt B)) Ent.go
 rw [if_neg h0] at hres
 by_cases h2:bt.b.s=2
 ·rw [if_pos h2] at hres
  rw [hres];dsimp only;rw [hw];clear hen hrw hsn
  refine TB (vs:=[_,_]) Tryz.func228 fun w0 F=>?_
  repeat' (first|refine Ga ?_|refine Gl hst ?_|(refine Ge ?_ ?_<;>intro h<;>try omega)|fail)
  refine St.d1 Tryz.func228 ⟨_,⟨ifv 93 B,bv,rfl,rfl⟩, ?_⟩;exact Ent.trans (Ent.trans Ent.go (Ent.wbd (code:=p.code progs) bt B)) Ent.go
 rw [if_neg h2] at hres;generalize hR:Cm.built c p m bt=R at hres⊢;generalize hes:entriesOf c bt.e.puts=es at hen hsn hsh
 have hfin:∀ wv bvk,BtI c p B bv m bt bt.rows.length wv bvk R→∀ {M:List HProp},Ent (bl Cb 263 (clV c (.slice pad progs.length pcap) p wv bvk R.s)::WkS c wv R.work::Bd B c (.slice pad progs.length pcap) q progs bt::BkP c (.slice pad progs.length pcap) q progs bv m.b::M) ([bl Cb 263 (clV c (.slice pad progs.length pcap) p wv bvk R.s),WkP c (.slice pad progs.length pcap) q progs (p.code progs) wv R.work,BkP c (.slice pad progs.length pcap) q progs bvk R.b]++M):=by
  rintro wv bvk ⟨_,_,⟨rfl,e2,rfl,e4⟩|⟨rfl,e2,s,e4⟩⟩ M
  ·rw [e2,e4]
   exact Ent.trans (Ent.trans Ent.go (Ent.wbd (code:=p.code progs) bt B)) Ent.go
  ·rw [e2,e4]
   exact Ent.cons (Ent.cons (Ent.trans (Ent.trans Ent.go (Ent.bbd bt B)) Ent.go))
 clear hR
 refine TB (vs:=[_,_]) Tryz.func228 fun w0 F=>?_
 repeat' (first|refine Ga ?_|refine Gl hst ?_|(refine Gt hrw ?_;rintro _ _ ⟨rad,rcap,rs,hrs,rfl,rfl⟩)|(refine Ge ?_ ?_<;>intro h<;>try omega)|fail)
 have hlrs:rs.length=bt.rows.length:=by rw [← hrs,List.length_map]
 have hws:∀ {M:List HProp},Ent M (WkS c (ifv 93 B) m.work::M):=by rw [hw];exact Ent.ws0
 refine St.conv ?_ (Sub.refl _) (Ent.of_take (p:=Row (.slice rad bt.rows.length rcap) 128 5 bt.rows.length (rs.flatMap rowV)) Take.go)
 refine St.rowL (f:=rowV) hlrs fun Rw hL=>?_
 obtain ⟨rad',rcap',hv,_,hr⟩:=hL
 injection hv with hv1 _ hv3
 subst hv1 hv3;refine St.conv ?_ (Sub.refl _) hws
 refine St.loopY (Lr:=?Lr1) (ι:={ x:Nat×Value×Value×Cm // x.1≤bt.rows.length∧BtI c p B bv m bt x.1 x.2.1 x.2.2.1 x.2.2.2 }) (fun x=>bt.rows.length - x.1.1) (fun x=>[(18, .int .i64 (x.1.1:Int))])
  (fun x=>[bl Cb 263 (clV c (.slice pad progs.length pcap) p x.1.2.1 x.1.2.2.1 x.1.2.2.2.s),WkS c x.1.2.1 x.1.2.2.2.work]) ⟨(0,ifv 93 B,bv,{ m with s:={ m.s with next:=2 } }),Nat.zero_le _,⟨rfl,rfl, .inl ⟨rfl,rfl,rfl,hw⟩⟩⟩ ?hE1 ?hL1 ?round1
 case hE1=>exact Sub.go
 case hL1=>exact Takes.go
 case round1 =>
  rintro ⟨⟨k,wv,bvk,mk⟩,hk,hb⟩ IH;dsimp only at hk hb IH⊢
  by_cases hlt:k<bt.rows.length
  ·obtain ⟨bf,o,l,l1,rfl,hrd,hdr,htk⟩:=ListR.at (f:=rowV) (sz:=5) (fun _=>rfl) hr k (by omega)
   have hfold:(bt.rows.take (k+1)).foldl (Cm.row c p bt) { m with s:={ m.s with next:=2 } }=Cm.row c p bt ((bt.rows.take k).foldl (Cm.row c p bt) { m with s:={ m.s with next:=2 } }) bt.rows[k]:=by
    rw [List.take_succ_eq_append_getElem hlt,List.foldl_append];rfl
   obtain ⟨he,hnow,hcase⟩:=hb;rw [← he] at hfold
   have hrk:bt.rows[k]=(rs[k]'(by omega)).1:=by
    have:(rs.map (·.1))[k]'(by rw [List.length_map];omega)=bt.rows[k]:=by simp only [hrs]
    rw [← this,List.getElem_map]
   rw [hrk] at hfold;generalize rs[k]'(by omega)=r at htk hfold;obtain ⟨⟨rwho,rtag,rrc,rrv,rnews⟩,nad,ncap⟩:=r;unfold rowV at htk;dsimp only at htk hfold;have htkc:=take_cl c (.slice pad progs.length pcap) p wv bvk mk.s
   have hseq:mk.s.now.seq<140737488355328:=by rw [hnow];exact hs
   rw [← hnow] at hsn
   by_cases hwho:rwho=p.who
   ·subst hwho
    have hrow:∀ r:BRow,r.who=p.who→Cm.row c p bt mk r={ mk with s:={ mk.s with oc:=r.rc,ov:=r.rv,next:=10 },b:=some bt,work:=.sc (Sm.new c p.who (mk.s.now.seq+1) es) }:=fun r hr=>by
     unfold Cm.row;rw [if_pos hr,hes]
    rw [hrow _ rfl] at hfold
    repeat' (first|refine Ga ?_|(refine Gb ?_;intro b)|(refine Dr 6 [(0,0),(1,1),(2,0),(3,0),(4,0),(5,1),(6,0)] [] ?_)|(refine Dr 8 [(0,0),(1,0),(2,0),(3,0),(4,0),(5,1),(6,0),(7,0),(8,0),(9,1),(10,0),(11,0),(12,0),(13,0),(14,1),(15,0),(16,0),(17,2),(18,3),(19,0),(20,0),(21,0),(22,3),(23,0),(24,0),(25,3)] [18,22,25] ?_)|(refine Gu hen ?_;rintro _ _ ⟨ead,ecap,rfl,rfl⟩;refine ⟨Ent.go, ?_⟩)|(refine Gt (hsn _ _) ?_;rintro _ _ ⟨S,rfl,rfl⟩)|(refine Ge ?_ ?_<;>intro h<;>try omega)|fail)
    refine IH ⟨(k+1,ifv 351 S, .pointer (some ⟨B,0,none⟩),{ mk with s:={ mk.s with oc:=rrc,ov:=rrv,next:=10 },b:=some bt,work:=.sc (Sm.new c p.who (mk.s.now.seq+1) es) }),hlt,⟨hfold.symm,hnow, .inr ⟨rfl,rfl,_,rfl⟩⟩⟩ (by show bt.rows.length - (k+1)<bt.rows.length - k;omega) ?_ ?_
    ·exact Sub.go
    ·exact Ent.trans (Ent.trans (Ent.of_take (p:=ScE S c (Sm.new c p.who (mk.s.now.seq+1) es)) Take.go) (Ent.ws _ S)) Ent.go
   ·unfold Cm.row at hfold
    rw [if_neg hwho] at hfold;clear hen hsn
    repeat' (first|refine Ga ?_|(refine Gb ?_;intro b)|(refine Dr 6 [(0,0),(1,1),(2,0),(3,0),(4,0),(5,1),(6,0)] [] ?_)|(refine Ge ?_ ?_<;>intro h<;>try omega)|fail)
    refine IH ⟨(k+1,wv,bvk,mk),hlt,⟨hfold.symm,hnow,hcase⟩⟩ (by show bt.rows.length - (k+1)<bt.rows.length - k;omega) ?_ ?_
    ·exact Sub.go
    ·exact Ent.go
  ·obtain rfl:k=bt.rows.length:=by omega
   clear IH hen hsn
   have hmk:mk=R:=by
    rw [hb.1,List.take_length,← hres]
   subst hmk
   repeat' (first|refine Ga ?_|(refine Ge ?_ ?_<;>intro h<;>try omega)|fail)
   refine St.f1 Tryz.func228 ⟨_,⟨wv,bvk,rfl,rfl⟩, ?_⟩;refine Ent.trans ?_ (hfin wv bvk hb);exact Ent.go
end
theorem Cm.try_b (c:Cfg)(p:Cp)(progs:Progs)(m:Cm):(m.try_ c p progs).b=m.b:=by unfold Cm.try_;split<;>rfl
theorem Cm.opened_b (c:Cfg)(p:Cp)(progs:Progs)(m:Cm)(x:Cell):(m.opened c p progs x).b=m.b:=by
 unfold Cm.opened;split
 ·rfl
 ·exact Cm.try_b _ _ _ _
theorem Cm.answer_b (c:Cfg)(p:Cp)(progs:Progs)(m:Cm)(v:Nat):(m.answer c p progs v).b=m.b:=by
 unfold Cm.answer
 repeat' split
 all_goals rfl
theorem Cm.helped_b (c:Cfg)(p:Cp)(progs:Progs)(m:Cm)(h:Hm):(m.helped c p progs h).b=m.b:=by
 unfold Cm.helped
 repeat' split
 ·rfl
 ·rfl
 ·exact Cm.try_b _ _ _ _
theorem Cm.swapped_b (c:Cfg)(p:Cp)(m:Cm)(ok:Bool):(m.swapped c p ok).b=m.b:=by
 unfold Cm.swapped
 repeat' split
 all_goals rfl
section
variable (Cb:Nat)(c:Cfg)(hc:Small c)(pv:Value)(p:Cp)(hp:p.args.length=4)(q:HProp)(progs:Progs)(hpv:ProgsR q pv progs)(hf:0≤c.fuel∧c.fuel≤1000)
def clL (m:Cm)(a:Value×Value):List HProp:=[bl Cb 263 (clV c pv p a.1 a.2 m.s),WkP c pv q progs (p.code progs) a.1 m.work,BkP c pv q progs a.2 m.b]
def ClE (m:Cm):HProp:=ex (clL Cb c pv p q progs m)
theorem Ent.cl (m:Cm)(wv bv:Value){L:List HProp}:Ent (bl Cb 263 (clV c pv p wv bv m.s)::WkP c pv q progs (p.code progs) wv m.work::BkP c pv q progs bv m.b::L) (ClE Cb c pv p q progs m::L):=Ent.ex_in (Ls:=clL Cb c pv p q progs m) (wv,bv)
structure WkI (c:Cfg)(progs:Progs)(m:Cm):Prop where
 ex:∀ e,m.work=.ex e→e.news.length≤1000000
 bd:∀ b,m.work=.bd b→Binv c progs b∧m.s.now.seq<140737488355328
 sc:∀ s,m.work=.sc s→Sok s
 no:m.work≠.none
def cpost2 (wv bv:Value)(m:Cm):List HProp:=[bl Cb 263 (clV c pv p wv bv m.s),WkP c pv q progs (p.code progs) wv m.work,BkP c pv q progs bv m.b,q]
include hc hp hpv hf in
set_option maxHeartbeats 1000000 in
theorem cworked_t (wv bv:Value)(m:Cm)(hk:WkI c progs m):Tri Tryz.prog 162 #[.pointer (some ⟨Cb,0,none⟩)] (cpost2 Cb c pv p q progs wv bv m)
  fun r L=>∃ wv' bv',r=.tuple ⟨[]⟩∧L=cpost2 Cb c pv p q progs wv' bv' (m.after c p progs):=by
 obtain ⟨s,work,b0⟩:=m;have hpv0:=hpv;obtain ⟨pad,pcap,rfl,_⟩:=hpv0;unfold cpost2 Cm.after;dsimp only
 cases work with
 | none=>exact absurd rfl hk.no
 | ex e =>
  dsimp only;unfold WkP;have hn:=hk.ex e rfl;refine Tri.ent (Tri.ex_out (L:=[bl Cb 263 (clV c (.slice pad progs.length pcap) p wv bv s),BkP c (.slice pad progs.length pcap) q progs bv b0,q]) ?_) (Ent.of_take (.there .here));rintro ⟨⟨X,V,Pb,W,cv,hins⟩,rfl⟩;unfold exL;dsimp only;have hrd:=cread_t Cb c (.slice pad progs.length pcap) p (ifv 71 X) bv s X cv V Pb W e hn
  refine TB (vs:=[_]) Tryz.func162 fun w0 F=>?_
  repeat' (first|refine Ga ?_|(refine Gt hrd ?_;rintro _ _ ⟨rfl,rfl⟩)|fail)
  refine St.f1 Tryz.func162 ⟨_,⟨ifv 71 X,bv,rfl,rfl⟩, ?_⟩;refine Ent.trans (M:=Xe X c cv V Pb W e.x e.news::bl V 215 (viewV c e.v)::Pl Pb c e.p::Ws W 0 e.puts::bl Cb 263 (clV c (.slice pad progs.length pcap) p (ifv 71 X) bv (s.read e.x))::BkP c (.slice pad progs.length pcap) q progs bv b0::q::F) Ent.go ?_;exact Ent.trans (Ent.wex (pv:=.slice pad progs.length pcap) (progs:=progs) e X V Pb W _ hins) Ent.go
 | bd bt =>
  dsimp only;unfold WkP;obtain ⟨hi,hs⟩:=hk.bd bt rfl;refine Tri.ent (Tri.ex_out (L:=[bl Cb 263 (clV c (.slice pad progs.length pcap) p wv bv s),BkP c (.slice pad progs.length pcap) q progs bv b0,q]) ?_) (Ent.of_take (.there .here));rintro ⟨B,rfl⟩;dsimp only;have hbu:=cbuilt_t Cb c hc (.slice pad progs.length pcap) p q progs hpv B bv ⟨s, .bd bt,b0⟩ bt rfl hi hs
  refine TB (vs:=[_]) Tryz.func162 fun w0 F=>?_
  repeat' (first|refine Ga ?_|(refine Gt hbu ?_;rintro _ _ ⟨wv',bv',rfl,rfl⟩)|fail)
  refine St.f1 Tryz.func162 ⟨_,⟨wv',bv',rfl,rfl⟩,Ent.go⟩
 | hp h0 =>
  dsimp only;unfold WkP;refine Tri.ent (Tri.ex_out (L:=[bl Cb 263 (clV c (.slice pad progs.length pcap) p wv bv s),BkP c (.slice pad progs.length pcap) q progs bv b0,q]) ?_) (Ent.of_take (.there .here));rintro ⟨H,rfl⟩;dsimp only;have hhe:=chelped_t Cb c hc (.slice pad progs.length pcap) p hp q progs hpv hf H bv ⟨s, .hp h0,b0⟩ h0 rfl;unfold cpost at hhe;have eb:(Cm.helped c p progs ⟨s, .hp h0,b0⟩ h0).b=b0:=Cm.helped_b _ _ _ _ _;rw [eb]
  refine TB (vs:=[_]) Tryz.func162 fun w0 F=>?_
  repeat' (first|refine Ga ?_|(refine Gt hhe ?_;rintro _ _ ⟨wv',rfl,rfl⟩)|fail)
  refine St.f1 Tryz.func162 ⟨_,⟨wv',bv,rfl,rfl⟩,Ent.go⟩
 | sc s0 =>
  dsimp only;unfold WkP;have hk0:=hk.sc s0 rfl;refine Tri.ent (Tri.ex_out (L:=[bl Cb 263 (clV c (.slice pad progs.length pcap) p wv bv s),BkP c (.slice pad progs.length pcap) q progs bv b0,q]) ?_) (Ent.of_take (.there .here));rintro ⟨S,rfl⟩;dsimp only;have hdo:=sdone_r S c s0 hk0.1 (by have:=hk0.1;have:=hk0.2;omega);generalize ho:s0.over=ov at hdo⊢
  cases ov with
  | true =>
   rw [if_pos rfl]
   refine TB (vs:=[_]) Tryz.func162 fun w0 F=>?_
   repeat' (first|refine Ga ?_|refine Gl hdo ?_|fail)
   refine St.f1 Tryz.func162 ⟨_,⟨ifv 351 S,bv,rfl,rfl⟩, ?_⟩;exact Ent.trans (Ent.trans (Ent.of_take (p:=ScE S c s0) Take.go) (Ent.wsc (pv:=.slice pad progs.length pcap) (q:=q) (progs:=progs) (code:=p.code progs) s0 S)) Ent.go
  | false =>
   rw [if_neg (by decide)]
   refine TB (vs:=[_]) Tryz.func162 fun w0 F=>?_
   repeat' (first|refine Ga ?_|refine Gl hdo ?_|fail)
   refine St.f1 Tryz.func162 ⟨_,⟨ifv 351 S,bv,rfl,rfl⟩, ?_⟩;exact Ent.trans (Ent.trans (Ent.of_take (p:=ScE S c s0) Take.go) (Ent.wsc (pv:=.slice pad progs.length pcap) (q:=q) (progs:=progs) (code:=p.code progs) s0 S)) Ent.go
end
end Go.Proofs.YthmbgodcpgkkeaaGreat
