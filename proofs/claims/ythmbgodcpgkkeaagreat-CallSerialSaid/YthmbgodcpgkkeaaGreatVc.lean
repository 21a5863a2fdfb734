/-
  Package call: its small functions. Package call: what follows on what was seen.
-/
import Derived.Test.YthmbgodcpgkkeaaGreatVa
import Derived.Test.YthmbgodcpgkkeaaGreatHi
section
namespace Go.Proofs.YthmbgodcpgkkeaaGreat
set_option maxRecDepth 100000
def clV (c:Cfg) (pv:Value) (p:Cp) (wv bv:Value) (s:Cs):List Value :=
  c.m++(.int .i64 p.who::.int .u64 (p.tag:Int)::pv::.int .i64 p.prog::(g4 p.args++[.int .i64 s.next, .int .i64 s.given, .int .i64 s.tried, .bool s.asked, .int .u64 (s.now.val:Int), .int .u64 (s.now.seq:Int),wv,bv, .bool s.fresh, .bool s.did, .int .i64 s.oc, .int .u64 (s.ov:Int), .int .i64 s.rc, .int .u64 (s.rv:Int), .bool s.alone]))
theorem take_cl (c:Cfg) (pv:Value) (p:Cp) (wv bv:Value) (s:Cs):TakeN 24 (clV c pv p wv bv s) c.m:=TakeN.app c.m _
theorem ccode_e (q:HProp) (pv:Value) (progs:Progs) (hpv:ProgsR q pv progs) (p:Cp):∃ cv,InsR q cv (p.code progs)∧∀ (Cb:Nat) (c:Cfg) (wv bv:Value) (s:Cs),RTri Tryz.prog 149 #[.pointer (some ⟨Cb,0,none⟩)] [bl Cb 263 (clV c pv p wv bv s),q] cv:=by
  obtain ⟨pad,pcap,rfl,hpl,hpr⟩:=hpv
  unfold Cp.code
  by_cases h:p.prog<0∨(progs.length:Int)≤p.prog
  · rw [if_pos h]
    refine ⟨_,InsR.nil q,fun Cb c wv bv s=>?_⟩
    refine RTri.of_exact fun W0 hs=>?_
    have hH:=RdC.exact hs (ReadsC.here RdC.bl)
    refine Tri.of_body (vs:=[_]) Tryz.func149 rfl rfl fun w0 F=>?_
    repeat' (first|refine Ga ?_|(refine Gb ?_;intro b)|(refine Gd ?_;intro g cap rest hcap)|(refine Gc ?_;intro ad cap)|(refine St.draw (id:=1) [(0,0),(1,0),(2,0),(3,0),(4,1),(5,0),(6,0),(7,0),(8,0),(9,0),(10,0),(11,1),(12,0),(13,0),(14,0),(15,1),(16,0),(17,0),(18,0)] [] mixed (by kernel_rfl) ?_)|(refine St.draw (id:=3) [(0,0),(1,0),(2,0),(3,1),(4,0),(5,0),(6,0),(7,0),(8,1),(9,0),(10,1),(11,0)] [] mixed (by kernel_rfl) ?_)|(refine Ge ?_ ?_<;>(intro h;try (exfalso;omega)))|fail)
    all_goals first|(exfalso;omega)|skip
    all_goals refine St.d1 Tryz.func149 ⟨_,⟨rfl,rfl⟩,Ent.go⟩
  · rw [if_neg h]
    obtain ⟨pb,po,pl,cv,rfl,hrd,hnth,hins⟩:=hpr p.prog.toNat (by omega)
    rw [show ((p.prog.toNat:Nat):Int)=p.prog by omega] at hnth
    have e:progs.getD p.prog.toNat []=progs[p.prog.toNat]'(by omega):=by rw [List.getD_eq_getElem?_getD,List.getElem?_eq_getElem];rfl
    rw [e]
    refine ⟨cv,hins,fun Cb c wv bv s=>?_⟩
    obtain ⟨cad,ccap,rfl,_⟩:=hins
    refine RTri.of_exact fun W0 hs=>?_
    have hH:=RdC.exact hs (ReadsC.here RdC.bl)
    have hQ:=RdC.exact hs (ReadsC.there (ReadsC.here hrd))
    refine Tri.of_body (vs:=[_]) Tryz.func149 rfl rfl fun w0 F=>?_
    repeat' (first|refine Ga ?_|(refine Gb ?_;intro b)|(refine Gd ?_;intro g cap rest hcap)|(refine Gc ?_;intro ad cap)|(refine St.draw (id:=1) [(0,0),(1,0),(2,0),(3,0),(4,1),(5,0),(6,0),(7,0),(8,0),(9,0),(10,0),(11,1),(12,0),(13,0),(14,0),(15,1),(16,0),(17,0),(18,0)] [] mixed (by kernel_rfl) ?_)|(refine St.draw (id:=3) [(0,0),(1,0),(2,0),(3,1),(4,0),(5,0),(6,0),(7,0),(8,1),(9,0),(10,1),(11,0)] [] mixed (by kernel_rfl) ?_)|(refine Ge ?_ ?_<;>(intro h;try (exfalso;omega)))|fail)
    all_goals first|(exfalso;omega)|skip
    refine St.d1 Tryz.func149 ⟨_,⟨rfl,rfl⟩,Ent.go⟩
section
variable (Cb:Nat) (c:Cfg) (pv:Value) (p:Cp) (wv bv:Value) (s:Cs)
theorem cdone_r:RTri Tryz.prog 64 #[.pointer (some ⟨Cb,0,none⟩)] [bl Cb 263 (clV c pv p wv bv s)] (.bool (decide (s.next=13))):=by
  refine RTri.of_exact fun W0 hs=>?_
  have hH:=RdC.exact hs (ReadsC.here RdC.bl)
  refine Tri.of_body (vs:=[_]) Tryz.func64 rfl rfl fun w0 F=>?_
  repeat' (first|refine Ga ?_|(refine Gb ?_;intro b)|(refine Gd ?_;intro g cap rest hcap)|(refine Gc ?_;intro ad cap) |(refine Ge ?_ ?_<;>(intro h;try (exfalso;omega)))|fail)
  (first|refine St.dn Tryz.func64 ⟨?_,rfl⟩ Ent.go|refine St.fl Tryz.func64 ⟨?_,rfl⟩ Ent.go)
  rw [beq_dec];rfl
theorem cresult_r:RTri Tryz.prog 68 #[.pointer (some ⟨Cb,0,none⟩)] [bl Cb 263 (clV c pv p wv bv s)] (.agg ⟨[.int .i64 s.rc, .int .u64 (s.rv:Int)]⟩):=by
  refine RTri.of_exact fun W0 hs=>?_
  have hH:=RdC.exact hs (ReadsC.here RdC.bl)
  refine Tri.of_body (vs:=[_]) Tryz.func68 rfl rfl fun w0 F=>?_
  repeat' (first|refine Ga ?_|(refine Gb ?_;intro b)|(refine Gd ?_;intro g cap rest hcap)|(refine Gc ?_;intro ad cap) |(refine Ge ?_ ?_<;>(intro h;try (exfalso;omega)))|fail)
  (first|refine St.dn Tryz.func68 ⟨?_,rfl⟩ Ent.go|refine St.fl Tryz.func68 ⟨?_,rfl⟩ Ent.go)
  rfl
theorem clooked_r:RTri Tryz.prog 65 #[.pointer (some ⟨Cb,0,none⟩)] [bl Cb 263 (clV c pv p wv bv s)] (.bool s.fresh):=by
  refine RTri.of_exact fun W0 hs=>?_
  have hH:=RdC.exact hs (ReadsC.here RdC.bl)
  refine Tri.of_body (vs:=[_]) Tryz.func65 rfl rfl fun w0 F=>?_
  repeat' (first|refine Ga ?_|(refine Gb ?_;intro b)|(refine Gd ?_;intro g cap rest hcap)|(refine Gc ?_;intro ad cap) |(refine Ge ?_ ?_<;>(intro h;try (exfalso;omega)))|fail)
  (first|refine St.dn Tryz.func65 ⟨?_,rfl⟩ Ent.go|refine St.fl Tryz.func65 ⟨?_,rfl⟩ Ent.go)
  rfl
theorem calone_r:RTri Tryz.prog 69 #[.pointer (some ⟨Cb,0,none⟩)] [bl Cb 263 (clV c pv p wv bv s)] (.bool s.alone):=by
  refine RTri.of_exact fun W0 hs=>?_
  have hH:=RdC.exact hs (ReadsC.here RdC.bl)
  refine Tri.of_body (vs:=[_]) Tryz.func69 rfl rfl fun w0 F=>?_
  repeat' (first|refine Ga ?_|(refine Gb ?_;intro b)|(refine Gd ?_;intro g cap rest hcap)|(refine Gc ?_;intro ad cap) |(refine Ge ?_ ?_<;>(intro h;try (exfalso;omega)))|fail)
  (first|refine St.dn Tryz.func69 ⟨?_,rfl⟩ Ent.go|refine St.fl Tryz.func69 ⟨?_,rfl⟩ Ent.go)
  rfl
theorem cowner_r (hc:Small c):RTri Tryz.prog 156 #[.pointer (some ⟨Cb,0,none⟩)] [bl Cb 263 (clV c pv p wv bv s)] (.int .i64 (s.owner c)):=by
  have ht0:=hc.t0;have ht1:=hc.t1
  have hm0:=Int.emod_nonneg (s.now.val:Int) (show c.threads≠0 by omega)
  have hm1:=Int.emod_lt_of_pos (s.now.val:Int) (show 0<c.threads by omega)
  have hcf:=cfg_r c
  refine RTri.of_exact fun W0 hs=>?_
  have hH:=RdC.exact hs (ReadsC.here RdC.bl)
  have htk:=take_cl c pv p wv bv s
  refine Tri.of_body (vs:=[_]) Tryz.func156 rfl rfl fun w0 F=>?_
  repeat' (first|refine Ga ?_|(refine Gb ?_;intro b)|(refine Gd ?_;intro g cap rest hcap)|(refine Gc ?_;intro ad cap)|(refine St.draw (id:=1) [(0,0),(1,0),(2,0),(3,0),(4,1),(5,0),(6,0),(7,0),(8,1),(9,1),(10,0),(11,0),(12,0),(13,0),(14,0)] [] mixed (by kernel_rfl) ?_)| refine Gl hcf ?_|(refine Ge ?_ ?_<;>(intro h;try (exfalso;omega)))|fail)
  (first|refine St.dn Tryz.func156 ⟨?_,rfl⟩ Ent.go|refine St.fl Tryz.func156 ⟨?_,rfl⟩ Ent.go)
  rfl
theorem cend_t (rc:Int) (rv:Nat) (alone:Bool):Tri Tryz.prog 222 #[.pointer (some ⟨Cb,0,none⟩), .agg ⟨[.int .i64 rc, .int .u64 (rv:Int)]⟩, .bool alone] [bl Cb 263 (clV c pv p wv bv s)]
    fun r L=>r=.tuple ⟨[]⟩∧L=[bl Cb 263 (clV c pv p wv bv (s.end rc rv alone))]:=by
  refine Tri.of_body (vs:=[_,_,_]) Tryz.func222 rfl rfl fun w0 F=>?_
  repeat' (first|refine Ga ?_|(refine Gb ?_;intro b)|(refine Gd ?_;intro g cap rest hcap)|(refine Gc ?_;intro ad cap)|(refine St.drawT (id:=1) [(0,0),(1,0),(2,0),(4,0),(5,0),(6,0)] (.pick [(3,2),(7,3),(8,0),(9,0),(10,3),(11,0),(12,0),(13,3)] .done (.pick [(7,3),(3,2),(8,0),(9,0),(10,3),(11,0),(12,0),(13,3)] .done .nope)) [7,10,13] mixed (by kernel_rfl) ?_)|apply StD.pick|exact StD.nope |(apply Zq;rfl;exact Ob;exact Ent.go)|(refine Ge ?_ ?_<;>(intro h;try (exfalso;omega)))|fail)
  all_goals refine St.f1 Tryz.func222 ⟨_,⟨rfl,rfl⟩,Ent.go⟩
theorem clooks_t (q:HProp) (progs:Progs) (hpv:ProgsR q pv progs):Tri Tryz.prog 158 #[.pointer (some ⟨Cb,0,none⟩)] [bl Cb 263 (clV c pv p wv bv s),q]
    fun r L=>r=.tuple ⟨[]⟩∧L=[bl Cb 263 (clV c pv p wv bv (s.looks (rightB (p.code progs)))),q]:=by
  obtain ⟨cv,hins,hcode⟩:=ccode_e q pv progs hpv p
  have hri:=right_rr q cv (p.code progs) hins
  have hc1:=hcode Cb c wv bv { s with next:=3 }
  have hen:=cend_t Cb c pv p wv bv { s with next:=3 } 30 0 true
  obtain ⟨cad,ccap,rfl,_⟩:=hins
  obtain ⟨pad,pcap,rfl,_⟩:=hpv
  unfold Cs.looks
  generalize rightB (p.code progs)=r at hri⊢
  cases r with
  | true =>
    refine Tri.of_body (vs:=[_]) Tryz.func158 rfl rfl fun w0 F=>?_
    repeat' (first|refine Ga ?_|(refine Gb ?_;intro b)|(refine Gd ?_;intro g cap rest hcap)|(refine Gc ?_;intro ad cap)|refine Gl hc1 ?_|refine Gl hri ?_|(refine Ge ?_ ?_<;>(intro h;try (exfalso;omega)))|fail)
    refine St.f1 Tryz.func158 ⟨_,⟨rfl,rfl⟩,Ent.go⟩
  | false =>
    refine Tri.of_body (vs:=[_]) Tryz.func158 rfl rfl fun w0 F=>?_
    repeat' (first|refine Ga ?_|(refine Gb ?_;intro b)|(refine Gd ?_;intro g cap rest hcap)|(refine Gc ?_;intro ad cap)|refine Gl hc1 ?_|refine Gl hri ?_|(refine Gt hen ?_;rintro _ _ ⟨rfl,rfl⟩)|(refine Ge ?_ ?_<;>(intro h;try (exfalso;omega)))|fail)
    refine St.f1 Tryz.func158 ⟨_,⟨rfl,rfl⟩,Ent.go⟩
structure ExH (q:HProp) (code:List Ins) where
  X:Nat
  V:Nat
  Pb:Nat
  W:Nat
  cv:Value
  h:InsR q cv code
def exL (c:Cfg) (q:HProp) (code:List Ins) (e:Xm) (h:ExH q code):List HProp:=[Xe h.X c h.cv h.V h.Pb h.W e.x e.news,bl h.V 215 (viewV c e.v),Pl h.Pb c e.p,Ws h.W 0 e.puts]
theorem cread_t (X:Nat) (cv:Value) (V Pb W:Nat) (e:Xm) (hn:e.news.length≤1000000):Tri Tryz.prog 227 #[.pointer (some ⟨Cb,0,none⟩), .pointer (some ⟨X,0,none⟩)] [bl Cb 263 (clV c pv p wv bv s),Xe X c cv V Pb W e.x e.news]
    fun r L=>r=.tuple ⟨[]⟩∧L=[bl Cb 263 (clV c pv p wv bv (s.read e.x)),Xe X c cv V Pb W e.x e.news]:=by
  have hst:=xstatus_s X V Pb W c cv e
  have hre:=xresult_s X V Pb W c cv e hn
  have hen:=cend_t Cb c pv p wv bv s e.x.rc e.x.rv true
  unfold Cs.read Cs.stale
  by_cases h1:e.x.s=1
  · rw [if_pos h1]
    refine Tri.of_body (vs:=[_,_]) Tryz.func227 rfl rfl fun w0 F=>?_
    repeat' (first|refine Ga ?_|(refine Gb ?_;intro b)|(refine Gd ?_;intro g cap rest hcap)|(refine Gc ?_;intro ad cap)|refine Gl hst ?_|(refine Gt hre ?_;rintro _ _ ⟨rad,rcap,rfl,rfl⟩)|(refine Gt hen ?_;rintro _ _ ⟨rfl,rfl⟩)|(refine Ge ?_ ?_<;>(intro h;try (exfalso;omega)))|fail)
    all_goals first|(exfalso;omega)|skip
    refine St.f1 Tryz.func227 ⟨_,⟨rfl,rfl⟩,Ent.go⟩
  rw [if_neg h1]
  clear hre hen
  by_cases h2:e.x.s=2
  · rw [if_pos h2]
    by_cases h3:IntKind.i64.wrap (s.tried+1)=2
    · cases ha:s.asked with
      | false =>
        rw [if_pos ⟨h3,rfl⟩]
        refine Tri.of_body (vs:=[_,_]) Tryz.func227 rfl rfl fun w0 F=>?_
        repeat' (first|refine Ga ?_|(refine Gb ?_;intro b)|(refine Gd ?_;intro g cap rest hcap)|(refine Gc ?_;intro ad cap)|refine Gl hst ?_|(refine Ge ?_ ?_<;>(intro h;try (exfalso;omega)))|fail)
        all_goals first|(exfalso;omega)|skip
        all_goals first|(exfalso;simp_all;done)|(refine St.f1 Tryz.func227 ⟨_,⟨rfl,rfl⟩, ?_⟩;rw [ha];exact Ent.go)|(refine St.f1 Tryz.func227 ⟨_,⟨rfl,rfl⟩,Ent.go⟩)
      | true =>
        rw [if_neg (fun h=>by cases h.2)]
        refine Tri.of_body (vs:=[_,_]) Tryz.func227 rfl rfl fun w0 F=>?_
        repeat' (first|refine Ga ?_|(refine Gb ?_;intro b)|(refine Gd ?_;intro g cap rest hcap)|(refine Gc ?_;intro ad cap)|refine Gl hst ?_|(refine Ge ?_ ?_<;>(intro h;try (exfalso;omega)))|fail)
        all_goals first|(exfalso;omega)|skip
        all_goals first|(exfalso;simp_all;done)|(refine St.f1 Tryz.func227 ⟨_,⟨rfl,rfl⟩, ?_⟩;rw [ha];exact Ent.go)|(refine St.f1 Tryz.func227 ⟨_,⟨rfl,rfl⟩,Ent.go⟩)
    · rw [if_neg (fun h=>h3 h.1)]
      refine Tri.of_body (vs:=[_,_]) Tryz.func227 rfl rfl fun w0 F=>?_
      repeat' (first|refine Ga ?_|(refine Gb ?_;intro b)|(refine Gd ?_;intro g cap rest hcap)|(refine Gc ?_;intro ad cap)|refine Gl hst ?_|(refine Ge ?_ ?_<;>(intro h;try (exfalso;omega)))|fail)
      all_goals first|(exfalso;omega)|skip
      refine St.f1 Tryz.func227 ⟨_,⟨rfl,rfl⟩,Ent.go⟩
  · rw [if_neg h2]
    refine Tri.of_body (vs:=[_,_]) Tryz.func227 rfl rfl fun w0 F=>?_
    repeat' (first|refine Ga ?_|(refine Gb ?_;intro b)|(refine Gd ?_;intro g cap rest hcap)|(refine Gc ?_;intro ad cap)|refine Gl hst ?_|(refine Ge ?_ ?_<;>(intro h;try (exfalso;omega)))|fail)
    all_goals first|(exfalso;omega)|skip
    refine St.f1 Tryz.func227 ⟨_,⟨rfl,rfl⟩,Ent.go⟩
end
end Go.Proofs.YthmbgodcpgkkeaaGreat
end
section
namespace Go.Proofs.YthmbgodcpgkkeaaGreat
set_option maxRecDepth 100000
abbrev ifv (T:Nat) (b:Nat):Value:=.iface T (.pointer (some ⟨b,0,none⟩))
def WkP (c:Cfg) (pv:Value) (q:HProp) (progs:Progs) (code:List Ins) (wv:Value):Wk→HProp
  | .none=>star []
  | .ex e=>ex (ι:={ h:ExH q code // wv=ifv 71 h.X }) fun h=>exL c q code e h.1
  | .bd b=>ex (ι:={ B:Nat // wv=ifv 93 B }) fun B=>[Bd B.1 c pv q progs b]
  | .hp h=>ex (ι:={ H:Nat // wv=ifv 345 H }) fun H=>[HpE H.1 c h]
  | .sc s=>ex (ι:={ S:Nat // wv=ifv 351 S }) fun S=>[ScE S.1 c s]
def BkP (c:Cfg) (pv:Value) (q:HProp) (progs:Progs) (bv:Value):Option Bm→HProp
  | none=>star []
  | some b=>ex (ι:={ B:Nat // bv=.pointer (some ⟨B,0,none⟩) }) fun B=>[Bd B.1 c pv q progs b]
section
variable {c:Cfg} {pv:Value} {q:HProp} {progs:Progs} {code:List Ins} {L:List HProp}
theorem Ent.wex (e:Xm) (X V Pb W:Nat) (cv:Value) (h:InsR q cv code):Ent (Xe X c cv V Pb W e.x e.news::bl V 215 (viewV c e.v)::Pl Pb c e.p::Ws W 0 e.puts::L) (WkP c pv q progs code (ifv 71 X) (.ex e)::L):=Ent.ex_in (Ls:=fun h:{ h:ExH q code // ifv 71 X=ifv 71 h.X }=>exL c q code e h.1) ⟨⟨X,V,Pb,W,cv,h⟩,rfl⟩
theorem Ent.wbd (b:Bm) (B:Nat):Ent (Bd B c pv q progs b::L) (WkP c pv q progs code (ifv 93 B) (.bd b)::L):=Ent.ex_in (Ls:=fun B':{ B':Nat // ifv 93 B=ifv 93 B' }=>[Bd B'.1 c pv q progs b]) ⟨B,rfl⟩
theorem Ent.whp (h:Hm) (H:Nat):Ent (HpE H c h::L) (WkP c pv q progs code (ifv 345 H) (.hp h)::L):=Ent.ex_in (Ls:=fun B':{ B':Nat // ifv 345 H=ifv 345 B' }=>[HpE B'.1 c h]) ⟨H,rfl⟩
theorem Ent.wsc (s:Sm) (S:Nat):Ent (ScE S c s::L) (WkP c pv q progs code (ifv 351 S) (.sc s)::L):=Ent.ex_in (Ls:=fun B':{ B':Nat // ifv 351 S=ifv 351 B' }=>[ScE B'.1 c s]) ⟨S,rfl⟩
theorem Ent.bbd (b:Bm) (B:Nat):Ent (Bd B c pv q progs b::L) (BkP c pv q progs (.pointer (some ⟨B,0,none⟩)) (some b)::L):=Ent.ex_in (Ls:=fun B':{ B':Nat // Value.pointer (some ⟨B,0,none⟩)=.pointer (some ⟨B',0,none⟩) }=>[Bd B'.1 c pv q progs b]) ⟨B,rfl⟩
end
section
variable (Cb:Nat) (c:Cfg) (hc:Small c) (pv:Value) (p:Cp) (hp:p.args.length=4) (q:HProp) (progs:Progs) (hpv:ProgsR q pv progs) (hf:0≤c.fuel∧c.fuel≤1000)
def cpost (wv:Value) (bv:Value) (m:Cm):List HProp:=[bl Cb 263 (clV c pv p wv bv m.s),WkP c pv q progs (p.code progs) wv m.work,q]
include hc hp hpv hf in
set_option maxHeartbeats 1000000 in
theorem crun_t (wv bv:Value) (m:Cm):Tri Tryz.prog 225 #[.pointer (some ⟨Cb,0,none⟩)] [bl Cb 263 (clV c pv p wv bv m.s),q]
    fun r L=>∃ wv',r=.tuple ⟨[]⟩∧L=cpost Cb c pv p q progs wv' bv (m.run c p progs):=by
  obtain ⟨cv,hins,hcode⟩:=ccode_e q pv progs hpv p
  have hc1:=hcode Cb c wv bv m.s
  have hS:Start c [] 0 0:=⟨hc,hf.2,Nat.zero_le _,by decide,by decide⟩
  have hvn:=vnew_t c p.who m.s.now.seq
  have hpn:=pnew_t c m.s.now.seq
  have hwn:=wnew_t 0 (by decide)
  have hnew:=fun V Pb W=>xnew_s V Pb W 0 c hc cv q (p.code progs) hins (Vw.new p.who m.s.now.seq) (Po.new m.s.now.seq) [] p.args (Nat.zero_le _) (Xi c (p.code progs) [] 0 0 0) (fun hr=>xi_run hS 0 hr 0) (fun hr=>⟨Xinv.init hr hS hf.1 _ _ rfl rfl p.args hp (by show (0:Int)≤0∧(0:Int)≤1000;decide),Xw.init _ _ p.args (Vgo.new _ _)⟩)
  have hXr:=Xr.start (code:=p.code progs) hS hf.1 0 (Vw.new p.who m.s.now.seq) (Po.new m.s.now.seq) rfl rfl p.args hp (by show (0:Int)≤0∧(0:Int)≤1000;decide) (Vgo.new _ _)
  have hnum:=hXr.num hS
  have hrd:=fun X V Pb W=>cread_t Cb c pv p (ifv 71 X) bv { m.s with next:=8 } X cv V Pb W (exStart c p progs m.s.now.seq) (by have:=hnum.2.2.2.2.2.1;show (Xm.start _ _ _ _ _ _ _).news.length≤_;omega)
  have hins0:=hins
  obtain ⟨cad,ccap,rfl,_⟩:=hins
  obtain ⟨pad,pcap,rfl,_⟩:=hpv
  have htk:=take_cl c (.slice pad progs.length pcap) p wv bv m.s
  unfold xsL at hnew
  unfold cpost Cm.run
  rw [show Xm.start c 0 (p.code progs) (Vw.new p.who m.s.now.seq) (Po.new m.s.now.seq) [] p.args=exStart c p progs m.s.now.seq from rfl] at hnew
  dsimp only
  generalize exStart c p progs m.s.now.seq=e at hnew hrd⊢
  refine Tri.of_body (vs:=[_]) Tryz.func225 rfl rfl fun w0 F=>?_
  repeat' (first|refine Ga ?_|(refine Gb ?_;intro b)|(refine Gd ?_;intro g cap rest hcap)|(refine Gc ?_;intro ad cap)|(refine St.draw (id:=0) [(0,0),(1,0),(2,0),(3,1),(4,0),(5,1),(6,0),(7,0),(8,0),(9,0),(10,1),(11,0),(12,0),(13,0),(14,1),(15,0),(16,0),(17,0),(18,1),(19,0),(20,0),(21,0),(22,0),(23,1),(25,0),(26,0),(27,0),(28,1),(29,0),(30,0),(31,0),(32,0),(33,1),(24,2),(34,2),(35,2),(36,3),(37,0)] [36] mixed (by kernel_rfl) ?_)| refine Gl hc1 ?_|(refine Gt hvn ?_;rintro _ _ ⟨V,rfl,rfl⟩)|(refine Gu hvn ?_;rintro _ _ ⟨V,rfl,rfl⟩;refine ⟨Ent.go, ?_⟩)|(refine Gt hpn ?_;rintro _ _ ⟨Pb,rfl,rfl⟩)|(refine Gu hpn ?_;rintro _ _ ⟨Pb,rfl,rfl⟩;refine ⟨Ent.go, ?_⟩)|(refine Gt hwn ?_;rintro _ _ ⟨W,rfl,rfl⟩)|(refine Gu hwn ?_;rintro _ _ ⟨W,rfl,rfl⟩;refine ⟨Ent.go, ?_⟩)|(refine Gt (hnew _ _ _) ?_;rintro _ _ ⟨X,rfl,rfl⟩)|(refine Gu (hnew _ _ _) ?_;rintro _ _ ⟨X,rfl,rfl⟩;refine ⟨Ent.go, ?_⟩)|(refine Gt (hrd _ _ _ _) ?_;rintro _ _ ⟨rfl,rfl⟩)|(refine Gu (hrd _ _ _ _) ?_;rintro _ _ ⟨rfl,rfl⟩;refine ⟨Ent.go, ?_⟩)|(refine Ge ?_ ?_<;>(intro h;try (exfalso;omega)))|fail)
  refine St.f1 Tryz.func225 ⟨_,⟨ifv 71 X,rfl,rfl⟩, ?_⟩
  refine Ent.trans (M:=Xe X c (.slice cad (p.code progs).length ccap) V Pb W e.x e.news::bl V 215 (viewV c e.v)::Pl Pb c e.p::Ws W 0 e.puts::bl Cb 263 (clV c (.slice pad progs.length pcap) p (ifv 71 X) bv (Cs.read { m.s with next:=8 } e.x))::q::F) Ent.go ?_
  refine Ent.trans (Ent.wex (pv:=.slice pad progs.length pcap) (progs:=progs) e X V Pb W _ hins0) ?_
  exact Ent.go
include hc hp hpv hf in
theorem ctry_t (wv bv:Value) (m:Cm):Tri Tryz.prog 224 #[.pointer (some ⟨Cb,0,none⟩)] [bl Cb 263 (clV c pv p wv bv m.s),WkP c pv q progs (p.code progs) wv m.work,q]
    fun r L=>∃ wv',r=.tuple ⟨[]⟩∧L=cpost Cb c pv p q progs wv' bv (m.try_ c p progs):=by
  have hrun:=crun_t Cb c hc pv p hp q progs hpv hf wv bv m
  obtain ⟨pad,pcap,rfl,_⟩:=hpv
  unfold cpost at hrun⊢
  unfold Cm.try_
  cases ha:m.s.asked with
  | true =>
    rw [if_pos rfl]
    clear hrun
    refine Tri.of_body (vs:=[_]) Tryz.func224 rfl rfl fun w0 F=>?_
    repeat' (first|refine Ga ?_|(refine Gb ?_;intro b)|(refine Gd ?_;intro g cap rest hcap)|(refine Gc ?_;intro ad cap) |(refine Ge ?_ ?_<;>(intro h;try (exfalso;omega)))|fail)
    all_goals first|(exfalso;simp_all;done)|skip
    refine St.d1 Tryz.func224 ⟨_,⟨wv,rfl,rfl⟩,Ent.go⟩
  | false =>
    rw [if_neg (by decide)]
    refine Tri.of_body (vs:=[_]) Tryz.func224 rfl rfl fun w0 F=>?_
    repeat' (first|refine Ga ?_|(refine Gb ?_;intro b)|(refine Gd ?_;intro g cap rest hcap)|(refine Gc ?_;intro ad cap) |(refine Gt hrun ?_;rintro _ _ ⟨wv',rfl,rfl⟩)|(refine Ge ?_ ?_<;>(intro h;try (exfalso;omega)))|fail)
    all_goals first|(exfalso;simp_all;done)|skip
    refine St.f1 Tryz.func224 ⟨_,⟨wv',rfl,rfl⟩,Ent.go⟩
include hc hp hpv hf in
theorem copened_t (wv bv:Value) (m:Cm) (x:Cell):Tri Tryz.prog 159 #[.pointer (some ⟨Cb,0,none⟩), .agg ⟨x.v⟩] [bl Cb 263 (clV c pv p wv bv m.s),WkP c pv q progs (p.code progs) wv m.work,q]
    fun r L=>∃ wv',r=.tuple ⟨[]⟩∧L=cpost Cb c pv p q progs wv' bv (m.opened c p progs x):=by
  have htr:=ctry_t Cb c hc pv p hp q progs hpv hf wv bv m
  have how:=cowner_r Cb c pv p wv bv m.s hc
  have hnew:=hnew_t c p.who (m.s.owner c) m.s.now.seq
  have hce:=cell_eq x m.s.now.seq
  have htk:=take_cl c pv p wv bv m.s
  obtain ⟨pad,pcap,rfl,_⟩:=hpv
  obtain ⟨xv,xs⟩:=x
  unfold cpost at htr⊢
  unfold Cm.opened Cell.v
  dsimp only at hce⊢
  by_cases he:(⟨xv,xs⟩:Cell)=⟨1,m.s.now.seq⟩
  · rw [if_pos he]
    rw [decide_eq_true he] at hce
    injection he with he1 he2
    clear htr
    refine Tri.of_body (vs:=[_,_]) Tryz.func159 rfl rfl fun w0 F=>?_
    repeat' (first|refine Ga ?_|(refine Gb ?_;intro b)|(refine Gd ?_;intro g cap rest hcap)|(refine Gc ?_;intro ad cap)|(refine St.draw (id:=1) [(0,1),(1,0),(2,0),(3,0),(4,0),(5,1),(6,0),(7,0)] [] mixed (by kernel_rfl) ?_)|(refine St.draw (id:=2) [(0,0),(1,0),(2,0),(3,0),(4,1),(5,0),(6,0),(7,0),(8,1),(9,0),(10,1),(11,0),(12,0),(13,0),(14,0),(15,1),(16,3),(17,0),(18,0),(19,0),(20,3)] [16,20] mixed (by kernel_rfl) ?_)| refine Gl how ?_|(refine Gt hnew ?_;rintro _ _ ⟨H,rfl,rfl⟩)|(refine Ge ?_ ?_<;>(intro h;try (exfalso;omega)))|fail)
    all_goals first|(exfalso;omega)|(exact Bool.noConfusion (hce.symm.trans h))|(exact Bool.noConfusion (h.symm.trans hce))|skip
    all_goals refine St.d1 Tryz.func159 ⟨_,⟨ifv 345 H,rfl,rfl⟩, ?_⟩
    all_goals exact Ent.trans (Ent.trans Ent.go (Ent.whp (pv:=.slice pad progs.length pcap) (q:=q) (progs:=progs) (code:=p.code progs) (Hm.new p.who (m.s.owner c) m.s.now.seq) H)) Ent.go
  · rw [if_neg he]
    rw [decide_eq_false he] at hce
    have he1:¬ (xv=1∧xs=m.s.now.seq):=fun h=>he (by rw [h.1,h.2])
    clear hnew how
    refine Tri.of_body (vs:=[_,_]) Tryz.func159 rfl rfl fun w0 F=>?_
    repeat' (first|refine Ga ?_|(refine Gb ?_;intro b)|(refine Gd ?_;intro g cap rest hcap)|(refine Gc ?_;intro ad cap)|(refine St.draw (id:=1) [(0,1),(1,0),(2,0),(3,0),(4,0),(5,1),(6,0),(7,0)] [] mixed (by kernel_rfl) ?_)|(refine St.draw (id:=2) [(0,0),(1,0),(2,0),(3,0),(4,1),(5,0),(6,0),(7,0),(8,1),(9,0),(10,1),(11,0),(12,0),(13,0),(14,0),(15,1),(16,3),(17,0),(18,0),(19,0),(20,3)] [16,20] mixed (by kernel_rfl) ?_)|(refine Gt htr ?_;rintro _ _ ⟨wv',rfl,rfl⟩)|(refine Ge ?_ ?_<;>(intro h;try (exfalso;omega)))|fail)
    all_goals first|(exfalso;omega)|(exact Bool.noConfusion (hce.symm.trans h))|(exact Bool.noConfusion (h.symm.trans hce))|skip
    all_goals refine St.f1 Tryz.func159 ⟨_,⟨wv',rfl,rfl⟩,Ent.go⟩
end
end Go.Proofs.YthmbgodcpgkkeaaGreat
end
