/-
  Package tumblerlaw15: does. Package tumblerlaw15: alive.
-/
import Derived.Test.YthmbgodcpgkkeaaGreatVz
import Derived.Test.YthmbgodcpgkkeaaGreatRowq
namespace Go.Proofs.YthmbgodcpgkkeaaGreat
set_option maxRecDepth 100000
def crow (c:Cfg) (p:Cp) (progs:Progs) (s:Pm×Cm):Nat→List BRow
  | 0=>[]
  | k+1=>if (cit c p progs s (k+1)).2.rows.length=0 then crow c p progs s k else (cit c p progs s (k+1)).2.rows
theorem cit_inv {c:Cfg} (hc:Small c) (hf:0≤c.fuel∧c.fuel≤1000) {p:Cp} (hp:p.args.length=4) {progs:Progs} {s:Pm×Cm} (h:Cinv c p progs s.2) (hr:Crt p progs s.2) (hst:s.1.st.length=8):∀ k,Cinv c p progs (cit c p progs s k).2∧Crt p progs (cit c p progs s k).2∧(cit c p progs s k).1.st.length=8∧(cit c p progs s k).1.cs.length=s.1.cs.length∧(cit c p progs s k).1.tr.length≤s.1.tr.length+k
  | 0=>⟨h,hr,hst,rfl,Nat.le_refl _⟩
  | k+1=>by
    obtain ⟨h1,h1r,h2,h3,h4⟩:=cit_inv hc hf hp h hr hst k
    obtain ⟨g1,g2,g3⟩:=Pm.do_len (cit c p progs s k).1 p.who ((cit c p progs s k).2.ask c p).1
    refine ⟨?_, ?_, ?_, ?_, ?_⟩
    · exact h1.tell hc hf hp _
    · exact h1r.tell _
    · rw [←h2];exact g2
    · rw [←h3];exact g1
    · have:(cit c p progs s (k+1)).1.tr.length≤(cit c p progs s k).1.tr.length+1:=g3
      omega
theorem crow_len {c:Cfg} {p:Cp} {progs:Progs} {s:Pm×Cm} (h:∀ k,(cit c p progs s k).2.rows.length≤1000):∀ k,(crow c p progs s k).length≤1000
  | 0=>Nat.zero_le _
  | k+1=>by
    unfold crow
    split
    · exact crow_len h k
    · exact h _
set_option maxHeartbeats 1000000 in
theorem does_t (Mb C Cb:Nat) (c:Cfg) (hc:Small c) (hf:0≤c.fuel∧c.fuel≤1000) (hlast:c.last≤140737488355328) (p:Cp) (hp:p.args.length=4) (hwho:0≤p.who∧p.who≤1000) (pv:Value) (q:HProp) (progs:Progs) (hpv:ProgsR q pv progs) (s0:Pm×Cm) (hi:Cinv c p progs s0.2) (hr:Crt p progs s0.2) (hst:s0.1.st.length=8) (most:Int) (hmost:most≤1000000000) (N:Nat) (hN:(N:Int)≤most) (htr:s0.1.tr.length+N≤1000000)
    (hask:∀ k≤N,((cit c p progs s0 k).2.ask c p).2=decide (k<N)) :
    Tri Tryz.prog 83 #[.pointer (some ⟨Mb,0,none⟩), .int .i64 p.who, .pointer (some ⟨Cb,0,none⟩), .int .i64 most] [Mm Mb C s0.1,ClE Cb c pv p q progs s0.2,q]
      fun r L=>∃ ad cap,r=.tuple ⟨[.int .i64 (N:Int), .slice ad (crow c p progs s0 N).length cap]⟩∧L=[Mm Mb C (cit c p progs s0 N).1,ClE Cb c pv p q progs (cit c p progs s0 N).2,RwE (.slice ad (crow c p progs s0 N).length cap) (crow c p progs s0 N),q]:=by
  have hinv:=cit_inv hc hf hp hi hr hst
  have hrl:∀ k,(cit c p progs s0 k).2.rows.length≤1000:=fun k=>crows_len hc (hinv k).1
  have hcl:=crow_len hrl
  have hask1:∀ k,k≤N→RTri Tryz.prog 63 #[.pointer (some ⟨Cb,0,none⟩)] [ClE Cb c pv p q progs (cit c p progs s0 k).2] (.tuple ⟨[.agg ⟨((cit c p progs s0 k).2.ask c p).1.v⟩, .bool (decide (k<N))]⟩):=fun k hk=>by
    rw [←hask k hk];exact cask_r Cb c hc pv p q progs hwho hlast _ (hinv k).1
  have hdo:∀ k,k<N→Tri Tryz.prog 87 #[.pointer (some ⟨Mb,0,none⟩), .int .i64 p.who, .agg ⟨((cit c p progs s0 k).2.ask c p).1.v⟩] [Mm Mb C (cit c p progs s0 k).1]
      fun v L=>∃ e,v=.tuple ⟨[.agg ⟨((cit c p progs s0 k).1.do p.who ((cit c p progs s0 k).2.ask c p).1).2.v⟩, .int .i64 e]⟩∧L=[Mm Mb C (cit c p progs s0 (k+1)).1]:=fun k hk=>by
    have h2:=hinv k
    exact mdo_t Mb C (cit c p progs s0 k).1 h2.2.2.1 (by have:=h2.2.2.2.2;omega) p.who ((cit c p progs s0 k).2.ask c p).1
  have htell:∀ k,Tri Tryz.prog 70 #[.pointer (some ⟨Cb,0,none⟩), .agg ⟨((cit c p progs s0 k).1.do p.who ((cit c p progs s0 k).2.ask c p).1).2.v⟩] [ClE Cb c pv p q progs (cit c p progs s0 k).2,q]
      fun r L=>r=.tuple ⟨[]⟩∧L=[ClE Cb c pv p q progs (cit c p progs s0 (k+1)).2,q]:=fun k =>
    ctell_t Cb c hc pv p hp q progs hpv hf hlast (cit c p progs s0 k).2 (hinv k).1 (hinv k).2.1 _
  have hrows:=fun k=>crows_t Cb c hc pv p q progs hpv (cit c p progs s0 k).2 (hinv k).1
  have hs:∀ k,crow c p progs s0 (k+1)=if (cit c p progs s0 (k+1)).2.rows.length=0 then crow c p progs s0 k else (cit c p progs s0 (k+1)).2.rows:=fun _=>rfl
  have h00:crow c p progs s0 0=[]:=rfl
  have e0:cit c p progs s0 0=s0:=rfl
  generalize crow c p progs s0=cr at hs h00 hcl⊢
  generalize cit c p progs s0=it at hask1 hdo htell hrows hrl hs e0⊢
  rw [←e0]
  clear hask hinv hi hr hst htr e0
  unfold MOp.v at hask1 hdo
  have ha0:=hask1 0 (Nat.zero_le _)
  refine Tri.of_body (vs:=[_,_,_,_]) Tryz.func83 rfl rfl fun w0 F=>?_
  repeat' (first|refine Ga ?_|(refine Gb ?_;intro b)|(refine Gd ?_;intro g cap rest hcap)|(refine Gc ?_;intro ad cap)|refine Gl ha0 ?_|(refine Ge ?_ ?_<;>(intro h;try (exfalso;omega)))|fail)
  revert b;intro A
  refine St.conv ?_ (Sub.refl _) Ent.rw0
  refine St.loopY (Lr:=?Lr1) (ι:={ x:Nat×Nat×Option Addr×Nat // x.1≤N }) (fun x=>N - x.1.1) (fun x=>[(12, .pointer (some ⟨x.1.2.1,0,none⟩)),(13, .bool (decide (x.1.1<N))),(11, .int .i64 (x.1.1:Int)),(10, .slice x.1.2.2.1 (cr x.1.1).length x.1.2.2.2)])
    (fun x=>[bl x.1.2.1 41 (opL ((it x.1.1).2.ask c p).1),ClE Cb c pv p q progs (it x.1.1).2,RwE (.slice x.1.2.2.1 (cr x.1.1).length x.1.2.2.2) (cr x.1.1),Mm Mb C (it x.1.1).1]) ⟨(0,A,none,0),Nat.zero_le _⟩ ?hE1 ?hL1 ?round1
  case hE1=>dsimp only;rw [h00];exact Sub.go
  case hL1=>dsimp only;rw [h00];unfold opL;exact Takes.go
  case round1 =>
    rintro ⟨⟨k,Ak,rad,rcap⟩,hk⟩ IH;dsimp only at hk IH⊢
    unfold opL at IH⊢
    have hck:=hcl k
    by_cases hlt:k<N
    · rw [decide_eq_true hlt]
      have h1:=hdo k hlt
      have h2:=htell k
      have h3:=hrows (k+1)
      have h4:=hask1 (k+1) hlt
      have hsk:=hs k
      have hrk:=hrl (k+1)
      by_cases hz:(it (k+1)).2.rows.length=0
      · rw [if_pos hz] at hsk
        repeat' (first|refine Ga ?_|(refine Gb ?_;intro b)|(refine Gd ?_;intro g cap rest hcap)|(refine Gc ?_;intro ad cap)|refine Gl h4 ?_|(refine Gt h1 ?_;rintro _ _ ⟨e,rfl,rfl⟩)|(refine Gt h2 ?_;rintro _ _ ⟨rfl,rfl⟩)|(refine Gt h3 ?_;rintro _ _ ⟨ad,cap,rfl,rfl⟩)|(refine Ge ?_ ?_<;>(intro h;try (exfalso;omega)))|fail)
        all_goals first|(exfalso;omega)|skip
        refine IH ⟨(k+1,b,rad,rcap),by dsimp only;omega⟩ (by show N - (k+1)<N - k;omega) ?_ ?_
        · dsimp only;rw [hsk];exact Sub.go
        · dsimp only;rw [hsk];exact Ent.go
      · rw [if_neg hz] at hsk
        repeat' (first|refine Ga ?_|(refine Gb ?_;intro b)|(refine Gd ?_;intro g cap rest hcap)|(refine Gc ?_;intro ad cap)|refine Gl h4 ?_|(refine Gt h1 ?_;rintro _ _ ⟨e,rfl,rfl⟩)|(refine Gt h2 ?_;rintro _ _ ⟨rfl,rfl⟩)|(refine Gt h3 ?_;rintro _ _ ⟨ad,cap,rfl,rfl⟩)|(refine Ge ?_ ?_<;>(intro h;try (exfalso;omega)))|fail)
        all_goals first|(exfalso;omega)|skip
        refine IH ⟨(k+1,b,ad,cap),by dsimp only;omega⟩ (by show N - (k+1)<N - k;omega) ?_ ?_
        · dsimp only;rw [hsk];exact Sub.go
        · dsimp only;rw [hsk];exact Ent.go
    · have hkN:k=N:=by omega
      subst hkN
      rw [decide_eq_false hlt]
      clear IH
      repeat' (first|refine Ga ?_|(refine Gb ?_;intro b)|(refine Gd ?_;intro g cap rest hcap)|(refine Gc ?_;intro ad cap) |(refine Ge ?_ ?_<;>(intro h;try (exfalso;omega)))|fail)
      all_goals first|(exfalso;omega)|skip
      refine St.d1 Tryz.func83 ⟨_,⟨rad,rcap,rfl,rfl⟩,Ent.go⟩
end Go.Proofs.YthmbgodcpgkkeaaGreat
namespace Go.Proofs.YthmbgodcpgkkeaaGreat
set_option maxRecDepth 100000
theorem RTri.ex_out {P:Program} {f:FuncId} {args:Array Value} {v:Value} {ι:Type} {Ls:ι→List HProp} {L:List HProp} (h:∀ x,RTri P f args (Ls x++L) v):RTri P f args (ex Ls::L) v:=by
  unfold RTri at *
  intro w hs
  obtain ⟨x,hs⟩:=sat_ex hs
  exact h x w hs
section
variable (Cb:Nat) (c:Cfg) (pv:Value) (p:Cp) (q:HProp) (progs:Progs) (m:Cm)
theorem cdone_e:RTri Tryz.prog 64 #[.pointer (some ⟨Cb,0,none⟩)] [ClE Cb c pv p q progs m] (.bool (decide (m.s.next=13))):=RTri.ex_out fun a=>(cdone_r Cb c pv p a.1 a.2 m.s).ent (by unfold clL;exact Ent.go)
theorem cresult_e:RTri Tryz.prog 68 #[.pointer (some ⟨Cb,0,none⟩)] [ClE Cb c pv p q progs m] (.agg ⟨[.int .i64 m.s.rc, .int .u64 (m.s.rv:Int)]⟩):=RTri.ex_out fun a=>(cresult_r Cb c pv p a.1 a.2 m.s).ent (by unfold clL;exact Ent.go)
theorem clooked_e:RTri Tryz.prog 65 #[.pointer (some ⟨Cb,0,none⟩)] [ClE Cb c pv p q progs m] (.bool m.s.fresh):=RTri.ex_out fun a=>(clooked_r Cb c pv p a.1 a.2 m.s).ent (by unfold clL;exact Ent.go)
theorem calone_e:RTri Tryz.prog 69 #[.pointer (some ⟨Cb,0,none⟩)] [ClE Cb c pv p q progs m] (.bool m.s.alone):=RTri.ex_out fun a=>(calone_r Cb c pv p a.1 a.2 m.s).ent (by unfold clL;exact Ent.go)
end
theorem mpeek_r (Mb C:Nat) (M:Pm) (p:Int):RTri Tryz.prog 86 #[.pointer (some ⟨Mb,0,none⟩), .int .i64 p] [Mm Mb C M] (.tuple ⟨[.agg ⟨(peekOf M.cs p).v⟩, .bool (decide (0≤p∧p<((M.cs.length:Nat):Int)))]⟩):=by
  unfold Mm
  exact RTri.ex_out fun tv=>(peek_r Mb C M.cs.length M.cs rfl M.st tv p).ent (by unfold mmL;exact Ent.go)
def cfg15:Cfg:=⟨2,3,20,50,5,6⟩
def ca15:List Ins:=[⟨8,1,0,0,0⟩,⟨10,1,2,0,0⟩,⟨20,1,0,0,0⟩]
def cb15:List Ins:=[⟨9,1,2,0,0⟩,⟨20,1,0,0,0⟩]
def progs15:Progs:=[ca15,cb15]
def boot15:Pm:=⟨cfg15.boot,zeros8,[]⟩
def p1:Cp:=⟨1,1,0,[7,0,0,0]⟩
def p2:Cp:=⟨0,1,1,[0,0,0,0]⟩
def p3:Cp:=⟨0,2,0,[0,0,0,0]⟩
def p4:Cp:=⟨0,3,2,[0,0,0,0]⟩
def st1:Pm×Cm:=(boot15,Cm.new p1 progs15)
def it1:Pm×Cm:=cit cfg15 p1 progs15 st1 35
def st2:Pm×Cm:=(it1.1,Cm.new p2 progs15)
def it2:Pm×Cm:=cit cfg15 p2 progs15 st2 3
def st3:Pm×Cm:=(it2.1,Cm.new p3 progs15)
def it3:Pm×Cm:=cit cfg15 p3 progs15 st3 8
def st4:Pm×Cm:=(it3.1,Cm.new p4 progs15)
def it4:Pm×Cm:=cit cfg15 p4 progs15 st4 1
theorem small15:Small cfg15:=Cfg.small (by decide +kernel)
theorem asks1:∀ k≤35,((cit cfg15 p1 progs15 st1 k).2.ask cfg15 p1).2=decide (k<35):=by decide +kernel
theorem asks2:∀ k≤3,((cit cfg15 p2 progs15 st2 k).2.ask cfg15 p2).2=decide (k<3):=by decide +kernel
theorem asks3:∀ k≤8,((cit cfg15 p3 progs15 st3 k).2.ask cfg15 p3).2=decide (k<8):=by decide +kernel
theorem asks4:∀ k≤1,((cit cfg15 p4 progs15 st4 k).2.ask cfg15 p4).2=decide (k<1):=by decide +kernel
theorem res1:it1.2.s.next=13∧it1.2.s.rc=0∧it1.2.s.rv=7∧it1.2.s.alone=false:=by decide +kernel
theorem res2:it2.2.s.rc=0∧it2.2.s.rv=7∧it2.2.s.alone=true:=by decide +kernel
theorem res3:it3.2.s.rc=45∧it3.2.s.alone=true:=by decide +kernel
theorem res4:it4.2.s.rc=30∧it4.2.s.fresh=true:=by decide +kernel
theorem rows1:(crow cfg15 p1 progs15 st1 35).length=1:=by decide +kernel
theorem rows2:(crow cfg15 p2 progs15 st2 3).length=0:=by decide +kernel
theorem now15:peekOf it4.1.cs 0=⟨1,6⟩:=by kernel_rfl
theorem inv1:Cinv cfg15 p1 progs15 st1.2∧Crt p1 progs15 st1.2∧st1.1.st.length=8:=⟨Cinv.new,Crt.new,rfl⟩
theorem inv2:Cinv cfg15 p2 progs15 st2.2∧Crt p2 progs15 st2.2∧st2.1.st.length=8:=⟨Cinv.new,Crt.new,(cit_inv small15 (by decide) (p:=p1) rfl inv1.1 inv1.2.1 inv1.2.2 35).2.2.1⟩
theorem inv3:Cinv cfg15 p3 progs15 st3.2∧Crt p3 progs15 st3.2∧st3.1.st.length=8:=⟨Cinv.new,Crt.new,(cit_inv small15 (by decide) (p:=p2) rfl inv2.1 inv2.2.1 inv2.2.2 3).2.2.1⟩
theorem inv4:Cinv cfg15 p4 progs15 st4.2∧Crt p4 progs15 st4.2∧st4.1.st.length=8:=⟨Cinv.new,Crt.new,(cit_inv small15 (by decide) (p:=p3) rfl inv3.1 inv3.2.1 inv3.2.2 8).2.2.1⟩
theorem tr15:st1.1.tr.length+35≤1000000∧st2.1.tr.length+3≤1000000∧st3.1.tr.length+8≤1000000∧st4.1.tr.length+1≤1000000:=by decide +kernel
theorem bound15:boundN cfg15=10555:=by decide +kernel
def q15 (b1 b2 bo:Nat):HProp:=star [bl b1 200 (ca15.flatMap Ins.v),bl b2 200 (cb15.flatMap Ins.v),bl bo 67 [.slice (some ⟨b1,0,none⟩) 3 3, .slice (some ⟨b2,0,none⟩) 2 2]]
theorem progs15_r (b1 b2 bo:Nat):ProgsR (q15 b1 b2 bo) (.slice (some ⟨bo,0,none⟩) 2 2) progs15:=by
  refine ⟨_,_,rfl,by decide,fun i hi=>?_⟩
  have h0:i=0∨i=1:=by simp only [progs15,List.length_cons,List.length_nil] at hi;omega
  rcases h0 with rfl|rfl
  · refine ⟨bo,0,_,_,rfl,RdC.starR (.there (.there (.here .bl))), .zero,_,_,rfl, .inr ⟨b1,0,_,[],rfl,RdC.starR (.here .bl), ?_⟩⟩
    rw [List.append_nil]
    exact .zero
  · refine ⟨bo,0,_,_,rfl,RdC.starR (.there (.there (.here .bl))), .succ .zero,_,_,rfl, .inr ⟨b2,0,_,[],rfl,RdC.starR (.there (.here .bl)), ?_⟩⟩
    rw [List.append_nil]
    exact .zero
theorem sample15_r:RTri Tryz.prog 148 #[] [] (.agg ⟨cfg15.v⟩):=by
  apply RTri.of_pure
  refine Tri.of_body (vs:=[]) Tryz.func148 rfl rfl fun w0 F=>?_
  repeat' (first|refine Ga ?_|(refine Gb ?_;intro b)|(refine Gd ?_;intro g cap rest hcap)|(refine Gc ?_;intro ad cap) |(refine Ge ?_ ?_<;>(intro h;try (exfalso;omega)))|fail)
  (first|refine St.dn Tryz.func148 ⟨?_,rfl⟩ Ent.go|refine St.fl Tryz.func148 ⟨?_,rfl⟩ Ent.go)
  rfl
theorem d1_t (Mb C Cb b1 b2 bo:Nat):Tri Tryz.prog 83 #[.pointer (some ⟨Mb,0,none⟩), .int .i64 1, .pointer (some ⟨Cb,0,none⟩), .int .i64 100] [Mm Mb C boot15,ClE Cb cfg15 (.slice (some ⟨bo,0,none⟩) 2 2) p1 (q15 b1 b2 bo) progs15 (Cm.new p1 progs15),q15 b1 b2 bo]
    fun r L=>∃ ad cap,r=.tuple ⟨[.int .i64 35, .slice ad 1 cap]⟩∧L=[Mm Mb C it1.1,ClE Cb cfg15 (.slice (some ⟨bo,0,none⟩) 2 2) p1 (q15 b1 b2 bo) progs15 it1.2,RwE (.slice ad 1 cap) (crow cfg15 p1 progs15 st1 35),q15 b1 b2 bo]:=by
  have h:=does_t Mb C Cb cfg15 small15 (by decide) (by decide) p1 rfl (by decide) _ (q15 b1 b2 bo) progs15 (progs15_r b1 b2 bo) st1 inv1.1 inv1.2.1 inv1.2.2 100 (by decide) 35 (by decide) tr15.1 asks1
  rw [rows1] at h
  exact h
theorem d2_t (Mb C Cb b1 b2 bo:Nat):Tri Tryz.prog 83 #[.pointer (some ⟨Mb,0,none⟩), .int .i64 0, .pointer (some ⟨Cb,0,none⟩), .int .i64 100] [Mm Mb C it1.1,ClE Cb cfg15 (.slice (some ⟨bo,0,none⟩) 2 2) p2 (q15 b1 b2 bo) progs15 (Cm.new p2 progs15),q15 b1 b2 bo]
    fun r L=>∃ ad cap,r=.tuple ⟨[.int .i64 3, .slice ad 0 cap]⟩∧L=[Mm Mb C it2.1,ClE Cb cfg15 (.slice (some ⟨bo,0,none⟩) 2 2) p2 (q15 b1 b2 bo) progs15 it2.2,RwE (.slice ad 0 cap) (crow cfg15 p2 progs15 st2 3),q15 b1 b2 bo]:=by
  have h:=does_t Mb C Cb cfg15 small15 (by decide) (by decide) p2 rfl (by decide) _ (q15 b1 b2 bo) progs15 (progs15_r b1 b2 bo) st2 inv2.1 inv2.2.1 inv2.2.2 100 (by decide) 3 (by decide) tr15.2.1 asks2
  rw [rows2] at h
  exact h
theorem d3_t (Mb C Cb b1 b2 bo:Nat):Tri Tryz.prog 83 #[.pointer (some ⟨Mb,0,none⟩), .int .i64 0, .pointer (some ⟨Cb,0,none⟩), .int .i64 100] [Mm Mb C it2.1,ClE Cb cfg15 (.slice (some ⟨bo,0,none⟩) 2 2) p3 (q15 b1 b2 bo) progs15 (Cm.new p3 progs15),q15 b1 b2 bo]
    fun r L=>∃ ad cap,r=.tuple ⟨[.int .i64 8, .slice ad (crow cfg15 p3 progs15 st3 8).length cap]⟩∧L=[Mm Mb C it3.1,ClE Cb cfg15 (.slice (some ⟨bo,0,none⟩) 2 2) p3 (q15 b1 b2 bo) progs15 it3.2,RwE (.slice ad (crow cfg15 p3 progs15 st3 8).length cap) (crow cfg15 p3 progs15 st3 8),q15 b1 b2 bo]:=by
  have h:=does_t Mb C Cb cfg15 small15 (by decide) (by decide) p3 rfl (by decide) _ (q15 b1 b2 bo) progs15 (progs15_r b1 b2 bo) st3 inv3.1 inv3.2.1 inv3.2.2 100 (by decide) 8 (by decide) tr15.2.2.1 asks3
  exact h
theorem d4_t (Mb C Cb b1 b2 bo:Nat):Tri Tryz.prog 83 #[.pointer (some ⟨Mb,0,none⟩), .int .i64 0, .pointer (some ⟨Cb,0,none⟩), .int .i64 100] [Mm Mb C it3.1,ClE Cb cfg15 (.slice (some ⟨bo,0,none⟩) 2 2) p4 (q15 b1 b2 bo) progs15 (Cm.new p4 progs15),q15 b1 b2 bo]
    fun r L=>∃ ad cap,r=.tuple ⟨[.int .i64 1, .slice ad (crow cfg15 p4 progs15 st4 1).length cap]⟩∧L=[Mm Mb C it4.1,ClE Cb cfg15 (.slice (some ⟨bo,0,none⟩) 2 2) p4 (q15 b1 b2 bo) progs15 it4.2,RwE (.slice ad (crow cfg15 p4 progs15 st4 1).length cap) (crow cfg15 p4 progs15 st4 1),q15 b1 b2 bo]:=by
  have h:=does_t Mb C Cb cfg15 small15 (by decide) (by decide) p4 rfl (by decide) _ (q15 b1 b2 bo) progs15 (progs15_r b1 b2 bo) st4 inv4.1 inv4.2.1 inv4.2.2 100 (by decide) 1 (by decide) tr15.2.2.2 asks4
  exact h
theorem n15_t (p:Cp) (b1 b2 bo:Nat):Tri Tryz.prog 61 #[.agg ⟨cfg15.m⟩, .int .i64 p.who, .int .u64 (p.tag:Int), .slice (some ⟨bo,0,none⟩) 2 2, .agg ⟨.int .i64 p.prog::g4 p.args⟩] [q15 b1 b2 bo]
    fun r L=>∃ Cb,r=.pointer (some ⟨Cb,0,none⟩)∧L=[ClE Cb cfg15 (.slice (some ⟨bo,0,none⟩) 2 2) p (q15 b1 b2 bo) progs15 (Cm.new p progs15),q15 b1 b2 bo]:=cnew_t cfg15 small15 _ p (q15 b1 b2 bo) progs15 (progs15_r b1 b2 bo)
set_option maxHeartbeats 4000000 in
theorem alive15_t:Tri Tryz.prog 59 #[] [] fun v L=>v=.bool true∧L=[]:=by
  have hr:cfg15.right=true:=by decide +kernel
  have hof:=of_r cfg15
  unfold Cfg.ofV at hof
  rw [hr] at hof
  have hb:=bootm_t cfg15 small15
  have hn1:=n15_t p1
  have hn2:=n15_t p2
  have hn3:=n15_t p3
  have hn4:=n15_t p4
  have hd1:=d1_t
  have hd2:=d2_t
  have hd3:=d3_t
  have hd4:=d4_t
  have hbo:=bound_r cfg15
  rw [bound15] at hbo
  have hdn:=fun Cb pv q=>cdone_e Cb cfg15 pv p1 q progs15 (Cm.new p1 progs15)
  rw [show decide ((Cm.new p1 progs15).s.next=13)=false by decide +kernel] at hdn
  have hdn1:=fun Cb pv q=>cdone_e Cb cfg15 pv p1 q progs15 it1.2
  have hr1:=fun Cb pv q=>cresult_e Cb cfg15 pv p1 q progs15 it1.2
  have ha1:=fun Cb pv q=>calone_e Cb cfg15 pv p1 q progs15 it1.2
  rw [res1.1,show decide ((13:Int)=13)=true from rfl] at hdn1
  rw [res1.2.1,res1.2.2.1] at hr1
  rw [res1.2.2.2] at ha1
  have hr2:=fun Cb pv q=>cresult_e Cb cfg15 pv p2 q progs15 it2.2
  have ha2:=fun Cb pv q=>calone_e Cb cfg15 pv p2 q progs15 it2.2
  rw [res2.1,res2.2.1] at hr2
  rw [res2.2.2] at ha2
  have hr3:=fun Cb pv q=>cresult_e Cb cfg15 pv p3 q progs15 it3.2
  have ha3:=fun Cb pv q=>calone_e Cb cfg15 pv p3 q progs15 it3.2
  rw [res3.1] at hr3
  rw [res3.2] at ha3
  have hr4:=fun Cb pv q=>cresult_e Cb cfg15 pv p4 q progs15 it4.2
  have hl4:=fun Cb pv q=>clooked_e Cb cfg15 pv p4 q progs15 it4.2
  rw [res4.1] at hr4
  rw [res4.2] at hl4
  have hpk:=fun Mb C=>mpeek_r Mb C it4.1 0
  rw [now15] at hpk
  generalize crow cfg15 p3 progs15 st3 8=w3 at hd3
  generalize crow cfg15 p4 progs15 st4 1=w4 at hd4
  generalize crow cfg15 p1 progs15 st1 35=w1 at hd1
  generalize crow cfg15 p2 progs15 st2 3=w2 at hd2
  generalize it1=j1 at *
  generalize it2=j2 at *
  generalize it3=j3 at *
  generalize it4=j4 at *
  generalize hm1:Cm.new p1 progs15=m1 at *
  generalize hm2:Cm.new p2 progs15=m2 at *
  generalize hm3:Cm.new p3 progs15=m3 at *
  generalize hm4:Cm.new p4 progs15=m4 at *
  have hn1:∀ b1 b2 bo:Nat,Tri Tryz.prog 61 #[.agg ⟨cfg15.m⟩, .int .i64 1, .int .u64 1, .slice (some ⟨bo,0,none⟩) 2 2, .agg ⟨[.int .i64 0, .int .u64 7, .int .u64 0, .int .u64 0, .int .u64 0]⟩] [q15 b1 b2 bo] fun r L=>∃ Cb,r=.pointer (some ⟨Cb,0,none⟩)∧L=[ClE Cb cfg15 (.slice (some ⟨bo,0,none⟩) 2 2) p1 (q15 b1 b2 bo) progs15 m1,q15 b1 b2 bo]:=hn1
  have hn2:∀ b1 b2 bo:Nat,Tri Tryz.prog 61 #[.agg ⟨cfg15.m⟩, .int .i64 0, .int .u64 1, .slice (some ⟨bo,0,none⟩) 2 2, .agg ⟨[.int .i64 1, .int .u64 0, .int .u64 0, .int .u64 0, .int .u64 0]⟩] [q15 b1 b2 bo] fun r L=>∃ Cb,r=.pointer (some ⟨Cb,0,none⟩)∧L=[ClE Cb cfg15 (.slice (some ⟨bo,0,none⟩) 2 2) p2 (q15 b1 b2 bo) progs15 m2,q15 b1 b2 bo]:=hn2
  have hn3:∀ b1 b2 bo:Nat,Tri Tryz.prog 61 #[.agg ⟨cfg15.m⟩, .int .i64 0, .int .u64 2, .slice (some ⟨bo,0,none⟩) 2 2, .agg ⟨[.int .i64 0, .int .u64 0, .int .u64 0, .int .u64 0, .int .u64 0]⟩] [q15 b1 b2 bo] fun r L=>∃ Cb,r=.pointer (some ⟨Cb,0,none⟩)∧L=[ClE Cb cfg15 (.slice (some ⟨bo,0,none⟩) 2 2) p3 (q15 b1 b2 bo) progs15 m3,q15 b1 b2 bo]:=hn3
  have hn4:∀ b1 b2 bo:Nat,Tri Tryz.prog 61 #[.agg ⟨cfg15.m⟩, .int .i64 0, .int .u64 3, .slice (some ⟨bo,0,none⟩) 2 2, .agg ⟨[.int .i64 2, .int .u64 0, .int .u64 0, .int .u64 0, .int .u64 0]⟩] [q15 b1 b2 bo] fun r L=>∃ Cb,r=.pointer (some ⟨Cb,0,none⟩)∧L=[ClE Cb cfg15 (.slice (some ⟨bo,0,none⟩) 2 2) p4 (q15 b1 b2 bo) progs15 m4,q15 b1 b2 bo]:=hn4
  refine Tri.of_body (vs:=[]) Tryz.func59 rfl rfl fun w0 F=>?_
  repeat' (first|refine St.halt 7 ?_ |refine Ga ?_|(refine Gb ?_;intro b)|(refine Gd ?_;intro g cap rest hcap)|(refine Gc ?_;intro ad cap)|refine Gl sample15_r ?_|refine Gl hof ?_|(refine Gt mnewb_t ?_;rintro _ _ ⟨⟨S,rfl⟩,rfl⟩)|(refine Gt hb ?_;rintro _ _ ⟨Mb,C,rfl,rfl⟩)|(refine Ge ?_ ?_<;>(intro h;try (exfalso;omega)))|fail)
  revert b;intro bo
  revert b;intro b2
  revert b;intro b1
  refine Halt.go (St.gather (Lr:=?Lr0) (ps:=[bl b1 200 (ca15.flatMap Ins.v),bl b2 200 (cb15.flatMap Ins.v),bl bo 67 [.slice (some ⟨b1,0,none⟩) 3 3, .slice (some ⟨b2,0,none⟩) 2 2]]) ?tk ?go)
  case tk=>exact Takes.go
  show St _ _ _ _ (q15 b1 b2 bo::_)
  have hn1:=hn1 b1 b2 bo
  have hn2:=hn2 b1 b2 bo
  have hn3:=hn3 b1 b2 bo
  have hn4:=hn4 b1 b2 bo
  have hd1:=fun Cb=>hd1 Mb C Cb b1 b2 bo
  have hd2:=fun Cb=>hd2 Mb C Cb b1 b2 bo
  have hd3:=fun Cb=>hd3 Mb C Cb b1 b2 bo
  have hd4:=fun Cb=>hd4 Mb C Cb b1 b2 bo
  have hpk:=hpk Mb C
  repeat' (first|refine Ga ?_|(refine Gb ?_;intro b)|(refine Gd ?_;intro g cap rest hcap)|(refine Gc ?_;intro ad cap) |(refine Ge ?_ ?_<;>(intro h;try (exfalso;omega)))|fail)
  (apply StL.v;(apply OpV.buildA;(focus (repeat (first|rfl|constructor)));(focus (repeat (first|exact Fill.nil|(apply Fill.cons;exact ⟨rfl,rfl⟩;rfl;(focus (first|assumption|(repeat constructor))))))));rfl)
  repeat' (first|refine Ga ?_|(refine Gb ?_;intro b)|(refine Gd ?_;intro g cap rest hcap)|(refine Gc ?_;intro ad cap)|refine Gl (hdn _ _ _) ?_|refine Gl (hdn1 _ _ _) ?_|refine Gl (hr1 _ _ _) ?_|refine Gl (ha1 _ _ _) ?_|refine Gl (hr2 _ _ _) ?_|refine Gl (ha2 _ _ _) ?_|refine Gl (hr3 _ _ _) ?_|refine Gl (ha3 _ _ _) ?_|refine Gl (hr4 _ _ _) ?_|refine Gl (hl4 _ _ _) ?_|refine Gl hpk ?_|refine Gl hbo ?_|(refine Gt hn1 ?_;rintro _ _ ⟨C1,rfl,rfl⟩)|(refine Gt hn2 ?_;rintro _ _ ⟨C2,rfl,rfl⟩)|(refine Gt hn3 ?_;rintro _ _ ⟨C3,rfl,rfl⟩)|(refine Gt hn4 ?_;rintro _ _ ⟨C4,rfl,rfl⟩)|(refine Gt (hd1 _) ?_;rintro _ _ ⟨a1,k1,rfl,rfl⟩)|(refine Gt (hd2 _) ?_;rintro _ _ ⟨a2,k2,rfl,rfl⟩)|(refine Gt (hd3 _) ?_;rintro _ _ ⟨a3,k3,rfl,rfl⟩)|(refine Gt (hd4 _) ?_;rintro _ _ ⟨a4,k4,rfl,rfl⟩)|(refine Ge ?_ ?_<;>(intro h;try (exfalso;omega)))|fail)
  refine St.d1 Tryz.func59 ?_;apply Exists.intro;apply And.intro;exact ⟨rfl,rfl⟩;exact Ent.go
end Go.Proofs.YthmbgodcpgkkeaaGreat
