/-
  Package exec: run. Package exec: New, Ask, Tell, Status. Package exec: Result.
-/
import Derived.Test.YthmbgodcpgkkeaaGreatExe
section
namespace Go.Proofs.YthmbgodcpgkkeaaGreat
def Xm.stops (m:Xm):Prop:=m.x.s≠0∨(m.x.waits=true∧m.v.s=0)
instance (m:Xm):Decidable m.stops:=inferInstanceAs (Decidable (_∨_))
def Xm.once (c:Cfg) (room:Nat) (code:List Ins) (m:Xm):Xm :=
  if m.x.waits=false then m.step c room code else if m.v.s=2 then { m with x:={ m.x with s:=2 } } else if m.v.s=3 then m.fail 44 0 else Xm.goOn c room { m with x:={ m.x with waits:=false } } m.v.val
def Xm.runN (c:Cfg) (room:Nat) (code:List Ins):Nat→Xm→Xm
  | 0,m=>m
  | n+1,m=>if m.stops then m else Xm.runN c room code n (m.once c room code)
def Xm.meas (c:Cfg) (m:Xm):Nat:=if m.x.s≠0 then 0 else 2 * (c.fuel - m.x.steps).toNat+(if m.x.waits then 1 else 0)+1
def Xm.run (c:Cfg) (room:Nat) (code:List Ins) (m:Xm):Xm:=Xm.runN c room code (m.meas c) m
structure RunOk (code:List Ins) (m:Xm):Prop where
  ok:Xok m
  w:m.x.writes≤999000
  pc:m.x.s=0→m.x.waits=false→∃ k:Nat,m.x.pc=(k:Int)∧k<code.length
  s0:0≤m.x.steps
  s1:m.x.steps≤1000000
structure RunInv (c:Cfg) (room:Nat) (code:List Ins) (I:Xm→Prop):Prop where
  ok:∀ m,I m→RunOk code m
  next:∀ m,I m→¬ m.stops→I (m.once c room code)
  less:∀ m,I m→¬ m.stops→(m.once c room code).meas c<m.meas c
theorem Xm.stops_of_meas {c:Cfg} {m:Xm} (h:m.meas c=0):m.stops:=by
  unfold Xm.meas at h
  split at h
  · exact .inl (by assumption)
  · omega
theorem runN_stable {c:Cfg} {room:Nat} {code:List Ins} {I:Xm→Prop} (hI:RunInv c room code I):∀ (n n':Nat) (m:Xm),I m→m.meas c≤n→m.meas c≤n'→Xm.runN c room code n m=Xm.runN c room code n' m
  | 0,0,m,_,_,_=>rfl
  | 0,n'+1,m,_,h,_=>by rw [Xm.runN,Xm.runN,if_pos (Xm.stops_of_meas (c:=c) (by omega))]
  | n+1,0,m,_,_,h=>by rw [Xm.runN,Xm.runN,if_pos (Xm.stops_of_meas (c:=c) (by omega))]
  | n+1,n'+1,m,hm,h,h'=>by
    rw [Xm.runN,Xm.runN]
    by_cases hs:m.stops
    · rw [if_pos hs,if_pos hs]
    · rw [if_neg hs,if_neg hs]
      have:=hI.less m hm hs
      exact runN_stable hI n n' _ (hI.next m hm hs) (by omega) (by omega)
theorem run_once {c:Cfg} {room:Nat} {code:List Ins} {I:Xm→Prop} (hI:RunInv c room code I) {m:Xm} (hm:I m) (hs:¬ m.stops):m.run c room code=(m.once c room code).run c room code:=by
  have hl:=hI.less m hm hs
  obtain ⟨n,hn⟩:∃ n,m.meas c=n+1:=⟨m.meas c - 1,by omega⟩
  unfold Xm.run
  rw [hn,Xm.runN,if_neg hs]
  exact runN_stable hI _ _ _ (hI.next m hm hs) (by omega) (Nat.le_refl _)
theorem run_stop {c:Cfg} {room:Nat} {code:List Ins} {m:Xm} (hs:m.stops):m.run c room code=m:=by
  unfold Xm.run
  cases m.meas c with
  | zero=>rfl
  | succ n=>rw [Xm.runN,if_pos hs]
theorem run_inv {c:Cfg} {room:Nat} {code:List Ins} {I:Xm→Prop} (hI:RunInv c room code I):∀ (n:Nat) (m:Xm),I m→m.meas c≤n→I (m.run c room code)∧(m.run c room code).stops
  | n,m,hm,hn=>by
    by_cases hs:m.stops
    · rw [run_stop hs];exact ⟨hm,hs⟩
    · rw [run_once hI hm hs]
      have hl:=hI.less m hm hs
      match n with
      | 0=>omega
      | n+1=>exact run_inv hI n _ (hI.next m hm hs) (by omega)
set_option maxHeartbeats 2000000 in
set_option maxRecDepth 100000 in
theorem xrun_t (X V Pb W room:Nat) (c:Cfg) (hc:Small c) (cv:Value) (q:HProp) (code:List Ins) (hcode:rightB code=true) (hv:InsR q cv code) (I:Xm→Prop) (hI:RunInv c room code I) (m:Xm) (hm:I m) :
    Tri Tryz.prog 116 #[.pointer (some ⟨X,0,none⟩)] (xmL X V Pb W room c cv m++[q]) fun r L=>r=.tuple ⟨[]⟩∧L=xmL X V Pb W room c cv (m.run c room code)++[q]:=by
  refine Tri.of_body (vs:=[_]) Tryz.func116 rfl rfl fun w0 F=>?_
  repeat' (first|refine Ga ?_|(refine Gb ?_;intro b)|(refine Gd ?_;intro g cap rest hcap)|(refine Gc ?_;intro ad cap) |(refine Ge ?_ ?_<;>(intro h;try (exfalso;omega)))|fail)
  refine St.loopX (Lr:=?Lr) (ι:={ m':Xm // I m'∧m.run c room code=m'.run c room code }) (fun m'=>m'.1.meas c)
    (fun m'=>[]) (fun m'=>xmL X V Pb W room c cv m'.1++[q]) ⟨m,hm,rfl⟩ ?hE ?hL ?round
  case hE=>exact Sub.go
  case hL=>exact Ent.refl _
  case round =>
    rintro ⟨m',hm',hrun⟩ IH;dsimp only at hm' hrun⊢
    have hok:=hI.ok m' hm'
    have hlen:=hok.ok.len
    have IH':=fun hs E' L'=>IH ⟨m'.once c room code,hI.next m' hm' hs,hrun.trans (run_once hI hm' hs)⟩ (E':=E') (L':=L') (hI.less m' hm' hs)
    clear IH
    dsimp only at IH'
    refine St.ex_out ?_
    rintro ⟨nad,ncap⟩
    by_cases hs:m'.x.s=0
    · cases hwt:m'.x.waits with
      | false =>
        have hns:¬ m'.stops:=by unfold Xm.stops;rw [hwt];simp [hs]
        obtain ⟨k,hk1,hk2⟩:=hok.pc hs hwt
        have hstep:=xstep_o X V Pb W room c hc cv q code hcode hv m' hok.ok hok.w k hk1 hk2 ⟨hok.s0,hok.s1⟩ nad ncap
        have IH2:=IH' hns
        have eo:m'.once c room code=m'.step c room code:=if_pos hwt
        rw [eo] at IH2
        repeat' (first|refine Ga ?_|(refine Gb ?_;intro b)|(refine Gd ?_;intro g cap rest hcap)|(refine Gc ?_;intro ad cap) |(refine Gt hstep ?_;rintro _ _ ⟨rfl,rfl⟩)|(refine Ge ?_ ?_<;>(intro h;try (exfalso;omega)))|fail)
        · refine IH2 _ _ ?_ ?_
          · exact Sub.go
          · exact Ent.go
        all_goals (exfalso;rw [hwt] at h;simp at h;done)
      | true =>
        have hend:=vend_r c V m'.v
        by_cases hv0:m'.v.s=0
        · have hst:m'.stops:=.inr ⟨hwt,hv0⟩
          rw [run_stop hst] at hrun
          rw [hrun]
          clear IH'
          repeat' (first|refine Ga ?_|(refine Gb ?_;intro b)|(refine Gd ?_;intro g cap rest hcap)|(refine Gc ?_;intro ad cap)|refine Gl hend ?_|(refine Ge ?_ ?_<;>(intro h;try (exfalso;omega)))|fail)
          · (exfalso;rw [hwt] at h;simp at h;done)
          · refine St.d1 Tryz.func116 ⟨_,⟨rfl,rfl⟩, ?_⟩
            refine Ent.trans ?_ (xmO_in (nad:=nad) (ncap:=ncap))
            exact Ent.go
        · have hns:¬ m'.stops:=by unfold Xm.stops;rw [hwt];simp [hs,hv0]
          have IH2:=IH' hns
          by_cases hv2:m'.v.s=2
          · have eo:m'.once c room code={ m' with x:={ m'.x with s:=2 } }:=by unfold Xm.once;rw [if_neg (by rw [hwt];decide),if_pos hv2]
            rw [eo] at IH2
            repeat' (first|refine Ga ?_|(refine Gb ?_;intro b)|(refine Gd ?_;intro g cap rest hcap)|(refine Gc ?_;intro ad cap)|refine Gl hend ?_|(refine Ge ?_ ?_<;>(intro h;try (exfalso;omega)))|fail)
            · (exfalso;rw [hwt] at h;simp at h;done)
            · refine IH2 _ _ ?_ ?_
              · exact Sub.go
              · refine Ent.trans ?_ (xmO_in (nad:=nad) (ncap:=ncap))
                exact Ent.go
          · by_cases hv3:m'.v.s=3
            · have eo:m'.once c room code=m'.fail 44 0:=by unfold Xm.once;rw [if_neg (by rw [hwt];decide),if_neg hv2,if_pos hv3]
              rw [eo] at IH2
              have hf:=xfail_t X V Pb W room c cv (.slice nad m'.news.length ncap) m'.x m'.p m'.puts 44 0 hok.ok.mark (by omega)
              repeat' (first|refine Ga ?_|(refine Gb ?_;intro b)|(refine Gd ?_;intro g cap rest hcap)|(refine Gc ?_;intro ad cap)|refine Gl hend ?_|(refine Gt hf ?_;rintro _ _ ⟨rfl,rfl⟩)|(refine Ge ?_ ?_<;>(intro h;try (exfalso;omega)))|fail)
              · (exfalso;rw [hwt] at h;simp at h;done)
              · refine IH2 _ _ ?_ ?_
                · exact Sub.go
                · refine Ent.trans ?_ (xmO_in (nad:=nad) (ncap:=ncap))
                  exact Ent.go
            · have eo:m'.once c room code=Xm.goOn c room { m' with x:={ m'.x with waits:=false } } m'.v.val:=by unfold Xm.once;rw [if_neg (by rw [hwt];decide),if_neg hv2,if_neg hv3]
              rw [eo] at IH2
              have hok1:Xok { m' with x:={ m'.x with waits:=false } }:=⟨hok.ok.mark,hok.ok.len,hok.ok.w0,hok.ok.w1,hok.ok.nt0,hok.ok.nt1,hok.ok.nl0,hok.ok.nl1,hok.ok.news,hok.ok.regs,hok.ok.args,hok.ok.i⟩
              have hgo:=xgoOn_o X V Pb W room c hc cv { m' with x:={ m'.x with waits:=false } } hok1 m'.v.val nad ncap
              have hgv:=Xm.goOn_v c room { m' with x:={ m'.x with waits:=false } } m'.v.val
              repeat' (first|refine Ga ?_|(refine Gb ?_;intro b)|(refine Gd ?_;intro g cap rest hcap)|(refine Gc ?_;intro ad cap)|refine Gl hend ?_|(refine Gt hgo ?_;rintro _ _ ⟨rfl,rfl⟩)|(refine Ge ?_ ?_<;>(intro h;try (exfalso;omega)))|fail)
              · (exfalso;rw [hwt] at h;simp at h;done)
              · refine IH2 _ _ ?_ ?_
                · exact Sub.go
                · unfold xmL
                  rw [hgv]
                  exact Ent.go
    · have hst:m'.stops:=.inl hs
      rw [run_stop hst] at hrun
      rw [hrun]
      clear IH'
      repeat' (first|refine Ga ?_|(refine Gb ?_;intro b)|(refine Gd ?_;intro g cap rest hcap)|(refine Gc ?_;intro ad cap) |(refine Ge ?_ ?_<;>(intro h;try (exfalso;omega)))|fail)
      refine St.f1 Tryz.func116 ⟨_,⟨rfl,rfl⟩, ?_⟩
      refine Ent.trans ?_ (xmO_in (nad:=nad) (ncap:=ncap))
      exact Ent.go
end Go.Proofs.YthmbgodcpgkkeaaGreat
end
section
namespace Go.Proofs.YthmbgodcpgkkeaaGreat
def Xm.ask (c:Cfg) (m:Xm):MOp×Bool:=if m.x.s≠0 then (mop 0 0 0,false) else m.v.ask c
set_option maxRecDepth 100000 in
theorem xask_r (X V Pb W:Nat) (c:Cfg) (hc:Small c) (cv:Value) (m:Xm) (hb:0≤m.v.block∧m.v.block≤1000000):RTri Tryz.prog 29 #[.pointer (some ⟨X,0,none⟩)] [XeE X c cv V Pb W m.x m.news,bl V 215 (viewV c m.v)] (.tuple ⟨[.agg ⟨(m.ask c).1.v⟩, .bool (m.ask c).2]⟩):=by
  refine RTri.of_exact fun W0 hs=>?_
  obtain ⟨⟨nad,ncap⟩,hs⟩:=sat_ex hs
  have hX:=RdC.exact hs (ReadsC.here RdC.bl)
  have hV:=RdC.exact hs (ReadsC.there (ReadsC.there (ReadsC.here RdC.bl)))
  have hask:=(vask_r c hc V m.v hb).of_read (p:=exact' W0) fun k hk=>by
    rw [show k=hpOf W0 from hk]
    have:=(Ent.go:Ent (xeL X c cv V Pb W m.x m.news (nad,ncap)++[bl V 215 (viewV c m.v)]) [bl V 215 (viewV c m.v)])
    unfold Ent at this
    exact this _ hs
  unfold Xm.ask
  by_cases h0:m.x.s≠0
  · rw [if_pos h0]
    refine Tri.of_body (vs:=[_]) Tryz.func29 rfl rfl fun w0 F=>?_
    repeat' (first|refine Ga ?_|(refine Gb ?_;intro b)|(refine Gd ?_;intro g cap rest hcap)|(refine Gc ?_;intro ad cap) |(refine Ge ?_ ?_<;>(intro h;try (exfalso;omega)))|fail)
    (first|refine St.dn Tryz.func29 ⟨?_,rfl⟩ Ent.go|refine St.fl Tryz.func29 ⟨?_,rfl⟩ Ent.go)
    rfl
  · rw [if_neg h0]
    refine Tri.of_body (vs:=[_]) Tryz.func29 rfl rfl fun w0 F=>?_
    repeat' (first|refine Ga ?_|(refine Gb ?_;intro b)|(refine Gd ?_;intro g cap rest hcap)|(refine Gc ?_;intro ad cap)|refine Gl hask ?_|(refine Ge ?_ ?_<;>(intro h;try (exfalso;omega)))|fail)
    (first|refine St.dn Tryz.func29 ⟨?_,rfl⟩ Ent.go|refine St.fl Tryz.func29 ⟨?_,rfl⟩ Ent.go)
    rfl
set_option maxRecDepth 100000 in
theorem xstatus_r (X V Pb W:Nat) (c:Cfg) (cv:Value) (m:Xm):RTri Tryz.prog 30 #[.pointer (some ⟨X,0,none⟩)] [XeE X c cv V Pb W m.x m.news] (.int .i64 m.x.s):=by
  refine RTri.of_exact fun W0 hs=>?_
  obtain ⟨⟨nad,ncap⟩,hs⟩:=sat_ex hs
  have hX:=RdC.exact hs (ReadsC.here RdC.bl)
  refine Tri.of_body (vs:=[_]) Tryz.func30 rfl rfl fun w0 F=>?_
  repeat' (first|refine Ga ?_|(refine Gb ?_;intro b)|(refine Gd ?_;intro g cap rest hcap)|(refine Gc ?_;intro ad cap) |(refine Ge ?_ ?_<;>(intro h;try (exfalso;omega)))|fail)
  (first|refine St.dn Tryz.func30 ⟨?_,rfl⟩ Ent.go|refine St.fl Tryz.func30 ⟨?_,rfl⟩ Ent.go)
  rfl
def Xm.tell (c:Cfg) (room:Nat) (code:List Ins) (m:Xm) (o:Out):Xm:=if m.x.s=0 then Xm.run c room code { m with v:=m.v.tell o } else m
set_option maxRecDepth 100000 in
theorem xtell_t (X V Pb W room:Nat) (c:Cfg) (hc:Small c) (cv:Value) (q:HProp) (code:List Ins) (hcode:rightB code=true) (hv:InsR q cv code) (I:Xm→Prop) (hI:RunInv c room code I) (m:Xm) (o:Out) (hm:m.x.s=0→I { m with v:=m.v.tell o }) :
    Tri Tryz.prog 35 #[.pointer (some ⟨X,0,none⟩), .agg ⟨o.v⟩] (xmL X V Pb W room c cv m++[q]) fun r L=>r=.tuple ⟨[]⟩∧L=xmL X V Pb W room c cv (m.tell c room code o)++[q]:=by
  refine Tri.ex_out ?_
  rintro ⟨nad,ncap⟩
  unfold Xm.tell
  by_cases h0:m.x.s=0
  · rw [if_pos h0]
    have ht:=vtell_t c V m.v o
    have hr:=(xrun_t X V Pb W room c hc cv q code hcode hv I hI { m with v:=m.v.tell o } (hm h0)).ent (L:=xmO X V Pb W room c cv { m with v:=m.v.tell o } nad ncap++[q]) xmO_in
    refine Tri.of_body (vs:=[_,_]) Tryz.func35 rfl rfl fun w0 F=>?_
    repeat' (first|refine Ga ?_|(refine Gb ?_;intro b)|(refine Gd ?_;intro g cap rest hcap)|(refine Gc ?_;intro ad cap)|(refine St.draw (id:=2) [(0,0),(1,0),(2,0),(3,1),(4,1),(5,3)] [5] mixed (by kernel_rfl) ?_)|(refine Gt ht ?_;rintro _ _ ⟨rfl,rfl⟩)|(refine Gt hr ?_;rintro _ _ ⟨rfl,rfl⟩)|(refine Ge ?_ ?_<;>(intro h;try (exfalso;omega)))|fail)
    refine St.f1 Tryz.func35 ⟨_,⟨rfl,rfl⟩, ?_⟩
    exact Ent.go
  · rw [if_neg h0]
    refine Tri.of_body (vs:=[_,_]) Tryz.func35 rfl rfl fun w0 F=>?_
    repeat' (first|refine Ga ?_|(refine Gb ?_;intro b)|(refine Gd ?_;intro g cap rest hcap)|(refine Gc ?_;intro ad cap)|(refine St.draw (id:=2) [(0,0),(1,0),(2,0),(3,1),(4,1),(5,3)] [5] mixed (by kernel_rfl) ?_)|(refine Ge ?_ ?_<;>(intro h;try (exfalso;omega)))|fail)
    refine St.f1 Tryz.func35 ⟨_,⟨rfl,rfl⟩, ?_⟩
    refine Ent.trans ?_ (xmO_in (nad:=nad) (ncap:=ncap))
    exact Ent.go
def regs0:List Nat:=[0,0,0,0,0,0,0,0,0,0,0,0,0,0,0,0]
def Xm.init (v:Vw) (p:Po) (puts:List (Int×Nat)) (args:List Nat):Xm:=⟨⟨args,puts.length,p.nt,p.nl,regs0,0,0,0,false,ins0,0,0,0⟩,v,p,puts,[]⟩
def Xm.start (c:Cfg) (room:Nat) (code:List Ins) (v:Vw) (p:Po) (puts:List (Int×Nat)) (args:List Nat):Xm:=if rightB code=true then (Xm.init v p puts args).run c room code else (Xm.init v p puts args).fail 30 0
set_option maxHeartbeats 1000000 in
set_option maxRecDepth 100000 in
theorem xnew_t (V Pb W room:Nat) (c:Cfg) (hc:Small c) (cv:Value) (q:HProp) (code:List Ins) (hv:InsR q cv code) (v:Vw) (p:Po) (puts:List (Int×Nat)) (args:List Nat) (hlen:puts.length≤1000000000)
    (I:Xm→Prop) (hI:rightB code=true→RunInv c room code I) (hm:rightB code=true→I (Xm.init v p puts args)) :
    Tri Tryz.prog 27 #[.agg ⟨c.m⟩,cv, .agg ⟨g4 args⟩, .pointer (some ⟨V,0,none⟩), .pointer (some ⟨Pb,0,none⟩), .pointer (some ⟨W,0,none⟩)] [bl V 215 (viewV c v),Pl Pb c p,Ws W room puts,q]
      fun r L=>∃ X,r=.pointer (some ⟨X,0,none⟩)∧L=xmL X V Pb W room c cv (Xm.start c room code v p puts args)++[q]:=by
  have hrt:=right_rr q cv code hv
  have hmk:=wmark_r W room puts
  have hpm:=pMark_r Pb c p
  obtain ⟨ad,cap,hcv,_⟩:=id hv
  subst hcv
  unfold Xm.start
  cases hr:rightB code with
  | false =>
    rw [hr] at hrt
    rw [if_neg (by decide)]
    have hf:=fun X=>xfail_t X V Pb W room c (.slice ad code.length cap) (.slice none 0 0) (Xm.init v p puts args).x p puts 30 0 (Nat.le_refl _) hlen
    refine Tri.of_body (vs:=[_,_,_,_,_,_]) Tryz.func27 rfl rfl fun w0 F=>?_
    repeat' (first|refine Ga ?_|(refine Gb ?_;intro b)|(refine Gd ?_;intro g cap rest hcap)|(refine Gc ?_;intro ad cap)|(refine St.draw (id:=1) [(0,1),(1,0),(2,1),(3,0),(4,0),(5,0),(6,0),(7,1),(8,0),(9,1),(10,0),(11,2),(12,0)] [] mixed (by kernel_rfl) ?_)| refine Gl hmk ?_|refine Gl hpm ?_|refine Gl hrt ?_|(refine Gt (hf _) ?_;rintro _ _ ⟨rfl,rfl⟩)|(refine Ge ?_ ?_<;>(intro h;try (exfalso;omega)))|fail)
    refine St.d1 Tryz.func27 ⟨_,⟨_,rfl,rfl⟩, ?_⟩
    refine Ent.trans ?_ (xmO_in (nad:=none) (ncap:=0))
    refine Ent.trans (Ent.row_nil 22 1) ?_
    exact Ent.go
  | true =>
    rw [hr] at hrt
    rw [if_pos rfl]
    have hru:=fun X=>(xrun_t X V Pb W room c hc (.slice ad code.length cap) q code hr hv I (hI hr) (Xm.init v p puts args) (hm hr)).ent (L:=[bl X 221 (exV c (.slice ad code.length cap) V Pb W (.slice none 0 0) (Xm.init v p puts args).x),bl V 215 (viewV c v),Pl Pb c p,Ws W room puts,q])
      (Ent.trans (Ent.row_nil 22 1) (Ent.trans (Ent.go:Ent _ (xmO X V Pb W room c (.slice ad code.length cap) (Xm.init v p puts args) none 0++[q])) xmO_in))
    refine Tri.of_body (vs:=[_,_,_,_,_,_]) Tryz.func27 rfl rfl fun w0 F=>?_
    repeat' (first|refine Ga ?_|(refine Gb ?_;intro b)|(refine Gd ?_;intro g cap rest hcap)|(refine Gc ?_;intro ad cap)|(refine St.draw (id:=1) [(0,1),(1,0),(2,1),(3,0),(4,0),(5,0),(6,0),(7,1),(8,0),(9,1),(10,0),(11,2),(12,0)] [] mixed (by kernel_rfl) ?_)| refine Gl hmk ?_|refine Gl hpm ?_|refine Gl hrt ?_|(refine Gt (hru _) ?_;rintro _ _ ⟨rfl,rfl⟩)|(refine Ge ?_ ?_<;>(intro h;try (exfalso;omega)))|fail)
    refine St.d1 Tryz.func27 ⟨_,⟨_,rfl,rfl⟩, ?_⟩
    exact Ent.go
end Go.Proofs.YthmbgodcpgkkeaaGreat
end
section
namespace Go.Proofs.YthmbgodcpgkkeaaGreat
section more
variable {P:Program} {n':Fi} {E:Env} {L:List HProp} {ty:TypeId}
theorem OpOk.appendNl {t e sz by_ m c bx ox:Nat} {z:Value} {s x:Operand} {news blk r:List Value} [hu:Und P t (.slice e)] [hz:Zer P e z] [hs:Siz P e sz] [hb:Byt P e by_]
    (hv:ev E s=some (.slice none 0 0)) (hx:ev E x=some (.slice (some ⟨bx,ox,none⟩) m c)) (hr:ReadsC L bx blk) (hdr:DropN ox blk r) (htk:TakeN (m * sz) r news) (h1:news.all one=true) (hzs:(cl z).length=sz) (hpos:Nat.blt 0 sz=true) (h63:m≤9223372036854775807) (hby:m * by_≤140737488355328) :
    OpOk P n' (.call { callee:=.builtin .append,args:=⟨[s,x]⟩,argTypes:=⟨[t,t]⟩ }) ty E L (fun v' L'=>∃ ad cap,v'=.slice ad m cap∧L'=Row (.slice ad m cap) e sz m news::L):=by
  unfold OpOk
  intro d ps af g a w ha X hsat
  have hent:=Ent.row_nil e sz (L:=L++X)
  unfold Ent at hent
  obtain ⟨v',w',hrun,hs',ho⟩:=row_append (P:=P) (ty:=ty) (t:=t) (e:=e) (sz:=sz) (by_:=by_) (n:=0) (m:=m) (c:=c) (z:=z) (hent _ hsat) (hr.sat hsat.head_of) hdr htk h1 hzs (Nat.le_of_ble_eq_true hpos) (by omega) (by rw [Nat.zero_add];exact hby)
  rw [Nat.zero_add,List.nil_append] at hs'
  obtain ⟨ad,cap,rfl⟩:∃ ad cap,v'=.slice ad m cap:=by
    rw [sat_cons] at hs'
    obtain ⟨_,_,_,_,hrow,_⟩:=hs'
    rcases hrow.2 with ⟨rfl,h0⟩|⟨_,_,_,rfl,_⟩
    · exact ⟨none,0,by rw [h0]⟩
    · exact ⟨_,_,rfl⟩
  refine ⟨.slice ad m cap,w',_, .inl ?_,⟨ad,cap,rfl,rfl⟩,hs',ho⟩
  simp [execOp,resolve,invoke,builtin,ha.ev hv,ha.ev hx,hrun]
theorem OpV.appendZ {t e sz:Nat} {s x:Operand} [hu:Und P t (.slice e)] [hs:Siz P e sz] (hv:ev E s=some (.slice none 0 0)) (hx:ev E x=some (.slice none 0 0)) :
    OpV P n' (.call { callee:=.builtin .append,args:=⟨[s,x]⟩,argTypes:=⟨[t,t]⟩ }) ty E L (.slice none 0 0):=by
  unfold OpV
  intro d ps af g a w ha _
  simp [execOp,resolve,invoke,builtin,ha.ev hv,ha.ev hx,Builtin.append_,run_underlying hu.h,hs.h,Builtin.lenOf,Builtin.firstCells]
end more
set_option maxRecDepth 100000 in
theorem xresult_t (X V Pb W:Nat) (c:Cfg) (cv:Value) (m:Xm) (hn:m.news.length≤1000000):Tri Tryz.prog 31 #[.pointer (some ⟨X,0,none⟩)] [XeE X c cv V Pb W m.x m.news]
    fun r L=>∃ ad cap,r=.tuple ⟨[.agg ⟨[.int .i64 m.x.rc, .int .u64 (m.x.rv:Int)]⟩, .slice ad m.news.length cap]⟩∧L=[XeE X c cv V Pb W m.x m.news,Row (.slice ad m.news.length cap) 22 1 m.news.length (u64s m.news)]:=by
  refine Tri.ex_out ?_
  rintro ⟨nad,ncap⟩
  unfold xeL
  dsimp only
  have hone:(u64s m.news).all one=true:=by
    unfold u64s
    generalize m.news=l
    induction l with
    | nil=>rfl
    | cons x l ih=>rw [List.map_cons,List.all_cons,ih];rfl
  refine Tri.of_body (vs:=[_]) Tryz.func31 rfl rfl fun w0 F=>?_
  refine St.conv ?_ (Sub.refl _) (Ent.of_take (.there .here))
  refine St.rowC (fun hv h0 hx=>?_) (fun g lcp rest hv hrf=>?_)
  · injection hv with hv1 hv2 hv3
    subst hv1 hv3
    rw [h0,hx]
    repeat' (first|refine Ga ?_|(refine Gb ?_;intro b)|(refine Gd ?_;intro g cap rest hcap)|(refine Gc ?_;intro ad cap)|(refine St.draw (id:=1) [(0,0),(1,0),(2,0),(3,1),(4,0),(5,0),(6,0),(7,1),(8,0),(9,3),(10,0)] [9] mixed (by kernel_rfl) ?_)|(refine Ge ?_ ?_<;>(intro h;try (exfalso;omega)))|fail)
    (apply StD.v0;rfl;(apply OpV.appendZ;rfl;rfl);rfl)
    repeat' (first|refine Ga ?_|(refine Gb ?_;intro b)|(refine Gd ?_;intro g cap rest hcap)|(refine Gc ?_;intro ad cap)|(refine St.draw (id:=1) [(0,0),(1,0),(2,0),(3,1),(4,0),(5,0),(6,0),(7,1),(8,0),(9,3),(10,0)] [9] mixed (by kernel_rfl) ?_)|(refine Ge ?_ ?_<;>(intro h;try (exfalso;omega)))|fail)
    refine St.d1 Tryz.func31 ⟨_,⟨none,0,rfl,rfl⟩, ?_⟩
    refine Ent.trans ?_ (Ent.ex_in (Ls:=xeL X c cv V Pb W m.x m.news) (none,0))
    unfold xeL
    dsimp only
    rw [h0,hx]
    exact Ent.trans (Ent.row_nil 22 1) (Ent.trans (Ent.row_nil 22 1) Ent.go)
  · injection hv with hv1 hv2 hv3
    subst hv1 hv3
    have htk:TakeN (m.news.length * 1) (u64s m.news++rest) (u64s m.news):=by rw [←hrf.len];exact TakeN.app _ _
    repeat' (first|refine Ga ?_|(refine Gb ?_;intro b)|(refine Gd ?_;intro g cap rest hcap)|(refine Gc ?_;intro ad cap)|(refine St.draw (id:=1) [(0,0),(1,0),(2,0),(3,1),(4,0),(5,0),(6,0),(7,1),(8,2),(9,3),(10,0)] [9] mixed (by kernel_rfl) ?_)|(refine Ge ?_ ?_<;>(intro h;try (exfalso;omega)))|fail)
    (apply StD.ok2;rfl;(apply OpOk.appendNl;rfl;rfl;(focus (repeat first|exact ReadsC.here RdC.bl|exact ReadsC.here (by assumption)|apply ReadsC.there));(focus (first|assumption|(repeat constructor)));(focus (first|assumption|(repeat constructor)));assumption;rfl;rfl;omega;omega);rfl;rintro _ _ ⟨ad,cap,rfl,rfl⟩;refine ⟨Ent.go, ?_⟩)
    repeat' (first|refine Ga ?_|(refine Gb ?_;intro b)|(refine Gd ?_;intro g cap rest hcap)|(refine Gc ?_;intro ad cap)|(refine St.draw (id:=1) [(0,0),(1,0),(2,0),(3,1),(4,0),(5,0),(6,0),(7,1),(8,2),(9,3),(10,0)] [9] mixed (by kernel_rfl) ?_)|(refine Ge ?_ ?_<;>(intro h;try (exfalso;omega)))|fail)
    refine St.d1 Tryz.func31 ⟨_,⟨ad,cap,rfl,rfl⟩, ?_⟩
    refine Ent.trans ?_ (Ent.ex_in (Ls:=xeL X c cv V Pb W m.x m.news) (some ⟨g,0,none⟩,ncap))
    refine Ent.trans (Ent.of_take (p:=bl g 22 (u64s m.news++rest)) Take.go) (Ent.trans (Ent.rowF hrf) Ent.go)
end Go.Proofs.YthmbgodcpgkkeaaGreat
end
