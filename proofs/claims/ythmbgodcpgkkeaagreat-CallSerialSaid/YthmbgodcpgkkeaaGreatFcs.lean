/-
  Package tumblerlaw15: CallSerial. The closed facts of the row, one by one.
-/
import Derived.Test.YthmbgodcpgkkeaaGreatUh
import Derived.Test.YthmbgodcpgkkeaaGreatRows
import Derived.ProofKit
import Derived.JoinedOf
section
namespace Go.Proofs.YthmbgodcpgkkeaaGreat
set_option maxRecDepth 100000
theorem TakeN.five {α:Type} {l:List α} {a b c d e:α} (h:TakeN 5 l [a,b,c,d,e]):∃ r,l=a::b::c::d::e::r:=by
  cases h with
  | succ h =>
    cases h with
    | succ h =>
      cases h with
      | succ h =>
        cases h with
        | succ h =>
          cases h with
          | succ h=>exact ⟨_,rfl⟩
set_option maxHeartbeats 8000000 in
theorem cs_near {q:HProp} {c:Cfg} {pv:Value} {progs:Progs} {jobs:List Aq} {jad:Option Addr} {jcap:Nat} (hpv:ProgsG q pv progs) (hjv:ListR Aq.v q (.slice jad jobs.length jcap) jobs) (hb:few14B c progs=true) (h8:jobs.length≤8) :
    Tri Tryz.prog 10 #[.agg ⟨c.v⟩,pv, .slice jad jobs.length jcap] [q] fun r L=>r=.bool true∧L=[q]:=by
  obtain ⟨th,bk,wr,fu,fi,la⟩:=c
  have hfew:=few15s_r ⟨th,bk,wr,fu,fi,la⟩ q pv progs hpv
  rw [hb] at hfew
  unfold few14B at hb
  simp only [Bool.and_eq_true,decide_eq_true_eq] at hb
  obtain ⟨hsh,⟨hcr,hfu⟩,hpl⟩:=hb
  have hof:=of_r ⟨th,bk,wr,fu,fi,la⟩
  unfold Cfg.ofV at hof
  rw [if_pos hcr] at hof
  have hbnd:=bound_r ⟨th,bk,wr,fu,fi,la⟩
  generalize hcc:(⟨th,bk,wr,fu,fi,la⟩:Cfg)=c at hcr hfu hof hfew hbnd⊢
  have hc:=Cfg.small hcr
  have hf0:0≤c.fuel:=by have:=of_decide_eq_true hcr;omega
  have hfl:c.first≤c.last:=by have:=of_decide_eq_true hcr;omega
  have hla:c.last≤140737488355328:=by have:=of_decide_eq_true hcr;omega
  have hfu2:c.fuel≤200:=by rw [←hcc];first|exact hfu|(rw [←hcc] at hfu;exact hfu)
  have hth:c.threads=th:=by rw [←hcc]
  have ewr:c.writes=wr:=by rw [←hcc]
  have efu:c.fuel=fu:=by rw [←hcc]
  have efi:c.first=fi:=by rw [←hcc]
  have ela:c.last=la:=by rw [←hcc]
  have ht0:=hc.t0;have ht1:=hc.t1;have hw0:=hc.w0;have hw1:=hc.w1
  have hboot:=bootm_t c hc
  have hpr:=hpv.r (by omega)
  obtain ⟨pad,pcap,rfl,_,hpe⟩:=id hpv
  have hbn:=bound_nn c
  have hcv:c.v=[.int .i64 th, .int .i64 bk, .int .i64 wr, .int .i64 fu, .int .u64 (fi:Int), .int .u64 (la:Int)]:=by rw [←hcc];rfl
  rw [hcv] at hof hfew hbnd⊢
  have hcn0:=CN.boot hc hfl
  have ethn:th.toNat=c.threads.toNat:=by rw [hth]
  refine Tri.of_body (vs:=[_,_,_]) Tryz.func10 rfl rfl fun w0 F=>?_
  repeat' (first|refine Ga ?_|(refine Gb ?_;intro b)|(refine Gd ?_;intro g cap rest hcap)|(refine Gc ?_;intro ad cap)|(refine St.draw (id:=18) [(0,1),(1,0),(2,0),(3,0),(4,0),(5,1),(6,0),(7,0),(8,1),(9,3),(10,0)] [9] mixed (by kernel_rfl) ?_)|(refine St.draw (id:=29) [(0,0),(1,0),(2,0),(3,0),(4,0),(5,0),(6,0),(7,1),(8,0),(9,0),(10,0),(11,0),(12,0),(13,0),(14,0),(15,1),(16,0),(17,0),(18,0),(19,1),(20,0),(21,0),(22,0),(23,0),(24,0),(25,0),(26,1),(27,0),(28,1),(29,0),(30,0)] [] mixed (by kernel_rfl) ?_)|(refine St.draw (id:=34) [(0,0),(1,1),(2,0),(3,1),(4,0),(5,0),(6,0),(7,1),(8,0),(9,0),(10,0),(11,0),(12,0),(13,1),(14,0),(15,0),(16,0),(17,0),(18,0),(19,1),(20,0),(21,0),(22,0),(23,0),(24,0)] [] mixed (by kernel_rfl) ?_)| refine Gl hfew ?_|refine Gl hof ?_|(refine Gt alive15_t ?_;rintro _ _ ⟨rfl,rfl⟩)|(refine Gt hboot ?_;rintro _ _ ⟨Mb,C,rfl,rfl⟩)|(refine Gt mnew_t ?_;rintro _ _ ⟨S,rfl,rfl⟩)|(refine Ge ?_ ?_<;>(intro h;try (exfalso;omega)))|fail)
  all_goals first|(exfalso;omega)|skip
  have etag:(List.replicate th.toNat (cl (.int .u64 0))).flatten=u64s (List.replicate c.threads.toNat 0):=by rw [u64s_rep,ethn]
  refine St.loopY (Lr:=?Lr1) (ι:={ x:Nat×Pm×Nat×List Nat×Ms // x.1≤jobs.length∧CN c x.1 x.2.1 x.2.2.1 x.2.2.2.1 x.2.2.2.2 }) (fun x=>jobs.length - x.1.1) (fun x=>[(51, .int .i64 (x.1.1:Int)),(11, .int .u64 (x.1.2.2.1:Int))]) (fun x=>[Mm Mb C x.1.2.1,MsE S x.1.2.2.2.2,bl b 22 (u64s x.1.2.2.2.1)]) ⟨(0,⟨c.boot,zeros8,[]⟩,c.first,List.replicate c.threads.toNat 0,ms0),Nat.zero_le _,hcn0⟩ ?hE1 ?hL1 ?round1
  case hE1=>dsimp only;rw [efi];exact Sub.go
  case hL1=>dsimp only;rw [←etag];exact Takes.go
  case round1 =>
    rintro ⟨⟨k,M,n,T,ms⟩,hk,hcn⟩ IH;dsimp only at hk hcn IH⊢
    by_cases hlt:k<jobs.length
    · obtain ⟨jb,jo,jl,jl1,rfl,hjrd,hjdr,hjtk⟩:=hjv.at' Aq.v_len k hlt
      generalize jobs[k]=a at hjtk
      obtain ⟨aw,ap,a0,a1,a2,a3⟩:=a
      unfold Aq.v at hjtk
      dsimp only at hjtk
      obtain ⟨mk,hand,hmk2⟩:=AndIs.leJ aw 255 (by decide)
      have hw0':0≤(mk:Int) % th:=Int.emod_nonneg _ (by omega)
      have hw1':(mk:Int) % th<th:=Int.emod_lt_of_pos _ (by omega)
      have hwT:((mk:Int) % th).toNat<T.length:=by have:=hcn.tl;omega
      have hT8:=hcn.t8 ((mk:Int) % th).toNat
      obtain ⟨N,hN,htr,hask,h13,hco⟩:=hcn.call hcr hfu2 hpl (w:=(mk:Int) % th) ⟨hw0',by omega⟩ ap (args:=[a0,a1,a2,a3]) rfl (by omega)
      have hnth1:NthN (((mk:Int) % th).toNat * 1) (u64s T) (.int .u64 ((T.getD ((mk:Int) % th).toNat 0:Nat):Int)):=by
        rw [Nat.mul_one];exact NthN.u64s hwT
      have hset1:SetN (.int .u64 ((T.getD ((mk:Int) % th).toNat 0:Nat)+1:Int)) (((mk:Int) % th).toNat * 1) (u64s T) (u64s (T.set ((mk:Int) % th).toNat (T.getD ((mk:Int) % th).toNat 0+1))):=by
        rw [Nat.mul_one];exact SetN.u64 (v:=T.getD ((mk:Int) % th).toNat 0+1) hwT
      have hnth2:NthN (((mk:Int) % th).toNat * 1) (u64s (T.set ((mk:Int) % th).toNat (T.getD ((mk:Int) % th).toNat 0+1))) (.int .u64 ((T.getD ((mk:Int) % th).toNat 0:Nat)+1:Int)):=by
        rw [Nat.mul_one]
        have:=NthN.u64s (l:=T.set ((mk:Int) % th).toNat (T.getD ((mk:Int) % th).toNat 0+1)) (i:=((mk:Int) % th).toNat) (by rw [List.length_set];exact hwT)
        rw [getD_setT hwT,if_pos rfl] at this
        exact this
      have hnew:=cnew_t c hc (.slice pad progs.length pcap) ⟨(mk:Int) % th,T.getD ((mk:Int) % th).toNat 0+1,ap,[a0,a1,a2,a3]⟩ q progs hpr
      have hdoes:=fun Cb=>does_z Mb C Cb c hc ⟨hf0,by omega⟩ hla ⟨(mk:Int) % th,T.getD ((mk:Int) % th).toNat 0+1,ap,[a0,a1,a2,a3]⟩ rfl ⟨hw0',by dsimp only;omega⟩ (.slice pad progs.length pcap) q progs hpr (M,Cm.new ⟨(mk:Int) % th,T.getD ((mk:Int) % th).toNat 0+1,ap,[a0,a1,a2,a3]⟩ progs) Cinv.new Crt.new hcn.st (boundN c) (by omega) N hN htr hask
      clear hask htr
      dsimp only at hnew hdoes
      rw [show g4 [a0,a1,a2,a3]=[Value.int .u64 (a0:Int), .int .u64 (a1:Int), .int .u64 (a2:Int), .int .u64 (a3:Int)] from rfl,show ((T.getD ((mk:Int) % th).toNat 0+1:Nat):Int)=(T.getD ((mk:Int) % th).toNat 0:Nat)+1 from rfl] at hnew
      generalize hp:(⟨(mk:Int) % th,T.getD ((mk:Int) % th).toNat 0+1,ap,[a0,a1,a2,a3]⟩:Cp)=p at hnew hdoes h13 hco
      have hpw:p.who=(mk:Int) % th:=by rw [←hp]
      have hpt:p.tag=T.getD ((mk:Int) % th).toNat 0+1:=by rw [←hp]
      have hpa:p.args=[a0,a1,a2,a3]:=by rw [←hp]
      have hpp:p.prog=ap:=by rw [←hp]
      clear hp
      generalize crow c p progs (M,Cm.new p progs) N=cr at hdoes hco
      generalize cit c p progs (M,Cm.new p progs) N=z at hdoes h13 hco
      obtain ⟨M2,m⟩:=z
      dsimp only at hdoes h13 hco
      have hdn:=fun Cb=>cdone_e Cb c (.slice pad progs.length pcap) p q progs m
      rw [h13,show decide ((13:Int)=13)=true from rfl] at hdn
      have hres:=fun Cb=>cresult_e Cb c (.slice pad progs.length pcap) p q progs m
      have hal:=fun Cb=>calone_e Cb c (.slice pad progs.length pcap) p q progs m
      have hpk:=mpeek_p Mb C M2 0
      have hpn:∀ {n2 T2 ms2},CN c (k+1) M2 n2 T2 ms2→∃ x,peekOf M2.cs 0=⟨x,n2⟩:=fun h=>by
        obtain ⟨_,_,hm⟩:=h.mid
        exact ⟨(peekOf M2.cs 0).val,by rw [←hm.peek]⟩
      obtain ⟨fs,ls,hmid⟩:=hcn.mid
      have hok:=hmid.ok
      clear hmid
      by_cases hpi:0≤ap∧ap<progs.length
      · obtain ⟨pb,po,pl,pcv,rfl,hprd,hprn,hins⟩:=hpe ap.toNat (by omega)
        rw [show ((ap.toNat:Nat):Int)=ap by omega] at hprn
        have ecode:progs[ap.toNat]=p.code progs:=by
          unfold Cp.code
          rw [hpp,if_neg (by omega),List.getD_eq_getElem?_getD,List.getElem?_eq_getElem (by omega)];rfl
        have hcl:(p.code progs).length≤40:=by
          rw [←ecode];exact of_decide_eq_true (List.all_eq_true.1 hsh _ (List.getElem_mem _))
        rw [ecode] at hins
        have hri:=right_rr q pcv _ hins
        have hrd:=reads_r q pcv _ hins (by omega)
        replace hcl:(p.code progs).length≤256:=by omega
        cases hco with
        | late g1 g2 g3 g4 g5 g6 gcn =>
          subst g6
          rw [g1] at hri
          rw [g2] at hrd
          rw [g4,g5] at hres
          have hdoes0:=fun Cb=>(hdoes Cb).wk (Q':=fun r L=>∃ R ad cap,r=.tuple ⟨[.int .i64 (N:Int), .slice ad 0 cap]⟩∧L=[R,Mm Mb C M2,ClE Cb c (.slice (some ⟨pb,po,none⟩) progs.length pcap) p q progs m,q]) (by
            rintro r L ⟨R,ad,cap,rs,hrs,_,_,rfl,rfl⟩
            have hz:rs=[]:=List.map_eq_nil_iff.1 hrs
            subst hz
            exact ⟨_,⟨R,ad,cap,rfl,rfl⟩,Ent.refl _⟩)
          repeat' (first|refine Ga ?_|(refine Gb ?_;intro b)|(refine Gd ?_;intro g cap rest hcap)|(refine Gc ?_;intro ad cap)|(refine St.draw (id:=18) [(0,1),(1,0),(2,0),(3,0),(4,0),(5,1),(6,0),(7,0),(8,1),(9,3),(10,0)] [9] mixed (by kernel_rfl) ?_)|(refine St.draw (id:=29) [(0,0),(1,0),(2,0),(3,0),(4,0),(5,0),(6,0),(7,1),(8,0),(9,0),(10,0),(11,0),(12,0),(13,0),(14,0),(15,1),(16,0),(17,0),(18,0),(19,1),(20,0),(21,0),(22,0),(23,0),(24,0),(25,0),(26,1),(27,0),(28,1),(29,0),(30,0)] [] mixed (by kernel_rfl) ?_)|(refine St.draw (id:=34) [(0,0),(1,1),(2,0),(3,1),(4,0),(5,0),(6,0),(7,1),(8,0),(9,0),(10,0),(11,0),(12,0),(13,1),(14,0),(15,0),(16,0),(17,0),(18,0),(19,1),(20,0),(21,0),(22,0),(23,0),(24,0)] [] mixed (by kernel_rfl) ?_)| refine Gl hri ?_|refine Gl hrd ?_|refine Gl (hdn _) ?_|refine Gl (hres _) ?_|refine Gl hbnd ?_|(refine Gt hnew ?_;rintro _ _ ⟨Cb,rfl,rfl⟩)|(refine Gt (hdoes0 _) ?_;rintro _ _ ⟨R,rad,rcap,rfl,rfl⟩)|(refine Ge ?_ ?_<;>(intro h;try (exfalso;omega)))|fail)
          all_goals first|(exfalso;omega)|(exfalso;simp at h;done)|skip
          refine IH ⟨(k+1,M2,n,_,ms),hlt,gcn⟩ (by show jobs.length - (k+1)<jobs.length - k;omega) ?_ ?_
          · exact Sub.go
          · exact Ent.go
        | read g1 grun gal g4 gcn =>
          subst g4
          cases hrb:rightB (p.code progs) with
          | false =>
            rw [hrb] at hri
            clear hrd
            have hdoes0:=fun Cb=>(hdoes Cb).wk (Q':=fun r L=>∃ R ad cap,r=.tuple ⟨[.int .i64 (N:Int), .slice ad 0 cap]⟩∧L=[R,Mm Mb C M2,ClE Cb c (.slice (some ⟨pb,po,none⟩) progs.length pcap) p q progs m,q]) (by
              rintro r L ⟨R,ad,cap,rs,hrs,_,_,rfl,rfl⟩
              have hz:rs=[]:=List.map_eq_nil_iff.1 hrs
              subst hz
              exact ⟨_,⟨R,ad,cap,rfl,rfl⟩,Ent.refl _⟩)
            obtain ⟨pk,epk⟩:=hpn gcn
            rw [epk] at hpk
            unfold Cell.v at hpk
            dsimp only at hpk
            rw [gal] at hal
            repeat' (first|refine St.halt 32 ?_ |refine Ga ?_|(refine Gb ?_;intro b)|(refine Gd ?_;intro g cap rest hcap)|(refine Gc ?_;intro ad cap)|(refine St.draw (id:=18) [(0,1),(1,0),(2,0),(3,0),(4,0),(5,1),(6,0),(7,0),(8,1),(9,3),(10,0)] [9] mixed (by kernel_rfl) ?_)|(refine St.draw (id:=29) [(0,0),(1,0),(2,0),(3,0),(4,0),(5,0),(6,0),(7,1),(8,0),(9,0),(10,0),(11,0),(12,0),(13,0),(14,0),(15,1),(16,0),(17,0),(18,0),(19,1),(20,0),(21,0),(22,0),(23,0),(24,0),(25,0),(26,1),(27,0),(28,1),(29,0),(30,0)] [] mixed (by kernel_rfl) ?_)|(refine St.draw (id:=34) [(0,0),(1,1),(2,0),(3,1),(4,0),(5,0),(6,0),(7,1),(8,0),(9,0),(10,0),(11,0),(12,0),(13,1),(14,0),(15,0),(16,0),(17,0),(18,0),(19,1),(20,0),(21,0),(22,0),(23,0),(24,0)] [] mixed (by kernel_rfl) ?_)| refine Gl hri ?_|refine Gl (hdn _) ?_|refine Gl (hres _) ?_|refine Gl hbnd ?_|(refine Gt hnew ?_;rintro _ _ ⟨Cb,rfl,rfl⟩)|(refine Gt (hdoes0 _) ?_;rintro _ _ ⟨R,rad,rcap,rfl,rfl⟩)|(refine Ge ?_ ?_<;>(intro h;try (exfalso;omega)))|fail)
            all_goals first|(exfalso;omega)|skip
            refine Halt.go ?_
            have hrun:=qrun_t S hok grun ⟨hf0,by omega⟩ ⟨hc.w0,by have:=hc.w1;omega⟩ (by rw [hpa];rfl) q R pcv hins hcl none 0 ⟨none,0,rfl,by decide, .inl rfl⟩
            rw [hpa,ewr,efu,show g4 [a0,a1,a2,a3]=[Value.int .u64 (a0:Int), .int .u64 (a1:Int), .int .u64 (a2:Int), .int .u64 (a3:Int)] from rfl] at hrun
            repeat' (first|refine Ga ?_|(refine Gb ?_;intro b)|(refine Gd ?_;intro g cap rest hcap)|(refine Gc ?_;intro ad cap)|(refine St.draw (id:=18) [(0,1),(1,0),(2,0),(3,0),(4,0),(5,1),(6,0),(7,0),(8,1),(9,3),(10,0)] [9] mixed (by kernel_rfl) ?_)|(refine St.draw (id:=29) [(0,0),(1,0),(2,0),(3,0),(4,0),(5,0),(6,0),(7,1),(8,0),(9,0),(10,0),(11,0),(12,0),(13,0),(14,0),(15,1),(16,0),(17,0),(18,0),(19,1),(20,0),(21,0),(22,0),(23,0),(24,0),(25,0),(26,1),(27,0),(28,1),(29,0),(30,0)] [] mixed (by kernel_rfl) ?_)|(refine St.draw (id:=34) [(0,0),(1,1),(2,0),(3,1),(4,0),(5,0),(6,0),(7,1),(8,0),(9,0),(10,0),(11,0),(12,0),(13,1),(14,0),(15,0),(16,0),(17,0),(18,0),(19,1),(20,0),(21,0),(22,0),(23,0),(24,0)] [] mixed (by kernel_rfl) ?_)| refine Gl (hres _) ?_|refine Gl (hal _) ?_|refine Gl hpk ?_|(refine Gt hrun ?_;rintro _ _ ⟨st,dw,nad3,ncp3,rfl,rfl⟩)|(refine Ge ?_ ?_<;>(intro h;try (exfalso;omega)))|fail)
            all_goals first|(exfalso;omega)|(exfalso;simp at h;done)|skip
            refine IH ⟨(k+1,M2,n,_,ms),hlt,gcn⟩ (by show jobs.length - (k+1)<jobs.length - k;omega) ?_ ?_
            · exact Sub.go
            · exact Ent.go
          | true =>
            rw [hrb] at hri
            rw [show onlyB (p.code progs)=true by rcases g1 with g1|g1;exact absurd g1 (by rw [hrb];decide);exact g1] at hrd
            have hdoes0:=fun Cb=>(hdoes Cb).wk (Q':=fun r L=>∃ R ad cap,r=.tuple ⟨[.int .i64 (N:Int), .slice ad 0 cap]⟩∧L=[R,Mm Mb C M2,ClE Cb c (.slice (some ⟨pb,po,none⟩) progs.length pcap) p q progs m,q]) (by
              rintro r L ⟨R,ad,cap,rs,hrs,_,_,rfl,rfl⟩
              have hz:rs=[]:=List.map_eq_nil_iff.1 hrs
              subst hz
              exact ⟨_,⟨R,ad,cap,rfl,rfl⟩,Ent.refl _⟩)
            obtain ⟨pk,epk⟩:=hpn gcn
            rw [epk] at hpk
            unfold Cell.v at hpk
            dsimp only at hpk
            rw [gal] at hal
            repeat' (first|refine St.halt 32 ?_ |refine Ga ?_|(refine Gb ?_;intro b)|(refine Gd ?_;intro g cap rest hcap)|(refine Gc ?_;intro ad cap)|(refine St.draw (id:=18) [(0,1),(1,0),(2,0),(3,0),(4,0),(5,1),(6,0),(7,0),(8,1),(9,3),(10,0)] [9] mixed (by kernel_rfl) ?_)|(refine St.draw (id:=29) [(0,0),(1,0),(2,0),(3,0),(4,0),(5,0),(6,0),(7,1),(8,0),(9,0),(10,0),(11,0),(12,0),(13,0),(14,0),(15,1),(16,0),(17,0),(18,0),(19,1),(20,0),(21,0),(22,0),(23,0),(24,0),(25,0),(26,1),(27,0),(28,1),(29,0),(30,0)] [] mixed (by kernel_rfl) ?_)|(refine St.draw (id:=34) [(0,0),(1,1),(2,0),(3,1),(4,0),(5,0),(6,0),(7,1),(8,0),(9,0),(10,0),(11,0),(12,0),(13,1),(14,0),(15,0),(16,0),(17,0),(18,0),(19,1),(20,0),(21,0),(22,0),(23,0),(24,0)] [] mixed (by kernel_rfl) ?_)| refine Gl hri ?_|refine Gl hrd ?_|refine Gl (hdn _) ?_|refine Gl (hres _) ?_|refine Gl hbnd ?_|(refine Gt hnew ?_;rintro _ _ ⟨Cb,rfl,rfl⟩)|(refine Gt (hdoes0 _) ?_;rintro _ _ ⟨R,rad,rcap,rfl,rfl⟩)|(refine Ge ?_ ?_<;>(intro h;try (exfalso;omega)))|fail)
            all_goals first|(exfalso;omega)|skip
            refine Halt.go ?_
            have hrun:=qrun_t S hok grun ⟨hf0,by omega⟩ ⟨hc.w0,by have:=hc.w1;omega⟩ (by rw [hpa];rfl) q R pcv hins hcl none 0 ⟨none,0,rfl,by decide, .inl rfl⟩
            rw [hpa,ewr,efu,show g4 [a0,a1,a2,a3]=[Value.int .u64 (a0:Int), .int .u64 (a1:Int), .int .u64 (a2:Int), .int .u64 (a3:Int)] from rfl] at hrun
            repeat' (first|refine Ga ?_|(refine Gb ?_;intro b)|(refine Gd ?_;intro g cap rest hcap)|(refine Gc ?_;intro ad cap)|(refine St.draw (id:=18) [(0,1),(1,0),(2,0),(3,0),(4,0),(5,1),(6,0),(7,0),(8,1),(9,3),(10,0)] [9] mixed (by kernel_rfl) ?_)|(refine St.draw (id:=29) [(0,0),(1,0),(2,0),(3,0),(4,0),(5,0),(6,0),(7,1),(8,0),(9,0),(10,0),(11,0),(12,0),(13,0),(14,0),(15,1),(16,0),(17,0),(18,0),(19,1),(20,0),(21,0),(22,0),(23,0),(24,0),(25,0),(26,1),(27,0),(28,1),(29,0),(30,0)] [] mixed (by kernel_rfl) ?_)|(refine St.draw (id:=34) [(0,0),(1,1),(2,0),(3,1),(4,0),(5,0),(6,0),(7,1),(8,0),(9,0),(10,0),(11,0),(12,0),(13,1),(14,0),(15,0),(16,0),(17,0),(18,0),(19,1),(20,0),(21,0),(22,0),(23,0),(24,0)] [] mixed (by kernel_rfl) ?_)| refine Gl (hres _) ?_|refine Gl (hal _) ?_|refine Gl hpk ?_|(refine Gt hrun ?_;rintro _ _ ⟨st,dw,nad3,ncp3,rfl,rfl⟩)|(refine Ge ?_ ?_<;>(intro h;try (exfalso;omega)))|fail)
            all_goals first|(exfalso;omega)|(exfalso;simp at h;done)|skip
            refine IH ⟨(k+1,M2,n,_,ms),hlt,gcn⟩ (by show jobs.length - (k+1)<jobs.length - k;omega) ?_ ?_
            · exact Sub.go
            · exact Ent.go
        | wrote r ms2 g1 g2 g3 g4 g5 g6 grun g8 g9 gal gcn =>
          subst g4
          rw [g1] at hri
          rw [g2] at hrd
          rw [g8,g9] at hres
          have hdoes1:=fun Cb=>(hdoes Cb).wk (Q':=fun v L=>∃ R ad cap nad ncp,ListR rowV R (.slice ad 1 cap) [(r,nad,ncp)]∧ListR u1V R (.slice nad r.news.length ncp) r.news∧v=.tuple ⟨[.int .i64 (N:Int), .slice ad 1 cap]⟩∧L=[R,Mm Mb C M2,ClE Cb c (.slice (some ⟨pb,po,none⟩) progs.length pcap) p q progs m,q]) (by
            rintro v L ⟨R,ad,cap,rs,hrs,hRR,hnw,rfl,rfl⟩
            match rs,hrs with
            | [x],hrs =>
              injection hrs with hx _
              obtain ⟨x1,nad,ncp⟩:=x
              dsimp only at hx
              subst hx
              exact ⟨_,⟨R,ad,cap,nad,ncp,hRR,hnw _ (List.mem_singleton.2 rfl),rfl,rfl⟩,Ent.refl _⟩)
          obtain ⟨pk,epk⟩:=hpn gcn
          rw [epk] at hpk
          unfold Cell.v at hpk
          dsimp only at hpk
          rw [gal] at hal
          obtain ⟨who,tag,rc,rv,news⟩:=r
          dsimp only at g5 g6 grun g8 g9 hdoes1 hres
          rw [hpw] at g5
          rw [hpt] at g6
          subst g5 g6
          repeat' (first|refine St.halt 29 ?_ |refine Ga ?_|(refine Gb ?_;intro b)|(refine Gd ?_;intro g cap rest hcap)|(refine Gc ?_;intro ad cap)|(refine St.draw (id:=18) [(0,1),(1,0),(2,0),(3,0),(4,0),(5,1),(6,0),(7,0),(8,1),(9,3),(10,0)] [9] mixed (by kernel_rfl) ?_)|(refine St.draw (id:=29) [(0,0),(1,0),(2,0),(3,0),(4,0),(5,0),(6,0),(7,1),(8,0),(9,0),(10,0),(11,0),(12,0),(13,0),(14,0),(15,1),(16,0),(17,0),(18,0),(19,1),(20,0),(21,0),(22,0),(23,0),(24,0),(25,0),(26,1),(27,0),(28,1),(29,0),(30,0)] [] mixed (by kernel_rfl) ?_)|(refine St.draw (id:=34) [(0,0),(1,1),(2,0),(3,1),(4,0),(5,0),(6,0),(7,1),(8,0),(9,0),(10,0),(11,0),(12,0),(13,1),(14,0),(15,0),(16,0),(17,0),(18,0),(19,1),(20,0),(21,0),(22,0),(23,0),(24,0)] [] mixed (by kernel_rfl) ?_)| refine Gl hri ?_|refine Gl hrd ?_|refine Gl (hdn _) ?_|refine Gl (hres _) ?_|refine Gl hbnd ?_|(refine Gt hnew ?_;rintro _ _ ⟨Cb,rfl,rfl⟩)|(refine Gt (hdoes1 _) ?_;rintro _ _ ⟨R,rad,rcap,nad,ncp,hRR,hnw,rfl,rfl⟩)|(refine Ge ?_ ?_<;>(intro h;try (exfalso;omega)))|fail)
          all_goals first|(exfalso;omega)|skip
          refine Halt.go ?_
          obtain ⟨ab,ao,al,al1,rfl,hra,hda,hta⟩:=hRR.at' rowV_len 0 Nat.zero_lt_one
          unfold rowV at hta
          dsimp only [List.getElem_cons_zero] at hta
          have hda':DropN (ao+(0:Int).toNat * 5) al al1:=hda
          clear hda
          rw [show ((T.getD ((mk:Int) % th).toNat 0+1:Nat):Int)=(T.getD ((mk:Int) % th).toNat 0:Nat)+1 from rfl] at hta
          obtain ⟨al2,rfl⟩:=TakeN.five hta
          have hnf0:=NthN.part (j:=0) hda' hta .zero
          have hnf1:=NthN.part (j:=1) hda' hta (.succ .zero)
          have hnf4:=NthN.part (j:=4) hda' hta (.succ (.succ (.succ (.succ .zero))))
          have hnf2:=hda'.add (.succ (.succ .zero))
          have hnf3:TakeN 2 (Value.int .i64 rc::.int .u64 (rv:Int)::.slice nad news.length ncp::al2) [Value.int .i64 rc, .int .u64 (rv:Int)]:=.succ (.succ .zero)
          clear hta hda'
          repeat' (first|refine St.halt 32 ?_ |refine Ga ?_|(refine Gb ?_;intro b)|(refine Gd ?_;intro g cap rest hcap)|(refine Gc ?_;intro ad cap)|(refine St.draw (id:=18) [(0,1),(1,0),(2,0),(3,0),(4,0),(5,1),(6,0),(7,0),(8,1),(9,3),(10,0)] [9] mixed (by kernel_rfl) ?_)|(refine St.draw (id:=29) [(0,0),(1,0),(2,0),(3,0),(4,0),(5,0),(6,0),(7,1),(8,0),(9,0),(10,0),(11,0),(12,0),(13,0),(14,0),(15,1),(16,0),(17,0),(18,0),(19,1),(20,0),(21,0),(22,0),(23,0),(24,0),(25,0),(26,1),(27,0),(28,1),(29,0),(30,0)] [] mixed (by kernel_rfl) ?_)|(refine St.draw (id:=34) [(0,0),(1,1),(2,0),(3,1),(4,0),(5,0),(6,0),(7,1),(8,0),(9,0),(10,0),(11,0),(12,0),(13,1),(14,0),(15,0),(16,0),(17,0),(18,0),(19,1),(20,0),(21,0),(22,0),(23,0),(24,0)] [] mixed (by kernel_rfl) ?_)| refine Gl (hres _) ?_|(refine Ge ?_ ?_<;>(intro h;try (exfalso;first|omega|contradiction)))|fail)
          all_goals first|(exfalso;omega)|(exfalso;simp at h;done)|skip
          refine Halt.go ?_
          have hrun:=qrun_t S hok grun ⟨hf0,by omega⟩ ⟨hc.w0,by have:=hc.w1;omega⟩ (by rw [hpa];rfl) q R pcv hins hcl nad ncp hnw
          rw [hpa,ewr,efu,show g4 [a0,a1,a2,a3]=[Value.int .u64 (a0:Int), .int .u64 (a1:Int), .int .u64 (a2:Int), .int .u64 (a3:Int)] from rfl] at hrun
          repeat' (first|refine Ga ?_|(refine Gb ?_;intro b)|(refine Gd ?_;intro g cap rest hcap)|(refine Gc ?_;intro ad cap)|(refine St.draw (id:=18) [(0,1),(1,0),(2,0),(3,0),(4,0),(5,1),(6,0),(7,0),(8,1),(9,3),(10,0)] [9] mixed (by kernel_rfl) ?_)|(refine St.draw (id:=29) [(0,0),(1,0),(2,0),(3,0),(4,0),(5,0),(6,0),(7,1),(8,0),(9,0),(10,0),(11,0),(12,0),(13,0),(14,0),(15,1),(16,0),(17,0),(18,0),(19,1),(20,0),(21,0),(22,0),(23,0),(24,0),(25,0),(26,1),(27,0),(28,1),(29,0),(30,0)] [] mixed (by kernel_rfl) ?_)|(refine St.draw (id:=34) [(0,0),(1,1),(2,0),(3,1),(4,0),(5,0),(6,0),(7,1),(8,0),(9,0),(10,0),(11,0),(12,0),(13,1),(14,0),(15,0),(16,0),(17,0),(18,0),(19,1),(20,0),(21,0),(22,0),(23,0),(24,0)] [] mixed (by kernel_rfl) ?_)| refine Gl (hres _) ?_|refine Gl (hal _) ?_|refine Gl hpk ?_|(refine Gt hrun ?_;rintro _ _ ⟨st,dw,nad3,ncp3,rfl,rfl⟩)|(refine Ge ?_ ?_<;>(intro h;try (exfalso;omega)))|fail)
          all_goals first|(exfalso;omega)|(exfalso;simp at h;done)|skip
          refine IH ⟨(k+1,M2,n+1,_,ms2),hlt,gcn⟩ (by show jobs.length - (k+1)<jobs.length - k;omega) ?_ ?_
          · exact Sub.go
          · exact Ent.go
      · have ecode:p.code progs=[]:=by
          unfold Cp.code
          rw [hpp,if_pos (by omega)]
        have hins:InsR q (.slice none 0 0) (p.code progs):=by rw [ecode];exact InsR.nil q
        have hrb:rightB (p.code progs)=false:=by rw [ecode];rfl
        have hcl:(p.code progs).length≤256:=by rw [ecode];decide
        have hri:=right_rr q _ _ hins
        rw [hrb] at hri
        cases hco with
        | late g1=>exact absurd g1 (by rw [hrb];decide)
        | wrote r ms2 g1=>exact absurd g1 (by rw [hrb];decide)
        | read g1 grun gal g4 gcn =>
          subst g4
          have hdoes0:=fun Cb=>(hdoes Cb).wk (Q':=fun r L=>∃ R ad cap,r=.tuple ⟨[.int .i64 (N:Int), .slice ad 0 cap]⟩∧L=[R,Mm Mb C M2,ClE Cb c (.slice pad progs.length pcap) p q progs m,q]) (by
            rintro r L ⟨R,ad,cap,rs,hrs,_,_,rfl,rfl⟩
            have hz:rs=[]:=List.map_eq_nil_iff.1 hrs
            subst hz
            exact ⟨_,⟨R,ad,cap,rfl,rfl⟩,Ent.refl _⟩)
          obtain ⟨pk,epk⟩:=hpn gcn
          rw [epk] at hpk
          unfold Cell.v at hpk
          dsimp only at hpk
          rw [gal] at hal
          repeat' (first|refine St.halt 32 ?_ |refine Ga ?_|(refine Gb ?_;intro b)|(refine Gd ?_;intro g cap rest hcap)|(refine Gc ?_;intro ad cap)|(refine St.draw (id:=18) [(0,1),(1,0),(2,0),(3,0),(4,0),(5,1),(6,0),(7,0),(8,1),(9,3),(10,0)] [9] mixed (by kernel_rfl) ?_)|(refine St.draw (id:=29) [(0,0),(1,0),(2,0),(3,0),(4,0),(5,0),(6,0),(7,1),(8,0),(9,0),(10,0),(11,0),(12,0),(13,0),(14,0),(15,1),(16,0),(17,0),(18,0),(19,1),(20,0),(21,0),(22,0),(23,0),(24,0),(25,0),(26,1),(27,0),(28,1),(29,0),(30,0)] [] mixed (by kernel_rfl) ?_)|(refine St.draw (id:=34) [(0,0),(1,1),(2,0),(3,1),(4,0),(5,0),(6,0),(7,1),(8,0),(9,0),(10,0),(11,0),(12,0),(13,1),(14,0),(15,0),(16,0),(17,0),(18,0),(19,1),(20,0),(21,0),(22,0),(23,0),(24,0)] [] mixed (by kernel_rfl) ?_)| refine Gl hri ?_|refine Gl (hdn _) ?_|refine Gl (hres _) ?_|refine Gl hbnd ?_|(refine Gt hnew ?_;rintro _ _ ⟨Cb,rfl,rfl⟩)|(refine Gt (hdoes0 _) ?_;rintro _ _ ⟨R,rad,rcap,rfl,rfl⟩)|(refine Ge ?_ ?_<;>(intro h;try (exfalso;omega)))|fail)
          all_goals first|(exfalso;omega)|skip
          all_goals
            refine Halt.go ?_
            have hrun:=qrun_t S hok grun ⟨hf0,by omega⟩ ⟨hc.w0,by have:=hc.w1;omega⟩ (by rw [hpa];rfl) q R (.slice none 0 0) hins hcl none 0 ⟨none,0,rfl,by decide, .inl rfl⟩
            rw [hpa,ewr,efu,show g4 [a0,a1,a2,a3]=[Value.int .u64 (a0:Int), .int .u64 (a1:Int), .int .u64 (a2:Int), .int .u64 (a3:Int)] from rfl] at hrun
            repeat' (first|refine Ga ?_|(refine Gb ?_;intro b)|(refine Gd ?_;intro g cap rest hcap)|(refine Gc ?_;intro ad cap)|(refine St.draw (id:=18) [(0,1),(1,0),(2,0),(3,0),(4,0),(5,1),(6,0),(7,0),(8,1),(9,3),(10,0)] [9] mixed (by kernel_rfl) ?_)|(refine St.draw (id:=29) [(0,0),(1,0),(2,0),(3,0),(4,0),(5,0),(6,0),(7,1),(8,0),(9,0),(10,0),(11,0),(12,0),(13,0),(14,0),(15,1),(16,0),(17,0),(18,0),(19,1),(20,0),(21,0),(22,0),(23,0),(24,0),(25,0),(26,1),(27,0),(28,1),(29,0),(30,0)] [] mixed (by kernel_rfl) ?_)|(refine St.draw (id:=34) [(0,0),(1,1),(2,0),(3,1),(4,0),(5,0),(6,0),(7,1),(8,0),(9,0),(10,0),(11,0),(12,0),(13,1),(14,0),(15,0),(16,0),(17,0),(18,0),(19,1),(20,0),(21,0),(22,0),(23,0),(24,0)] [] mixed (by kernel_rfl) ?_)| refine Gl (hres _) ?_|refine Gl (hal _) ?_|refine Gl hpk ?_|(refine Gt hrun ?_;rintro _ _ ⟨st,dw,nad3,ncp3,rfl,rfl⟩)|(refine Ge ?_ ?_<;>(intro h;try (exfalso;omega)))|fail)
            all_goals first|(exfalso;omega)|(exfalso;simp at h;done)|skip
            refine IH ⟨(k+1,M2,n,_,ms),hlt,gcn⟩ (by show jobs.length - (k+1)<jobs.length - k;omega) ?_ ?_
            · exact Sub.go
            · exact Ent.go
    · obtain rfl:k=jobs.length:=by omega
      clear IH
      repeat' (first|refine Ga ?_|(refine Gb ?_;intro b)|(refine Gd ?_;intro g cap rest hcap)|(refine Gc ?_;intro ad cap)|(refine St.draw (id:=18) [(0,1),(1,0),(2,0),(3,0),(4,0),(5,1),(6,0),(7,0),(8,1),(9,3),(10,0)] [9] mixed (by kernel_rfl) ?_)|(refine St.draw (id:=29) [(0,0),(1,0),(2,0),(3,0),(4,0),(5,0),(6,0),(7,1),(8,0),(9,0),(10,0),(11,0),(12,0),(13,0),(14,0),(15,1),(16,0),(17,0),(18,0),(19,1),(20,0),(21,0),(22,0),(23,0),(24,0),(25,0),(26,1),(27,0),(28,1),(29,0),(30,0)] [] mixed (by kernel_rfl) ?_)|(refine St.draw (id:=34) [(0,0),(1,1),(2,0),(3,1),(4,0),(5,0),(6,0),(7,1),(8,0),(9,0),(10,0),(11,0),(12,0),(13,1),(14,0),(15,0),(16,0),(17,0),(18,0),(19,1),(20,0),(21,0),(22,0),(23,0),(24,0)] [] mixed (by kernel_rfl) ?_)|(refine Ge ?_ ?_<;>(intro h;try (exfalso;omega)))|fail)
      all_goals first|(exfalso;omega)|skip
      exact St.d1 Tryz.func10 ⟨_,⟨rfl,rfl⟩,Ent.go⟩
end Go.Proofs.YthmbgodcpgkkeaaGreat
end
section
namespace Go.Proofs.YthmbgodcpgkkeaaGreat
theorem fcs_and {a b:Bool} (ha:a=true) (hb:b=true):(a && b)=true:=by rw [ha,hb];rfl
theorem fcs_0:(Rows.callSerialRow.wf (OpenSpec.ofChange Rows.callSerialSpec))=true:=by kernel_rfl
theorem fcs_1:(laidOutB Tryz.prog)=true:=by kernel_rfl
theorem fcs_2:(mapsRowed Tryz.prog)=true:=by kernel_rfl
theorem fcs_3:(Tryz.f10.params.all (Tryz.prog.readableRec ·))=true:=by kernel_rfl
theorem fcs_4:(namedTie Tryz.prog Rows.callSerialRow.named Rows.callSerialSpec.vars)=true:=by kernel_rfl
theorem fcs_5:((Rows.callSerialRow.stops == []))=true:=by kernel_rfl
theorem fcs_6:((Tryz.prog.stops == []))=true:=by kernel_rfl
theorem fcs_7:((Rows.callSerialRow.knobs == []))=true:=by kernel_rfl
theorem fcs_8:((Tryz.prog.stopKnobs == []))=true:=by kernel_rfl
theorem fcs_9:((Rows.callSerialRow.inPlace == Tryz.prog.inPlace 10))=true:=by kernel_rfl
theorem fcs_10:((Rows.callSerialRow.unfollowed == Tryz.prog.unfollowed 10))=true:=by kernel_rfl
theorem fcs_11:((Rows.callSerialRow.recurses == Tryz.prog.recurses 10))=true:=by kernel_rfl
theorem fcs_12:((Rows.callSerialRow.named == Tryz.prog.varsNamed 10))=true:=by kernel_rfl
theorem fcs_13:((Rows.callSerialRow.maps == (Tryz.f10.params.toList++Rows.callSerialSpec.plain.varTypes Tryz.prog).any (Tryz.prog.mapsRec ·)))=true:=by kernel_rfl
theorem fcs_14:((Rows.callSerialRow.ifaces == (Tryz.f10.params.toList++Rows.callSerialSpec.plain.varTypes Tryz.prog).any (Tryz.prog.ifacesRec ·)))=true:=by kernel_rfl
theorem fcs_15:((Rows.callSerialRow.mapsOut == Tryz.prog.mapsAmong Tryz.f10.resultTypes.toList))=true:=by kernel_rfl
theorem fcs_16:((Rows.callSerialRow.loops == (Tryz.f10.params.toList++Rows.callSerialSpec.plain.varTypes Tryz.prog).any (Tryz.prog.loopsFrom ·)))=true:=by kernel_rfl
theorem fcs_17:((Rows.callSerialRow.wideKeys == (Tryz.f10.params.toList++Rows.callSerialSpec.plain.varTypes Tryz.prog++Tryz.f10.resultTypes.toList).any (Tryz.prog.wideKeysFrom ·)))=true:=by kernel_rfl
theorem fcs_18:(Rows.callSerialSpec.vars.all (Tryz.prog.varReadable ·))=true:=by kernel_rfl
theorem fcs_19:(Tryz.f10.resultTypes.all (fun t=>Tryz.prog.readableRec t && decide (t<Tryz.prog.types.size)))=true:=by kernel_rfl
theorem fcs_20:((Rows.callSerialRow.ifacesOut == Tryz.f10.resultTypes.toList.any (Tryz.prog.ifacesRec ·)))=true:=by kernel_rfl
theorem fcs_21:((Rows.callSerialRow.loopsOut == Tryz.f10.resultTypes.toList.any (Tryz.prog.loopsFrom ·)))=true:=by kernel_rfl
theorem fcs_22:((Rows.callSerialRow.plainKeys == Tryz.prog.plainKeys))=true:=by kernel_rfl
theorem fcs_23:(Rows.callSerialRow.shortTexts.isNone)=true:=by kernel_rfl
theorem fcs_24:(Tryz.prog.stopsHeard)=true:=by kernel_rfl
theorem fcs_25:(Tryz.prog.mayEnter)=true:=by kernel_rfl
theorem fcs_26:((Rows.callSerialRow.lifted == Tryz.prog.liftsFinal))=true:=by kernel_rfl
theorem fcs_27:((Tryz.prog.make == some Rows.callSerialRow.make))=true:=by kernel_rfl
theorem fcs_28:((Rows.callSerialRow.kinds == (if Rows.callSerialRow.domain.isEmpty then [] else Tryz.f10.params.toList.map fun t=>match Tryz.prog.underlying t with|some (.int k)=>some k|_=>none)))=true:=by kernel_rfl
theorem fcs_29:((Rows.callSerialRow.pinned == Rows.callSerialRow.pinnedBy))=true:=by kernel_rfl
theorem fcs_30:((Rows.callSerialRow.veiled == (Tryz.f10.params.toList++Rows.callSerialSpec.plain.varTypes Tryz.prog++Tryz.f10.resultTypes.toList).any (Tryz.prog.veiledRec ·)))=true:=by kernel_rfl
theorem fcs_31:(Rows.callSerialRow.veiledFits Tryz.prog Tryz.f10.params.toList (Tryz.f10.params.toList++Rows.callSerialSpec.plain.varTypes Tryz.prog++Tryz.f10.resultTypes.toList))=true:=by kernel_rfl
end Go.Proofs.YthmbgodcpgkkeaaGreat
end
