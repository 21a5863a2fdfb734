/-
  Package tumblerlaw15: CallPlays, a round that asks for something. Package tumblerlaw15: CallPlays, the law. The closed facts of the row, one by one.
-/
import Derived.Test.YthmbgodcpgkkeaaGreatIk2
import Derived.Test.YthmbgodcpgkkeaaGreatRows
import Derived.ProofKit
import Derived.JoinedOf
set_option maxRecDepth 100000
namespace Go.Proofs.YthmbgodcpgkkeaaGreat
set_option maxHeartbeats 8000000 in
theorem cplays_next {c:Cfg}(hc:Small c){q:HProp}{pad:Option Addr}{pcp:Nat}{progs:Progs}(hpr:ProgsR q (.slice pad progs.length pcp) progs){wh:Int}{tag:Nat}{jp:Int}{ja:List Nat}(hw:0≤wh∧wh≤1000)(hlast:c.last≤140737488355328){oad:Option Addr}{outs:List Out}{ocap k:Nat}(_hk:k≤outs.length)(hol:outs.length≤120)(hoc:outs.length≤ocap){m:Cm}(hi:Cinv c ⟨wh,tag,jp,ja⟩ progs m){t9:Tp}{s9:Rs}
  (hplay:Tri Tryz.prog 62 #[.agg ⟨cpV c ⟨wh,tag,jp,ja⟩ (.slice pad progs.length pcp)⟩, .slice oad k ocap] [q] fun r L=>∃ q' ra rc rl,Gr q q'∧RowsQ q' s9.rows ra rc rl∧r=.agg ⟨rsV (.slice oad k ocap) t9 s9 (.slice ra rl.length rc)⟩∧L=[q']) (hct:CT s9 m k) (hor:outs.length=0∨∃ b o l rest,oad=some ⟨b,o,none⟩∧RdC q b l∧DropN o l (outs.flatMap Out.v++rest)) (hke:k<outs.length) (h2:(m.ask c ⟨wh,tag,jp,ja⟩).2=true) (ht9:t9=⟨k,(m.ask c ⟨wh,tag,jp,ja⟩).1,true⟩) (hcg:CG s9) {m2:Cm} (htl:∀ Cb,Tri Tryz.prog 70 #[.pointer (some ⟨Cb,0,none⟩), .agg ⟨(outs[k]).v⟩] [ClE Cb c (.slice pad progs.length pcp) ⟨wh,tag,jp,ja⟩ q progs m,q] fun r L=>r=.tuple ⟨[]⟩∧L=[ClE Cb c (.slice pad progs.length pcp) ⟨wh,tag,jp,ja⟩ q progs m2,q])
  (Cb Y:Nat) (w0:World) (F:List HProp) (kk:List Item) (IH:∀ {E':Env} {L':List HProp},Sub E' [(61, .int .i64 ((k:Int)+1)),(60, .int .i64 ((outs.length:Int)+1)),(5, .slice oad outs.length ocap),(15, .pointer (some ⟨Cb,0,none⟩)),(16, .pointer (some ⟨Y,0,none⟩))]→Ent L' (ClE Cb c (.slice pad progs.length pcp) ⟨wh,tag,jp,ja⟩ q progs m2::q::bl Y 140 (cpV c ⟨wh,tag,jp,ja⟩ (.slice pad progs.length pcp))::F)→St Tryz.prog ⟨7,Tryz.f7,w0,cplayQ q,F,[]⟩ kk E' L') :
  St Tryz.prog ⟨7,Tryz.f7,w0,cplayQ q,F,[]⟩ (.code (codeAt Tryz.f7 10)::kk)
   [(61, .int .i64 (k:Int)),(60, .int .i64 ((outs.length:Int)+1)),(5, .slice oad outs.length ocap),(15, .pointer (some ⟨Cb,0,none⟩)),(16, .pointer (some ⟨Y,0,none⟩))]
   (ClE Cb c (.slice pad progs.length pcp) ⟨wh,tag,jp,ja⟩ q progs m::q::bl Y 140 (cpV c ⟨wh,tag,jp,ja⟩ (.slice pad progs.length pcp))::F):=by
 have hask:=cask_r Cb c hc (.slice pad progs.length pcp) ⟨wh,tag,jp,ja⟩ q progs hw hlast m hi;have hdn:=cdone_e Cb c (.slice pad progs.length pcp) ⟨wh,tag,jp,ja⟩ q progs m;have hlkd:=clooked_e Cb c (.slice pad progs.length pcp) ⟨wh,tag,jp,ja⟩ q progs m;have hres:=cresult_e Cb c (.slice pad progs.length pcp) ⟨wh,tag,jp,ja⟩ q progs m;have hal1:=calone_e Cb c (.slice pad progs.length pcp) ⟨wh,tag,jp,ja⟩ q progs m;have hrows:=crows_z Cb c hc (.slice pad progs.length pcp) ⟨wh,tag,jp,ja⟩ q progs hpr m hi;have hrlen:=crows_len hc hi;have hrnw:=crows_news hi
 have hrw9:(m.s.did=true→0≤s9.swap∧s9.swap+1=k∧s9.rows=m.rows)∧(m.s.did=false→(s9.swap+1<k∨s9.swap = -1)∧m.rows=[]):=by
  refine ⟨fun h=>?_,fun h=>⟨hct.w2 h, ?_⟩⟩
  ·obtain ⟨h1,h2,b,h3,h4⟩:=hct.w1 h
   refine ⟨h1,h2, ?_⟩;unfold Cm.rows;rw [if_pos h,h3];exact h4.symm
  ·unfold Cm.rows
   rw [if_neg (by rw [h];exact Bool.false_ne_true)]
 have hcf1:=hct.f1;have hcf2:=hct.f2;clear hct;unfold cpV rsV tpV Cfg.v g4 at hplay;unfold cpV Cfg.v g4;dsimp only [List.cons_append,List.nil_append] at hplay⊢;obtain ⟨al,dn,er,vl,lk,sw,rws⟩:=s9;dsimp only at hplay hrw9 hcf1 hcf2
 have hLk:(m.s.fresh=true→0<k∧lk=(k:Int) - 1)∧(m.s.fresh=false→lk+1<k∨k=0):=⟨fun e=>⟨(hcf1 e).1,by have:=(hcf1 e).2;omega⟩,hcf2⟩
 clear hcf1 hcf2;generalize m.s.fresh=fr at hLk hlkd
 have hrsl:∀ {rs:List RowH},rs.map (·.1)=m.rows→rs.length≤1000000:=fun {rs} e=>by
  have:=congrArg List.length e;rw [List.length_map] at this;omega
 have hrsn:∀ {rs:List RowH},rs.map (·.1)=m.rows→∀ x∈rs,x.1.news.length≤1000000:=fun {rs} e x hx=>by
  have:=hrnw x.1 (by rw [← e];exact List.mem_map_of_mem hx);omega
 have hE:∀ {q9:HProp} (b:Nat),ListR rowV q9 (.slice (some ⟨b,0,none⟩) 0 0) []:=fun b=>⟨some ⟨b,0,none⟩,0,rfl,Nat.le_refl _, .inl rfl⟩
 have hE0:∀ {q9:HProp},∀ x∈([]:List RowH),ListR u1V q9 (.slice x.2.1 x.1.news.length x.2.2) x.1.news:=fun _ h=>by cases h
 generalize m.s.did=dd at hrw9;subst ht9
 have e13:¬ m.s.next=13:=fun e=>by
  rw [Cm.ask_not e] at h2
  cases h2
 rw [decide_eq_false e13] at hdn;have e1:=hcg.done;have e4:=hcg.alone;dsimp only at e1 e4;subst e1 e4;clear hcg e13;generalize m.ask c ⟨wh,tag,jp,ja⟩=a at hask h2 hplay;obtain ⟨⟨ak,aa,⟨ao1,ao2⟩,⟨an1,an2⟩⟩,ab⟩:=a;dsimp only at h2 hask hplay;subst h2;unfold MOp.v at hask;dsimp only at hask;replace htl:=htl Cb;obtain ⟨bf,o,l,l1,rfl,hrd,hdr,htk9⟩:=ListR.at (f:=Out.v) (sz:=3) (fun _=>rfl) hor k hke;unfold cpV Cfg.v g4 at IH;dsimp only [List.cons_append,List.nil_append] at IH
 cases fr with
 | true =>
  obtain ⟨hk0,rfl⟩:=hLk.1 rfl
  cases dd with
  | true =>
   obtain ⟨hs0,hs1,rfl⟩:=hrw9.1 rfl
   obtain rfl:sw=(k:Int) - 1:=by omega
   clear hrw9 hLk
   repeat' (first|refine St.haltR 25 ?_|refine Ga ?_|(refine Gb ?_;intro b)|(refine St.drawa (id:=12) [(0,1),(1,0),(2,0),(3,0),(4,3)] [(6,3)] [4,6] 5 mixed rfl (by intro w;rfl) (by kernel_rfl) ?_)|(refine Dr 14 [(0,0),(1,0),(2,0),(3,1),(4,0),(5,0),(6,1),(7,0),(8,0),(9,1),(10,0),(11,0),(12,0),(13,0),(14,1),(15,0),(16,1),(17,0),(18,0),(19,0),(20,0),(21,0),(22,1),(23,0),(24,0)] [] ?_)|(refine Dr 21 [(0,0),(1,1),(2,0),(3,0),(4,1),(5,0),(6,0),(7,1),(8,0),(9,0),(10,0),(11,1),(12,0),(13,0),(14,1),(15,0),(16,0),(17,0),(18,0),(19,1),(20,0),(21,1),(22,0),(23,0),(24,0)] [] ?_)|refine Gl hask ?_|refine Gl hdn ?_|refine Gl hlkd ?_|refine Gl (same14_r hR2 hrq.2.1 (hrs.trans hrq.1.symm) hN1 hrq.2.2 (hrsl hrs) (hrsn hrs)) ?_|(refine Gt hplay ?_;rintro _ _ ⟨q9,ra,rc,rl,hg,hrq,rfl,rfl⟩)|(refine Gt hrows ?_;rintro _ _ ⟨R1,ad1,cp1,rs,hrs,hR1,hN1,rfl,rfl⟩)|(refine Gt ((rows15_t hR1 (hrsl hrs))) ?_;rintro _ _ ⟨R2,ad2,cp2,hR2,rfl,rfl⟩)|(refine Ge ?_ ?_<;>intro h<;>try omega)|fail)
   all_goals first|(exfalso;simp at h;done)|(exfalso;simp at h;omega)|skip
   all_goals refine Halt.go ?_
   all_goals refine St.conv ?_ (Sub.refl _) (Ent.trans (Ent.of_take (p:=q9) Take.go) (hg.1 _))
   all_goals repeat' (first|refine Ga ?_|(refine Gt htl ?_;rintro _ _ ⟨rfl,rfl⟩)|fail)
   all_goals refine IH ?_ ?_
   all_goals first|exact Sub.go|exact Ent.go
  | false =>
   obtain ⟨hs1,hr0⟩:=hrw9.2 rfl;clear hrw9 hLk
   repeat' (first|refine St.haltR 25 ?_|refine Ga ?_|(refine Gb ?_;intro b)|(refine St.drawa (id:=12) [(0,1),(1,0),(2,0),(3,0),(4,3)] [(6,3)] [4,6] 5 mixed rfl (by intro w;rfl) (by kernel_rfl) ?_)|(refine Dr 14 [(0,0),(1,0),(2,0),(3,1),(4,0),(5,0),(6,1),(7,0),(8,0),(9,1),(10,0),(11,0),(12,0),(13,0),(14,1),(15,0),(16,1),(17,0),(18,0),(19,0),(20,0),(21,0),(22,1),(23,0),(24,0)] [] ?_)|(refine Dr 21 [(0,0),(1,1),(2,0),(3,0),(4,1),(5,0),(6,0),(7,1),(8,0),(9,0),(10,0),(11,1),(12,0),(13,0),(14,1),(15,0),(16,0),(17,0),(18,0),(19,1),(20,0),(21,1),(22,0),(23,0),(24,0)] [] ?_)|refine Gl hask ?_|refine Gl hdn ?_|refine Gl hlkd ?_|refine Gl (same14_r hR2 (hE _) (hrs.trans hr0) hN1 hE0 (hrsl hrs) (hrsn hrs)) ?_|(refine Gt hplay ?_;rintro _ _ ⟨q9,ra,rc,rl,hg,hrq,rfl,rfl⟩)|(refine Gt hrows ?_;rintro _ _ ⟨R1,ad1,cp1,rs,hrs,hR1,hN1,rfl,rfl⟩)|(refine Gt ((rows15_t hR1 (hrsl hrs))) ?_;rintro _ _ ⟨R2,ad2,cp2,hR2,rfl,rfl⟩)|(refine Ge ?_ ?_<;>intro h<;>try omega)|fail)
   all_goals first|(exfalso;simp at h;done)|(exfalso;simp at h;omega)|skip
   all_goals refine Halt.go ?_
   all_goals refine St.conv ?_ (Sub.refl _) (Ent.trans (Ent.of_take (p:=q9) Take.go) (hg.1 _))
   all_goals repeat' (first|refine Ga ?_|(refine Gt htl ?_;rintro _ _ ⟨rfl,rfl⟩)|fail)
   all_goals refine IH ?_ ?_
   all_goals first|exact Sub.go|exact Ent.go
 | false =>
  have hlf:=hLk.2 rfl
  cases dd with
  | true =>
   obtain ⟨hs0,hs1,rfl⟩:=hrw9.1 rfl
   obtain rfl:sw=(k:Int) - 1:=by omega
   clear hrw9 hLk
   repeat' (first|refine St.haltR 25 ?_|refine Ga ?_|(refine Gb ?_;intro b)|(refine St.drawa (id:=12) [(0,1),(1,0),(2,0),(3,0),(4,3)] [(6,3)] [4,6] 5 mixed rfl (by intro w;rfl) (by kernel_rfl) ?_)|(refine Dr 14 [(0,0),(1,0),(2,0),(3,1),(4,0),(5,0),(6,1),(7,0),(8,0),(9,1),(10,0),(11,0),(12,0),(13,0),(14,1),(15,0),(16,1),(17,0),(18,0),(19,0),(20,0),(21,0),(22,1),(23,0),(24,0)] [] ?_)|(refine Dr 21 [(0,0),(1,1),(2,0),(3,0),(4,1),(5,0),(6,0),(7,1),(8,0),(9,0),(10,0),(11,1),(12,0),(13,0),(14,1),(15,0),(16,0),(17,0),(18,0),(19,1),(20,0),(21,1),(22,0),(23,0),(24,0)] [] ?_)|refine Gl hask ?_|refine Gl hdn ?_|refine Gl hlkd ?_|refine Gl (same14_r hR2 hrq.2.1 (hrs.trans hrq.1.symm) hN1 hrq.2.2 (hrsl hrs) (hrsn hrs)) ?_|(refine Gt hplay ?_;rintro _ _ ⟨q9,ra,rc,rl,hg,hrq,rfl,rfl⟩)|(refine Gt hrows ?_;rintro _ _ ⟨R1,ad1,cp1,rs,hrs,hR1,hN1,rfl,rfl⟩)|(refine Gt ((rows15_t hR1 (hrsl hrs))) ?_;rintro _ _ ⟨R2,ad2,cp2,hR2,rfl,rfl⟩)|(refine Ge ?_ ?_<;>intro h<;>try omega)|fail)
   all_goals first|(exfalso;simp at h;done)|(exfalso;simp at h;omega)|skip
   all_goals refine Halt.go ?_
   all_goals refine St.conv ?_ (Sub.refl _) (Ent.trans (Ent.of_take (p:=q9) Take.go) (hg.1 _))
   all_goals repeat' (first|refine Ga ?_|(refine Gt htl ?_;rintro _ _ ⟨rfl,rfl⟩)|fail)
   all_goals refine IH ?_ ?_
   all_goals first|exact Sub.go|exact Ent.go
  | false =>
   obtain ⟨hs1,hr0⟩:=hrw9.2 rfl;clear hrw9 hLk
   repeat' (first|refine St.haltR 25 ?_|refine Ga ?_|(refine Gb ?_;intro b)|(refine St.drawa (id:=12) [(0,1),(1,0),(2,0),(3,0),(4,3)] [(6,3)] [4,6] 5 mixed rfl (by intro w;rfl) (by kernel_rfl) ?_)|(refine Dr 14 [(0,0),(1,0),(2,0),(3,1),(4,0),(5,0),(6,1),(7,0),(8,0),(9,1),(10,0),(11,0),(12,0),(13,0),(14,1),(15,0),(16,1),(17,0),(18,0),(19,0),(20,0),(21,0),(22,1),(23,0),(24,0)] [] ?_)|(refine Dr 21 [(0,0),(1,1),(2,0),(3,0),(4,1),(5,0),(6,0),(7,1),(8,0),(9,0),(10,0),(11,1),(12,0),(13,0),(14,1),(15,0),(16,0),(17,0),(18,0),(19,1),(20,0),(21,1),(22,0),(23,0),(24,0)] [] ?_)|refine Gl hask ?_|refine Gl hdn ?_|refine Gl hlkd ?_|refine Gl (same14_r hR2 (hE _) (hrs.trans hr0) hN1 hE0 (hrsl hrs) (hrsn hrs)) ?_|(refine Gt hplay ?_;rintro _ _ ⟨q9,ra,rc,rl,hg,hrq,rfl,rfl⟩)|(refine Gt hrows ?_;rintro _ _ ⟨R1,ad1,cp1,rs,hrs,hR1,hN1,rfl,rfl⟩)|(refine Gt ((rows15_t hR1 (hrsl hrs))) ?_;rintro _ _ ⟨R2,ad2,cp2,hR2,rfl,rfl⟩)|(refine Ge ?_ ?_<;>intro h<;>try omega)|fail)
   all_goals first|(exfalso;simp at h;done)|(exfalso;simp at h;omega)|skip
   all_goals refine Halt.go ?_
   all_goals refine St.conv ?_ (Sub.refl _) (Ent.trans (Ent.of_take (p:=q9) Take.go) (hg.1 _))
   all_goals repeat' (first|refine Ga ?_|(refine Gt htl ?_;rintro _ _ ⟨rfl,rfl⟩)|fail)
   all_goals refine IH ?_ ?_
   all_goals first|exact Sub.go|exact Ent.go
theorem Sub.trans {A B D:Env}(h:Sub A B)(g:Sub B D):Sub A D:=by
 unfold Sub at *
 exact fun t v e=>h t v (g t v e)
set_option maxHeartbeats 8000000 in
theorem cplays_near (c:Cfg)(who:Int)(tag:Nat)(q:HProp)(pv ov:Value)(progs:Progs)(jp:Int)(ja:List Nat)(hja:ja.length=4)(hjv:∀ a∈ja,a<18446744073709551616)(outs:List Out)(hpv:ProgsG q pv progs)(hov:ListR Out.v q ov outs)(hpi:∀ p∈progs,∀ i∈p,i.imm<18446744073709551616)(hosv:∀ o∈outs,o.was.val<18446744073709551616)(hoss:∀ o∈outs,o.was.seq<18446744073709551616)(hb:few14B c progs=true)(hol:outs.length≤120) :
  Tri Tryz.prog 7 #[.agg ⟨c.v⟩, .int .i64 who, .int .u64 (tag:Int),pv, .agg ⟨.int .i64 jp::g4 ja⟩,ov] [q] (cplayQ q):=by
 have hfew:=few15_r c q pv progs hpv;have hal:=alive15_t;obtain ⟨oad,ocap,rfl,hoc,hor⟩:=id hov;rw [hb] at hfew;unfold few14B at hb;simp only [Bool.and_eq_true,decide_eq_true_eq] at hb;obtain ⟨hsh,⟨hcr,hfu⟩,hpl⟩:=hb
 have hpl1:∀ p∈progs,p.length≤1000000:=fun p hp=>by
  unfold short14 at hsh;have:=of_decide_eq_true (List.all_eq_true.1 hsh p hp);omega
 have hc:=Cfg.small hcr;have hcd:=of_decide_eq_true hcr
 have hf0:0≤c.fuel:=by omega
 have hlast:c.last≤140737488355328:=by omega
 have hof:=of_r c;unfold Cfg.ofV at hof;rw [if_pos hcr] at hof;have hpr:=hpv.r (by omega);have ht0:=hc.t0;have ht1:=hc.t1;have hm:0≤IntKind.i64.wrap ((BitVec.ofInt IntKind.i64.bits who &&& BitVec.ofInt IntKind.i64.bits 255).toNat:Int)∧IntKind.i64.wrap ((BitVec.ofInt IntKind.i64.bits who &&& BitVec.ofInt IntKind.i64.bits 255).toNat:Int)≤255:=and_le15 who 255 (by decide)
 have hnew:=fun who=>cnew_t c hc pv ⟨who,tag,jp,ja⟩ q progs hpr
 obtain ⟨pad,pcp,rfl,_⟩:=id hpr;unfold g4 at hnew⊢;dsimp only at hnew
 refine TB (vs:=[_,_,_,_,_,_]) Tryz.func7 fun w0 F=>?_
 repeat' (first|refine St.halt 6 ?_|refine Ga ?_|(refine Gb ?_;intro b)|refine Gl hfew ?_|refine Gl hof ?_|(refine Gt hal ?_;rintro _ _ ⟨rfl,rfl⟩)|(refine Ge ?_ ?_<;>intro h<;>try omega)|fail)
 apply Halt.go
 iterate 6 (first|refine Ga ?_|fail)
 generalize IntKind.i64.wrap ((BitVec.ofInt IntKind.i64.bits who &&& BitVec.ofInt IntKind.i64.bits 255).toNat:Int)=mk at hm⊢;have hm0:0≤mk % c.threads:=Int.emod_nonneg _ (by omega);have hm1:mk % c.threads<c.threads:=Int.emod_lt_of_pos _ (by omega);have hnew:=hnew (mk % c.threads)
 repeat' (first|refine Ga ?_|(refine Gb ?_;intro b)|(refine Gt hnew ?_;rintro _ _ ⟨Cb,rfl,rfl⟩)|fail)
 generalize mk % c.threads=wh at hm0 hm1⊢;clear hnew;revert b;intro nb;refine St.conv (E':=[(61, .int .i64 0),(60, .int .i64 ((outs.length:Int)+1)),(5, .slice oad outs.length ocap),(15, .pointer (some ⟨Cb,0,none⟩)),(16, .pointer (some ⟨nb,0,none⟩))]) (L':=ClE Cb c (.slice pad progs.length pcp) ⟨wh,tag,jp,ja⟩ q progs (Cm.new ⟨wh,tag,jp,ja⟩ progs)::q::bl nb 140 (cpV c ⟨wh,tag,jp,ja⟩ (.slice pad progs.length pcp))::F) ?_ Sub.go Ent.go
 refine St.loopY (Lr:=?Lr1) (ι:={ k:Nat // k≤outs.length∧Cinv c ⟨wh,tag,jp,ja⟩ progs (fedM (XC c ⟨wh,tag,jp,ja⟩ progs) outs (Cm.new ⟨wh,tag,jp,ja⟩ progs) k)∧Crt ⟨wh,tag,jp,ja⟩ progs (fedM (XC c ⟨wh,tag,jp,ja⟩ progs) outs (Cm.new ⟨wh,tag,jp,ja⟩ progs) k)∧∀ i,i<k→((fedM (XC c ⟨wh,tag,jp,ja⟩ progs) outs (Cm.new ⟨wh,tag,jp,ja⟩ progs) i).ask c ⟨wh,tag,jp,ja⟩).2=true }) (fun x=>outs.length - x.1) (fun x=>[(61, .int .i64 (x.1:Int))])
  (fun x=>[ClE Cb c (.slice pad progs.length pcp) ⟨wh,tag,jp,ja⟩ q progs (fedM (XC c ⟨wh,tag,jp,ja⟩ progs) outs (Cm.new ⟨wh,tag,jp,ja⟩ progs) x.1),q]) ⟨0,Nat.zero_le _,Cinv.new,Crt.new,fun i h=>absurd h (Nat.not_lt_zero i)⟩ ?hE1 ?hL1 ?round1
 case hE1=>exact Sub.go
 case hL1=>exact Takes.go
 case round1 =>
  rintro ⟨k,hk,hi,hrt,hall⟩ IH;dsimp only at hk hi hrt hall IH⊢
  have hlk:(outs.take k).length=k:=by rw [List.length_take];omega
  have htk:=ListR.take (f:=Out.v) hov k hk
  have hat:=rcplay_at (os:=outs.take k) (progs:=progs) (p:=⟨wh,tag,jp,ja⟩) hc ⟨hf0,by omega⟩ hja (fun i hi'=>by
   rw [hlk] at hi';rw [fedM_take _ _ _ hk i (by omega)]
   exact hall i hi')
  rw [hlk,fedM_take _ _ _ hk k (Nat.le_refl k)] at hat;have hfed1:fedM (XC c ⟨wh,tag,jp,ja⟩ progs) outs (Cm.new ⟨wh,tag,jp,ja⟩ progs) (k+1)=(fedM (XC c ⟨wh,tag,jp,ja⟩ progs) outs (Cm.new ⟨wh,tag,jp,ja⟩ progs) k).tell c ⟨wh,tag,jp,ja⟩ progs (outs.getD k out0):=rfl;have hplay:=cplay15_t htk (by omega) (fun o ho=>hosv o (List.mem_of_mem_take ho)) (fun o ho=>hoss o (List.mem_of_mem_take ho)) hc hf0 (by omega) hlast hpr hpi hpl1 ⟨wh,tag,jp,ja⟩ hja hjv ⟨hm0,by dsimp only;omega⟩;rw [hlk] at hplay;generalize rcplay c (outs.take k) ⟨wh,tag,jp,ja⟩ progs (.live 0)=Z at hat hplay;generalize hmE:fedM (XC c ⟨wh,tag,jp,ja⟩ progs) outs (Cm.new ⟨wh,tag,jp,ja⟩ progs) k=m at *;obtain ⟨t9,s9⟩:=Z;dsimp only at hat hplay
  rcases hat with ⟨h1,h2,hcd,hct⟩|⟨h2,h1,hcg,hct⟩
  ·exact St.conv (cplays_fin1 hc hpr ⟨hm0,by omega⟩ hlast hk hol hoc hi hplay hct h1 hcd Cb nb _ F _) Sub.go Ent.go
  ·by_cases hke:k<outs.length
   ·have htl:=fun Cb=>ctell_t Cb c hc (.slice pad progs.length pcp) ⟨wh,tag,jp,ja⟩ hja q progs hpr ⟨hf0,by omega⟩ hlast m hi hrt outs[k]
    have hi2:=hi.tell hc ⟨hf0,by omega⟩ hja outs[k];have hrt2:=hrt.tell (c:=c) outs[k]
    have hnx:fedM (XC c ⟨wh,tag,jp,ja⟩ progs) outs (Cm.new ⟨wh,tag,jp,ja⟩ progs) (k+1)=m.tell c ⟨wh,tag,jp,ja⟩ progs outs[k]:=by
     rw [hfed1,List.getD_eq_getElem?_getD,List.getElem?_eq_getElem hke];rfl
    rw [← hnx] at htl hi2 hrt2
    have hall2:∀ i,i<k+1→((fedM (XC c ⟨wh,tag,jp,ja⟩ progs) outs (Cm.new ⟨wh,tag,jp,ja⟩ progs) i).ask c ⟨wh,tag,jp,ja⟩).2=true:=fun i hi=>by
     rcases Nat.lt_or_ge i k with h|h
     ·exact hall i h
     ·obtain rfl:i=k:=by omega
      rw [hmE];exact h2
    refine St.conv (cplays_next hc hpr ⟨hm0,by omega⟩ hlast hk hol hoc hi hplay hct hor hke h2 h1 hcg htl Cb nb _ F _ fun {E'} {L'} hE hL=>?_) Sub.go Ent.go;refine IH ⟨k+1,hke,hi2,hrt2,hall2⟩ (by show _ - (k+1)<_ - k;omega) (Sub.trans hE ?_) (hL.trans ?_)
    ·exact Sub.go
    ·exact Ent.go
   ·exact St.conv (cplays_fin2 hc hpr ⟨hm0,by omega⟩ hlast hk hol hoc hi hplay hct (by omega) h2 h1 hcg Cb nb _ F _) Sub.go Ent.go
theorem cplays_t (c:Cfg)(who:Int)(tag:Nat)(q:HProp)(pv ov:Value)(progs:Progs)(jp:Int)(ja:List Nat)(hja:ja.length=4)(hjv:∀ a∈ja,a<18446744073709551616)(outs:List Out)(hpv:ProgsG q pv progs)(hov:ListR Out.v q ov outs)(hpi:∀ p∈progs,∀ i∈p,i.imm<18446744073709551616)(hosv:∀ o∈outs,o.was.val<18446744073709551616)(hoss:∀ o∈outs,o.was.seq<18446744073709551616) :
  Tri Tryz.prog 7 #[.agg ⟨c.v⟩, .int .i64 who, .int .u64 (tag:Int),pv, .agg ⟨.int .i64 jp::g4 ja⟩,ov] [q] (cplayQ q):=by
 by_cases hb:few14B c progs=true∧outs.length≤120
 ·exact cplays_near c who tag q pv ov progs jp ja hja hjv outs hpv hov hpi hosv hoss hb.1 hb.2
 ·exact cplays_few c who tag q pv ov progs jp ja outs hpv hov hb
theorem ft_and {a b:Bool}(ha:a=true)(hb:b=true):(a && b)=true:=by rw [ha,hb];rfl
theorem ft_0:(Rows.callPlaysRow.wf (OpenSpec.ofChange Rows.callPlaysSpec))=true:=by kernel_rfl
theorem ft_1:(laidOutB Tryz.prog)=true:=by kernel_rfl
theorem ft_2:(mapsRowed Tryz.prog)=true:=by kernel_rfl
theorem ft_3:(Tryz.f7.params.all (Tryz.prog.readableRec ·))=true:=by kernel_rfl
theorem ft_4:(namedTie Tryz.prog Rows.callPlaysRow.named Rows.callPlaysSpec.vars)=true:=by kernel_rfl
theorem ft_5:((Rows.callPlaysRow.stops == []))=true:=by kernel_rfl
theorem ft_6:((Tryz.prog.stops == []))=true:=by kernel_rfl
theorem ft_7:((Rows.callPlaysRow.knobs == []))=true:=by kernel_rfl
theorem ft_8:((Tryz.prog.stopKnobs == []))=true:=by kernel_rfl
theorem ft_9:((Rows.callPlaysRow.inPlace == Tryz.prog.inPlace 7))=true:=by kernel_rfl
theorem ft_10:((Rows.callPlaysRow.unfollowed == Tryz.prog.unfollowed 7))=true:=by kernel_rfl
theorem ft_11:((Rows.callPlaysRow.recurses == Tryz.prog.recurses 7))=true:=by kernel_rfl
theorem ft_12:((Rows.callPlaysRow.named == Tryz.prog.varsNamed 7))=true:=by kernel_rfl
theorem ft_13:((Rows.callPlaysRow.maps == (Tryz.f7.params.toList++Rows.callPlaysSpec.plain.varTypes Tryz.prog).any (Tryz.prog.mapsRec ·)))=true:=by kernel_rfl
theorem ft_14:((Rows.callPlaysRow.ifaces == (Tryz.f7.params.toList++Rows.callPlaysSpec.plain.varTypes Tryz.prog).any (Tryz.prog.ifacesRec ·)))=true:=by kernel_rfl
theorem ft_15:((Rows.callPlaysRow.mapsOut == Tryz.prog.mapsAmong Tryz.f7.resultTypes.toList))=true:=by kernel_rfl
theorem ft_16:((Rows.callPlaysRow.loops == (Tryz.f7.params.toList++Rows.callPlaysSpec.plain.varTypes Tryz.prog).any (Tryz.prog.loopsFrom ·)))=true:=by kernel_rfl
theorem ft_17:((Rows.callPlaysRow.wideKeys == (Tryz.f7.params.toList++Rows.callPlaysSpec.plain.varTypes Tryz.prog++Tryz.f7.resultTypes.toList).any (Tryz.prog.wideKeysFrom ·)))=true:=by kernel_rfl
theorem ft_18:(Rows.callPlaysSpec.vars.all (Tryz.prog.varReadable ·))=true:=by kernel_rfl
theorem ft_19:(Tryz.f7.resultTypes.all (fun t=>Tryz.prog.readableRec t && decide (t<Tryz.prog.types.size)))=true:=by kernel_rfl
theorem ft_20:((Rows.callPlaysRow.ifacesOut == Tryz.f7.resultTypes.toList.any (Tryz.prog.ifacesRec ·)))=true:=by kernel_rfl
theorem ft_21:((Rows.callPlaysRow.loopsOut == Tryz.f7.resultTypes.toList.any (Tryz.prog.loopsFrom ·)))=true:=by kernel_rfl
theorem ft_22:((Rows.callPlaysRow.plainKeys == Tryz.prog.plainKeys))=true:=by kernel_rfl
theorem ft_23:(Rows.callPlaysRow.shortTexts.isNone)=true:=by kernel_rfl
theorem ft_24:(Tryz.prog.stopsHeard)=true:=by kernel_rfl
theorem ft_25:(Tryz.prog.mayEnter)=true:=by kernel_rfl
theorem ft_26:((Rows.callPlaysRow.lifted == Tryz.prog.liftsFinal))=true:=by kernel_rfl
theorem ft_27:((Tryz.prog.make == some Rows.callPlaysRow.make))=true:=by kernel_rfl
theorem ft_28:((Rows.callPlaysRow.kinds == (if Rows.callPlaysRow.domain.isEmpty then [] else Tryz.f7.params.toList.map fun t=>match Tryz.prog.underlying t with|some (.int k)=>some k|_=>none)))=true:=by kernel_rfl
theorem ft_29:((Rows.callPlaysRow.pinned == Rows.callPlaysRow.pinnedBy))=true:=by kernel_rfl
theorem ft_30:((Rows.callPlaysRow.veiled == (Tryz.f7.params.toList++Rows.callPlaysSpec.plain.varTypes Tryz.prog++Tryz.f7.resultTypes.toList).any (Tryz.prog.veiledRec ·)))=true:=by kernel_rfl
theorem ft_31:(Rows.callPlaysRow.veiledFits Tryz.prog Tryz.f7.params.toList (Tryz.f7.params.toList++Rows.callPlaysSpec.plain.varTypes Tryz.prog++Tryz.f7.resultTypes.toList))=true:=by kernel_rfl
end Go.Proofs.YthmbgodcpgkkeaaGreat
