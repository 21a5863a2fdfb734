/-
  A call that nobody disturbs ends, within the bound. Package tumblerlaw15: few. Where calls begin; what one call leaves. Package tumblerlaw15: does, with rows as what can be read of them; CallSerial.
-/
import Derived.Test.YthmbgodcpgkkeaaGreatUe
import Derived.Test.YthmbgodcpgkkeaaGreatHe
section
namespace Go.Proofs.YthmbgodcpgkkeaaGreat
set_option maxRecDepth 100000
section
variable {q:Cq} {t:Nat} {cs:List Cell} {cr:List BRow} {m:Cm}
theorem CI.fin (hq:CQ q) (h:CI q t cs cr m) (hak:(m.ask q.c q.p).2=false):m.s.next=13∧CD q cs cr m.s:=by
  cases h with
  | args j hr ho hn =>
    exfalso
    unfold Cm.ask at hak
    rw [if_pos hn] at hak
    cases hak
  | ask hr ho hn =>
    exfalso
    unfold Cm.ask at hak
    rw [if_neg (by omega),if_pos hn] at hak
    cases hak
  | look hr ho hn =>
    exfalso
    unfold Cm.ask at hak
    rw [if_neg (by omega),if_neg (by omega),if_pos hn] at hak
    cases hak
  | open_ hr ho hn =>
    exfalso
    unfold Cm.ask at hak
    rw [if_neg (by omega),if_neg (by omega),if_neg (by omega),if_pos hn] at hak
    cases hak
  | tag hr ho hn =>
    exfalso
    unfold Cm.ask at hak
    rw [if_neg (by omega),if_neg (by omega),if_neg (by omega),if_neg (by omega),if_pos (by omega)] at hak
    cases hak
  | build k b hr ho hlt hn hnow hwk hs hal hb =>
    exfalso
    rw [ask_w (.inr (.inl hn)),hwk] at hak
    obtain ⟨_,_,_,h1,_⟩:=hb.fin hq.tok hak
    omega
  | write i b csb r ms2 hr ho hlt hn hnow hb hwk hi =>
    exfalso
    rw [ask_w (.inr (.inr (.inl hn))),hwk] at hak
    have:=scr_ask q.c q.p.who (q.n+1) (q.E b) hi
    have hak:(Sm.ask q.c ⟨q.p.who,q.n+1,q.E b,i⟩).2=false:=hak
    rw [this] at hak
    cases hak
  | swap b csb r ms2 hr ho hlt hn =>
    exfalso
    unfold Cm.ask at hak
    rw [if_neg (by omega),if_neg (by omega),if_neg (by omega),if_neg (by omega),if_neg (by omega),if_neg (by omega),if_pos hn] at hak
    cases hak
  | help h b csb r ms2 th hr ho hlt hn hwk hwb hhs =>
    exfalso
    obtain ⟨w1,w2,w3,_⟩:=hwb.w hq
    obtain ⟨k1,_⟩:=hhs.step hq.hc hq.who w1 hwb.keys hwb.nod w3 fun a ha=>by
      rw [w2 a ha]
      have:=hwb.mb.v.q a ha
      omega
    rw [ask_w (.inr (.inr (.inr hn))),hwk] at hak
    have hak:(h.ask q.c).2=false:=hak
    rw [k1] at hak
    cases hak
  | lookR hro hn =>
    exfalso
    unfold Cm.ask at hak
    rw [if_neg (by omega),if_neg (by omega),if_pos hn] at hak
    cases hak
  | openR ho hn =>
    exfalso
    unfold Cm.ask at hak
    rw [if_neg (by omega),if_neg (by omega),if_neg (by omega),if_pos hn] at hak
    cases hak
  | read k e g p1 ho hn hwk hg hrd hak2 =>
    exfalso
    rw [ask_w (.inl hn),hwk] at hak
    have hak:(e.ask q.c).2=false:=hak
    rw [hak2] at hak
    cases hak
  | done hn hcd ht=>exact ⟨hn,hcd⟩
theorem CQ.bound (hq:CQ q) (hr:q.c.right=true):(q.T:Int)≤boundN q.c:=by
  have hc:=hq.hc
  have ht0:=hc.t0;have ht1:=hc.t1
  have hcap:=hc.cap
  have hlim:=hc.limit
  have hfu:=hq.fu
  have hlz:=hq.mid.mem.rep.lsz
  have hW:q.tq.W=7+3 * q.c.fuel.toNat:=rfl
  have hK:q.tq.K=q.c.threads.toNat+2+q.ls.length:=rfl
  have e:((q.c.threads.toNat * q.tq.W:Nat):Int)=q.c.threads * (3 * q.c.fuel+7):=by
    rw [Int.natCast_mul,Int.toNat_of_nonneg (by omega),hW]
    congr 1
    omega
  have h0:0≤q.c.threads * (3 * q.c.fuel+7):=Int.mul_nonneg (by omega) (by omega)
  have hT:q.T=8+q.tq.K+q.c.threads.toNat * q.tq.W+5 * q.c.cap.toNat+5:=rfl
  unfold boundN
  rw [if_pos hr,hT]
  omega
theorem CI.le (hq:CQ q) (h:CI q t cs cr m):t≤q.T:=by
  have hT:q.T=q.B+5 * q.c.cap.toNat+5:=rfl
  have hB:q.B=8+q.tq.K+q.c.threads.toNat * q.tq.W:=rfl
  have hW:q.tq.W=7+3 * q.c.fuel.toNat:=rfl
  have hthr:q.tq.W≤q.c.threads.toNat * q.tq.W:=Nat.le_mul_of_pos_left _ (by have:=hq.hc.t0;omega)
  cases h with
  | args j _ _ _ _ _ _ _ _ ht=>omega
  | ask _ _ _ _ _ ht=>omega
  | look _ _ _ _ _ _ ht=>omega
  | open_ _ _ _ _ _ _ _ ht=>omega
  | tag _ _ _ _ _ _ ht=>omega
  | build k b hr ho hlt hn hnow hwk hs hal hb hcr ht =>
    have hbd:=hb.bound hq.fu.1
    have hbd:k≤q.tq.K+q.c.threads.toNat * q.tq.W:=hbd
    omega
  | write i b csb r ms2 hr ho hlt hn hnow hb hwk hi hwb hcs hoc hov hcr ht =>
    have hE:((q.E b).length:Int)≤q.c.cap:=hwb.len
    omega
  | swap b csb r ms2 hr ho hlt hn hnow hb hwb hcs hoc hov hcr ht =>
    have hE:((q.E b).length:Int)≤q.c.cap:=hwb.len
    omega
  | help h b csb r ms2 th hr ho hlt hn hwk hwb hhs hoc hov hcr ht =>
    have hE:((q.E b).length:Int)≤q.c.cap:=hwb.len
    cases hhs with
    | shut _ _ _ g=>omega
    | at_ k hk _ _ _ _ g=>omega
  | lookR _ _ _ _ _ ht=>omega
  | openR _ _ _ _ _ _ ht=>omega
  | read k e g p1 ho hn hwk hg hrd hak2 hm he hcr ht =>
    have hst:=hrd.steps hq.fu.1
    rw [if_pos hak2] at hst
    omega
  | done _ _ ht=>exact ht
theorem call_fin (hq:CQ q) (hr:q.c.right=true) {M:Pm} (hM:M.cs=q.cs):∃ N:Nat,(N:Int)≤boundN q.c∧(∀ k≤N,((cit q.c q.p q.progs (M,Cm.new q.p q.progs) k).2.ask q.c q.p).2=decide (k<N))∧(cit q.c q.p q.progs (M,Cm.new q.p q.progs) N).2.s.next=13∧CD q (cit q.c q.p q.progs (M,Cm.new q.p q.progs) N).1.cs (crow q.c q.p q.progs (M,Cm.new q.p q.progs) N) (cit q.c q.p q.progs (M,Cm.new q.p q.progs) N).2.s∧N≤q.T:=by
  have hbnd:=hq.bound hr
  have hgo:∀ k,(∀ i,i<k→((cit q.c q.p q.progs (M,Cm.new q.p q.progs) i).2.ask q.c q.p).2=true)→CI q k (cit q.c q.p q.progs (M,Cm.new q.p q.progs) k).1.cs (crow q.c q.p q.progs (M,Cm.new q.p q.progs) k) (cit q.c q.p q.progs (M,Cm.new q.p q.progs) k).2:=fun k=>by
    induction k with
    | zero =>
      intro _
      show CI q 0 M.cs [] (Cm.new q.p q.progs)
      rw [hM];exact CI.new hq
    | succ k ih =>
      intro h
      have h1:=ih fun i hi=>h i (by omega)
      have h2:=h1.step hq (h k (by omega))
      obtain ⟨e1,e2⟩:=Pm.do_eq (cit q.c q.p q.progs (M,Cm.new q.p q.progs) k).1 q.p.who ((cit q.c q.p q.progs (M,Cm.new q.p q.progs) k).2.ask q.c q.p).1
      rw [←e1,←e2] at h2
      exact h2
  have hbd:∃ B,B≤q.T∧((cit q.c q.p q.progs (M,Cm.new q.p q.progs) B).2.ask q.c q.p).2=false:=by
    by_cases hex:∃ B,B≤q.T∧((cit q.c q.p q.progs (M,Cm.new q.p q.progs) B).2.ask q.c q.p).2=false
    · exact hex
    · exfalso
      have h1:=(hgo (q.T+1) fun i hi=>by
        cases e:((cit q.c q.p q.progs (M,Cm.new q.p q.progs) i).2.ask q.c q.p).2 with
        | true=>rfl
        | false=>exact absurd ⟨i,by omega,e⟩ hex).le hq
      omega
  obtain ⟨B,hB,hf⟩:=hbd
  obtain ⟨N,h1,h2,h3⟩:=least (f:=fun k=>((cit q.c q.p q.progs (M,Cm.new q.p q.progs) k).2.ask q.c q.p).2) B hf
  have h4:=hgo N h3
  obtain ⟨g1,g2⟩:=h4.fin hq h2
  refine ⟨N,by omega,fun k hk=>?_,g1,g2,h4.le hq⟩
  by_cases e:k<N
  · rw [decide_eq_true e];exact h3 k e
  · obtain rfl:k=N:=by omega
    rw [decide_eq_false e];exact h2
end
end Go.Proofs.YthmbgodcpgkkeaaGreat
end
section
namespace Go.Proofs.YthmbgodcpgkkeaaGreat
set_option maxRecDepth 100000
theorem few15s_r (c:Cfg) (q:HProp) (v:Value) (progs:Progs) (hv:ProgsG q v progs):RTri Tryz.prog 60 #[.agg ⟨c.v⟩,v] [q] (.bool (few14B c progs)):=by
  apply RTri.of_reads
  intro p hp
  have hr0:=right14_r c
  obtain ⟨ad,cap,rfl,hn,hr⟩:=hv.of (p:=p) fun h=>RdC.of_sat hp (ReadsC.here h)
  refine Tri.of_body (vs:=[_,_]) Tryz.func60 rfl rfl fun w0 F=>?_
  repeat' (first|refine Ga ?_|(refine Gb ?_;intro b)|(refine Gd ?_;intro g cap rest hcap)|(refine Gc ?_;intro ad cap) |(refine Ge ?_ ?_<;>(intro h;try (exfalso;omega)))|fail)
  refine St.loopY (Lr:=?Lr) (ι:={ k:Nat // k≤progs.length∧short14 progs=short14 (progs.drop k) }) (fun k=>progs.length - k.1)
    (fun k=>[(9, .int .i64 (k.1:Int))]) (fun k=>[]) ⟨0,Nat.zero_le _,rfl⟩ ?hE ?hL ?round
  case hE=>exact Sub.go
  case hL=>exact Takes.go
  case round =>
    rintro ⟨k,hk,hgo⟩ IH;dsimp only at hk hgo⊢
    by_cases hlt:k<progs.length
    · obtain ⟨bj,o,l,cv,rfl,hrd,hnth,hins⟩:=hr k hlt
      rw [List.drop_eq_getElem_cons hlt] at hgo
      generalize progs[k]=pk at hgo hins
      obtain ⟨cad,ccap,rfl,_⟩:=hins
      by_cases he:pk.length≤40
      · repeat' (first|refine Ga ?_|(refine Gb ?_;intro b)|(refine Gd ?_;intro g cap rest hcap)|(refine Gc ?_;intro ad cap) |(refine Ge ?_ ?_<;>(intro h;try (exfalso;omega)))|fail)
        refine IH ⟨k+1,hlt, ?_⟩ (by show _ - (k+1)<_ - k;omega) ?_ ?_
        · rw [hgo];unfold short14;rw [List.all_cons,decide_eq_true he,Bool.true_and]
        · exact Sub.go
        · exact Ent.go
      · have e:few14B c progs=false:=by
          unfold few14B
          rw [hgo];unfold short14;rw [List.all_cons,decide_eq_false he];rfl
        rw [e]
        repeat' (first|refine Ga ?_|(refine Gb ?_;intro b)|(refine Gd ?_;intro g cap rest hcap)|(refine Gc ?_;intro ad cap) |(refine Ge ?_ ?_<;>(intro h;try (exfalso;omega)))|fail)
        (first|refine St.dn Tryz.func60 ⟨?_,rfl⟩ Ent.go|refine St.fl Tryz.func60 ⟨?_,rfl⟩ Ent.go)
        rfl
    · have e:few14B c progs=(c.right && decide (c.fuel≤200) && decide (progs.length≤8)):=by
        unfold few14B
        rw [hgo,List.drop_eq_nil_of_le (by omega)];rfl
      rw [e]
      clear IH
      cases hcr:c.right with
      | false =>
        rw [hcr] at hr0
        repeat' (first|refine Ga ?_|(refine Gb ?_;intro b)|(refine Gd ?_;intro g cap rest hcap)|(refine Gc ?_;intro ad cap)|refine Gl hr0 ?_|(refine Ge ?_ ?_<;>(intro h;try (exfalso;omega)))|fail)
        (first|refine St.dn Tryz.func60 ⟨?_,rfl⟩ Ent.go|refine St.fl Tryz.func60 ⟨?_,rfl⟩ Ent.go)
        rfl
      | true =>
        rw [hcr] at hr0
        by_cases hf:c.fuel≤200
        · repeat' (first|refine Ga ?_|(refine Gb ?_;intro b)|(refine Gd ?_;intro g cap rest hcap)|(refine Gc ?_;intro ad cap)|refine Gl hr0 ?_|(refine Ge ?_ ?_<;>(intro h;try (exfalso;omega)))|fail)
          all_goals (first|refine St.dn Tryz.func60 ⟨?_,rfl⟩ Ent.go|refine St.fl Tryz.func60 ⟨?_,rfl⟩ Ent.go)
          all_goals refine congrArg Value.bool ?_
          all_goals rw [decide_eq_true hf,Bool.true_and,Bool.true_and,decide_eq_decide]
          all_goals omega
        · rw [decide_eq_false hf]
          repeat' (first|refine Ga ?_|(refine Gb ?_;intro b)|(refine Gd ?_;intro g cap rest hcap)|(refine Gc ?_;intro ad cap)|refine Gl hr0 ?_|(refine Ge ?_ ?_<;>(intro h;try (exfalso;omega)))|fail)
          all_goals (first|refine St.dn Tryz.func60 ⟨?_,rfl⟩ Ent.go|refine St.fl Tryz.func60 ⟨?_,rfl⟩ Ent.go)
          all_goals rfl
section
variable {c:Cfg}
theorem bootc_cell (hc:Small c) {a:Int} (ha:Tx c a):∀ k:Nat,(k:Int)≤c.blocks→(cellI (c.bootN k) a).seq=0∧(a≠c.at 12 0 0→(∀ i:Nat,i<k→a≠c.at 13 i 0)→(cellI (c.bootN k) a).val=0)∧(a=c.at 12 0 0→(cellI (c.bootN k) a).val=c.blocks.toNat)∧(∀ i:Nat,i<k→a=c.at 13 i 0→(cellI (c.bootN k) a).val=c.blocks.toNat - 1 - i)
  | 0,_=>by
    have hf:=f717 hc
    have ha':=ha
    unfold Tx at ha'
    have hsz:(c.size:Int)=c.f17:=by unfold Cfg.size;omega
    have e0:cellI (List.replicate c.size ⟨0,0⟩) a=⟨0,0⟩:=by
      unfold cellI
      rw [List.getD_eq_getElem?_getD,List.getElem?_replicate]
      split<;>rfl
    have hcell:cellI (c.bootN 0) a=if c.at 12 0 0=a then ⟨c.blocks.toNat,0⟩ else ⟨0,0⟩:=by
      unfold Cfg.bootN
      rw [cellI_setOf (by omega) (by rw [setOf_len,List.length_replicate];omega),cellI_setOf (by omega) (by rw [List.length_replicate];omega),e0]
      have:c.at 0 0 0=0:=rfl
      rw [this,if_neg (show ¬ (0:Int)=a by omega)]
    rw [hcell]
    refine ⟨by split<;>rfl,fun h _=>by rw [if_neg (Ne.symm h)],fun h=>by rw [if_pos h.symm],fun i hi=>absurd hi (Nat.not_lt_zero _)⟩
  | k+1,hk=>by
    have hf:=f717 hc
    have ha':=ha
    unfold Tx at ha'
    have hsz:(c.size:Int)=c.f17:=by unfold Cfg.size;omega
    obtain ⟨i1,i2,i3,i4⟩:=bootc_cell hc ha k (by omega)
    have hcell:cellI (c.bootN (k+1)) a=if c.at 13 k 0=a then ⟨(c.blocks - 1 - k).toNat,0⟩ else cellI (c.bootN k) a:=by
      rw [Cfg.bootN,cellI_setOf (by omega) (by rw [Cfg.bootN_len];omega)]
    rw [hcell]
    have g13:=in13 (c:=c) (b:=k) (by omega)
    refine ⟨by split;rfl;exact i1,fun h1 h2=>?_,fun h=>?_,fun i hi h=>?_⟩
    · rw [if_neg (Ne.symm (h2 k (by omega)))]
      exact i2 h1 fun i hi=>h2 i (by omega)
    · rw [if_neg (by rw [h];exact ne_kind hc (by decide) (by decide) g13 (in12 c) (by omega))]
      exact i3 h
    · by_cases e:i=k
      · subst e
        rw [if_pos h.symm];dsimp only;omega
      · rw [if_neg (by rw [h];exact ne_kind hc (by decide) (by decide) g13 (in13 (by omega)) (by omega))]
        exact i4 i (by omega) h
theorem bootc_mem (hc:Small c):MemH c c.boot 0 (fs0 c) [] ms0.roots ms0.blocks:=by
  have hb:=hc.b0
  have hK:((c.blocks.toNat:Nat):Int)≤c.blocks:=by omega
  have hcell:∀ a,Tx c a→_:=fun a ha=>bootc_cell hc ha c.blocks.toNat hK
  have hlen:(fs0 c).length=c.blocks.toNat:=by unfold fs0;simp
  have hz:∀ {kind i j:Int},7≤kind∧kind≤16→kind≠12→kind≠13→(0≤i∧i<(c.cnt kind).1∧0≤j∧j<(c.cnt kind).2)→(cellI c.boot (c.at kind i j)).val=0:=fun {kind i j} hk h1 h2 hi =>
    (hcell _ (at_in hc hk hi)).2.1 (ne_kind hc hk (by decide) hi (in12 c) (by omega)) fun x hx=>ne_kind hc hk (by decide) hi (in13 (by omega)) (by omega)
  have hmem:∀ b:Nat,b∈fs0 c↔(b:Int)<c.blocks:=fun b=>by
    unfold fs0
    rw [List.mem_map]
    constructor
    · rintro ⟨i,hi,rfl⟩
      have:=List.mem_range.1 hi
      omega
    · intro h
      exact ⟨c.blocks.toNat - 1 - b,List.mem_range.2 (by omega),by omega⟩
  refine ⟨⟨c.bootN_len _,fun a _=>rfl,fun a ha=>Nat.le_of_eq (hcell a ha).1⟩,⟨rfl,fun k hk=>?_,fun b hb=>?_,fun b hb l e=>(by cases e),fun p hp=>(by cases hp),fun p hp=>(by cases hp),List.nodup_nil,fun b hb=>?_,fun b hb=>(by cases hb),fun i hi=>?_,fun i hi=>absurd hi (Nat.not_lt_zero _), ?_,List.nodup_nil,fun b hb=>.inl ((hmem b).2 hb), ?_, ?_⟩, ?_, ?_⟩
  · rw [hz (by decide) (by decide) (by decide) (in10 c hk)]
    rcases k with _|_|_|_|_|_|_|_|_|_|_|_|_|_|_|_|k<;>rfl
  · rw [hz (by decide) (by decide) (by decide) (in11 hb)]
    exact ⟨fun e=>(by cases e),fun e=>(by cases e)⟩
  · have:=(hmem b).1 hb
    exact ⟨this,hz (by decide) (by decide) (by decide) (in11 this)⟩
  · rw [hlen] at hi
    refine ((hcell _ (at_in hc (by decide) (in13 (by omega)))).2.2.2 i hi rfl).trans ?_
    show _=((List.range c.blocks.toNat).map fun i=>c.blocks.toNat - 1 - i)[i]'(by rw [List.length_map,List.length_range];exact hi)
    rw [List.getElem_map,List.getElem_range]
  · unfold fs0
    refine List.Pairwise.map _ (fun a b hab=>?_) ?_ (R:=fun a b=>a<b∧b<c.blocks.toNat)
    · omega
    · refine List.Pairwise.imp_of_mem (R:=fun a b=>a<b) (fun ha hb h=>⟨h,List.mem_range.1 hb⟩) List.pairwise_lt_range
  · rw [hlen]
    show ((c.blocks.toNat+0+0:Nat):Int)=c.blocks
    omega
  · have:=hc.limit
    show ((0:Nat):Int)≤c.limit
    omega
  · exact ((hcell _ (at_in hc (by decide) (in12 c))).2.2.1 rfl).trans hlen.symm
  · rw [hz (by decide) (by decide) (by decide) (in14 c)];rfl
theorem bootc_own (hc:Small c) {a:Int} (h0:0≤a) (h7:a<c.f7):cellI c.boot a=if a=0 then ⟨0,c.first⟩ else ⟨0,0⟩:=by
  have hf:=f717 hc
  have hn:=hc.nums.f7
  have hb:=hc.b0
  have hsz:(c.size:Int)=c.f17:=by unfold Cfg.size;omega
  have hk:∀ k:Nat,(k:Int)≤c.blocks→cellI (c.bootN k) a=if a=0 then ⟨0,c.first⟩ else ⟨0,0⟩:=fun k=>by
    induction k with
    | zero =>
      intro _
      have e0:cellI (List.replicate c.size ⟨0,0⟩) a=⟨0,0⟩:=by
        unfold cellI
        rw [List.getD_eq_getElem?_getD,List.getElem?_replicate]
        split<;>rfl
      have g12:=at_in hc (kind:=12) (i:=0) (j:=0) (by decide) (in12 c)
      unfold Tx at g12
      unfold Cfg.bootN
      rw [cellI_setOf (by omega) (by rw [setOf_len,List.length_replicate];omega),cellI_setOf (by omega) (by rw [List.length_replicate];omega),e0,if_neg (by omega),show c.at 0 0 0=0 from rfl]
      by_cases e:a=0
      · rw [if_pos e.symm,if_pos e]
      · rw [if_neg (Ne.symm e),if_neg e]
    | succ k ih =>
      intro hk
      have g13:=at_in hc (kind:=13) (i:=k) (j:=0) (by decide) (in13 (by omega))
      unfold Tx at g13
      rw [Cfg.bootN,cellI_setOf (by omega) (by rw [Cfg.bootN_len];omega),if_neg (by omega)]
      exact ih (by omega)
  exact hk c.blocks.toNat (by omega)
theorem own1 (hc:Small c) {kind u:Int} (hk:kind=1∨kind=4) (hu:0≤u∧u<c.threads):0<c.at kind u 0∧c.at kind u 0<c.f7:=by
  have hw:=at_own hc (kind:=kind) (i:=u) (k:=0) (by omega) hu (by unfold Cfg.cnt;rcases hk with rfl|rfl<;>simp)
  have:=own_in (c:=c) (a:=c.at kind u 0) (by rw [hw];dsimp only;omega)
  omega
theorem boot_mid (hc:Small c):Mid c c.boot c.first (fs0 c) [] ms0:=by
  have hf:=f717 hc
  have hb:=bootc_mem hc
  have ht0:=hc.t0
  have hn:=hc.nums.f7
  refine ⟨⟨⟨hb.mem.len,hb.mem.v,fun a ha=>Nat.le_trans (hb.mem.q a ha) (Nat.zero_le _)⟩,hb.rep,hb.top,hb.lim⟩, ?_, ?_,fun u hu=>?_,fun _ u h0 h1=>?_⟩
  · have:=hc.w0
    show 2 * ((0:Nat):Int)≤_
    omega
  · rw [bootc_own hc (Int.le_refl _) (by omega),if_pos rfl]
  · have:=own1 hc (.inr rfl) hu
    rw [bootc_own hc (by omega) (by omega),if_neg (by omega)]
  · have:=own1 hc (.inl rfl) ⟨h0,h1⟩
    unfold pendB annC
    rw [bootc_own hc (by omega) (by omega),if_neg (by omega)]
    rfl
theorem boot_tag15 (hc:Small c) {u:Int} (hu:0≤u∧u<c.threads):(cellI c.boot (c.at 7 u 0)).val=0:=by
  have hb:=hc.b0
  have hi:=in7 (c:=c) (kind:=7) (by decide) hu
  have:=(bootc_cell hc (at_in hc (kind:=7) (i:=u) (j:=0) (by decide) hi) c.blocks.toNat (by omega)).2.1
  exact this (ne_kind hc (by decide) (by decide) hi (in12 c) (by omega)) fun i hi'=>ne_kind hc (by decide) (by decide) hi (in13 (by omega)) (by omega)
end
theorem Mid.ok {c:Cfg} {cs:List Cell} {n:Nat} {fs ls:List Nat} {ms:Ms} (h:Mid c cs n fs ls ms):MsOk ms:=⟨h.mem.rep.rl,fun p hp=>h.mem.rep.len p hp⟩
theorem Mid.peek {c:Cfg} {cs:List Cell} {n:Nat} {fs ls:List Nat} {ms:Ms} (h:Mid c cs n fs ls ms):(peekOf cs 0).seq=n:=h.now
theorem CQ.low {q:Cq} (hq:CQ q):q.T≤20000:=by
  have hc:=hq.hc
  have ht0:=hc.t0;have ht1:=hc.t1
  have hcap:=hc.cap
  have hlim:=hc.limit
  have hfu:=hq.fu
  have hlz:=hq.mid.mem.rep.lsz
  have hW:q.tq.W=7+3 * q.c.fuel.toNat:=rfl
  have hK:q.tq.K=q.c.threads.toNat+2+q.ls.length:=rfl
  have h1:q.c.threads.toNat * q.tq.W≤8 * 607:=Nat.mul_le_mul (by omega) (by omega)
  have hT:q.T=8+q.tq.K+q.c.threads.toNat * q.tq.W+5 * q.c.cap.toNat+5:=rfl
  omega
structure CN (c:Cfg) (k:Nat) (M:Pm) (n:Nat) (T:List Nat) (ms:Ms):Prop where
  st:M.st.length=8
  tr:M.tr.length≤20000 * k
  tl:T.length=c.threads.toNat
  t8:∀ u:Nat,T.getD u 0≤k
  nl:n≤c.last
  tg:∀ u:Int,0≤u∧u<c.threads→(cellI M.cs (c.at 7 u 0)).val≤T.getD u.toNat 0
  mid:∃ fs ls,Mid c M.cs n fs ls ms
theorem CN.boot {c:Cfg} (hc:Small c) (hl:c.first≤c.last):CN c 0 ⟨c.boot,zeros8,[]⟩ c.first (List.replicate c.threads.toNat 0) ms0 :=
  ⟨rfl,Nat.le_refl _,by rw [List.length_replicate],fun u=>by rw [List.getD_eq_getElem?_getD,List.getElem?_replicate];split<;>exact Nat.le_refl _,hl,fun u hu=>by rw [boot_tag15 hc hu];exact Nat.zero_le _,_,_,boot_mid hc⟩
theorem getD_setT {l:List Nat} {i:Nat} (hi:i<l.length) (v j:Nat):(l.set i v).getD j 0=if i=j then v else l.getD j 0:=by
  rw [List.getD_eq_getElem?_getD,List.getElem?_set]
  by_cases e:i=j
  · subst e;rw [if_pos rfl,if_pos hi,if_pos rfl];rfl
  · rw [if_neg e,if_neg e,List.getD_eq_getElem?_getD]
inductive CO (c:Cfg) (progs:Progs) (k:Nat) (n:Nat) (T:List Nat) (ms:Ms) (p:Cp) (M2:Pm) (cr:List BRow) (s:Cs):Prop
  | late:rightB (p.code progs)=true→onlyB (p.code progs)=false→c.last≤n→s.rc=45→s.rv=0→cr=[]→CN c (k+1) M2 n T ms→CO c progs k n T ms p M2 cr s
  | read:(rightB (p.code progs)=false∨onlyB (p.code progs)=true)→RunTo c (p.code progs) ms p.args s.rc s.rv [] ms→s.alone=true→cr=[]→CN c (k+1) M2 n T ms→CO c progs k n T ms p M2 cr s
  | wrote (r:BRow) (ms2:Ms):rightB (p.code progs)=true→onlyB (p.code progs)=false→n<c.last→cr=[r]→r.who=p.who→r.tag=p.tag→RunTo c (p.code progs) ms p.args r.rc r.rv r.news ms2→s.rc=r.rc→s.rv=r.rv→s.alone=false→CN c (k+1) M2 (n+1) T ms2→CO c progs k n T ms p M2 cr s
theorem CN.call {c:Cfg} {k:Nat} {M:Pm} {n:Nat} {T:List Nat} {ms:Ms} (h:CN c k M n T ms) (hr:c.right=true) (hfu:c.fuel≤200) {progs:Progs} (hpl:progs.length≤8) {w:Int} (hw:0≤w∧w<c.threads) (prog:Int) {args:List Nat} (ha:args.length=4) (hk:k<8) :
    ∃ N:Nat,(N:Int)≤boundN c∧M.tr.length+N≤1000000∧(∀ i≤N,((cit c ⟨w,T.getD w.toNat 0+1,prog,args⟩ progs (M,Cm.new ⟨w,T.getD w.toNat 0+1,prog,args⟩ progs) i).2.ask c ⟨w,T.getD w.toNat 0+1,prog,args⟩).2=decide (i<N))∧
      (cit c ⟨w,T.getD w.toNat 0+1,prog,args⟩ progs (M,Cm.new ⟨w,T.getD w.toNat 0+1,prog,args⟩ progs) N).2.s.next=13∧
      CO c progs k n (T.set w.toNat (T.getD w.toNat 0+1)) ms ⟨w,T.getD w.toNat 0+1,prog,args⟩ (cit c ⟨w,T.getD w.toNat 0+1,prog,args⟩ progs (M,Cm.new ⟨w,T.getD w.toNat 0+1,prog,args⟩ progs) N).1 (crow c ⟨w,T.getD w.toNat 0+1,prog,args⟩ progs (M,Cm.new ⟨w,T.getD w.toNat 0+1,prog,args⟩ progs) N) (cit c ⟨w,T.getD w.toNat 0+1,prog,args⟩ progs (M,Cm.new ⟨w,T.getD w.toNat 0+1,prog,args⟩ progs) N).2.s:=by
  have hc:=Cfg.small hr
  have hf0:1≤c.fuel:=by have:=of_decide_eq_true hr;omega
  obtain ⟨fs,ls,hmid⟩:=h.mid
  generalize hp:(⟨w,T.getD w.toNat 0+1,prog,args⟩:Cp)=p
  have hpw:p.who=w:=by rw [←hp]
  have hpt:p.tag=T.getD w.toNat 0+1:=by rw [←hp]
  have hpa:p.args=args:=by rw [←hp]
  have hwT:w.toNat<T.length:=by have:=h.tl;omega
  have hq:CQ ⟨c,progs,M.cs,n,p,fs,ls,ms⟩:=⟨hc,⟨by dsimp only;omega,hfu⟩,hmid,by dsimp only;rw [hpw];exact hw,by dsimp only;rw [hpa];exact ha,by dsimp only;omega,by
    dsimp only
    have:=h.tg w hw
    rw [hpt,hpw]
    omega,by dsimp only;omega⟩
  obtain ⟨N,hN,hask,h13,hcd,hlow⟩:=call_fin hq hr (M:=M) rfl
  dsimp only at hN hask h13 hcd
  have hT:=hq.low
  have hinv:=cit_inv hc (show 0≤c.fuel∧c.fuel≤1000 by omega) (p:=p) (by rw [hpa];exact ha) (progs:=progs) (s:=(M,Cm.new p progs)) Cinv.new Crt.new h.st N
  obtain ⟨_,_,i3,_,i5⟩:=hinv
  dsimp only at i3 i5
  have htr:=h.tr
  refine ⟨N,hN,by omega,hask,h13, ?_⟩
  generalize cit c p progs (M,Cm.new p progs) N=z at hcd i3 i5⊢
  generalize crow c p progs (M,Cm.new p progs) N=cr at hcd⊢
  obtain ⟨M2,m⟩:=z
  dsimp only at hcd i3 i5⊢
  have hT2:∀ u:Nat,T.getD u 0≤(T.set w.toNat (T.getD w.toNat 0+1)).getD u 0:=fun u=>by
    rw [getD_setT hwT]
    split
    · next e=>subst e;omega
    · exact Nat.le_refl _
  have hT3:∀ u:Nat,(T.set w.toNat (T.getD w.toNat 0+1)).getD u 0≤k+1:=fun u=>by
    rw [getD_setT hwT]
    have:=h.t8 u
    have:=h.t8 w.toNat
    split<;>omega
  have hmk:∀ {n2:Nat} {ms2:Ms},n2≤c.last→(∃ fs ls,Mid c M2.cs n2 fs ls ms2)→(∀ u:Int,0≤u∧u<c.threads→(cellI M2.cs (c.at 7 u 0)).val≤(T.set w.toNat (T.getD w.toNat 0+1)).getD u.toNat 0)→CN c (k+1) M2 n2 (T.set w.toNat (T.getD w.toNat 0+1)) ms2:=fun g1 g2 g3 =>
    ⟨i3,by omega,by rw [List.length_set];exact h.tl,hT3,g1,g3,g2⟩
  cases hcd with
  | bad g1 g2 g3 g4 g5 g6 =>
    dsimp only at g6
    refine .read (.inl g1) ?_ g4 g5 (hmk h.nl ⟨fs,ls,by rw [g6];exact hmid⟩ fun u hu=>Nat.le_trans (by rw [g6];exact h.tg u hu) (hT2 _))
    exact .wrong g1 g2 g3 rfl rfl
  | read g1 g2 g3 g4 g5 =>
    dsimp only at g5
    obtain ⟨k1,_,k3⟩:=hmid.eqs hc g5
    exact .read (.inr g1) g2 g3 g4 (hmk h.nl ⟨fs,ls,k1⟩ fun u hu=>Nat.le_trans (by rw [k3 u hu];exact h.tg u hu) (hT2 _))
  | last g1 g2 g3 g4 g5 g6 g7 g8 =>
    dsimp only at g3 g8
    have hsz:=hq.sz
    dsimp only at hsz
    have hne:∀ {a:Int},0≤a→a<M.cs.length→((c.what a).1≠1∧(c.what a).1≠2)→cellI M2.cs a=cellI M.cs a:=fun h0 h1 hk=>by
      rw [g8];exact wantC_ne hc hsz hq.who _ _ _ h0 h1 hk
    have hf:=f717 hc
    have h7:∀ u:Int,0≤u∧u<c.threads→cellI M2.cs (c.at 7 u 0)=cellI M.cs (c.at 7 u 0):=fun u hu=>by
      obtain ⟨t0,t1,t7⟩:=tx_in hc hsz (at_in hc (kind:=7) (i:=u) (j:=0) (by decide) (in7 (by decide) hu))
      exact hne t0 t1 (by omega)
    have hmw:MemH c M2.cs n fs ls ms.roots ms.blocks:=by rw [g8];exact hmid.mem.want hc hq.who _ hq.args _
    refine .late g1 g2 g3 g4 g5 g7 (hmk h.nl ⟨fs,ls,hmw,hmid.lsz, ?_,fun u hu=>?_,fun hn=>?_⟩ fun u hu=>Nat.le_trans (by rw [h7 u hu];exact h.tg u hu) (hT2 _))
    · rw [hne (Int.le_refl _) (by have:=hc.nums.f7;omega) (by unfold Cfg.what;rw [if_neg (by omega),if_pos rfl];dsimp only;omega)]
      exact hmid.now
    · have:=own1 hc (.inr rfl) hu
      have hw:=at_own hc (kind:=4) (i:=u) (k:=0) (by omega) hu (by unfold Cfg.cnt;simp)
      rw [hne (by omega) (by omega) (by rw [hw];dsimp only;omega)]
      exact hmid.opens u hu
    · exact absurd hn (Nat.not_lt_of_le g3)
  | wrote r ms2 fs2 ls2 g1 g2 g3 g4 g5 g6 g7 g8 g9 g10 g11 g12 g13 g14 =>
    dsimp only at g3 g5 g6 g8 g12 g13 g14
    refine .wrote r ms2 g1 g2 g3 g4 g5 g6 g8 g9 g10 g11 (hmk g3 ⟨fs2,ls2,g12⟩ fun u hu=>?_)
    by_cases e:u=p.who
    · rw [e,g14,hpt,hpw,getD_setT hwT,if_pos rfl];exact Nat.le_refl _
    · rw [g13 u hu e]
      exact Nat.le_trans (h.tg u hu) (hT2 _)
end Go.Proofs.YthmbgodcpgkkeaaGreat
end
section
namespace Go.Proofs.YthmbgodcpgkkeaaGreat
set_option maxRecDepth 100000
theorem Tri.frz_hd {P:Program} {f:FuncId} {args:Array Value} {L:List HProp} {Φ Q:Value→List HProp→Prop} (h:Tri P f args L Φ)
    (hq:∀ v L',Φ v L'→∃ p As,Ent L' (p::As)∧∀ H,p H→Q v (Go.Proofs.YthmbgodcpgkkeaaGreat.frz H::As)):Tri P f args L Q:=by
  unfold Tri at *
  intro w F hs
  refine (h w F hs).mono ?_
  rintro e' w' ⟨v,L',he,hv,hs',ho⟩
  obtain ⟨p,As,hE,hQ⟩:=hq v L' hv
  have h1:Ent (L'++F) (p::(As++F)):=Ent.app hE
  unfold Ent at h1
  obtain ⟨H,hH,hs3⟩:=sat_frz (h1 _ hs')
  exact ⟨v,_,he,hQ H hH,hs3,ho⟩
theorem rw_read {v:Value} {rows:List BRow} {H:Hp} (h:RwE v rows H):∃ ad cap rs,v=.slice ad rows.length cap∧rs.map (·.1)=rows∧ListR rowV (frz H) (.slice ad rs.length cap) rs∧∀ x∈rs,ListR u1V (frz H) (.slice x.2.1 x.1.news.length x.2.2) x.1.news:=by
  obtain ⟨⟨ad,cap,rs,hrs,rfl⟩,hs⟩:=h
  dsimp only at hs
  have hl:rs.length=rows.length:=by rw [←hrs,List.length_map]
  have hE:Ent [Row (.slice ad rows.length cap) 128 5 rows.length (rs.flatMap rowV),star (rs.map rowP)] (Row (.slice ad rows.length cap) 128 5 rows.length (rs.flatMap rowV)::(rs.map rowP++[])):=Ent.cons Ent.star_out
  unfold Ent at hE
  have hH:=hE _ hs
  refine ⟨ad,cap,rs,rfl,hrs, ?_,fun x hx=>?_⟩
  · rw [hl]
    exact ListR.frz hl hH (List.mem_cons_self ..)
  · refine ListR.frz (e:=22) (sz:=1) (n:=x.1.news.length) rfl hH (List.mem_cons_of_mem _ (List.mem_append_left _ ?_))
    rw [←u64s_flat14]
    exact List.mem_map_of_mem hx
theorem does_z (Mb C Cb:Nat) (c:Cfg) (hc:Small c) (hf:0≤c.fuel∧c.fuel≤1000) (hlast:c.last≤140737488355328) (p:Cp) (hp:p.args.length=4) (hwho:0≤p.who∧p.who≤1000) (pv:Value) (q:HProp) (progs:Progs) (hpv:ProgsR q pv progs) (s0:Pm×Cm) (hi:Cinv c p progs s0.2) (hr:Crt p progs s0.2) (hst:s0.1.st.length=8) (most:Int) (hmost:most≤1000000000) (N:Nat) (hN:(N:Int)≤most) (htr:s0.1.tr.length+N≤1000000)
    (hask:∀ k≤N,((cit c p progs s0 k).2.ask c p).2=decide (k<N)) :
    Tri Tryz.prog 83 #[.pointer (some ⟨Mb,0,none⟩), .int .i64 p.who, .pointer (some ⟨Cb,0,none⟩), .int .i64 most] [Mm Mb C s0.1,ClE Cb c pv p q progs s0.2,q]
      fun r L=>∃ R ad cap rs,rs.map (·.1)=crow c p progs s0 N∧ListR rowV R (.slice ad rs.length cap) rs∧(∀ x∈rs,ListR u1V R (.slice x.2.1 x.1.news.length x.2.2) x.1.news)∧r=.tuple ⟨[.int .i64 (N:Int), .slice ad rs.length cap]⟩∧L=[R,Mm Mb C (cit c p progs s0 N).1,ClE Cb c pv p q progs (cit c p progs s0 N).2,q]:=by
  refine Tri.frz_hd (does_t Mb C Cb c hc hf hlast p hp hwho pv q progs hpv s0 hi hr hst most hmost N hN htr hask) ?_
  rintro v L' ⟨ad,cap,rfl,rfl⟩
  refine ⟨RwE (.slice ad (crow c p progs s0 N).length cap) (crow c p progs s0 N),[Mm Mb C (cit c p progs s0 N).1,ClE Cb c pv p q progs (cit c p progs s0 N).2,q],Ent.go,fun H hH=>?_⟩
  obtain ⟨ad2,cap2,rs,e,h1,h2,h3⟩:=rw_read hH
  injection e with e1 _ e3
  subst e1 e3
  have hl:rs.length=(crow c p progs s0 N).length:=by rw [←h1,List.length_map]
  exact ⟨_,ad,cap,rs,h1,h2,h3,by rw [hl],rfl⟩
theorem SetN.u64 {v:Nat}:∀ {l:List Nat} {i:Nat},i<l.length→SetN (.int .u64 (v:Int)) i (u64s l) (u64s (l.set i v))
  | _::_,0,_=>.zero
  | _::l,_+1,h=>.succ (SetN.u64 (l:=l) (Nat.lt_of_succ_lt_succ h))
  | [],_,h=>absurd h (Nat.not_lt_zero _)
theorem u64s_rep (n:Nat):u64s (List.replicate n 0)=(List.replicate n (cl (.int .u64 0))).flatten:=by
  induction n with
  | zero=>rfl
  | succ n ih =>
    rw [List.replicate_succ,List.replicate_succ,List.flatten_cons,←ih];rfl
theorem cs_far {q:HProp} {c:Cfg} {pv:Value} {progs:Progs} {jobs:List Aq} {jad:Option Addr} {jcap:Nat} (hpv:ProgsG q pv progs) (hjl:jobs.length≤9223372036854775807) (hb:¬ (few14B c progs=true∧jobs.length≤8)) :
    Tri Tryz.prog 10 #[.agg ⟨c.v⟩,pv, .slice jad jobs.length jcap] [q] fun r L=>r=.bool true∧L=[q]:=by
  have hfew:=few15s_r c q pv progs hpv
  unfold Cfg.v at hfew⊢
  cases hb1:few14B c progs with
  | false =>
    rw [hb1] at hfew
    refine Tri.of_body (vs:=[_,_,_]) Tryz.func10 rfl rfl fun w0 F=>?_
    repeat' (first|refine Ga ?_|(refine Gb ?_;intro b)|(refine Gd ?_;intro g cap rest hcap)|(refine Gc ?_;intro ad cap)|(refine St.draw (id:=18) [(0,1),(1,0),(2,0),(3,0),(4,0),(5,1),(6,0),(7,0),(8,1),(9,3),(10,0)] [9] mixed (by kernel_rfl) ?_)|(refine St.draw (id:=29) [(0,0),(1,0),(2,0),(3,0),(4,0),(5,0),(6,0),(7,1),(8,0),(9,0),(10,0),(11,0),(12,0),(13,0),(14,0),(15,1),(16,0),(17,0),(18,0),(19,1),(20,0),(21,0),(22,0),(23,0),(24,0),(25,0),(26,1),(27,0),(28,1),(29,0),(30,0)] [] mixed (by kernel_rfl) ?_)|(refine St.draw (id:=34) [(0,0),(1,1),(2,0),(3,1),(4,0),(5,0),(6,0),(7,1),(8,0),(9,0),(10,0),(11,0),(12,0),(13,1),(14,0),(15,0),(16,0),(17,0),(18,0),(19,1),(20,0),(21,0),(22,0),(23,0),(24,0)] [] mixed (by kernel_rfl) ?_)| refine Gl hfew ?_|(refine Gt alive15_t ?_;rintro _ _ ⟨rfl,rfl⟩)|(refine Ge ?_ ?_<;>(intro h;try (exfalso;omega)))|fail)
    all_goals first|(exfalso;omega)|skip
    all_goals exact St.d1 Tryz.func10 ⟨_,⟨rfl,rfl⟩,Ent.go⟩
  | true =>
    rw [hb1] at hfew
    have h8:¬ jobs.length≤8:=fun h=>hb ⟨hb1,h⟩
    refine Tri.of_body (vs:=[_,_,_]) Tryz.func10 rfl rfl fun w0 F=>?_
    repeat' (first|refine Ga ?_|(refine Gb ?_;intro b)|(refine Gd ?_;intro g cap rest hcap)|(refine Gc ?_;intro ad cap)|(refine St.draw (id:=18) [(0,1),(1,0),(2,0),(3,0),(4,0),(5,1),(6,0),(7,0),(8,1),(9,3),(10,0)] [9] mixed (by kernel_rfl) ?_)|(refine St.draw (id:=29) [(0,0),(1,0),(2,0),(3,0),(4,0),(5,0),(6,0),(7,1),(8,0),(9,0),(10,0),(11,0),(12,0),(13,0),(14,0),(15,1),(16,0),(17,0),(18,0),(19,1),(20,0),(21,0),(22,0),(23,0),(24,0),(25,0),(26,1),(27,0),(28,1),(29,0),(30,0)] [] mixed (by kernel_rfl) ?_)|(refine St.draw (id:=34) [(0,0),(1,1),(2,0),(3,1),(4,0),(5,0),(6,0),(7,1),(8,0),(9,0),(10,0),(11,0),(12,0),(13,1),(14,0),(15,0),(16,0),(17,0),(18,0),(19,1),(20,0),(21,0),(22,0),(23,0),(24,0)] [] mixed (by kernel_rfl) ?_)| refine Gl hfew ?_|(refine Gt alive15_t ?_;rintro _ _ ⟨rfl,rfl⟩)|(refine Ge ?_ ?_<;>(intro h;try (exfalso;omega)))|fail)
    all_goals first|(exfalso;omega)|skip
    all_goals exact St.d1 Tryz.func10 ⟨_,⟨rfl,rfl⟩,Ent.go⟩
end Go.Proofs.YthmbgodcpgkkeaaGreat
end
