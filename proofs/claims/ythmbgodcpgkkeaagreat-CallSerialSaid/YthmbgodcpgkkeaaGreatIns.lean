/-
  Package lay: Boot, the memory with which all begins. From a law's contract to its row. Packages instr, check and model: what an instruction is, and what it makes of registers.
-/
import Derived.Test.YthmbgodcpgkkeaaGreatCell
import Derived.Test.YthmbgodcpgkkeaaGreatRows
import Derived.ProofKit
import Derived.OpenShut
import Derived.Deep.Slices
import Derived.Deep.Fields
import Derived.Test.YthmbgodcpgkkeaaGreatTy
section
namespace Go.Proofs.YthmbgodcpgkkeaaGreat
def Cfg.size (c:Cfg):Nat:=c.f17.toNat
def Cfg.bootN (c:Cfg):Nat→List Cell
  | 0=>setOf (setOf (List.replicate c.size ⟨0,0⟩) (c.at 0 0 0) ⟨0,c.first⟩) (c.at 12 0 0) ⟨c.blocks.toNat,0⟩
  | i+1=>setOf (c.bootN i) (c.at 13 i 0) ⟨(c.blocks - 1 - i).toNat,0⟩
theorem Cfg.bootN_len (c:Cfg):∀ i,(c.bootN i).length=c.size
  | 0=>by simp [Cfg.bootN,setOf_len]
  | i+1=>by rw [Cfg.bootN,setOf_len,Cfg.bootN_len c i]
def Cfg.boot (c:Cfg):List Cell:=c.bootN c.blocks.toNat
theorem boot_t (c:Cfg) (hc:Small c) :
    Tri Tryz.prog 50 #[.agg ⟨c.m⟩] [] fun v L=>∃ M C,v=.pointer (some ⟨M,0,none⟩)∧L=[bl M 244 (memV C c.size zeros8 (.slice none 0 0)),bl C 39 (c.boot.flatMap Cell.v)]:=by
  have hn:=hc.nums.f7;have hn2:=hc.nums.f17;have ht:=hc.ts
  have:=hc.t0;have:=hc.t1;have:=hc.b0;have:=hc.b1;have:=hc.limit
  obtain ⟨hf7,hf10,hf11,hf12,hf13,hf14,hf15,hf16,hf17,hstr⟩:=c.froms
  have hsz:(c.size:Int)=c.f17:=by unfold Cfg.size;omega
  have hnew:=new_t c.size (by omega)
  rw [hsz] at hnew
  have hb:(c.blocks.toNat:Int)=c.blocks:=by omega
  have hset1:=fun M C=>set_t M C c.size (List.replicate c.size ⟨0,0⟩) (by simp) zeros8 (.slice none 0 0) (c.at 0 0 0) ⟨0,c.first⟩
  have hset2:=fun M C=>set_t M C c.size (setOf (List.replicate c.size ⟨0,0⟩) (c.at 0 0 0) ⟨0,c.first⟩) (by simp [setOf_len]) zeros8 (.slice none 0 0) (c.at 12 0 0) ⟨c.blocks.toNat,0⟩
  unfold Cell.v at hset2
  simp only [hb] at hset2
  refine Tri.of_body (vs:=[_]) Tryz.func50 rfl rfl fun w0 F=>?_
  repeat' (first|refine Ga ?_|(refine Gb ?_;intro b)|(refine Gd ?_;intro g cap rest hcap)|(refine Gc ?_;intro ad cap)|(refine St.draw (id:=2) [(0,0),(1,1),(2,1),(3,0),(4,0),(5,1),(6,0),(7,3)] [7] mixed (by kernel_rfl) ?_)|(refine St.draw (id:=3) [(0,0),(1,1),(2,1),(3,0),(4,0),(5,1),(6,0),(7,0),(8,3)] [8] mixed (by kernel_rfl) ?_)|(refine St.draw (id:=7) [(0,0),(1,1),(2,0),(3,1),(4,0),(5,0),(6,1),(7,0),(8,0),(9,0),(10,0),(11,0),(12,3)] [12] mixed (by kernel_rfl) ?_)| refine Gl (size_r c) ?_|refine Gl (at_r c hc _ _ _) ?_|(refine Gt hnew ?_;rintro _ _ ⟨M,C,rfl,rfl⟩)|(refine Gt (hset1 M C) ?_;rintro _ _ ⟨rfl,rfl⟩)|(refine Gt (hset2 M C) ?_;rintro _ _ ⟨rfl,rfl⟩)|(refine Ge ?_ ?_<;>(intro h;try (exfalso;omega)))|fail)
  refine St.loop (ι:={ i:Nat // (i:Int)≤c.blocks }) (fun i=>(c.blocks - i.1).toNat)
    (fun i=>[(1, .pointer (some ⟨b,0,none⟩)),(3, .pointer (some ⟨M,0,none⟩)),(31, .int .i64 c.blocks),(32, .int .i64 (i.1:Int))])
    (fun i=>[bl M 244 (memV C c.size zeros8 (.slice none 0 0)),bl C 39 ((c.bootN i.1).flatMap Cell.v),bl b 31 c.m]++F) ⟨0,by omega⟩ ?hE ?hL ?round
  case hE=>exact Sub.go
  case hL=>exact Ent.go
  case round =>
    rintro ⟨i,hi⟩ IH;dsimp only
    have hset3:=set_t M C c.size (c.bootN i) (c.bootN_len i) zeros8 (.slice none 0 0) (c.at 13 i 0) ⟨(c.blocks - 1 - i).toNat,0⟩
    by_cases hlt:(i:Int)<c.blocks
    · have hb3:((c.blocks - 1 - (i:Int)).toNat:Int)=c.blocks - 1 - i:=by omega
      unfold Cell.v at hset3
      simp only [hb3] at hset3
      repeat' (first|refine Ga ?_|(refine Gb ?_;intro b)|(refine Gd ?_;intro g cap rest hcap)|(refine Gc ?_;intro ad cap)|(refine St.draw (id:=2) [(0,0),(1,1),(2,1),(3,0),(4,0),(5,1),(6,0),(7,3)] [7] mixed (by kernel_rfl) ?_)|(refine St.draw (id:=3) [(0,0),(1,1),(2,1),(3,0),(4,0),(5,1),(6,0),(7,0),(8,3)] [8] mixed (by kernel_rfl) ?_)|(refine St.draw (id:=7) [(0,0),(1,1),(2,0),(3,1),(4,0),(5,0),(6,1),(7,0),(8,0),(9,0),(10,0),(11,0),(12,3)] [12] mixed (by kernel_rfl) ?_)| refine Gl (at_r c hc _ _ _) ?_|(refine Gt hset3 ?_;rintro _ _ ⟨rfl,rfl⟩)|(refine Ge ?_ ?_<;>(intro h;try (exfalso;omega)))|fail)
      refine (IH ⟨i+1,by omega⟩ (by show (c.blocks - ((i+1:Nat):Int)).toNat<(c.blocks - (i:Int)).toNat;omega)).conv ?_ ?_
      · exact Sub.go
      · exact Ent.go
    · have hi2:i=c.blocks.toNat:=by omega
      repeat' (first|refine Ga ?_|(refine Gb ?_;intro b)|(refine Gd ?_;intro g cap rest hcap)|(refine Gc ?_;intro ad cap)|(refine St.draw (id:=2) [(0,0),(1,1),(2,1),(3,0),(4,0),(5,1),(6,0),(7,3)] [7] mixed (by kernel_rfl) ?_)|(refine St.draw (id:=3) [(0,0),(1,1),(2,1),(3,0),(4,0),(5,1),(6,0),(7,0),(8,3)] [8] mixed (by kernel_rfl) ?_)|(refine St.draw (id:=7) [(0,0),(1,1),(2,0),(3,1),(4,0),(5,0),(6,1),(7,0),(8,0),(9,0),(10,0),(11,0),(12,3)] [12] mixed (by kernel_rfl) ?_)|(refine Ge ?_ ?_<;>(intro h;try (exfalso;omega)))|fail)
      refine St.d1 Tryz.func50 ?_;apply Exists.intro;apply And.intro;(refine ⟨M,C,rfl, ?_⟩);(rw [Cfg.boot,←hi2]);exact Ent.go
end Go.Proofs.YthmbgodcpgkkeaaGreat
end
section
namespace Go.Proofs.YthmbgodcpgkkeaaGreat
open Go.ChangeShapes Go.WideShapes Go.ChangeAt Go.RowKit Go.Deep
theorem own_:ownKnob Tryz.prog.godebug=none:=by kernel_rfl
theorem laid_:laidOutB Tryz.prog=true:=by kernel_rfl
theorem exact_sat (W:World):Sat ([exact' W]++[]) (hpOf W):=sat_exact W
theorem exact_below {W W':World} (hs:Sat ([exact' W]++[]) (hpOf W')) (ho:Old W W'):Below W.heap.size W W':=by
  have key:∀ b o,W.heap[b]? = some o→W'.heap[b]? = some o:=fun b o hb =>
    Reads.sat (L:=[exact' W]++[]) (.here (fun h e=>by rw [show h=hpOf W from e];exact hb)) hs
  refine ⟨ho.os,ho.tape,ho.output, ?_,fun k hk=>?_⟩
  · rcases Nat.eq_zero_or_pos W.heap.size with h0|h0
    · omega
    · have h1:=key (W.heap.size - 1) W.heap[W.heap.size - 1] (by simp)
      have:=(Array.getElem?_eq_some_iff.1 h1).1
      omega
  · have h1:W.heap[k]? = some W.heap[k]:=by simp [hk]
    rw [h1]
    exact key k _ h1
theorem trodAll_stays {H:Type} {enc:TypeId×Value→H} {P:Program} (hl:laidOutB P=true) {W W':World} (hb:Below W.heap.size W W') (sp:Nat→Bool) :
    ∀ {ts:List TypeId} {vs:List Value} {ds:List (DataW H)} {ps:List MemPlace},(ts.all fun t=>P.readableRec t && decide (t<P.types.size))=true→DataW.TrodAll enc P W 0 (fun _=>true) true ts vs ds ps→
      (∀ x∈ps,x.block<W.heap.size)→(∀ x∈ps,sp x.block=true)→DataW.TrodAll enc P W' 0 sp true ts vs ds ps
  | [],_,_,_,_,h,_,_=>by obtain ⟨rfl,rfl,rfl⟩:=trodAll_nil h;rfl
  | t::ts,_,_,_,hts,h,hlt,hsp=>by
    obtain ⟨v,vs,d,ds,p,q,rfl,rfl,rfl,h1,h2⟩:=trodAll_cons h
    simp only [List.all_cons,Bool.and_eq_true,decide_eq_true_eq] at hts
    refine trodAll_cons_mk (WideElems.Trod_stays hl hts.1.1 hts.1.2 h1 (fun x hx=>hb.same (hlt x (by simp [hx]))) (fun x hx=>hsp x (by simp [hx]))) ?_
    exact trodAll_stays hl hb sp hts.2 h2 (fun x hx=>hlt x (by simp [hx])) (fun x hx=>hsp x (by simp [hx]))
section
variable {H:Type} {enc:TypeId×Value→H} {P:Program}
theorem post_of_below {f:Func} {s:ChangeSpec} {apart fresh handsOn again:Bool} {W W':World} {args:Array Value} {v:Value} {ds gs:List (DataW H)} {before pa pv:List MemPlace}
    (hW:DataW.Whole enc P f.params.toList s.vars apart W args.toList ds gs before)
    (hres:∀ (b:Nat) (sp:Nat→Bool) (hd:Bool),DataW.TrodAll enc P W' b sp hd f.resultTypes.toList (v.resultList f.resultTypes.size) (s.fn H (ds++gs)).results [])
    (hargs:∀ sp:Nat→Bool,(∀ p∈before,sp p.block=true)→DataW.TrodAll enc P W' 0 sp true f.params.toList args.toList (s.fn H (ds++gs)).args pa)
    (hvars:∀ sp:Nat→Bool,(∀ p∈before,sp p.block=true)→DataW.TrodVars enc P W' sp s.vars (s.fn H (ds++gs)).vars pv)
    (hps:before=pa++pv) (hb:Below W.heap.size W W')
    (hok:∀ (j:Nat) (t:TypeId) (r:Value),f.resultTypes[j]? = some t→(v.resultList f.resultTypes.size)[j]? = some r→Value.okWide P W' .any 0 t r) :
    s.post enc P f apart fresh handsOn again W args v W':=by
  have hlt:∀ p∈before,p.block<W.heap.size:=fun p hp=>hW.lt p hp
  have hold:∀ p∈before,(fun b=>decide (b<W.heap.size)) p.block=true:=fun p hp=>by simpa using hlt p hp
  refine ⟨ds,gs,before,[],pa,pv,hW,hres _ _ _,hargs _ hold,hvars _ hold,World.keptBut_mono (fun p hp=>⟨hp, ?_⟩) (hb.frame (·∈before)),fun _=>?_⟩
  · rw [hps,List.mem_append] at hp
    exact Or.inr hp
  · obtain ⟨_,_,_,_,_,hz,hn⟩:=hW
    refine ⟨hok,_,_,([]++pa)++pv,⟨[]++pa,pv,trodAll_append (hargs _ (fun _ _=>rfl)) (hres _ _ _),hvars _ (fun _ _=>rfl),rfl, ?_, ?_⟩, ?_⟩
    · intro b off hp
      have hin:MemPlace.cell b off∈before:=by rw [hps];simpa using hp
      rw [hb.frozen (hlt _ hin)]
      exact hz b off hin
    · intro ha
      have:=hn ha
      rw [hps] at this
      simpa using this
    · intro p hp _
      rw [hps]
      simpa using hp
theorem post_true {f:Func} {s:ChangeSpec} {apart fresh handsOn again:Bool} {W W':World} {args:Array Value} {ds gs:List (DataW H)} {before:List MemPlace} {bt:TypeId} (hl:laidOutB P=true)
    (hW:DataW.Whole enc P f.params.toList s.vars apart W args.toList ds gs before) (hnv:s.vars=[]) (hrt:f.resultTypes=#[bt]) (hbt:P.underlying bt=some .bool)
    (hts:(f.params.toList.all fun t=>P.readableRec t && decide (t<P.types.size))=true)
    (hfn:s.fn H (ds++gs)={ results:=[.lit (.bool true)],args:=ds }) (hs:Sat ([exact' W]++[]) (hpOf W')) (ho:Old W W'):s.post enc P f apart fresh handsOn again W args (.bool true) W':=by
  have hb:=exact_below hs ho
  have hW0:=hW
  obtain ⟨p,q,hA,hV,hpq,_,_⟩:=hW0
  rw [hnv] at hV
  obtain ⟨hg,hq⟩:=trodVars_none hV
  have hpb:before=p:=by rw [hpq,hq,List.append_nil]
  refine post_of_below (pa:=before) (pv:=[]) hW (fun _ _ _=>?_) (fun sp hsp=>?_) (fun sp hsp=>?_) (by simp) hb ?_
  · rw [hrt,hfn];exact trodAll_mk1 (shut_bool hbt _)
  · rw [hfn,hpb];exact trodAll_stays hl hb sp hts hA (fun x hx=>hW.lt x (by rw [hpb];exact hx)) (fun x hx=>hsp x (by rw [hpb];exact hx))
  · rw [hfn,hnv];rfl
  · exact ok_one hrt rfl (okWide_bool_mk hbt _)
end
section
variable {H:Type} {enc:TypeId×Value→H} {w:World} {base fuel:Nat} {spare:Nat→Bool} {held:Bool} {cs:List Value} {x:DataW H×List MemPlace}
theorem wf_u64 {n:Int} (h:(Lit.int .u64 n).wf=true):0≤n∧n<18446744073709551616:=by
  have:=(by simpa [Lit.wf,IntKind.min,IntKind.max,IntKind.signed,IntKind.bits] using h:0≤n∧n≤18446744073709551615)
  omega
theorem trod_fld {P:Program} {t:TypeId} {fs:Array Field} (ht:P.underlying t=some (.struct fs)) (h:DataW.trod enc P w base spare held fuel t cs=some x) (m:Nat) (hm:P.cellsOf t=m) :
    cs.length=m∧∀ (i:Nat) (f:Field) (o k:Nat),fs[i]? = some f→f.offset=o→P.cellsOf f.type=k→∃ n y,DataW.trod enc P w base spare held n f.type ((cs.drop o).take k)=some y:=by
  obtain ⟨xs,n,_,_,hl,hlen,hf⟩:=DataW.trod_struct ht h
  refine ⟨hl.trans hm,fun i f o k h1 h2 h3=>?_⟩
  have hi:=(Array.getElem?_eq_some_iff.1 h1).1
  have:=hf i f h1
  rw [h2,h3,List.getElem?_eq_getElem (by omega)] at this
  exact ⟨n,_,this⟩
theorem cfg_of (h:DataW.trod enc Tryz.prog w base spare held fuel 24 cs=some x):∃ c:Cfg,cs=c.v:=by
  obtain ⟨hl,hf⟩:=trod_fld Tryz.underlying24 h 6 (by kernel_rfl)
  obtain ⟨_,_,h0⟩:=hf 0 _ 0 1 rfl rfl (by kernel_rfl)
  obtain ⟨_,_,h1⟩:=hf 1 _ 1 1 rfl rfl (by kernel_rfl)
  obtain ⟨_,_,h2⟩:=hf 2 _ 2 1 rfl rfl (by kernel_rfl)
  obtain ⟨_,_,h3⟩:=hf 3 _ 3 1 rfl rfl (by kernel_rfl)
  obtain ⟨_,_,h4⟩:=hf 4 _ 4 1 rfl rfl (by kernel_rfl)
  obtain ⟨_,_,h5⟩:=hf 5 _ 5 1 rfl rfl (by kernel_rfl)
  obtain ⟨a0,e0,_,_⟩:=DataW.trod_int Tryz.underlying3 h0
  obtain ⟨a1,e1,_,_⟩:=DataW.trod_int Tryz.underlying3 h1
  obtain ⟨a2,e2,_,_⟩:=DataW.trod_int Tryz.underlying3 h2
  obtain ⟨a3,e3,_,_⟩:=DataW.trod_int Tryz.underlying3 h3
  obtain ⟨a4,e4,_,w4⟩:=DataW.trod_int Tryz.underlying22 h4
  obtain ⟨a5,e5,_,w5⟩:=DataW.trod_int Tryz.underlying22 h5
  have:=wf_u64 w4;have:=wf_u64 w5
  match cs,hl with
  | [c0,c1,c2,c3,c4,c5],_ =>
    injection e0 with e0 _;injection e1 with e1 _;injection e2 with e2 _;injection e3 with e3 _;injection e4 with e4 _;injection e5 with e5 _
    subst e0;subst e1;subst e2;subst e3;subst e4;subst e5
    refine ⟨⟨a0,a1,a2,a3,a4.toNat,a5.toNat⟩, ?_⟩
    unfold Cfg.v
    dsimp only
    rw [Int.toNat_of_nonneg (by omega),Int.toNat_of_nonneg (by omega)]
end
theorem addr_add' {a:Addr} (h:a.spot=none) (k:Nat):a.add k=⟨a.block,a.off+k,none⟩:=by
  cases a;cases h;exact addr_add _ _ _
theorem slice_cs {H:Type} {enc:TypeId×Value→H} {P:Program} {W:World} {t e:TypeId} {sz fuel:Nat} {cs:List Value} {x:DataW H×List MemPlace} {α:Type} (f:α→List Value) (hf:∀ x,(f x).length=sz) (hsz:0<sz) (ht:P.underlying t=some (.slice e)) (hC:P.cellsOf e=sz)
    (hdec:∀ n cs x,DataW.trod enc P W 0 (fun _=>true) true n e cs=some x→∃ a:α,cs=f a) (h:DataW.trod enc P W 0 (fun _=>true) true fuel t cs=some x) :
    ∃ (ad:Option Addr) (l:List α) (cap:Nat),cs=[.slice ad l.length cap]∧l.length≤cap∧cap≤maxLen∧(l.length=0∨∃ b o blk rest,ad=some ⟨b,o,none⟩∧RdC (exact' W) b blk∧DropN o blk (l.flatMap f++rest)):=by
  rcases open_slice ht h with ⟨hcs,_⟩|⟨a,len0,cap,m,n,D,Pl,hcs,_,hl,hm,hmm,_,hi⟩
  · subst hcs
    exact ⟨none,[],0,rfl,Nat.le_refl _,Nat.zero_le _, .inl rfl⟩
  · subst hcs
    simp only [if_true] at hmm
    subst hmm
    rw [hC] at hi
    have hcell:∀ i,i<len0→∃ x:α,∀ j,j<sz→W.cell? (a.add (i * sz+j))=(f x)[j]? := fun i h1=>by
      obtain ⟨cs',h2,h3⟩:=hi i (by omega)
      obtain ⟨x,rfl⟩:=hdec _ _ _ h3
      obtain ⟨_,_,h4⟩:=World.cells?_some h2
      exact ⟨x,fun j hj=>by rw [←Go.Deep.add_add];exact h4 j hj⟩
    have hlist:∀ n,n≤len0→∃ l:List α,l.length=n∧∀ i (h:i<l.length),∀ j,j<sz→W.cell? (a.add (i * sz+j))=(f l[i])[j]? := by
      intro n
      induction n with
      | zero=>exact fun _=>⟨[],rfl,fun i h=>by simp at h⟩
      | succ n ih =>
        intro hn
        obtain ⟨l,hll,hlc⟩:=ih (by omega)
        obtain ⟨x,hx⟩:=hcell n (by omega)
        refine ⟨l++[x],by simp [hll],fun i h j hj=>?_⟩
        by_cases hin:i<l.length
        · rw [List.getElem_append_left hin];exact hlc i hin j hj
        · have:i=n:=by simp at h;omega
          subst this
          rw [List.getElem_append_right (by omega)]
          simpa using hx j hj
    obtain ⟨l,hll,hlc⟩:=hlist len0 (Nat.le_refl _)
    subst hll
    refine ⟨some a,l,_,rfl,hl,hm, ?_⟩
    rcases Nat.eq_zero_or_pos l.length with h0|h0
    · exact .inl h0
    · right
      have h1:=hlc 0 h0 0 hsz
      rw [List.getElem?_eq_getElem (by rw [hf];exact hsz)] at h1
      unfold World.cell? at h1
      cases hb:W.heap[a.block]? with
      | none=>simp [Addr.add,hb] at h1
      | some o =>
        cases o with
        | cells c t' fz =>
          have hspot:a.spot=none:=by
            cases hs:a.spot with
            | none=>rfl
            | some x=>simp [Addr.add,hb,hs] at h1
          have hget:∀ i (h:i<l.length),∀ j,j<sz→c[a.off+(i * sz+j)]? = (f l[i])[j]? := fun i h j hj=>by
            rw [←hlc i h j hj,addr_add' hspot]
            exact (cell_hp (w:=W) hb).symm
          have hlen:(l.flatMap f).length=l.length * sz:=flat_len hf l
          have hall:∀ k,k<l.length * sz→c[a.off+k]? = (l.flatMap f)[k]? := fun k hk=>by
            have hi:k / sz<l.length:=(Nat.div_lt_iff_lt_mul hsz).2 hk
            have hj:=Nat.mod_lt k hsz
            have hkk:k / sz * sz+k % sz=k:=by rw [Nat.mul_comm];exact Nat.div_add_mod k sz
            have h2:=hget (k / sz) hi (k % sz) hj
            rw [hkk,List.getElem?_eq_getElem (by rw [hf];exact hj)] at h2
            rw [h2]
            have h3:=(NthN.flat hf hi (NthN.of (l:=f l[k / sz]) (n:=k % sz) (List.getElem?_eq_getElem (by rw [hf];exact hj)))).eq
            rw [hkk] at h3
            exact h3.symm
          have hoff:a.off+l.length * sz≤c.toList.length:=by
            have h2:0<l.length * sz:=Nat.mul_pos h0 hsz
            have h3:=hall (l.length * sz - 1) (by omega)
            rw [List.getElem?_eq_getElem (by omega)] at h3
            have:=(Array.getElem?_eq_some_iff.1 h3).1
            simp only [Array.length_toList]
            omega
          refine ⟨a.block,a.off,c.toList,(c.toList.drop a.off).drop (l.length * sz),by rw [←hspot],⟨t',fz,fun h e=>?_⟩, ?_⟩
          · rw [show h=hpOf W from e];exact hb
          · have h2:(c.toList.drop a.off).take (l.length * sz)=l.flatMap f:=by
              apply List.ext_getElem?
              intro k
              by_cases hk:k<l.length * sz
              · rw [List.getElem?_take_of_lt hk,List.getElem?_drop,←hall k hk];simp
              · rw [List.getElem?_eq_none (by rw [List.length_take];omega),List.getElem?_eq_none (by omega)]
            have h3:=DropN.of (l:=c.toList) (n:=a.off) (by omega)
            rw [←List.take_append_drop (l.length * sz) (c.toList.drop a.off),h2] at h3
            exact h3
        | _=>simp [Addr.add,hb] at h1
theorem slice_of {H:Type} {enc:TypeId×Value→H} {P:Program} {W:World} {t e:TypeId} {sz b0:Nat} {r:Reach} {α:Type} (f:α→List Value) (hf:∀ x,(f x).length=sz) (hsz:0<sz) (ht:P.underlying t=some (.slice e)) (hC:P.cellsOf e=sz)
    (hdec:∀ n cs x,DataW.trod enc P W 0 (fun _=>true) true n e cs=some x→∃ a:α,cs=f a) {v:Value} {d:DataW H} {p:List MemPlace} (hok:Value.okWide P W r b0 t v) (h:DataW.Trod enc P W 0 (fun _=>true) true t v d p) :
    ∃ (ad:Option Addr) (l:List α) (cap:Nat),v=.slice ad l.length cap∧l.length≤cap∧cap≤maxLen∧(l.length=0∨∃ b o blk rest,ad=some ⟨b,o,none⟩∧RdC (exact' W) b blk∧DropN o blk (l.flatMap f++rest)):=by
  obtain ⟨a0,len0,cap0,rfl⟩:=okWide_slice ht hok
  obtain ⟨fuel,h⟩:=h
  obtain ⟨ad,l,cap,hcs,h1,h2,h3⟩:=slice_cs f hf hsz ht hC hdec h
  injection hcs with hcs _
  exact ⟨ad,l,cap,hcs,h1,h2,h3⟩
theorem tri_run {P:Program} {f:FuncId} {args:Array Value} {W:World} {Q:Value→Prop} (h:Tri P f args [exact' W] fun v L=>Q v∧L=[exact' W]) :
    Calls P f args W fun e W'=>∃ v,e=.returned v∧Q v∧Sat ([exact' W]++[]) (hpOf W')∧Old W W':=by
  unfold Tri at h
  refine (h W [] (exact_sat W)).mono ?_
  rintro e W' ⟨v,L,he,⟨hq,rfl⟩,hs,ho⟩
  exact ⟨v,he,hq,hs,ho⟩
end Go.Proofs.YthmbgodcpgkkeaaGreat
end
section
namespace Go.Proofs.YthmbgodcpgkkeaaGreat
structure Ins where
  op:Int
  a:Int
  b:Int
  c:Int
  imm:Nat
  deriving DecidableEq
def Ins.v (i:Ins):List Value:=[.int .i64 i.op, .int .i64 i.a, .int .i64 i.b, .int .i64 i.c, .int .u64 (i.imm:Int)]
theorem Ins.v_len (i:Ins):i.v.length=5:=rfl
def usesN (op:Int):Nat :=
  if op=0∨op=8∨op=18∨op=19 then 9 else if op=1∨op=9∨op=10 then 3 else if (2≤op∧op≤7)∨op=12∨op=14 then 7 else
  if op=11∨op=13 then 11 else if op=15∨op=16∨op=20 then 1 else if op=17∨op=21 then 8 else 0
def formOf (op:Int):List UInt8×List UInt8 :=
  if op=0 then ([115,101,116],[97,105]) else if op=1 then ([109,111,118,101],[97,98]) else if op=2 then ([112,108,117,115],[97,98,99]) else
  if op=3 then ([109,105,110,117,115],[97,98,99]) else if op=4 then ([116,105,109,101,115],[97,98,99]) else if op=5 then ([109,111,100,117,108,111],[97,98,99]) else
  if op=6 then ([101,113,117,97,108],[97,98,99]) else if op=7 then ([108,101,115,115],[97,98,99]) else if op=8 then ([97,114,103],[97,105]) else
  if op=9 then ([114,111,111,116],[97,98]) else if op=10 then ([112,117,116,114,111,111,116],[97,98]) else if op=11 then ([114,101,97,100],[97,98,105]) else
  if op=12 then ([114,101,97,100,97,116],[97,98,99]) else if op=13 then ([119,114,105,116,101],[97,98,105]) else if op=14 then ([119,114,105,116,101,97,116],[97,98,99]) else
  if op=15 then ([110,101,119],[97]) else if op=16 then ([102,114,101,101],[97]) else if op=17 then ([103,111],[105]) else if op=18 then ([122,101,114,111],[97,105]) else
  if op=19 then ([98,97,99,107],[97,105]) else if op=20 then ([114,101,116,117,114,110],[97]) else if op=21 then ([97,98,111,114,116],[105]) else ([],[])
def bs (l:List UInt8):Value:=.string ⟨⟨l⟩⟩
theorem other_r (op:Int) (h:¬ (0≤op∧op≤10)):RTri Tryz.prog 323 #[.int .i64 op] [] (.tuple ⟨[bs (formOf op).1,bs (formOf op).2]⟩):=by
  apply RTri.of_pure
  refine Tri.of_body (vs:=[_]) Tryz.func323 rfl rfl fun w0 F=>?_
  repeat' (first|refine Ga ?_|(refine Gb ?_;intro b)|(refine Gd ?_;intro g cap rest hcap)|(refine Gc ?_;intro ad cap) |(refine Ge ?_ ?_<;>(intro h;try (exfalso;omega)))|fail)
  all_goals (first|refine St.dn Tryz.func323 ⟨?_,rfl⟩ Ent.go|refine St.fl Tryz.func323 ⟨?_,rfl⟩ Ent.go)
  all_goals unfold formOf
  all_goals (repeat (first|rw [if_pos (by omega)]|rw [if_neg (by omega)]))
  all_goals rfl
theorem form_r (op:Int):RTri Tryz.prog 320 #[.int .i64 op] [] (.tuple ⟨[bs (formOf op).1,bs (formOf op).2]⟩):=by
  apply RTri.of_pure
  by_cases h:0≤op∧op≤10
  · refine Tri.of_body (vs:=[_]) Tryz.func320 rfl rfl fun w0 F=>?_
    repeat' (first|refine Ga ?_|(refine Gb ?_;intro b)|(refine Gd ?_;intro g cap rest hcap)|(refine Gc ?_;intro ad cap) |(refine Ge ?_ ?_<;>(intro h;try (exfalso;omega)))|fail)
    all_goals (first|refine St.dn Tryz.func320 ⟨?_,rfl⟩ Ent.go|refine St.fl Tryz.func320 ⟨?_,rfl⟩ Ent.go)
    all_goals unfold formOf
    all_goals (repeat (first|rw [if_pos (by omega)]|rw [if_neg (by omega)]))
    all_goals rfl
  · have ho:=other_r op h
    refine Tri.of_body (vs:=[_]) Tryz.func320 rfl rfl fun w0 F=>?_
    repeat' (first|refine Ga ?_|(refine Gb ?_;intro b)|(refine Gd ?_;intro g cap rest hcap)|(refine Gc ?_;intro ad cap)|refine Gl ho ?_|(refine Ge ?_ ?_<;>(intro h;try (exfalso;omega)))|fail)
    all_goals (first|refine St.dn Tryz.func320 ⟨?_,rfl⟩ Ent.go|refine St.fl Tryz.func320 ⟨?_,rfl⟩ Ent.go)
    all_goals rfl
theorem name_r (op:Int):RTri Tryz.prog 307 #[.int .i64 op] [] (bs (formOf op).1):=by
  apply RTri.of_pure
  have ho:=form_r op
  refine Tri.of_body (vs:=[_]) Tryz.func307 rfl rfl fun w0 F=>?_
  repeat' (first|refine Ga ?_|(refine Gb ?_;intro b)|(refine Gd ?_;intro g cap rest hcap)|(refine Gc ?_;intro ad cap)|refine Gl ho ?_|(refine Ge ?_ ?_<;>(intro h;try (exfalso;omega)))|fail)
  all_goals (first|refine St.dn Tryz.func307 ⟨?_,rfl⟩ Ent.go|refine St.fl Tryz.func307 ⟨?_,rfl⟩ Ent.go)
  all_goals rfl
def usesV (n:Nat):Value:=.tuple ⟨[.bool (decide (n % 2=1)), .bool (decide (n / 2 % 2=1)), .bool (decide (n / 4 % 2=1)), .bool (decide (n / 8 % 2=1))]⟩
theorem uses_0:Tri Tryz.prog 306 #[.int .i64 0] [] fun v L=>v=usesV (usesN 0)∧L=[]:=by
  have ho:=form_r 0
  refine Tri.of_body (vs:=[_]) Tryz.func306 rfl rfl fun w0 F=>?_
  repeat' (first|(apply St.loop1)|(apply St.inLoop1)|refine Ga ?_|(refine Gb ?_;intro b)|(refine Gd ?_;intro g cap rest hcap)|(refine Gc ?_;intro ad cap)|refine Gl ho ?_|(refine Ge ?_ ?_<;>(intro h;try (exfalso;omega)))|fail)
  all_goals (first|refine St.dn Tryz.func306 ⟨?_,rfl⟩ Ent.go|refine St.fl Tryz.func306 ⟨?_,rfl⟩ Ent.go)
  all_goals rfl
theorem uses_1:Tri Tryz.prog 306 #[.int .i64 1] [] fun v L=>v=usesV (usesN 1)∧L=[]:=by
  have ho:=form_r 1
  refine Tri.of_body (vs:=[_]) Tryz.func306 rfl rfl fun w0 F=>?_
  repeat' (first|(apply St.loop1)|(apply St.inLoop1)|refine Ga ?_|(refine Gb ?_;intro b)|(refine Gd ?_;intro g cap rest hcap)|(refine Gc ?_;intro ad cap)|refine Gl ho ?_|(refine Ge ?_ ?_<;>(intro h;try (exfalso;omega)))|fail)
  all_goals (first|refine St.dn Tryz.func306 ⟨?_,rfl⟩ Ent.go|refine St.fl Tryz.func306 ⟨?_,rfl⟩ Ent.go)
  all_goals rfl
theorem uses_2:Tri Tryz.prog 306 #[.int .i64 2] [] fun v L=>v=usesV (usesN 2)∧L=[]:=by
  have ho:=form_r 2
  refine Tri.of_body (vs:=[_]) Tryz.func306 rfl rfl fun w0 F=>?_
  repeat' (first|(apply St.loop1)|(apply St.inLoop1)|refine Ga ?_|(refine Gb ?_;intro b)|(refine Gd ?_;intro g cap rest hcap)|(refine Gc ?_;intro ad cap)|refine Gl ho ?_|(refine Ge ?_ ?_<;>(intro h;try (exfalso;omega)))|fail)
  all_goals (first|refine St.dn Tryz.func306 ⟨?_,rfl⟩ Ent.go|refine St.fl Tryz.func306 ⟨?_,rfl⟩ Ent.go)
  all_goals rfl
theorem uses_3:Tri Tryz.prog 306 #[.int .i64 3] [] fun v L=>v=usesV (usesN 3)∧L=[]:=by
  have ho:=form_r 3
  refine Tri.of_body (vs:=[_]) Tryz.func306 rfl rfl fun w0 F=>?_
  repeat' (first|(apply St.loop1)|(apply St.inLoop1)|refine Ga ?_|(refine Gb ?_;intro b)|(refine Gd ?_;intro g cap rest hcap)|(refine Gc ?_;intro ad cap)|refine Gl ho ?_|(refine Ge ?_ ?_<;>(intro h;try (exfalso;omega)))|fail)
  all_goals (first|refine St.dn Tryz.func306 ⟨?_,rfl⟩ Ent.go|refine St.fl Tryz.func306 ⟨?_,rfl⟩ Ent.go)
  all_goals rfl
theorem uses_4:Tri Tryz.prog 306 #[.int .i64 4] [] fun v L=>v=usesV (usesN 4)∧L=[]:=by
  have ho:=form_r 4
  refine Tri.of_body (vs:=[_]) Tryz.func306 rfl rfl fun w0 F=>?_
  repeat' (first|(apply St.loop1)|(apply St.inLoop1)|refine Ga ?_|(refine Gb ?_;intro b)|(refine Gd ?_;intro g cap rest hcap)|(refine Gc ?_;intro ad cap)|refine Gl ho ?_|(refine Ge ?_ ?_<;>(intro h;try (exfalso;omega)))|fail)
  all_goals (first|refine St.dn Tryz.func306 ⟨?_,rfl⟩ Ent.go|refine St.fl Tryz.func306 ⟨?_,rfl⟩ Ent.go)
  all_goals rfl
theorem uses_5:Tri Tryz.prog 306 #[.int .i64 5] [] fun v L=>v=usesV (usesN 5)∧L=[]:=by
  have ho:=form_r 5
  refine Tri.of_body (vs:=[_]) Tryz.func306 rfl rfl fun w0 F=>?_
  repeat' (first|(apply St.loop1)|(apply St.inLoop1)|refine Ga ?_|(refine Gb ?_;intro b)|(refine Gd ?_;intro g cap rest hcap)|(refine Gc ?_;intro ad cap)|refine Gl ho ?_|(refine Ge ?_ ?_<;>(intro h;try (exfalso;omega)))|fail)
  all_goals (first|refine St.dn Tryz.func306 ⟨?_,rfl⟩ Ent.go|refine St.fl Tryz.func306 ⟨?_,rfl⟩ Ent.go)
  all_goals rfl
theorem uses_6:Tri Tryz.prog 306 #[.int .i64 6] [] fun v L=>v=usesV (usesN 6)∧L=[]:=by
  have ho:=form_r 6
  refine Tri.of_body (vs:=[_]) Tryz.func306 rfl rfl fun w0 F=>?_
  repeat' (first|(apply St.loop1)|(apply St.inLoop1)|refine Ga ?_|(refine Gb ?_;intro b)|(refine Gd ?_;intro g cap rest hcap)|(refine Gc ?_;intro ad cap)|refine Gl ho ?_|(refine Ge ?_ ?_<;>(intro h;try (exfalso;omega)))|fail)
  all_goals (first|refine St.dn Tryz.func306 ⟨?_,rfl⟩ Ent.go|refine St.fl Tryz.func306 ⟨?_,rfl⟩ Ent.go)
  all_goals rfl
theorem uses_7:Tri Tryz.prog 306 #[.int .i64 7] [] fun v L=>v=usesV (usesN 7)∧L=[]:=by
  have ho:=form_r 7
  refine Tri.of_body (vs:=[_]) Tryz.func306 rfl rfl fun w0 F=>?_
  repeat' (first|(apply St.loop1)|(apply St.inLoop1)|refine Ga ?_|(refine Gb ?_;intro b)|(refine Gd ?_;intro g cap rest hcap)|(refine Gc ?_;intro ad cap)|refine Gl ho ?_|(refine Ge ?_ ?_<;>(intro h;try (exfalso;omega)))|fail)
  all_goals (first|refine St.dn Tryz.func306 ⟨?_,rfl⟩ Ent.go|refine St.fl Tryz.func306 ⟨?_,rfl⟩ Ent.go)
  all_goals rfl
theorem uses_8:Tri Tryz.prog 306 #[.int .i64 8] [] fun v L=>v=usesV (usesN 8)∧L=[]:=by
  have ho:=form_r 8
  refine Tri.of_body (vs:=[_]) Tryz.func306 rfl rfl fun w0 F=>?_
  repeat' (first|(apply St.loop1)|(apply St.inLoop1)|refine Ga ?_|(refine Gb ?_;intro b)|(refine Gd ?_;intro g cap rest hcap)|(refine Gc ?_;intro ad cap)|refine Gl ho ?_|(refine Ge ?_ ?_<;>(intro h;try (exfalso;omega)))|fail)
  all_goals (first|refine St.dn Tryz.func306 ⟨?_,rfl⟩ Ent.go|refine St.fl Tryz.func306 ⟨?_,rfl⟩ Ent.go)
  all_goals rfl
theorem uses_9:Tri Tryz.prog 306 #[.int .i64 9] [] fun v L=>v=usesV (usesN 9)∧L=[]:=by
  have ho:=form_r 9
  refine Tri.of_body (vs:=[_]) Tryz.func306 rfl rfl fun w0 F=>?_
  repeat' (first|(apply St.loop1)|(apply St.inLoop1)|refine Ga ?_|(refine Gb ?_;intro b)|(refine Gd ?_;intro g cap rest hcap)|(refine Gc ?_;intro ad cap)|refine Gl ho ?_|(refine Ge ?_ ?_<;>(intro h;try (exfalso;omega)))|fail)
  all_goals (first|refine St.dn Tryz.func306 ⟨?_,rfl⟩ Ent.go|refine St.fl Tryz.func306 ⟨?_,rfl⟩ Ent.go)
  all_goals rfl
theorem uses_10:Tri Tryz.prog 306 #[.int .i64 10] [] fun v L=>v=usesV (usesN 10)∧L=[]:=by
  have ho:=form_r 10
  refine Tri.of_body (vs:=[_]) Tryz.func306 rfl rfl fun w0 F=>?_
  repeat' (first|(apply St.loop1)|(apply St.inLoop1)|refine Ga ?_|(refine Gb ?_;intro b)|(refine Gd ?_;intro g cap rest hcap)|(refine Gc ?_;intro ad cap)|refine Gl ho ?_|(refine Ge ?_ ?_<;>(intro h;try (exfalso;omega)))|fail)
  all_goals (first|refine St.dn Tryz.func306 ⟨?_,rfl⟩ Ent.go|refine St.fl Tryz.func306 ⟨?_,rfl⟩ Ent.go)
  all_goals rfl
theorem uses_11:Tri Tryz.prog 306 #[.int .i64 11] [] fun v L=>v=usesV (usesN 11)∧L=[]:=by
  have ho:=form_r 11
  refine Tri.of_body (vs:=[_]) Tryz.func306 rfl rfl fun w0 F=>?_
  repeat' (first|(apply St.loop1)|(apply St.inLoop1)|refine Ga ?_|(refine Gb ?_;intro b)|(refine Gd ?_;intro g cap rest hcap)|(refine Gc ?_;intro ad cap)|refine Gl ho ?_|(refine Ge ?_ ?_<;>(intro h;try (exfalso;omega)))|fail)
  all_goals (first|refine St.dn Tryz.func306 ⟨?_,rfl⟩ Ent.go|refine St.fl Tryz.func306 ⟨?_,rfl⟩ Ent.go)
  all_goals rfl
theorem uses_12:Tri Tryz.prog 306 #[.int .i64 12] [] fun v L=>v=usesV (usesN 12)∧L=[]:=by
  have ho:=form_r 12
  refine Tri.of_body (vs:=[_]) Tryz.func306 rfl rfl fun w0 F=>?_
  repeat' (first|(apply St.loop1)|(apply St.inLoop1)|refine Ga ?_|(refine Gb ?_;intro b)|(refine Gd ?_;intro g cap rest hcap)|(refine Gc ?_;intro ad cap)|refine Gl ho ?_|(refine Ge ?_ ?_<;>(intro h;try (exfalso;omega)))|fail)
  all_goals (first|refine St.dn Tryz.func306 ⟨?_,rfl⟩ Ent.go|refine St.fl Tryz.func306 ⟨?_,rfl⟩ Ent.go)
  all_goals rfl
theorem uses_13:Tri Tryz.prog 306 #[.int .i64 13] [] fun v L=>v=usesV (usesN 13)∧L=[]:=by
  have ho:=form_r 13
  refine Tri.of_body (vs:=[_]) Tryz.func306 rfl rfl fun w0 F=>?_
  repeat' (first|(apply St.loop1)|(apply St.inLoop1)|refine Ga ?_|(refine Gb ?_;intro b)|(refine Gd ?_;intro g cap rest hcap)|(refine Gc ?_;intro ad cap)|refine Gl ho ?_|(refine Ge ?_ ?_<;>(intro h;try (exfalso;omega)))|fail)
  all_goals (first|refine St.dn Tryz.func306 ⟨?_,rfl⟩ Ent.go|refine St.fl Tryz.func306 ⟨?_,rfl⟩ Ent.go)
  all_goals rfl
theorem uses_14:Tri Tryz.prog 306 #[.int .i64 14] [] fun v L=>v=usesV (usesN 14)∧L=[]:=by
  have ho:=form_r 14
  refine Tri.of_body (vs:=[_]) Tryz.func306 rfl rfl fun w0 F=>?_
  repeat' (first|(apply St.loop1)|(apply St.inLoop1)|refine Ga ?_|(refine Gb ?_;intro b)|(refine Gd ?_;intro g cap rest hcap)|(refine Gc ?_;intro ad cap)|refine Gl ho ?_|(refine Ge ?_ ?_<;>(intro h;try (exfalso;omega)))|fail)
  all_goals (first|refine St.dn Tryz.func306 ⟨?_,rfl⟩ Ent.go|refine St.fl Tryz.func306 ⟨?_,rfl⟩ Ent.go)
  all_goals rfl
theorem uses_15:Tri Tryz.prog 306 #[.int .i64 15] [] fun v L=>v=usesV (usesN 15)∧L=[]:=by
  have ho:=form_r 15
  refine Tri.of_body (vs:=[_]) Tryz.func306 rfl rfl fun w0 F=>?_
  repeat' (first|(apply St.loop1)|(apply St.inLoop1)|refine Ga ?_|(refine Gb ?_;intro b)|(refine Gd ?_;intro g cap rest hcap)|(refine Gc ?_;intro ad cap)|refine Gl ho ?_|(refine Ge ?_ ?_<;>(intro h;try (exfalso;omega)))|fail)
  all_goals (first|refine St.dn Tryz.func306 ⟨?_,rfl⟩ Ent.go|refine St.fl Tryz.func306 ⟨?_,rfl⟩ Ent.go)
  all_goals rfl
theorem uses_16:Tri Tryz.prog 306 #[.int .i64 16] [] fun v L=>v=usesV (usesN 16)∧L=[]:=by
  have ho:=form_r 16
  refine Tri.of_body (vs:=[_]) Tryz.func306 rfl rfl fun w0 F=>?_
  repeat' (first|(apply St.loop1)|(apply St.inLoop1)|refine Ga ?_|(refine Gb ?_;intro b)|(refine Gd ?_;intro g cap rest hcap)|(refine Gc ?_;intro ad cap)|refine Gl ho ?_|(refine Ge ?_ ?_<;>(intro h;try (exfalso;omega)))|fail)
  all_goals (first|refine St.dn Tryz.func306 ⟨?_,rfl⟩ Ent.go|refine St.fl Tryz.func306 ⟨?_,rfl⟩ Ent.go)
  all_goals rfl
theorem uses_17:Tri Tryz.prog 306 #[.int .i64 17] [] fun v L=>v=usesV (usesN 17)∧L=[]:=by
  have ho:=form_r 17
  refine Tri.of_body (vs:=[_]) Tryz.func306 rfl rfl fun w0 F=>?_
  repeat' (first|(apply St.loop1)|(apply St.inLoop1)|refine Ga ?_|(refine Gb ?_;intro b)|(refine Gd ?_;intro g cap rest hcap)|(refine Gc ?_;intro ad cap)|refine Gl ho ?_|(refine Ge ?_ ?_<;>(intro h;try (exfalso;omega)))|fail)
  all_goals (first|refine St.dn Tryz.func306 ⟨?_,rfl⟩ Ent.go|refine St.fl Tryz.func306 ⟨?_,rfl⟩ Ent.go)
  all_goals rfl
theorem uses_18:Tri Tryz.prog 306 #[.int .i64 18] [] fun v L=>v=usesV (usesN 18)∧L=[]:=by
  have ho:=form_r 18
  refine Tri.of_body (vs:=[_]) Tryz.func306 rfl rfl fun w0 F=>?_
  repeat' (first|(apply St.loop1)|(apply St.inLoop1)|refine Ga ?_|(refine Gb ?_;intro b)|(refine Gd ?_;intro g cap rest hcap)|(refine Gc ?_;intro ad cap)|refine Gl ho ?_|(refine Ge ?_ ?_<;>(intro h;try (exfalso;omega)))|fail)
  all_goals (first|refine St.dn Tryz.func306 ⟨?_,rfl⟩ Ent.go|refine St.fl Tryz.func306 ⟨?_,rfl⟩ Ent.go)
  all_goals rfl
theorem uses_19:Tri Tryz.prog 306 #[.int .i64 19] [] fun v L=>v=usesV (usesN 19)∧L=[]:=by
  have ho:=form_r 19
  refine Tri.of_body (vs:=[_]) Tryz.func306 rfl rfl fun w0 F=>?_
  repeat' (first|(apply St.loop1)|(apply St.inLoop1)|refine Ga ?_|(refine Gb ?_;intro b)|(refine Gd ?_;intro g cap rest hcap)|(refine Gc ?_;intro ad cap)|refine Gl ho ?_|(refine Ge ?_ ?_<;>(intro h;try (exfalso;omega)))|fail)
  all_goals (first|refine St.dn Tryz.func306 ⟨?_,rfl⟩ Ent.go|refine St.fl Tryz.func306 ⟨?_,rfl⟩ Ent.go)
  all_goals rfl
theorem uses_20:Tri Tryz.prog 306 #[.int .i64 20] [] fun v L=>v=usesV (usesN 20)∧L=[]:=by
  have ho:=form_r 20
  refine Tri.of_body (vs:=[_]) Tryz.func306 rfl rfl fun w0 F=>?_
  repeat' (first|(apply St.loop1)|(apply St.inLoop1)|refine Ga ?_|(refine Gb ?_;intro b)|(refine Gd ?_;intro g cap rest hcap)|(refine Gc ?_;intro ad cap)|refine Gl ho ?_|(refine Ge ?_ ?_<;>(intro h;try (exfalso;omega)))|fail)
  all_goals (first|refine St.dn Tryz.func306 ⟨?_,rfl⟩ Ent.go|refine St.fl Tryz.func306 ⟨?_,rfl⟩ Ent.go)
  all_goals rfl
theorem uses_21:Tri Tryz.prog 306 #[.int .i64 21] [] fun v L=>v=usesV (usesN 21)∧L=[]:=by
  have ho:=form_r 21
  refine Tri.of_body (vs:=[_]) Tryz.func306 rfl rfl fun w0 F=>?_
  repeat' (first|(apply St.loop1)|(apply St.inLoop1)|refine Ga ?_|(refine Gb ?_;intro b)|(refine Gd ?_;intro g cap rest hcap)|(refine Gc ?_;intro ad cap)|refine Gl ho ?_|(refine Ge ?_ ?_<;>(intro h;try (exfalso;omega)))|fail)
  all_goals (first|refine St.dn Tryz.func306 ⟨?_,rfl⟩ Ent.go|refine St.fl Tryz.func306 ⟨?_,rfl⟩ Ent.go)
  all_goals rfl
end Go.Proofs.YthmbgodcpgkkeaaGreat
end
