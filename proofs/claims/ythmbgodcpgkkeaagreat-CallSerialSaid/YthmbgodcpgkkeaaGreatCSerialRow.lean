/-
  For every configuration, all programs and jobs the law CallSerial returns true and leaves its arguments as they were (the statement CallSerialSaid, with no further condition).
-/
import Derived.Test.YthmbgodcpgkkeaaGreatHe
import Derived.Test.YthmbgodcpgkkeaaGreatFcs
namespace Go.Proofs.YthmbgodcpgkkeaaGreat
open Go.ChangeShapes Go.WideShapes Go.ChangeAt Go.RowKit Go.Deep
theorem job_of {H:Type} {enc:TypeId×Value→H} {w:World} {base fuel:Nat} {spare:Nat→Bool} {held:Bool} {cs:List Value} {x:DataW H×List MemPlace} (h:DataW.trod enc Tryz.prog w base spare held fuel 156 cs=some x):∃ a:Aq,cs=a.v:=by
  obtain ⟨hl,hf⟩:=trod_fld Tryz.underlying156 h 6 (by kernel_rfl)
  obtain ⟨_,_,h0⟩:=hf 0 _ 0 1 rfl rfl (by kernel_rfl)
  obtain ⟨_,_,h1⟩:=hf 1 _ 1 5 rfl rfl (by kernel_rfl)
  obtain ⟨_,hg⟩:=trod_fld Tryz.underlying136 h1 5 (by kernel_rfl)
  obtain ⟨_,_,g1⟩:=hg 0 _ 0 1 rfl rfl (by kernel_rfl)
  obtain ⟨_,_,g2⟩:=hg 1 _ 1 4 rfl rfl (by kernel_rfl)
  obtain ⟨a0,e0,_,_⟩:=DataW.trod_int Tryz.underlying3 h0
  obtain ⟨a1,e1,_,_⟩:=DataW.trod_int Tryz.underlying3 g1
  obtain ⟨l,hl4,_,e2⟩:=fourB_of g2
  obtain ⟨b0,b1,b2,b3,rfl⟩:=len4 hl4
  match cs,hl with
  | [c0,c1,c2,c3,c4,c5],_ =>
    injection e0 with e0 _;injection e1 with e1 _
    have e2:[c2,c3,c4,c5]=[Value.int .u64 (b0:Int), .int .u64 (b1:Int), .int .u64 (b2:Int), .int .u64 (b3:Int)]:=e2
    injection e2 with f0 e2;injection e2 with f1 e2;injection e2 with f2 e2;injection e2 with f3 _
    subst e0;subst e1;subst f0;subst f1;subst f2;subst f3
    exact ⟨⟨a0,a1,b0,b1,b2,b3⟩,rfl⟩
set_option maxRecDepth 100000 in
theorem cserial_contract (H:Type) (enc:TypeId×Value→H) (W:World) (base:Nat) (args:Array Value) (ds gs:List (DataW H)) (before:List MemPlace)
    (hval:∀ (j:Nat) t v,Tryz.f10.params[j]? = some t→args[j]? = some v→Value.okWide Tryz.prog W .any base t v)
    (hW:DataW.Whole enc Tryz.prog Tryz.f10.params.toList Rows.callSerialSpec.vars false W args.toList ds gs before) :
    Calls Tryz.prog 10 args W fun e W'=>∃ v,e=.returned v∧Rows.callSerialSpec.post enc Tryz.prog Tryz.f10 false true false false W args v W':=by
  have hW':=hW
  obtain ⟨p,q,hA0,hV,rfl,hfz,hnd⟩:=hW
  have hA:DataW.TrodAll enc Tryz.prog W 0 (fun _=>true) true Tryz.f10.params.toList args.toList ds p:=hA0
  rw [Tryz.params10] at hA hval
  obtain ⟨v0,vs0,d0,ds0,p0,q0,hargs,rfl,rfl,h0,r0⟩:=trodAll_cons hA
  obtain ⟨v1,vs1,d1,ds1,p1,q1,rfl,rfl,rfl,h1,r1⟩:=trodAll_cons r0
  obtain ⟨v2,vs2,d2,ds2,p2,q2,rfl,rfl,rfl,h2,r2⟩:=trodAll_cons r1
  obtain ⟨rfl,rfl,rfl⟩:=trodAll_nil r2
  obtain rfl:args=#[v0,v1,v2]:=by cases args;simp_all
  obtain ⟨rfl,rfl⟩:=trodVars_none hV
  clear hA0 hA r0 r1 r2
  have k0:=hval 0 _ v0 rfl rfl
  have k1:=hval 1 _ v1 rfl rfl
  have k2:=hval 2 _ v2 rfl rfl
  obtain ⟨⟨c0⟩,rfl,_⟩:=okWide_struct Tryz.underlying24 k0
  obtain ⟨_,h0⟩:=h0
  obtain ⟨c,e0⟩:=cfg_of h0
  obtain rfl:c0=c.v:=e0
  obtain ⟨pad,progs,pcap,rfl,hp1,hp2,hp⟩:=slice_of (sz:=1) (PrB.f (W:=W)) (fun _=>rfl) (by decide) Tryz.underlying91 (by kernel_rfl) (fun _ _ _ h=>progB_of h) k1 h1
  obtain ⟨jad,jobs,jcap,rfl,hj1,hj2,hj⟩:=slice_of (sz:=6) Aq.v Aq.v_len (by decide) Tryz.underlying154 (by kernel_rfl) (fun _ _ _ h=>job_of h) k2 h2
  have hmx:maxLen=9223372036854775807:=by decide
  have hpv:=(progsB_of progs hp1 hp2 hp).1
  have hfin:Tri Tryz.prog 10 #[.agg ⟨c.v⟩, .slice pad progs.length pcap, .slice jad jobs.length jcap] [exact' W] fun r L=>r=.bool true∧L=[exact' W]:=by
    by_cases hb:few14B c (progs.map fun p=>p.1.2)=true∧jobs.length≤8
    · exact cs_near hpv ⟨jad,jcap,rfl,hj1,hj⟩ hb.1 hb.2
    · exact cs_far hpv (by omega) hb
  refine (tri_run (Q:=fun v=>v=.bool true) hfin).mono ?_
  rintro e W' ⟨v,rfl,rfl,hs,ho⟩
  exact ⟨_,rfl,post_true laid_ hW' rfl rfl Tryz.underlying4 (by kernel_rfl) rfl hs ho⟩
set_option maxRecDepth 100000 in
theorem cserial_lifted (os:Os) (started:os.Started) (H:Type) (enc:TypeId×Value→H) :
    ReturnsInHanded {} Tryz.checked os 10 .any (Rows.callSerialSpec.pre6 enc Tryz.prog Tryz.f10 Rows.callSerialRow.domain false) (Rows.callSerialSpec.post enc Tryz.prog Tryz.f10 false true false false):=by
  refine returnsInHanded_of_change (C:=Tryz.checked) own_ started (by kernel_rfl) Tryz.func10
    (ChangeSpec.witness6 (enc:=enc) (C:=Tryz.checked) false ⟨#[],#[.agg #[.int .i64 0, .int .i64 0, .int .i64 0, .int .i64 0, .int .u64 0, .int .u64 0], .slice none 0 0, .slice none 0 0],[]⟩ 8 (by kernel_rfl) (by kernel_rfl) (by kernel_rfl) (by kernel_rfl)) ?_
  intro W base args ds gs before hval hW _ _
  exact cserial_contract H enc W base args ds gs before hval hW
set_option maxRecDepth 100000 in
theorem fcs_closed:joinedFacts Tryz.prog 10 Tryz.f10 Rows.callSerialSpec Rows.callSerialRow=true :=
  (fcs_and (fcs_and (fcs_and (fcs_and (fcs_and (fcs_and (fcs_and (fcs_and (fcs_and (fcs_and (fcs_and (fcs_and (fcs_and (fcs_and (fcs_and (fcs_and (fcs_and (fcs_and (fcs_and (fcs_and (fcs_and (fcs_and (fcs_and (fcs_and (fcs_and (fcs_and (fcs_and (fcs_and (fcs_and (fcs_and (fcs_and fcs_0 fcs_1) fcs_2) fcs_3) fcs_4) fcs_5) fcs_6) fcs_7) fcs_8) fcs_9) fcs_10) fcs_11) fcs_12) fcs_13) fcs_14) fcs_15) fcs_16) fcs_17) fcs_18) fcs_19) fcs_20) fcs_21) fcs_22) fcs_23) fcs_24) fcs_25) fcs_26) fcs_27) fcs_28) fcs_29) fcs_30) fcs_31)
theorem cserial_holds:Rows.CallSerialSaid :=
  OpenClaim.holds_of_wide 10 Tryz.f10 rfl rfl rfl rfl rfl rfl rfl ⟨rfl,rfl,rfl,rfl,rfl⟩ rfl rfl rfl rfl rfl (by kernel_rfl) Tryz.func10 fcs_closed
    (of_decide_eq_true (by kernel_rfl)) (by unfold Func.isWrapper;first|(rw [if_pos (by decide +kernel)];kernel_rfl)|(rw [if_neg (by decide +kernel)];exact ⟨rfl,rfl⟩))
    (fun os started H enc _=>cserial_lifted os started H enc)
end Go.Proofs.YthmbgodcpgkkeaaGreat
