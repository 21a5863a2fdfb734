/-
  For every configuration, thread, tag, all programs, every call and all replies the law CallPlays returns true and leaves its arguments as they were (the statement CallPlaysSaid, with no further condition).
-/
import Derived.Test.YthmbgodcpgkkeaaGreatRowq
import Derived.Test.YthmbgodcpgkkeaaGreatFt
set_option maxRecDepth 100000
section
namespace Go.Proofs.YthmbgodcpgkkeaaGreat
open Go.ChangeShapes Go.WideShapes Go.ChangeAt Go.RowKit Go.Deep
theorem cplays_contract (H:Type)(enc:TypeId×Value→H)(W:World)(base:Nat)(args:Array Value)(ds gs:List (DataW H))(before:List MemPlace)
  (hval:∀ (j:Nat) t v,Tryz.f7.params[j]? = some t→args[j]? = some v→Value.okWide Tryz.prog W .any base t v)
  (hW:DataW.Whole enc Tryz.prog Tryz.f7.params.toList Rows.callPlaysSpec.vars false W args.toList ds gs before) :
  Calls Tryz.prog 7 args W fun e W'=>∃ v,e=.returned v∧Rows.callPlaysSpec.post enc Tryz.prog Tryz.f7 false true false false W args v W':=by
 have hW':=hW;obtain ⟨p,q,hA0,hV,rfl,hfz,hnd⟩:=hW;have hA:DataW.TrodAll enc Tryz.prog W 0 (fun _=>true) true Tryz.f7.params.toList args.toList ds p:=hA0;rw [Tryz.params7] at hA hval;obtain ⟨v0,vs0,d0,ds0,p0,q0,hargs,rfl,rfl,h0,r0⟩:=trodAll_cons hA;obtain ⟨v1,vs1,d1,ds1,p1,q1,rfl,rfl,rfl,h1,r1⟩:=trodAll_cons r0;obtain ⟨v2,vs2,d2,ds2,p2,q2,rfl,rfl,rfl,h2,r2⟩:=trodAll_cons r1;obtain ⟨v3,vs3,d3,ds3,p3,q3,rfl,rfl,rfl,h3,r3⟩:=trodAll_cons r2;obtain ⟨v4,vs4,d4,ds4,p4,q4,rfl,rfl,rfl,h4,r4⟩:=trodAll_cons r3;obtain ⟨v5,vs5,d5,ds5,p5,q5,rfl,rfl,rfl,h5,r5⟩:=trodAll_cons r4;obtain ⟨rfl,rfl,rfl⟩:=trodAll_nil r5
 obtain rfl:args=#[v0,v1,v2,v3,v4,v5]:=by cases args;simp_all
 obtain ⟨rfl,rfl⟩:=trodVars_none hV;clear hA0 hA r0 r1 r2 r3 r4 r5;have k0:=hval 0 _ v0 rfl rfl;have k1:=hval 1 _ v1 rfl rfl;have k2:=hval 2 _ v2 rfl rfl;have k3:=hval 3 _ v3 rfl rfl;have k4:=hval 4 _ v4 rfl rfl;have k5:=hval 5 _ v5 rfl rfl;obtain ⟨⟨c0⟩,rfl,_⟩:=okWide_struct Tryz.underlying24 k0;obtain ⟨_,h0⟩:=h0;obtain ⟨c,e0⟩:=cfg_of h0;obtain rfl:c0=c.v:=e0;obtain ⟨who,rfl,_⟩:=okWide_int Tryz.underlying3 k1
 obtain ⟨tag,rfl⟩:∃ s:Nat,v2=.int .u64 (s:Int):=by
  obtain ⟨_,h2⟩:=h2;obtain ⟨n,rfl,hn⟩:=okWide_int Tryz.underlying22 k2;obtain ⟨a,e,_,wa⟩:=DataW.trod_int Tryz.underlying22 h2
  injection e with e _
  have:=wf_u64 wa;exact ⟨a.toNat,by rw [e,Int.toNat_of_nonneg (by omega)]⟩
 obtain ⟨pad,progs,pcap,rfl,hp1,hp2,hp⟩:=slice_of (sz:=1) (PrB.f (W:=W)) (fun _=>rfl) (by decide) Tryz.underlying91 (by kernel_rfl) (fun _ _ _ h=>progB_of h) k3 h3;obtain ⟨⟨j0⟩,rfl,_⟩:=okWide_struct Tryz.underlying136 k4;obtain ⟨_,h4⟩:=h4;obtain ⟨jp,ja,hja,hjv,e4⟩:=callB_of h4;obtain rfl:j0=.int .i64 jp::g4 ja:=e4;obtain ⟨oad,outs,ocap,rfl,ho1,_,ho⟩:=slice_of (sz:=3) OutC.f (fun _=>rfl) (by decide) Tryz.underlying25 (by kernel_rfl) (fun _ _ _ h=>outC_of h) k5 h5;obtain ⟨hpv,hpi⟩:=progsB_of progs hp1 hp2 hp;obtain ⟨hov,hosv,hoss⟩:=outsC_of outs ho1 ho;have hfin:=cplays_t c who tag (exact' W) _ _ _ jp ja hja hjv _ hpv hov hpi hosv hoss;unfold cplayQ at hfin;refine (tri_run (Q:=fun v=>v=.bool true) hfin).mono ?_;rintro e W' ⟨v,rfl,rfl,hs,ho⟩;exact ⟨_,rfl,post_true laid_ hW' rfl rfl Tryz.underlying4 (by kernel_rfl) rfl hs ho⟩
theorem cplays_lifted (os:Os)(started:os.Started)(H:Type)(enc:TypeId×Value→H) :
  ReturnsInHanded {} Tryz.checked os 7 .any (Rows.callPlaysSpec.pre6 enc Tryz.prog Tryz.f7 Rows.callPlaysRow.domain false) (Rows.callPlaysSpec.post enc Tryz.prog Tryz.f7 false true false false):=by
 refine returnsInHanded_of_change (C:=Tryz.checked) own_ started (by kernel_rfl) Tryz.func7
  (ChangeSpec.witness6 (enc:=enc) (C:=Tryz.checked) false ⟨#[],#[.agg #[.int .i64 0, .int .i64 0, .int .i64 0, .int .i64 0, .int .u64 0, .int .u64 0], .int .i64 0, .int .u64 0, .slice none 0 0, .agg #[.int .i64 0, .int .u64 0, .int .u64 0, .int .u64 0, .int .u64 0], .slice none 0 0],[]⟩ 8 (by kernel_rfl) (by kernel_rfl) (by kernel_rfl) (by kernel_rfl)) ?_
 intro W base args ds gs before hval hW _ _;exact cplays_contract H enc W base args ds gs before hval hW
theorem ft_closed:joinedFacts Tryz.prog 7 Tryz.f7 Rows.callPlaysSpec Rows.callPlaysRow=true :=
 (ft_and (ft_and (ft_and (ft_and (ft_and (ft_and (ft_and (ft_and (ft_and (ft_and (ft_and (ft_and (ft_and (ft_and (ft_and (ft_and (ft_and (ft_and (ft_and (ft_and (ft_and (ft_and (ft_and (ft_and (ft_and (ft_and (ft_and (ft_and (ft_and (ft_and (ft_and ft_0 ft_1) ft_2) ft_3) ft_4) ft_5) ft_6) ft_7) ft_8) ft_9) ft_10) ft_11) ft_12) ft_13) ft_14) ft_15) ft_16) ft_17) ft_18) ft_19) ft_20) ft_21) ft_22) ft_23) ft_24) ft_25) ft_26) ft_27) ft_28) ft_29) ft_30) ft_31)
theorem cplays_holds:Rows.CallPlaysSaid :=
 OpenClaim.holds_of_wide 7 Tryz.f7 rfl rfl rfl rfl rfl rfl rfl ⟨rfl,rfl,rfl,rfl,rfl⟩ rfl rfl rfl rfl rfl (by kernel_rfl) Tryz.func7 ft_closed
  (of_decide_eq_true (by kernel_rfl)) (by unfold Func.isWrapper;first|(rw [if_pos (by decide +kernel)];kernel_rfl)|(rw [if_neg (by decide +kernel)];exact ⟨rfl,rfl⟩))
  (fun os started H enc _=>cplays_lifted os started H enc)
end Go.Proofs.YthmbgodcpgkkeaaGreat
end
