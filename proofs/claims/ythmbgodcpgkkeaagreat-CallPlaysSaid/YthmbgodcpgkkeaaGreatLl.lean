/-
  Package tumblerref09: Live, Word. Package tumblerref08: Get. Package tumblerref08: All. Package tumblerref08: Put.
-/
import Derived.Test.YthmbgodcpgkkeaaGreatLb
set_option maxRecDepth 100000
namespace Go.Proofs.YthmbgodcpgkkeaaGreat
theorem tdo_at {os:List Out}(hos:os.length≤100000){t:Tp}(ht:t.at_≤100000)(o:MOp):(tdo os t o).1.at_≤100000:=by
 unfold tdo;split
 ·exact ht
 split
 ·exact ht
 ·dsimp only;omega
theorem rload_at {os:List Out}(hos:os.length≤100000){t:Tp}(ht:t.at_≤100000)(v:Rv)(a:Int):(rload os v a t).1.at_≤100000:=by
 have h:=tdo_at hos ht (mop 0 a 0);unfold rload;split
 ·exact h
 split<;>exact h
theorem rlive_at {os:List Out}(hos:os.length≤100000){t:Tp}(ht:t.at_≤100000)(c:Cfg)(v:Rv)(b:Int):(rlive c os v b t).1.at_≤100000:=by
 unfold rlive;split
 ·exact ht
 split
 ·exact ht
 split
 ·exact ht
 split
 ·exact tdo_at hos ht _
 ·exact rload_at hos (tdo_at hos ht _) _ _
section
set_option maxHeartbeats 2000000 in
theorem rvlive_r {q:HProp}{ov:Value}{os:List Out}(hov:ListR Out.v q ov os)(hos:os.length≤100000){c:Cfg}(hc:Small c)(v:Rv)(t:Tp)(ht:t.at_≤100000)(b:Int)(hb:b≤1000000):RTri Tryz.prog 262 #[.agg ⟨rvV c v⟩, .agg ⟨tpV ov t⟩, .int .i64 b] [q]
  (.tuple ⟨[.agg ⟨rvV c (rlive c os v b t).2.1⟩, .agg ⟨tpV ov (rlive c os v b t).1⟩, .int .i64 (rlive c os v b t).2.2]⟩):=by
 have hat3:=rat_r c hc 3 v.who 0;have hat11:=rat_r c hc 11 b 0;have hstt:=rst_r hov hos t ht (c.at 3 v.who 0) ⟨(b+1).toNat,0⟩;have hx:=tdo_at hos ht (mop 1 (c.at 3 v.who 0) (b+1).toNat);have hd:=rvload_r hov hos c { v with held := -1 } (tdo os t (mop 1 (c.at 3 v.who 0) (b+1).toNat)).1 hx (c.at 11 b 0);unfold rlive;rw [show (⟨1,c.at 3 v.who 0,⟨0,0⟩,⟨(b+1).toNat,0⟩⟩:MOp)=mop 1 (c.at 3 v.who 0) (b+1).toNat from rfl] at hstt;generalize tdo os t (mop 1 (c.at 3 v.who 0) (b+1).toNat)=x at hstt hd hx⊢;obtain ⟨⟨xa,⟨xk,xoa,⟨xv1,xs1⟩,⟨xv2,xs2⟩⟩,xn⟩,xo⟩:=x;dsimp only at hstt hd hx⊢;generalize rload os { v with held := -1 } (c.at 11 b 0) _=y at hd⊢;obtain ⟨⟨ya,⟨yk,yoa,⟨yv1,ys1⟩,⟨yv2,ys2⟩⟩,yn⟩,⟨⟨yw,yq,yh,yst⟩,yval,ys⟩⟩:=y;obtain ⟨ta,⟨k,oa,⟨ov1,os1⟩,⟨nv1,ns1⟩⟩,tn⟩:=t;obtain ⟨who,seq,held,stale⟩:=v
 refine RTri.of_reads fun p1 hp=>?_
 replace hd:=hd.of_read hp;replace hstt:=hstt.of_read hp;obtain ⟨ad,cap,rfl,_⟩:=hov;unfold tpV rvV Cfg.v at hd;unfold tpV Cell.v at hstt;unfold Cfg.v at hat3 hat11;unfold tpV rvV Cfg.v rlife;dsimp only [List.cons_append,List.nil_append] at hd hstt hat3 hat11⊢
 cases stale with
 | true =>
  rw [if_pos rfl]
  refine TB (vs:=[_,_,_]) Tryz.func262 fun w0 F=>?_
  repeat' (first|refine Ga ?_|(refine Gb ?_;intro b)|(refine Dt 2 [] (.pick [(0,3)] (.pick [(1,3),(2,3),(3,3),(4,0)] .done (.pick [(2,3),(1,3),(3,3),(4,0)] .done .nope)) (.pick [(1,3),(0,3),(2,3),(3,3),(4,0)] .done .nope)) [0,1,2,3] ?_)|apply StD.pick|exact StD.nope|(refine StD.ok3 rfl (OpOk.ofW OpV.go) rfl ?_;rintro _ _ ⟨rfl,rfl⟩)|fail)
  all_goals first|(exfalso;omega)|exact St.d1 Tryz.func262 ⟨_,⟨rfl,rfl⟩,Ent.go⟩|skip
 | false =>
  rw [if_neg Bool.false_ne_true]
  by_cases h1:b<0∨c.blocks≤b
  ·rw [if_pos h1]
   refine TB (vs:=[_,_,_]) Tryz.func262 fun w0 F=>?_
   repeat' (first|refine Ga ?_|(refine Gb ?_;intro b)|(refine Dt 4 [] (.pick [(0,3)] (.pick [(1,3),(2,3),(3,3),(4,0)] .done (.pick [(2,3),(1,3),(3,3),(4,0)] .done .nope)) (.pick [(1,3),(0,3),(2,3),(3,3),(4,0)] .done .nope)) [0,1,2,3] ?_)|apply StD.pick|exact StD.nope|(refine StD.ok3 rfl (OpOk.ofW OpV.go) rfl ?_;rintro _ _ ⟨rfl,rfl⟩)|(refine Ge ?_ ?_<;>intro h<;>try omega)|fail)
   all_goals first|(exfalso;omega)|exact St.d1 Tryz.func262 ⟨_,⟨rfl,rfl⟩,Ent.go⟩|skip
  rw [if_neg h1]
  by_cases h2:held=b
  ·subst h2
   rw [if_pos rfl]
   refine TB (vs:=[_,_,_]) Tryz.func262 fun w0 F=>?_
   repeat' (first|refine Ga ?_|(refine Gb ?_;intro b)|(refine Dt 6 [] (.pick [(0,3)] (.pick [(1,3),(2,3),(3,3),(4,0)] .done (.pick [(2,3),(1,3),(3,3),(4,0)] .done .nope)) (.pick [(1,3),(0,3),(2,3),(3,3),(4,0)] .done .nope)) [0,1,2,3] ?_)|apply StD.pick|exact StD.nope|(refine StD.ok3 rfl (OpOk.ofW OpV.go) rfl ?_;rintro _ _ ⟨rfl,rfl⟩)|(refine Ge ?_ ?_<;>intro h<;>try omega)|fail)
   all_goals first|(exfalso;omega)|exact St.d1 Tryz.func262 ⟨_,⟨rfl,rfl⟩,Ent.go⟩|skip
  rw [if_neg h2]
  have he:((b+1).toNat:Int)=b+1:=by omega
  rw [he] at hstt
  cases xn with
  | true =>
   rw [if_pos rfl]
   refine TB (vs:=[_,_,_]) Tryz.func262 fun w0 F=>?_
   repeat' (first|refine Ga ?_|(refine Gb ?_;intro b)|(refine Dr 7 [(0,1),(1,0),(2,1),(3,0),(4,1),(5,1),(6,0),(7,0),(8,0),(9,0),(10,1),(11,3)] [11] ?_)|(refine Dt 9 [] (.pick [(0,3)] (.pick [(1,3),(2,3),(3,3),(4,0)] .done (.pick [(2,3),(1,3),(3,3),(4,0)] .done .nope)) (.pick [(1,3),(0,3),(2,3),(3,3),(4,0)] .done .nope)) [0,1,2,3] ?_)|apply StD.pick|exact StD.nope|refine Gl hat3 ?_|refine Gl hstt ?_|(refine StD.ok3 rfl (OpOk.ofW OpV.go) rfl ?_;rintro _ _ ⟨rfl,rfl⟩)|(refine Ge ?_ ?_<;>intro h<;>try omega)|fail)
   all_goals first|(exfalso;omega)|exact St.d1 Tryz.func262 ⟨_,⟨rfl,rfl⟩,Ent.go⟩|skip
  | false =>
   rw [if_neg Bool.false_ne_true]
   by_cases hs:ys=1
   ·subst hs
    by_cases hv:yval=1
    ·subst hv
     rw [if_neg (fun e=>e.2 rfl),if_pos rfl]
     refine TB (vs:=[_,_,_]) Tryz.func262 fun w0 F=>?_
     repeat' (first|refine Ga ?_|(refine Gb ?_;intro b)|(refine Dr 7 [(0,1),(1,0),(2,1),(3,0),(4,1),(5,1),(6,0),(7,0),(8,0),(9,0),(10,1),(11,3)] [11] ?_)|(refine Dr 11 [(0,1),(1,1),(2,0),(3,1),(4,0),(5,1),(6,1),(7,0),(8,0),(9,0),(10,0),(11,0),(12,3),(13,3),(14,0),(15,0)] [12,13] ?_)|(refine Dt 16 [(2,0)] (.pick [(0,3)] (.pick [(1,3),(3,3),(4,3),(5,0)] .done (.pick [(3,3),(1,3),(4,3),(5,0)] .done .nope)) (.pick [(1,3),(0,3),(3,3),(4,3),(5,0)] .done .nope)) [0,1,3,4] ?_)|apply StD.pick|exact StD.nope|refine Gl hat3 ?_|refine Gl hstt ?_|refine Gl hat11 ?_|refine Gl hd ?_|(refine StD.ok3 rfl (OpOk.ofW OpV.go) rfl ?_;rintro _ _ ⟨rfl,rfl⟩)|(refine Ge ?_ ?_<;>intro h<;>try omega)|fail)
     all_goals first|(exfalso;omega)|exact St.d1 Tryz.func262 ⟨_,⟨rfl,rfl⟩,Ent.go⟩|skip
    ·rw [if_pos ⟨rfl,hv⟩]
     refine TB (vs:=[_,_,_]) Tryz.func262 fun w0 F=>?_
     repeat' (first|refine Ga ?_|(refine Gb ?_;intro b)|(refine Dr 7 [(0,1),(1,0),(2,1),(3,0),(4,1),(5,1),(6,0),(7,0),(8,0),(9,0),(10,1),(11,3)] [11] ?_)|(refine Dr 11 [(0,1),(1,1),(2,0),(3,1),(4,0),(5,1),(6,1),(7,0),(8,0),(9,0),(10,0),(11,0),(12,3),(13,3),(14,0),(15,0)] [12,13] ?_)|(refine Dt 13 [] (.pick [(0,3)] (.pick [(1,3),(2,3),(3,3),(4,0)] .done (.pick [(2,3),(1,3),(3,3),(4,0)] .done .nope)) (.pick [(1,3),(0,3),(2,3),(3,3),(4,0)] .done .nope)) [0,1,2,3] ?_)|apply StD.pick|exact StD.nope|refine Gl hat3 ?_|refine Gl hstt ?_|refine Gl hat11 ?_|refine Gl hd ?_|(refine StD.ok3 rfl (OpOk.ofW OpV.go) rfl ?_;rintro _ _ ⟨rfl,rfl⟩)|(refine Ge ?_ ?_<;>intro h<;>try omega)|fail)
     all_goals first|(exfalso;omega)|exact St.d1 Tryz.func262 ⟨_,⟨rfl,rfl⟩,Ent.go⟩|skip
   ·rw [if_neg (fun e=>hs e.1),if_neg hs]
    refine TB (vs:=[_,_,_]) Tryz.func262 fun w0 F=>?_
    repeat' (first|refine Ga ?_|(refine Gb ?_;intro b)|(refine Dr 7 [(0,1),(1,0),(2,1),(3,0),(4,1),(5,1),(6,0),(7,0),(8,0),(9,0),(10,1),(11,3)] [11] ?_)|(refine Dr 11 [(0,1),(1,1),(2,0),(3,1),(4,0),(5,1),(6,1),(7,0),(8,0),(9,0),(10,0),(11,0),(12,3),(13,3),(14,0),(15,0)] [12,13] ?_)|(refine Dt 16 [(2,0)] (.pick [(0,3)] (.pick [(1,3),(3,3),(4,3),(5,0)] .done (.pick [(3,3),(1,3),(4,3),(5,0)] .done .nope)) (.pick [(1,3),(0,3),(3,3),(4,3),(5,0)] .done .nope)) [0,1,3,4] ?_)|apply StD.pick|exact StD.nope|refine Gl hat3 ?_|refine Gl hstt ?_|refine Gl hat11 ?_|refine Gl hd ?_|(refine StD.ok3 rfl (OpOk.ofW OpV.go) rfl ?_;rintro _ _ ⟨rfl,rfl⟩)|(refine Ge ?_ ?_<;>intro h<;>try omega)|fail)
    all_goals first|(exfalso;omega)|exact St.d1 Tryz.func262 ⟨_,⟨rfl,rfl⟩,Ent.go⟩|skip
set_option maxHeartbeats 2000000 in
theorem rvword_r {q:HProp}{ov:Value}{os:List Out}(hov:ListR Out.v q ov os)(hos:os.length≤100000){c:Cfg}(hc:Small c)(v:Rv)(t:Tp)(ht:t.at_≤100000)(b w:Int)(hb:b≤1000000):RTri Tryz.prog 293 #[.agg ⟨rvV c v⟩, .agg ⟨tpV ov t⟩, .int .i64 b, .int .i64 w] [q]
  (.tuple ⟨[.agg ⟨rvV c (rword c os v b w t).2.1⟩, .agg ⟨tpV ov (rword c os v b w t).1⟩, .int .u64 ((rword c os v b w t).2.2.1:Int), .int .i64 (rword c os v b w t).2.2.2]⟩):=by
 have hat16:=rat_r c hc 16 b w;have hl:=rvlive_r hov hos hc v t ht b hb;have hx:=rlive_at hos ht c v b;have hd:=rvload_r hov hos c (rlive c os v b t).2.1 (rlive c os v b t).1 hx (c.at 16 b w);unfold rword;generalize rlive c os v b t=x at hl hd hx⊢;obtain ⟨⟨xa,⟨xk,xoa,⟨xv1,xs1⟩,⟨xv2,xs2⟩⟩,xn⟩,⟨⟨xw,xq,xh,xst⟩,xs⟩⟩:=x;dsimp only at hl hd hx⊢;generalize rload os _ (c.at 16 b w) _=y at hd⊢;obtain ⟨⟨ya,⟨yk,yoa,⟨yv1,ys1⟩,⟨yv2,ys2⟩⟩,yn⟩,⟨⟨yw,yq,yh,yst⟩,yval,ys⟩⟩:=y;obtain ⟨ta,⟨k,oa,⟨ov1,os1⟩,⟨nv1,ns1⟩⟩,tn⟩:=t;obtain ⟨who,seq,held,stale⟩:=v
 refine RTri.of_reads fun p1 hp=>?_
 replace hd:=hd.of_read hp;replace hl:=hl.of_read hp;obtain ⟨ad,cap,rfl,_⟩:=hov;unfold tpV rvV Cfg.v at hd hl;unfold Cfg.v at hat16;unfold tpV rvV Cfg.v;dsimp only [List.cons_append,List.nil_append] at hd hl hat16⊢;generalize c.at 16 b w=a16 at hat16 hd⊢
 cases stale with
 | true =>
  rw [if_pos rfl]
  refine TB (vs:=[_,_,_,_]) Tryz.func293 fun w0 F=>?_
  repeat' (first|refine Ga ?_|(refine Gb ?_;intro b)|(refine Dt 2 [] (.pick [(0,3)] (.pick [(1,3),(2,3),(3,3),(4,0),(5,0)] .done (.pick [(2,3),(1,3),(3,3),(4,0),(5,0)] .done .nope)) (.pick [(1,3),(0,3),(2,3),(3,3),(4,0),(5,0)] .done .nope)) [0,1,2,3] ?_)|apply StD.pick|exact StD.nope|(refine StD.ok3 rfl (OpOk.ofW OpV.go) rfl ?_;rintro _ _ ⟨rfl,rfl⟩)|fail)
  all_goals first|(exfalso;omega)|exact St.d1 Tryz.func293 ⟨_,⟨rfl,rfl⟩,Ent.go⟩|skip
 | false =>
  rw [if_neg Bool.false_ne_true]
  by_cases h1:a16<0
  ·rw [if_pos h1]
   refine TB (vs:=[_,_,_,_]) Tryz.func293 fun w0 F=>?_
   repeat' (first|refine Ga ?_|(refine Gb ?_;intro b)|(refine Dt 5 [] (.pick [(0,3)] (.pick [(1,3),(2,3),(3,3),(4,0),(5,0)] .done (.pick [(2,3),(1,3),(3,3),(4,0),(5,0)] .done .nope)) (.pick [(1,3),(0,3),(2,3),(3,3),(4,0),(5,0)] .done .nope)) [0,1,2,3] ?_)|apply StD.pick|exact StD.nope|refine Gl hat16 ?_|(refine StD.ok3 rfl (OpOk.ofW OpV.go) rfl ?_;rintro _ _ ⟨rfl,rfl⟩)|(refine Ge ?_ ?_<;>intro h<;>try omega)|fail)
   all_goals first|(exfalso;omega)|exact St.d1 Tryz.func293 ⟨_,⟨rfl,rfl⟩,Ent.go⟩|skip
  rw [if_neg h1]
  by_cases hs:xs=1
  ·subst hs
   rw [if_neg (fun e=>e rfl)]
   refine TB (vs:=[_,_,_,_]) Tryz.func293 fun w0 F=>?_
   repeat' (first|refine Ga ?_|(refine Gb ?_;intro b)|refine Gl hat16 ?_|refine Gl hl ?_|refine Gl hd ?_|(refine Ge ?_ ?_<;>intro h<;>try omega)|fail)
   all_goals first|(exfalso;omega)|exact St.d1 Tryz.func293 ⟨_,⟨rfl,rfl⟩,Ent.go⟩|skip
  ·rw [if_pos hs]
   refine TB (vs:=[_,_,_,_]) Tryz.func293 fun w0 F=>?_
   repeat' (first|refine Ga ?_|(refine Gb ?_;intro b)|(refine Dt 8 [(2,0)] (.pick [(0,3)] (.pick [(1,3),(3,3),(4,3),(5,0),(6,0)] .done (.pick [(3,3),(1,3),(4,3),(5,0),(6,0)] .done .nope)) (.pick [(1,3),(0,3),(3,3),(4,3),(5,0),(6,0)] .done .nope)) [0,1,3,4] ?_)|apply StD.pick|exact StD.nope|refine Gl hat16 ?_|refine Gl hl ?_|(refine StD.ok3 rfl (OpOk.ofW OpV.go) rfl ?_;rintro _ _ ⟨rfl,rfl⟩)|(refine Ge ?_ ?_<;>intro h<;>try omega)|fail)
   all_goals first|(exfalso;omega)|exact St.d1 Tryz.func293 ⟨_,⟨rfl,rfl⟩,Ent.go⟩|skip
end
theorem mget_mputK (k k':Int)(x:Nat):∀ m:List (Int×Nat),mget (mput m k x) k'=if k=k' then some x else mget m k'
 | []=>rfl
 | (a,y)::m=>by
  rw [mput]
  by_cases h:a=k
  ·subst h
   rw [if_pos rfl,mget]
   by_cases h2:a=k'
   ·rw [if_pos h2,if_pos h2]
   ·rw [if_neg h2,if_neg h2,mget,if_neg h2]
  ·rw [if_neg h,mget,mget_mputK k k' x m,mget]
   by_cases h2:a=k'
   ·subst h2;rw [if_pos rfl,if_pos rfl,if_neg (fun e=>h e.symm)]
   ·rw [if_neg h2,if_neg h2]
theorem mget_take {puts:List (Int×Nat)}{i:Nat}(hi:i<puts.length)(a:Int):mget (allP (puts.take (i+1))) a=if puts[i].1=a then some puts[i].2 else mget (allP (puts.take i)) a:=by
 rw [List.take_succ_eq_append_getElem hi,show puts[i]=(puts[i].1,puts[i].2) from rfl,allP_snoc,mget_mputK]
section
set_option maxHeartbeats 2000000 in
theorem rget_r {q:HProp}{lv:Value}{puts:List (Int×Nat)}(hl:ListR entV q lv puts)(_hll:puts.length≤1000000)(room a:Int):RTri Tryz.prog 134 #[.agg ⟨[.int .i64 room,lv]⟩, .int .i64 a] [q] (.tuple ⟨[.int .u64 (((mget (allP puts) a).getD 0:Nat):Int), .bool (mget (allP puts) a).isSome]⟩):=by
 refine RTri.of_reads fun p1 hp=>?_
 replace hl:=hl.weak fun b l h=>RdC.of_sat hp (ReadsC.here h)
 obtain ⟨lad,lcap,rfl,hlc,_⟩:=id hl;generalize hR:mget (allP puts) a=R
 replace hR:mget (allP (puts.take puts.length)) a=R:=by rw [List.take_length];exact hR
 refine TB (vs:=[_,_]) Tryz.func134 fun w0 F=>?_
 repeat' (first|refine Ga ?_|(refine Gb ?_;intro b)|fail)
 refine St.loopY (Lr:=?Lr1) (ι:={ x:Nat // x≤puts.length∧mget (allP (puts.take x)) a=R }) (fun x=>x.1) (fun x=>[(6, .int .i64 ((x.1:Int) - 1))]) (fun x=>[]) ⟨puts.length,Nat.le_refl _,hR⟩ ?hE1 ?hL1 ?round1
 case hE1=>exact Sub.go
 case hL1=>exact Takes.go
 case round1 =>
  rintro ⟨x,hx,hgo⟩ IH;dsimp only at hx hgo IH⊢
  cases x with
  | zero =>
   have hgo:R=none:=hgo.symm;subst hgo
   repeat' (first|refine Ga ?_|fail)
   all_goals first|(exfalso;omega)|exact St.d1 Tryz.func134 ⟨_,⟨rfl,rfl⟩,Ent.go⟩|skip
  | succ y =>
   obtain ⟨lb,lo,ll,l1,rfl,hrd,hdr,htk⟩:=hl.at' entV_len y (by omega);rw [mget_take (show y<puts.length by omega)] at hgo;generalize puts[y]=e at htk hgo;obtain ⟨ea,ex⟩:=e;unfold entV at htk;dsimp only at hgo htk
   have hy:((((y+1:Nat):Int) - 1).toNat)=(y:Int).toNat:=by omega
   have hn0:NthN (lo+(((y+1:Nat):Int) - 1).toNat * 2) ll (.int .i64 ea):=by rw [hy];exact NthN.part (j:=0) hdr htk (NthN.of rfl)
   have hn1:NthN (lo+(((y+1:Nat):Int) - 1).toNat * 2+1) ll (.int .u64 (ex:Int)):=by rw [hy];exact NthN.part (j:=1) hdr htk (NthN.of rfl)
   by_cases he:ea=a
   ·rw [if_pos he] at hgo
    subst hgo
    repeat' (first|refine Ga ?_|(refine Ge ?_ ?_<;>intro h<;>try omega)|fail)
    all_goals first|(exfalso;omega)|exact St.d1 Tryz.func134 ⟨_,⟨rfl,rfl⟩,Ent.go⟩|skip
   ·rw [if_neg he] at hgo
    repeat' (first|refine Ga ?_|(refine Ge ?_ ?_<;>intro h<;>try omega)|fail)
    refine IH ⟨y,by omega,hgo⟩ (Nat.lt_succ_self _) ?_ ?_
    ·dsimp only;rw [show (((y+1:Nat):Int) - 1 - 1)=(y:Int) - 1 by omega];exact Sub.go
    ·exact Ent.go
end
theorem mget_of_mem:∀ {m:List (Int×Nat)},(m.map (·.1)).Nodup→∀ p∈m,mget m p.1=some p.2
 | [],_,p,hp=>by cases hp
 | (a,y)::m,hn,p,hp=>by
  rw [List.map_cons,List.nodup_cons] at hn
  rcases List.mem_cons.1 hp with rfl|hp
  ·rw [mget,if_pos rfl]
  ·rw [mget,if_neg (fun e=>hn.1 (by rw [show a=p.1 from e];exact List.mem_map_of_mem (f:=(·.1)) hp)),mget_of_mem hn.2 p hp]
def allI (puts:List (Int×Nat))(i:Nat):List (Int×Nat):=((allP (puts.take i)).map (·.1)).map fun a=>(a,(mget (allP puts) a).getD 0)
theorem allI_all (puts:List (Int×Nat)):allI puts puts.length=allP puts:=by
 unfold allI;rw [List.take_length,List.map_map]
 conv=>rhs;rw [← List.map_id (allP puts)]
 refine List.map_congr_left fun p hp=>?_
 show (p.1,(mget (allP puts) p.1).getD 0)=p;rw [mget_of_mem (allP_nodup puts) p hp];rfl
theorem allI_old {puts:List (Int×Nat)}{i:Nat}(hi:i<puts.length)(h:(mget (allP (puts.take i)) puts[i].1).isNone=false):allI puts (i+1)=allI puts i:=by
 unfold allI;rw [List.take_succ_eq_append_getElem hi,show puts[i]=(puts[i].1,puts[i].2) from rfl,allP_snoc]
 cases hm:mget (allP (puts.take i)) puts[i].1 with
 | none=>rw [hm] at h;cases h
 | some y=>rw [mput_keys _ _ _ y hm]
theorem allI_new {puts:List (Int×Nat)}{i:Nat}(hi:i<puts.length)(h:(mget (allP (puts.take i)) puts[i].1).isNone=true):allI puts (i+1)=allI puts i++[(puts[i].1,(mget (allP puts) puts[i].1).getD 0)]:=by
 unfold allI;rw [List.take_succ_eq_append_getElem hi,show puts[i]=(puts[i].1,puts[i].2) from rfl,allP_snoc]
 cases hm:mget (allP (puts.take i)) puts[i].1 with
 | none=>rw [mput_new _ _ _ hm,List.map_append,List.map_append];rfl
 | some y=>rw [hm] at h;cases h
theorem allI_len (puts:List (Int×Nat)):∀ i,i≤puts.length→(allI puts i).length≤i
 | 0,_=>Nat.le_refl _
 | i+1,h=>by
  have ih:=allI_len puts i (by omega)
  cases hb:(mget (allP (puts.take i)) (puts[i]'h).1).isNone with
  | true=>rw [allI_new h hb,List.length_append,List.length_singleton];omega
  | false=>rw [allI_old h hb];omega
theorem allP_le (puts:List (Int×Nat)):(allP puts).length≤puts.length:=by
 rw [← allI_all];exact allI_len puts _ (Nat.le_refl _)
section
set_option maxHeartbeats 2000000 in
theorem rall_t {q:HProp}{lv:Value}{puts:List (Int×Nat)}(hl:ListR entV q lv puts)(hll:puts.length≤1000000)(room:Int):Tri Tryz.prog 121 #[.agg ⟨[.int .i64 room,lv]⟩] [q]
  fun r L=>∃ ad cap,r=.slice ad (allP puts).length cap∧L=[Row (.slice ad (allP puts).length cap) 225 2 (allP puts).length ((allP puts).flatMap entV),q]:=by
 have hget:=fun a=>rget_r hl hll room a
 obtain ⟨lad,lcap,rfl,hlc,_⟩:=id hl;rw [← allI_all]
 refine TB (vs:=[_]) Tryz.func121 fun w0 F=>?_
 repeat' (first|refine Ga ?_|(refine Gb ?_;intro b)|fail)
 refine St.conv ?_ (Sub.refl _) (Ent.row_bl (b:=b) (e:=225) (sz:=2) (n:=0) rfl (by decide));refine St.loopY (Lr:=?Lr1) (ι:={ x:Nat×Option Addr×Nat // x.1≤puts.length }) (fun x=>puts.length - x.1.1) (fun x=>[(4, .int .i64 (x.1.1:Int)),(3, .slice x.1.2.1 (allI puts x.1.1).length x.1.2.2)]) (fun x=>[Row (.slice x.1.2.1 (allI puts x.1.1).length x.1.2.2) 225 2 (allI puts x.1.1).length ((allI puts x.1.1).flatMap entV)]) ⟨(0,some ⟨b,0,none⟩,0),Nat.zero_le _⟩ ?hE1 ?hL1 ?round1
 case hE1=>exact Sub.go
 case hL1=>exact Takes.go
 case round1 =>
  rintro ⟨⟨i,oad,ocap⟩,hi⟩ IH;dsimp only at hi IH⊢
  by_cases hlt:i<puts.length
  ·obtain ⟨lb,lo,ll,l1,rfl,hrd,hdr,htk⟩:=hl.at' entV_len i hlt
   have hold:=allI_old hlt;have hnew:=allI_new hlt;generalize puts[i]=e at htk hold hnew;obtain ⟨ea,ex⟩:=e;unfold entV at htk;dsimp only at htk hold hnew;have hg:=hget ea;have hn0:NthN (lo+(i:Int).toNat * 2) ll (.int .i64 ea):=NthN.part (j:=0) hdr htk (NthN.of rfl)
   repeat' (first|refine Ga ?_|(refine Ge ?_ ?_<;>intro h<;>try omega)|fail)
   refine St.loopY (Lr:=?Lr2) (ι:={ x:Nat // x≤i }) (fun x=>i - x.1) (fun x=>[(7, .int .i64 (x.1:Int)),(6, .bool (mget (allP (puts.take x.1)) ea).isNone)]) (fun x=>[]) ⟨0,Nat.zero_le _⟩ ?hE2 ?hL2 ?round2
   case hE2=>exact Sub.go
   case hL2=>exact Takes.go
   case round2 =>
    rintro ⟨k,hk⟩ IH2;dsimp only at hk IH2⊢
    by_cases hlt2:k<i
    ·obtain ⟨lb',lo',ll',l1',e',hrd2,hdr2,htk2⟩:=hl.at' entV_len k (by omega)
     injection e' with e'
     injection e' with e1 e2
     subst e1 e2;have hmt:=mget_take (show k<puts.length by omega) ea;generalize puts[k]=e at htk2 hmt;obtain ⟨ka,kx⟩:=e;unfold entV at htk2;dsimp only at htk2 hmt;have hn2:NthN (lo+(k:Int).toNat * 2) ll' (.int .i64 ka):=NthN.part (j:=0) hdr2 htk2 (NthN.of rfl)
     have IH3:=fun (E':Env) (L':List HProp)=>IH2 ⟨k+1,hlt2⟩ (E':=E') (L':=L') (by show i - (k+1)<i - k;omega)
     clear IH2;dsimp only at IH3;rw [hmt] at IH3
     cases hb:(mget (allP (puts.take k)) ea).isNone with
     | true =>
      have hv:(if ka=ea then some kx else mget (allP (puts.take k)) ea).isNone=(ka != ea):=by
       by_cases h:ka=ea
       ·rw [if_pos h];subst h;simp
       ·rw [if_neg h,hb];simp [h]
      rw [hv] at IH3
      repeat' (first|refine Ga ?_|(refine Ge ?_ ?_<;>intro h<;>try omega)|fail)
      refine IH3 _ _ ?_ ?_
      ·exact Sub.go
      ·exact Ent.go
     | false =>
      have hv:(if ka=ea then some kx else mget (allP (puts.take k)) ea).isNone=false:=by
       by_cases h:ka=ea
       ·rw [if_pos h];rfl
       ·rw [if_neg h,hb]
      rw [hv] at IH3
      repeat' (first|refine Ga ?_|(refine Ge ?_ ?_<;>intro h<;>try omega)|fail)
      refine IH3 _ _ ?_ ?_
      ·exact Sub.go
      ·exact Ent.go
    ·have hki:k=i:=by omega
     subst hki
     cases hb:(mget (allP (puts.take k)) ea).isNone with
     | true =>
      have hnew:=hnew hb;have hlen:=allI_len puts k (by omega)
      repeat' (first|refine Ga ?_|(refine Gb ?_;intro b)|(refine Gc ?_;intro ad cap)|refine Gl hg ?_|(refine Ge ?_ ?_<;>intro h<;>try omega)|fail)
      refine IH ⟨(k+1,ad,cap),by dsimp only;omega⟩ (by show puts.length - (k+1)<puts.length - k;omega) ?_ ?_
      ·dsimp only;rw [hnew,List.length_append];exact Sub.go
      ·dsimp only;rw [hnew,List.length_append,List.flatMap_append];exact Ent.go
     | false =>
      have hold:=hold hb
      repeat' (first|refine Ga ?_|(refine Ge ?_ ?_<;>intro h<;>try omega)|fail)
      refine IH ⟨(k+1,oad,ocap),by dsimp only;omega⟩ (by show puts.length - (k+1)<puts.length - k;omega) ?_ ?_
      ·dsimp only;rw [hold];exact Sub.go
      ·dsimp only;rw [hold];exact Ent.go
  ·have hki:i=puts.length:=by omega
   subst hki
   repeat' (first|refine Ga ?_|(refine Ge ?_ ?_<;>intro h<;>try omega)|fail)
   refine St.d1 Tryz.func121 ⟨_,⟨oad,ocap,rfl,rfl⟩, ?_⟩;exact Ent.go
end
def Gr (q q':HProp):Prop:=(∀ M:List HProp,Ent (q'::M) (q::M))∧∀ b l,RdC q b l→RdC q' b l
theorem Gr.refl (q:HProp):Gr q q:=⟨fun _=>Ent.refl _,fun _ _ h=>h⟩
theorem Gr.trans {a b c:HProp}(h:Gr a b)(g:Gr b c):Gr a c:=⟨fun M=>Ent.trans (g.1 M) (h.1 M),fun x l k=>g.2 x l (h.2 x l k)⟩
theorem Gr.star (R q:HProp):Gr q (star [q,R]):=⟨fun _=>Ent.trans Ent.star_out (Ent.cons (Ent.skip (L:=[R]) (Ent.refl _))),fun _ _ h=>RdC.star (L:=[q,R]) (List.mem_cons_self ..) h⟩
theorem ListR.gr {α:Type}{f:α→List Value}{q q':HProp}{v:Value}{xs:List α}(h:ListR f q v xs)(g:Gr q q'):ListR f q' v xs:=h.weak g.2
theorem StD.skip2 {P:Program}{C:Cx}{k:List Item}{E:Env}{L L0:List HProp}{T:Then}{ops:Array Oper}{r:List (Nat×Nat)}{i:Nat}{op:Op}{ty:TypeId}{ps:String}{af:Array Edge}{d:Tmp}{j t:Nat}{b want:Bool}(hi:ops[i]? = some ⟨some d,op,ty,ps,af,some (j,want)⟩)(hj:(ops[j]?).bind (·.dst)=some t)(hb:get E t=some (.bool b))(hne:(b == want)=false)(hd:inF C.nt (some d)=true)
  (h:StD P C ops L0 T r k ((d,undef)::E) L):StD P C ops L0 T ((i,2)::r) k E L:=by
 unfold StD at *;intro a hp ha hs
 have hy:yielded ops a.tmps j=some b:=by
  simp only [yielded,hj,Option.bind_some];rw [ha.at_ t _ hb]
 simp only [runA,hi];intro w hk _;simp only [wpOp,hi];rw [if_neg (by simp only [Region.wanted,hy];cases b<;>cases want<;>simp_all)];exact ⟨hp,⟨hk,Old.refl w,fun _ _ hw hn=>⟨hw,hn⟩⟩,id,h _ hp (ha.put hd undef) hs⟩
theorem StD.gcallt2 {P:Program}{C:Cx}{k:List Item}{E:Env}{L L0:List HProp}{T:Then}{ops:Array Oper}{r:List (Nat×Nat)}{i:Nat}{op:Op}{ty:TypeId}{ps:String}{af:Array Edge}{d:Option Tmp}{j t:Nat}{b:Bool}{g:FuncId}{vs:Array Value}{L1 F1:List HProp}{Φ:Value→List HProp→Prop}(hi:ops[i]? = some ⟨d,op,ty,ps,af,some (j,b)⟩)(hj:(ops[j]?).bind (·.dst)=some t)(hb:get E t=some (.bool b))(hop:OpC P C.nt op ty E g vs)(ht:Tri P g vs L1 Φ)(qL:Ent L (L1++F1)∧inF C.nt d=true)
  (h:∀ v L',Φ v L'→Ent (L'++F1) L0∧StD P C ops L0 T r k (putE E d v) (L'++F1)):StD P C ops L0 T ((i,2)::r) k E L:=by
 unfold StD at *;have hL:=qL.1;unfold OpC at hop;unfold Tri at ht;unfold Ent at hL;intro a hp ha hs
 have hy:yielded ops a.tmps j=some b:=by
  simp only [yielded,hj,Option.bind_some];rw [ha.at_ t _ hb]
 simp only [runA,hi];intro w hk hold;simp only [wpOp,hi];rw [if_pos (by simp [Region.wanted,hy])];refine .inl ?_;unfold Oper.wp;rw [hop _ _ _ _ a w ha,Oper.upon_enter];have hs1:=sat_beside (hL _ hs) hk;rw [List.append_assoc] at hs1
 refine (ht w _ hs1).mono fun e w' ⟨v,L',he,hq,hs',ho'⟩=>?_
 subst he;rw [← List.append_assoc] at hs';obtain ⟨h',hf,hs2⟩:=frame_beside ho' hs';have h1:=(h v L' hq).1;unfold Ent at h1;exact ⟨h',hf,fun _=>(h1 _ hs2).known hf.known,(h v L' hq).2 _ h' (ha.put qL.2 _) hs2⟩
theorem readsC_mem {q:HProp}{b:Nat}{l:List Value}(h:RdC q b l):∀ {L:List HProp},q∈L→ReadsC L b l
 | [],hq=>by cases hq
 | p::L,hq=>by
  rcases List.mem_cons.1 hq with rfl|hq
  ·exact .here h
  ·exact .there (readsC_mem h hq)
theorem ent_one (puts:List (Int×Nat)):(puts.flatMap entV).all one=true:=by
 induction puts with
 | nil=>rfl
 | cons x l ih=>rw [List.flatMap_cons,List.all_append,ih];rfl
theorem OpOk.appendEnt {n':Fi}{E:Env}{L L1:List HProp}{ty:TypeId}{s x:Operand}{g0:Nat}{v:Value}{puts:List (Int×Nat)}{q:HProp}(hl:ListR entV q v puts)(hll:puts.length≤1000000)(hq:q∈L)(hv:ev E s=some (.slice (some ⟨g0,0,none⟩) 0 0))(hx:ev E x=some v)(ht:Take (bl g0 225 []) L L1) :
  OpOk Tryz.prog n' (.call { callee:=.builtin .append,args:=⟨[s,x]⟩,argTypes:=⟨[59,59]⟩ }) ty E L (fun v' L'=>∃ ad cap,v'=.slice ad puts.length cap∧L'=Row (.slice ad puts.length cap) 225 2 puts.length (puts.flatMap entV)::L1):=by
 obtain ⟨ad,cap,rfl,hc,h⟩:=hl
 rcases h with h0|⟨b,o,l,rest,rfl,hr,hd⟩
 ·have hnil:puts=[]:=List.eq_nil_of_length_eq_zero h0
  subst hnil;unfold OpOk;intro d ps af g a w ha X hsat;have hr:=Ent.row_bl (b:=g0) (e:=225) (sz:=2) (n:=0) (l:=[]) (L:=L1++X) (by simp) (Nat.zero_le _);unfold Ent at hr;have hs0:=hr _ ((ht.app X).sat hsat);have hop:=OpOk.append0 (P:=Tryz.prog) (n':=n') (ty:=ty) (t:=59) (L:=Row (.slice (some ⟨g0,0,none⟩) 0 0) 225 2 0 []::L1) hv hx Take.here;unfold OpOk at hop;obtain ⟨v,w2,L',hrun,⟨h1,h2⟩,hs',ho'⟩:=hop d ps af g a w ha X hs0;exact ⟨v,w2,L',hrun,⟨_,_,h1,h2⟩,hs',ho'⟩
 ·exact OpOk.appendC (r:=puts.flatMap entV++rest) hv hx ht (readsC_mem hr hq) hd (by rw [← flat_len entV_len];exact TakeN.app _ _) (ent_one puts) rfl rfl (by omega) (by omega)
section
set_option maxHeartbeats 400000 in
theorem rput_t {q:HProp}{lv:Value}{puts:List (Int×Nat)}(hl:ListR entV q lv puts)(hll:puts.length≤1000000)(room:Nat)(_hroom:room≤1000000)(a:Int)(x:Nat):Tri Tryz.prog 190 #[.agg ⟨[.int .i64 (room:Int),lv]⟩, .int .i64 a, .int .u64 (x:Int)] [q]
  fun r L=>∃ q' lv',Gr q q'∧ListR entV q' lv' (putP room puts a x)∧r=.tuple ⟨[.agg ⟨[.int .i64 (room:Int),lv']⟩, .int .i64 (putR room puts a)]⟩∧L=[q']:=by
 have hget:=rget_r hl hll room a;have hall:=rall_t hl hll room;have hal:=allP_le puts;obtain ⟨lad,lcap,rfl,hlc,_⟩:=id hl;unfold putP putR
 cases hm:mget (allP puts) a with
 | some y =>
  rw [hm] at hget;dsimp only [Option.isSome,Option.getD] at hget;rw [if_neg (fun e=>by cases e.1),if_neg (fun e=>by cases e.1)]
  refine TB (vs:=[_,_,_]) Tryz.func190 fun w0 F=>?_
  repeat' (first|refine St.halt 4 ?_|refine Ga ?_|(refine Gb ?_;intro b)|(refine Dr 2 [(0,0),(1,0),(2,0),(3,0),(4,1),(5,0),(6,0),(7,1),(8,0),(9,0),(10,0),(11,1),(14,0),(15,1),(12,2),(13,0),(16,0),(17,0)] [] ?_)|(refine StD.skip2 (by rfl) (by rfl) (by rfl) (by rfl) (by rfl) ?_)|refine Gl hget ?_|fail)
  refine Halt.go ?_
  repeat' (first|refine Ga ?_|(refine Gb ?_;intro b)|(refine Dt 4 [(0,0),(3,0),(4,1),(6,0),(7,0),(8,0)] (.pick [(1,2)] (.pick [(2,2)] (.pick [(5,3),(9,2),(10,3),(11,0),(12,3),(13,0)] .done (.pick [(9,2),(5,3),(10,3),(11,0),(12,3),(13,0)] .done .nope)) (.pick [(9,2),(2,2),(5,3),(10,3),(11,0),(12,3),(13,0)] .done .nope)) (.pick [(2,2)] (.pick [(1,2)] (.pick [(5,3),(9,2),(10,3),(11,0),(12,3),(13,0)] .done (.pick [(9,2),(5,3),(10,3),(11,0),(12,3),(13,0)] .done .nope)) (.pick [(5,3)] (.pick [(1,2),(9,2),(10,3),(11,0),(12,3),(13,0)] .done (.pick [(9,2)] (.pick [(1,2),(10,3),(11,0),(12,3),(13,0)] .done (.pick [(10,3),(1,2),(11,0),(12,3),(13,0)] .done .nope)) .nope)) (.pick [(9,2)] (.pick [(1,2),(5,3),(10,3),(11,0),(12,3),(13,0)] .done (.pick [(5,3)] (.pick [(1,2),(10,3),(11,0),(12,3),(13,0)] .done (.pick [(10,3),(1,2),(11,0),(12,3),(13,0)] .done .nope)) .nope)) .nope))) (.pick [(9,2)] (.pick [(1,2),(2,2),(5,3),(10,3),(11,0),(12,3),(13,0)] .done (.pick [(2,2)] (.pick [(1,2),(5,3),(10,3),(11,0),(12,3),(13,0)] .done (.pick [(5,3)] (.pick [(1,2),(10,3),(11,0),(12,3),(13,0)] .done (.pick [(10,3),(1,2),(11,0),(12,3),(13,0)] .done .nope)) .nope)) .nope)) .nope))) [5,10,12] ?_)|apply StD.pick|exact StD.nope|fail)
  all_goals (apply StD.ok3;rfl;(apply OpOk.appendEnt hl hll;(simp);rfl;rfl;(focus (repeat first|exact Take.here|apply Take.there)));rfl;rintro _ _ ⟨ad1,cap1,rfl,rfl⟩)
  repeat' (first|refine Ga ?_|(refine Gb ?_;intro b)|(refine Gc ?_;intro ad cap)|apply StD.pick|exact StD.nope|fail)
  all_goals
   rw [show (puts.flatMap entV++[Value.int .i64 a, .int .u64 (x:Int)])=(puts++[(a,x)]).flatMap entV by rw [List.flatMap_append];rfl]
   refine St.rowL (by rw [List.length_append];rfl) fun R hR=>?_
   refine St.conv ?_ (Sub.refl _) (Ent.trans (Ent.of_take (p:=q) Take.go) (Ent.star_in [q,R]));exact St.d1 Tryz.func190 ⟨_,⟨star [q,R],_,Gr.star R q,hR.weak fun b l h=>RdC.star (L:=[q,R]) (List.mem_cons_of_mem _ (List.mem_cons_self ..)) h,rfl,rfl⟩,Ent.go⟩
 | none =>
  rw [hm] at hget;dsimp only [Option.isSome,Option.getD] at hget
  by_cases h2:room≤(allP puts).length
  ·rw [if_pos ⟨rfl,h2⟩,if_pos ⟨rfl,h2⟩]
   refine TB (vs:=[_,_,_]) Tryz.func190 fun w0 F=>?_
   repeat' (first|refine Ga ?_|(refine Gb ?_;intro b)|(refine Dr 2 [(0,0),(1,0),(2,0),(3,0),(4,1),(5,0),(6,0),(7,1),(8,0),(9,0),(10,0),(11,1),(14,0),(15,1),(12,2),(13,0),(16,0),(17,0)] [] ?_)|(apply StD.gcallt2;rfl;rfl;rfl;exact Og;exact hall;exact Oh;rintro _ _ ⟨aad,acap,rfl,rfl⟩;refine ⟨Ent.go, ?_⟩)|refine Gl hget ?_|(refine Ge ?_ ?_<;>intro h<;>try omega)|fail)
   exact St.d1 Tryz.func190 ⟨_,⟨q,_,Gr.refl q,hl,rfl,rfl⟩,Ent.go⟩
  ·rw [if_neg (fun e=>h2 e.2),if_neg (fun e=>h2 e.2)]
   by_cases h1:room≤puts.length
   ·skip
    refine TB (vs:=[_,_,_]) Tryz.func190 fun w0 F=>?_
    repeat' (first|refine St.halt 4 ?_|refine Ga ?_|(refine Gb ?_;intro b)|(refine Dr 2 [(0,0),(1,0),(2,0),(3,0),(4,1),(5,0),(6,0),(7,1),(8,0),(9,0),(10,0),(11,1),(14,0),(15,1),(12,2),(13,0),(16,0),(17,0)] [] ?_)|(apply StD.gcallt2;rfl;rfl;rfl;exact Og;exact hall;exact Oh;rintro _ _ ⟨aad,acap,rfl,rfl⟩;refine ⟨Ent.go, ?_⟩)|refine Gl hget ?_|(refine Ge ?_ ?_<;>intro h<;>try omega)|fail)
    refine Halt.go ?_
    repeat' (first|refine Ga ?_|(refine Gb ?_;intro b)|(refine Dt 4 [(0,0),(3,0),(4,1),(6,0),(7,0),(8,0)] (.pick [(1,2)] (.pick [(2,2)] (.pick [(5,3),(9,2),(10,3),(11,0),(12,3),(13,0)] .done (.pick [(9,2),(5,3),(10,3),(11,0),(12,3),(13,0)] .done .nope)) (.pick [(9,2),(2,2),(5,3),(10,3),(11,0),(12,3),(13,0)] .done .nope)) (.pick [(2,2)] (.pick [(1,2)] (.pick [(5,3),(9,2),(10,3),(11,0),(12,3),(13,0)] .done (.pick [(9,2),(5,3),(10,3),(11,0),(12,3),(13,0)] .done .nope)) (.pick [(5,3)] (.pick [(1,2),(9,2),(10,3),(11,0),(12,3),(13,0)] .done (.pick [(9,2)] (.pick [(1,2),(10,3),(11,0),(12,3),(13,0)] .done (.pick [(10,3),(1,2),(11,0),(12,3),(13,0)] .done .nope)) .nope)) (.pick [(9,2)] (.pick [(1,2),(5,3),(10,3),(11,0),(12,3),(13,0)] .done (.pick [(5,3)] (.pick [(1,2),(10,3),(11,0),(12,3),(13,0)] .done (.pick [(10,3),(1,2),(11,0),(12,3),(13,0)] .done .nope)) .nope)) .nope))) (.pick [(9,2)] (.pick [(1,2),(2,2),(5,3),(10,3),(11,0),(12,3),(13,0)] .done (.pick [(2,2)] (.pick [(1,2),(5,3),(10,3),(11,0),(12,3),(13,0)] .done (.pick [(5,3)] (.pick [(1,2),(10,3),(11,0),(12,3),(13,0)] .done (.pick [(10,3),(1,2),(11,0),(12,3),(13,0)] .done .nope)) .nope)) .nope)) .nope))) [5,10,12] ?_)|apply StD.pick|exact StD.nope|fail)
    all_goals (apply StD.ok3;rfl;(apply OpOk.appendEnt hl hll;(simp);rfl;rfl;(focus (repeat first|exact Take.here|apply Take.there)));rfl;rintro _ _ ⟨ad1,cap1,rfl,rfl⟩)
    repeat' (first|refine Ga ?_|(refine Gb ?_;intro b)|(refine Gc ?_;intro ad cap)|apply StD.pick|exact StD.nope|fail)
    all_goals
     rw [show (puts.flatMap entV++[Value.int .i64 a, .int .u64 (x:Int)])=(puts++[(a,x)]).flatMap entV by rw [List.flatMap_append];rfl]
     refine St.rowL (by rw [List.length_append];rfl) fun R hR=>?_
     refine St.conv ?_ (Sub.refl _) (Ent.trans (Ent.of_take (p:=q) Take.go) (Ent.star_in [q,R]));exact St.d1 Tryz.func190 ⟨_,⟨star [q,R],_,Gr.star R q,hR.weak fun b l h=>RdC.star (L:=[q,R]) (List.mem_cons_of_mem _ (List.mem_cons_self ..)) h,rfl,rfl⟩,Ent.go⟩
   ·skip
    refine TB (vs:=[_,_,_]) Tryz.func190 fun w0 F=>?_
    repeat' (first|refine St.halt 4 ?_|refine Ga ?_|(refine Gb ?_;intro b)|(refine Dr 2 [(0,0),(1,0),(2,0),(3,0),(4,1),(5,0),(6,0),(7,1),(8,0),(9,0),(10,0),(11,1),(14,0),(15,1),(12,2),(13,0),(16,0),(17,0)] [] ?_)|(refine StD.skip2 (by rfl) (by rfl) (by rfl) (by rfl) (by rfl) ?_)|refine Gl hget ?_|(refine Ge ?_ ?_<;>intro h<;>try omega)|fail)
    refine Halt.go ?_
    repeat' (first|refine Ga ?_|(refine Gb ?_;intro b)|(refine Dt 4 [(0,0),(3,0),(4,1),(6,0),(7,0),(8,0)] (.pick [(1,2)] (.pick [(2,2)] (.pick [(5,3),(9,2),(10,3),(11,0),(12,3),(13,0)] .done (.pick [(9,2),(5,3),(10,3),(11,0),(12,3),(13,0)] .done .nope)) (.pick [(9,2),(2,2),(5,3),(10,3),(11,0),(12,3),(13,0)] .done .nope)) (.pick [(2,2)] (.pick [(1,2)] (.pick [(5,3),(9,2),(10,3),(11,0),(12,3),(13,0)] .done (.pick [(9,2),(5,3),(10,3),(11,0),(12,3),(13,0)] .done .nope)) (.pick [(5,3)] (.pick [(1,2),(9,2),(10,3),(11,0),(12,3),(13,0)] .done (.pick [(9,2)] (.pick [(1,2),(10,3),(11,0),(12,3),(13,0)] .done (.pick [(10,3),(1,2),(11,0),(12,3),(13,0)] .done .nope)) .nope)) (.pick [(9,2)] (.pick [(1,2),(5,3),(10,3),(11,0),(12,3),(13,0)] .done (.pick [(5,3)] (.pick [(1,2),(10,3),(11,0),(12,3),(13,0)] .done (.pick [(10,3),(1,2),(11,0),(12,3),(13,0)] .done .nope)) .nope)) .nope))) (.pick [(9,2)] (.pick [(1,2),(2,2),(5,3),(10,3),(11,0),(12,3),(13,0)] .done (.pick [(2,2)] (.pick [(1,2),(5,3),(10,3),(11,0),(12,3),(13,0)] .done (.pick [(5,3)] (.pick [(1,2),(10,3),(11,0),(12,3),(13,0)] .done (.pick [(10,3),(1,2),(11,0),(12,3),(13,0)] .done .nope)) .nope)) .nope)) .nope))) [5,10,12] ?_)|apply StD.pick|exact StD.nope|fail)
    all_goals (apply StD.ok3;rfl;(apply OpOk.appendEnt hl hll;(simp);rfl;rfl;(focus (repeat first|exact Take.here|apply Take.there)));rfl;rintro _ _ ⟨ad1,cap1,rfl,rfl⟩)
    repeat' (first|refine Ga ?_|(refine Gb ?_;intro b)|(refine Gc ?_;intro ad cap)|apply StD.pick|exact StD.nope|fail)
    all_goals
     rw [show (puts.flatMap entV++[Value.int .i64 a, .int .u64 (x:Int)])=(puts++[(a,x)]).flatMap entV by rw [List.flatMap_append];rfl]
     refine St.rowL (by rw [List.length_append];rfl) fun R hR=>?_
     refine St.conv ?_ (Sub.refl _) (Ent.trans (Ent.of_take (p:=q) Take.go) (Ent.star_in [q,R]));exact St.d1 Tryz.func190 ⟨_,⟨star [q,R],_,Gr.star R q,hR.weak fun b l h=>RdC.star (L:=[q,R]) (List.mem_cons_of_mem _ (List.mem_cons_self ..)) h,rfl,rfl⟩,Ent.go⟩
end
end Go.Proofs.YthmbgodcpgkkeaaGreat
