/-
  Package tumblerref10: Read. Package tumblerref14: put. A program of the document's, from its beginning to its end: its numbers. Packages tumblerref08, tumblerref09: New. Package tumblerref14: Make. What a set holds behind settling. A part of a slice. Package tumblerref08: Same.
-/
import Derived.Test.YthmbgodcpgkkeaaGreatLp
import Derived.Test.YthmbgodcpgkkeaaGreatHe
import Derived.Test.YthmbgodcpgkkeaaGreatKi
import Derived.Test.YthmbgodcpgkkeaaGreatNa
import Derived.Test.YthmbgodcpgkkeaaGreatLl
import Derived.Test.YthmbgodcpgkkeaaGreatLb
import Derived.Test.YthmbgodcpgkkeaaGreatLs
import Derived.Test.YthmbgodcpgkkeaaGreatExi
set_option maxRecDepth 100000
namespace Go.Proofs.YthmbgodcpgkkeaaGreat
abbrev ReadQ (c:Cfg)(q:HProp)(ov:Value)(X:Tp×(Rp×Int))(r:Value)(L:List HProp):Prop :=
 ∃ q' na nc ma mc,Gr q q'∧ListR u1V q' (.slice na X.2.1.named.length nc) X.2.1.named∧ListR u1V q' (.slice ma X.2.1.limbo.length mc) X.2.1.limbo∧r=.tuple ⟨[.agg ⟨plV c na X.2.1.named.length nc ma X.2.1.limbo.length mc X.2.1.wt X.2.1.wl X.2.1.wt X.2.1.wl⟩, .agg ⟨tpV ov X.1⟩, .int .i64 X.2.2]⟩∧L=[q']
theorem ListR.nil (q:HProp)(f:Nat→List Value):ListR f q (.slice none 0 0) []:=⟨none,0,rfl,Nat.le_refl _, .inl rfl⟩
section
set_option maxHeartbeats 4000000 in
theorem rread_t {q:HProp}{ov:Value}{os:List Out}(hov:ListR Out.v q ov os)(hos:os.length≤100000){c:Cfg}(hc:Small c)(seq:Nat)(t:Tp)(ht:t.at_≤100000):Tri Tryz.prog 18 #[.agg ⟨c.v⟩, .int .u64 (seq:Int), .agg ⟨tpV ov t⟩] [q] (ReadQ c q ov (rread c os seq t)):=by
 have hb1:=hc.b1;have hb0:=hc.b0;have ht0:=hc.t0;have ht1:=hc.t1;have hli:=hc.limit
 have hat:=fun k i j=>rat_r c hc k i j
 have hlim:=rlimit_r c hc
 have hld:=fun {q':HProp} (g:Gr q q') t ht a=>rld_r (hov.gr g) hos t ht a
 obtain ⟨adt,capt,rfl,_⟩:=id hov;unfold Cfg.v at hat hlim;unfold rread
 have hT:((c.threads.toNat:Nat):Int)=c.threads:=by omega
 generalize hR:rnamed c os c.threads.toNat 0 [] t=R;generalize hX:rread1 c os seq R.2 R.1=X;unfold Cfg.v
 refine TB (vs:=[_,_,_]) Tryz.func18 fun w0 F=>?_
 repeat' (first|refine Ga ?_|(refine Gb ?_;intro b)|fail)
 rename_i b3 b5 b6 b7;revert b;intro PB;refine St.conv ?_ (Sub.refl _) (Ent.row_nil 22 1)
 refine St.loopY (Lr:=?Lr1) (ι:={ x:(Nat×List Nat×Tp)×Option Addr×Nat // x.1.1≤c.threads.toNat∧x.1.2.1.length=x.1.1∧x.1.2.2.at_≤100000∧rnamed c os (c.threads.toNat - x.1.1) x.1.1 x.1.2.1 x.1.2.2=R }) (fun x=>c.threads.toNat - x.1.1.1) (fun x=>[(10, .int .i64 (x.1.1.1:Int))])
  (fun x=>[bl b5 43 (tpV (.slice adt os.length capt) x.1.1.2.2),bl PB 37 [.int .i64 c.threads, .int .i64 c.blocks, .int .i64 c.writes, .int .i64 c.fuel, .int .u64 (c.first:Int), .int .u64 (c.last:Int), .slice x.1.2.1 x.1.1.2.1.length x.1.2.2, .slice none 0 0, .int .i64 0, .int .i64 0, .int .i64 0, .int .i64 0],Row (.slice x.1.2.1 x.1.1.2.1.length x.1.2.2) 22 1 x.1.1.2.1.length (x.1.1.2.1.flatMap u1V)]) ⟨((0,[],t),none,0),Nat.zero_le _,rfl,ht,hR⟩ ?hE1 ?hL1 ?round1
 case hE1=>exact Sub.go
 case hL1=>exact Takes.go
 case round1 =>
  rintro ⟨⟨⟨k,l,t9⟩,lad,lcap⟩,hk,hlk,ht9,hgo⟩ IH;dsimp only at hk hlk ht9 hgo IH⊢
  by_cases hlt:k<c.threads.toNat
  ·obtain ⟨m,hm⟩:∃ m,c.threads.toNat - k=m+1:=⟨c.threads.toNat - k - 1,by omega⟩
   rw [hm,rnamed] at hgo;have h3:=hat 3 k 0;have hl1:=hld (Gr.refl q) t9 ht9 (c.at 3 k 0);have hx1:=tdo_at hos ht9 (mop 0 (c.at 3 k 0) 0);generalize tdo os t9 (mop 0 (c.at 3 k 0) 0)=y at hl1 hx1 hgo;obtain ⟨t2,⟨⟨wv,ws⟩,qok2⟩⟩:=y;dsimp only at hl1 hx1 hgo;obtain ⟨ta9,⟨ak9,oa9,⟨ov9a,os9a⟩,⟨nv9b,ns9b⟩⟩,tn9⟩:=t9;obtain ⟨ta2,⟨ak2,oa2,⟨ov2a,os2a⟩,⟨nv2b,ns2b⟩⟩,tn2⟩:=t2;unfold tpV Cell.v at hl1;unfold tpV;dsimp only at hl1⊢
   have hmk:c.threads.toNat - (k+1)=m:=by omega
   repeat' (first|refine Ga ?_|(refine Gb ?_;intro b)|(refine Gc ?_;intro ad cap)|(refine Dt 5 [(0,1),(1,1),(2,0),(3,1),(4,1),(5,0),(6,0),(7,0)] (.pick [(8,2),(9,2),(10,3),(11,3)] .done (.pick [(9,2),(8,2),(10,3),(11,3)] .done .nope)) [10,11] ?_)|apply StD.pick|exact StD.nope|refine Gl h3 ?_|refine Gl hl1 ?_|(refine Ge ?_ ?_<;>intro h<;>try omega)|fail)
   all_goals refine IH ⟨((k+1,l++[wv],⟨ta2,⟨ak2,oa2,⟨ov2a,os2a⟩,⟨nv2b,ns2b⟩⟩,tn2⟩),ad,cap),by dsimp only;omega,by dsimp only;rw [List.length_append,hlk];rfl,hx1,by dsimp only;rw [hmk];exact hgo⟩ (by show c.threads.toNat - (k+1)<c.threads.toNat - k;omega) ?_ ?_
   all_goals (dsimp only;first|(exact Sub.go)|(rw [List.length_append,List.flatMap_append];exact Ent.go))
  ·rw [show c.threads.toNat - k=0 by omega,rnamed] at hgo
   subst hgo
   try dsimp only
   refine St.conv ?_ (Sub.refl _) (Ent.of_take (p:=Row (.slice lad l.length lcap) 22 1 l.length (l.flatMap u1V)) Take.go)
   refine St.rowL rfl fun R1 hR1=>?_
   refine St.conv ?_ (Sub.refl _) (Ent.trans (Ent.of_take (p:=q) Take.go) (Ent.star_in [q,R1]));have hg1:Gr q (star [q,R1]):=Gr.star R1 q
   have hn1:ListR u1V (star [q,R1]) (.slice lad l.length lcap) l:=hR1.weak fun b l h=>RdC.star (L:=[q,R1]) (List.mem_cons_of_mem _ (List.mem_cons_self ..)) h
   generalize star [q,R1]=q1 at hg1 hn1⊢
   have hld:=fun t ht a=>hld hg1 t ht a
   have h12:=hat 12 0 0;have h14:=hat 14 0 0;have hl1:=hld t9 ht9 (c.at 12 0 0);have hx1:=tdo_at hos ht9 (mop 0 (c.at 12 0 0) 0);unfold rread1 at hX;dsimp only at hX;generalize tdo os t9 (mop 0 (c.at 12 0 0) 0)=y at hl1 hx1 hX;obtain ⟨t2,⟨⟨tv,ts⟩,qok2⟩⟩:=y;dsimp only at hl1 hx1 hX;obtain ⟨ta9,⟨ak9,oa9,⟨ov9a,os9a⟩,⟨nv9b,ns9b⟩⟩,tn9⟩:=t9;obtain ⟨ta2,⟨ak2,oa2,⟨ov2a,os2a⟩,⟨nv2b,ns2b⟩⟩,tn2⟩:=t2;unfold tpV Cell.v at hl1;dsimp only at hl1 hX;unfold tpV
   try dsimp only
   cases tn2 with
   | true =>
    rw [if_pos rfl] at hX;subst hX
    repeat' (first|refine Ga ?_|(refine Gb ?_;intro b)|(refine Dr 8 [(0,1),(1,1),(2,1),(3,1),(4,0),(5,0),(6,0),(7,2),(8,3),(9,3)] [8,9] ?_)|(refine Dt 10 [] (.pick [(0,3)] (.pick [(1,3),(2,3),(3,3),(4,0)] .done (.pick [(2,3),(1,3),(3,3),(4,0)] .done .nope)) (.pick [(1,3),(0,3),(2,3),(3,3),(4,0)] .done .nope)) [0,1,2,3] ?_)|apply StD.pick|exact StD.nope|refine Gl h12 ?_|refine Gl hl1 ?_|(refine StD.ok3 rfl (OpOk.ofW OpV.go) rfl ?_;rintro _ _ ⟨rfl,rfl⟩)|(refine Ge ?_ ?_<;>intro h<;>try omega)|fail)
    all_goals exact St.d1 Tryz.func18 ⟨_,⟨q1,lad,lcap,none,0,hg1,hn1,ListR.nil _ _,rfl,rfl⟩,Ent.go⟩
   | false =>
   rw [if_neg Bool.false_ne_true] at hX
   by_cases hs1:seq<ts
   ·rw [if_pos hs1] at hX
    subst hX
    repeat' (first|refine Ga ?_|(refine Gb ?_;intro b)|(refine Dr 8 [(0,1),(1,1),(2,1),(3,1),(4,0),(5,0),(6,0),(7,2),(8,3),(9,3)] [8,9] ?_)|(refine Dt 12 [] (.pick [(0,3)] (.pick [(1,3),(2,3),(3,3),(4,0)] .done (.pick [(2,3),(1,3),(3,3),(4,0)] .done .nope)) (.pick [(1,3),(0,3),(2,3),(3,3),(4,0)] .done .nope)) [0,1,2,3] ?_)|apply StD.pick|exact StD.nope|refine Gl h12 ?_|refine Gl hl1 ?_|(refine StD.ok3 rfl (OpOk.ofW OpV.go) rfl ?_;rintro _ _ ⟨rfl,rfl⟩)|(refine Ge ?_ ?_<;>intro h<;>try omega)|fail)
    all_goals exact St.d1 Tryz.func18 ⟨_,⟨q1,lad,lcap,none,0,hg1,hn1,ListR.nil _ _,rfl,rfl⟩,Ent.go⟩
   rw [if_neg hs1] at hX;unfold rread2 at hX;have hl2:=hld ⟨ta2,⟨ak2,oa2,⟨ov2a,os2a⟩,⟨nv2b,ns2b⟩⟩,false⟩ hx1 (c.at 14 0 0);have hx2:=tdo_at (t:=⟨ta2,⟨ak2,oa2,⟨ov2a,os2a⟩,⟨nv2b,ns2b⟩⟩,false⟩) hos hx1 (mop 0 (c.at 14 0 0) 0);generalize tdo os ⟨ta2,⟨ak2,oa2,⟨ov2a,os2a⟩,⟨nv2b,ns2b⟩⟩,false⟩ (mop 0 (c.at 14 0 0) 0)=y at hl2 hx2 hX;obtain ⟨t3,⟨⟨lv,ls⟩,qok3⟩⟩:=y;dsimp only at hl2 hx2 hX;obtain ⟨ta3,⟨ak3,oa3,⟨ov3a,os3a⟩,⟨nv3b,ns3b⟩⟩,tn3⟩:=t3;unfold tpV Cell.v at hl2;dsimp only at hl2 hX
   cases tn3 with
   | true =>
    rw [if_pos rfl] at hX;subst hX
    repeat' (first|refine Ga ?_|(refine Gb ?_;intro b)|(refine Dr 8 [(0,1),(1,1),(2,1),(3,1),(4,0),(5,0),(6,0),(7,2),(8,3),(9,3)] [8,9] ?_)|(refine Dr 13 [(0,1),(1,1),(2,1),(3,1),(4,0),(5,0),(6,0),(7,2),(8,3),(9,3)] [8,9] ?_)|(refine Dt 15 [] (.pick [(0,3)] (.pick [(1,3),(2,3),(3,3),(4,0)] .done (.pick [(2,3),(1,3),(3,3),(4,0)] .done .nope)) (.pick [(1,3),(0,3),(2,3),(3,3),(4,0)] .done .nope)) [0,1,2,3] ?_)|apply StD.pick|exact StD.nope|refine Gl h12 ?_|refine Gl h14 ?_|refine Gl hl1 ?_|refine Gl hl2 ?_|(refine StD.ok3 rfl (OpOk.ofW OpV.go) rfl ?_;rintro _ _ ⟨rfl,rfl⟩)|(refine Ge ?_ ?_<;>intro h<;>try omega)|fail)
    all_goals exact St.d1 Tryz.func18 ⟨_,⟨q1,lad,lcap,none,0,hg1,hn1,ListR.nil _ _,rfl,rfl⟩,Ent.go⟩
   | false =>
   rw [if_neg Bool.false_ne_true] at hX
   by_cases hs2:ls > seq
   ·rw [if_pos hs2] at hX
    subst hX
    repeat' (first|refine Ga ?_|(refine Gb ?_;intro b)|(refine Dr 8 [(0,1),(1,1),(2,1),(3,1),(4,0),(5,0),(6,0),(7,2),(8,3),(9,3)] [8,9] ?_)|(refine Dr 13 [(0,1),(1,1),(2,1),(3,1),(4,0),(5,0),(6,0),(7,2),(8,3),(9,3)] [8,9] ?_)|(refine Dt 17 [] (.pick [(0,3)] (.pick [(1,3),(2,3),(3,3),(4,0)] .done (.pick [(2,3),(1,3),(3,3),(4,0)] .done .nope)) (.pick [(1,3),(0,3),(2,3),(3,3),(4,0)] .done .nope)) [0,1,2,3] ?_)|apply StD.pick|exact StD.nope|refine Gl h12 ?_|refine Gl h14 ?_|refine Gl hl1 ?_|refine Gl hl2 ?_|(refine StD.ok3 rfl (OpOk.ofW OpV.go) rfl ?_;rintro _ _ ⟨rfl,rfl⟩)|(refine Ge ?_ ?_<;>intro h<;>try omega)|fail)
    all_goals exact St.d1 Tryz.func18 ⟨_,⟨q1,lad,lcap,none,0,hg1,hn1,ListR.nil _ _,rfl,rfl⟩,Ent.go⟩
   rw [if_neg hs2] at hX;have hh1:=rheld_r tv c.blocks (by omega) (by omega);have hh2:=rheld_r lv c.limit (by omega) (by omega)
   have hwl:0≤minI lv c.limit∧minI lv c.limit≤520:=by unfold minI;split<;>omega
   unfold rread3 at hX;generalize minI tv c.blocks=wt at hh1 hX;generalize minI lv c.limit=wl at hh2 hX hwl;generalize hR2:rlimbo c os seq wl.toNat 0 [] _=R2 at hX
   repeat' (first|refine Ga ?_|(refine Gb ?_;intro b)|(refine Dr 8 [(0,1),(1,1),(2,1),(3,1),(4,0),(5,0),(6,0),(7,2),(8,3),(9,3)] [8,9] ?_)|(refine Dr 13 [(0,1),(1,1),(2,1),(3,1),(4,0),(5,0),(6,0),(7,2),(8,3),(9,3)] [8,9] ?_)|(refine Dr 19 [(0,0),(1,1),(2,1),(3,1),(4,1),(5,0),(6,3)] [6] ?_)|refine Gl h12 ?_|refine Gl h14 ?_|refine Gl hl1 ?_|refine Gl hl2 ?_|refine Gl hh1 ?_|refine Gl hh2 ?_|refine Gl hlim ?_|(refine Ge ?_ ?_<;>intro h<;>try omega)|fail)
   refine St.conv ?_ (Sub.refl _) (Ent.row_nil 22 1)
   have hwc:((wl.toNat:Nat):Int)=wl:=by omega
   refine St.loopY (Lr:=?Lr2) (ι:={ x:(Nat×List Nat×Tp)×Option Addr×Nat // x.1.1≤wl.toNat∧x.1.2.1.length=x.1.1∧x.1.2.2.at_≤100000∧rlimbo c os seq (wl.toNat - x.1.1) x.1.1 x.1.2.1 x.1.2.2=R2 }) (fun x=>wl.toNat - x.1.1.1) (fun x=>[(15, .int .i64 (x.1.1.1:Int))])
    (fun x=>[bl b5 43 (tpV (.slice adt os.length capt) x.1.1.2.2),bl PB 37 [.int .i64 c.threads, .int .i64 c.blocks, .int .i64 c.writes, .int .i64 c.fuel, .int .u64 (c.first:Int), .int .u64 (c.last:Int), .slice lad l.length lcap, .slice x.1.2.1 x.1.1.2.1.length x.1.2.2, .int .i64 wt, .int .i64 wl, .int .i64 wt, .int .i64 wl],Row (.slice x.1.2.1 x.1.1.2.1.length x.1.2.2) 22 1 x.1.1.2.1.length (x.1.1.2.1.flatMap u1V)]) ⟨((0,[],⟨ta3,⟨ak3,oa3,⟨ov3a,os3a⟩,⟨nv3b,ns3b⟩⟩,false⟩),none,0),Nat.zero_le _,rfl,hx2,hR2⟩ ?hE2 ?hL2 ?round2
   case hE2=>exact Sub.go
   case hL2=>exact Takes.go
   case round2 =>
    rintro ⟨⟨⟨k2,l2,t7⟩,mad,mcap⟩,hk2,hlk2,ht7,hgo⟩ IH2;dsimp only at hk2 hlk2 ht7 hgo IH2⊢
    by_cases hlt2:k2<wl.toNat
    ·obtain ⟨m,hm⟩:∃ m,wl.toNat - k2=m+1:=⟨wl.toNat - k2 - 1,by omega⟩
     rw [hm,rlimbo] at hgo;have h15:=hat 15 k2 0;have hl7:=hld t7 ht7 (c.at 15 k2 0);have hx7:=tdo_at hos ht7 (mop 0 (c.at 15 k2 0) 0);generalize tdo os t7 (mop 0 (c.at 15 k2 0) 0)=y at hl7 hx7 hgo;obtain ⟨t8,⟨⟨wv,ws⟩,qok8⟩⟩:=y;dsimp only at hl7 hx7 hgo;obtain ⟨ta7,⟨ak7,oa7,⟨ov7a,os7a⟩,⟨nv7b,ns7b⟩⟩,tn7⟩:=t7;obtain ⟨ta8,⟨ak8,oa8,⟨ov8a,os8a⟩,⟨nv8b,ns8b⟩⟩,tn8⟩:=t8;unfold tpV Cell.v at hl7;unfold tpV;dsimp only at hl7 hgo⊢
     have hmk:wl.toNat - (k2+1)=m:=by omega
     cases tn8 with
     | true =>
      rw [if_pos rfl] at hgo;subst hgo;subst hX
      repeat' (first|refine Ga ?_|(refine Gb ?_;intro b)|(refine Dt 25 [(0,1),(1,1),(2,0),(3,1),(4,1),(5,0),(6,0),(7,0)] (.pick [(8,2),(9,2),(10,3),(11,3)] .done (.pick [(9,2),(8,2),(10,3),(11,3)] .done .nope)) [10,11] ?_)|(refine Dt 28 [] (.pick [(0,3)] (.pick [(1,3),(2,3),(3,3),(4,0)] .done (.pick [(2,3),(1,3),(3,3),(4,0)] .done .nope)) (.pick [(1,3),(0,3),(2,3),(3,3),(4,0)] .done .nope)) [0,1,2,3] ?_)|apply StD.pick|exact StD.nope|refine Gl h15 ?_|refine Gl hl7 ?_|(refine StD.ok3 rfl (OpOk.ofW OpV.go) rfl ?_;rintro _ _ ⟨rfl,rfl⟩)|(refine Ge ?_ ?_<;>intro h<;>try omega)|fail)
      all_goals refine St.conv ?_ (Sub.refl _) (Ent.of_take (p:=Row (.slice mad l2.length mcap) 22 1 l2.length (l2.flatMap u1V)) Take.go)
      all_goals refine St.rowL rfl fun R2 hR2'=>?_
      all_goals refine St.conv ?_ (Sub.refl _) (Ent.trans (Ent.of_take (p:=q1) Take.go) (Ent.star_in [q1,R2]))
      all_goals exact St.d1 Tryz.func18 ⟨_,⟨star [q1,R2],lad,lcap,mad,mcap,hg1.trans (Gr.star R2 q1),hn1.gr (Gr.star R2 q1),hR2'.weak fun b l h=>RdC.star (L:=[q1,R2]) (List.mem_cons_of_mem _ (List.mem_cons_self ..)) h,rfl,rfl⟩,Ent.go⟩
     | false =>
     rw [if_neg Bool.false_ne_true] at hgo
     by_cases hs7:seq<ws
     ·rw [if_pos hs7] at hgo
      subst hgo;subst hX
      repeat' (first|refine Ga ?_|(refine Gb ?_;intro b)|(refine Dt 25 [(0,1),(1,1),(2,0),(3,1),(4,1),(5,0),(6,0),(7,0)] (.pick [(8,2),(9,2),(10,3),(11,3)] .done (.pick [(9,2),(8,2),(10,3),(11,3)] .done .nope)) [10,11] ?_)|(refine Dt 30 [] (.pick [(0,3)] (.pick [(1,3),(2,3),(3,3),(4,0)] .done (.pick [(2,3),(1,3),(3,3),(4,0)] .done .nope)) (.pick [(1,3),(0,3),(2,3),(3,3),(4,0)] .done .nope)) [0,1,2,3] ?_)|apply StD.pick|exact StD.nope|refine Gl h15 ?_|refine Gl hl7 ?_|(refine StD.ok3 rfl (OpOk.ofW OpV.go) rfl ?_;rintro _ _ ⟨rfl,rfl⟩)|(refine Ge ?_ ?_<;>intro h<;>try omega)|fail)
      all_goals refine St.conv ?_ (Sub.refl _) (Ent.of_take (p:=Row (.slice mad l2.length mcap) 22 1 l2.length (l2.flatMap u1V)) Take.go)
      all_goals refine St.rowL rfl fun R2 hR2'=>?_
      all_goals refine St.conv ?_ (Sub.refl _) (Ent.trans (Ent.of_take (p:=q1) Take.go) (Ent.star_in [q1,R2]))
      all_goals exact St.d1 Tryz.func18 ⟨_,⟨star [q1,R2],lad,lcap,mad,mcap,hg1.trans (Gr.star R2 q1),hn1.gr (Gr.star R2 q1),hR2'.weak fun b l h=>RdC.star (L:=[q1,R2]) (List.mem_cons_of_mem _ (List.mem_cons_self ..)) h,rfl,rfl⟩,Ent.go⟩
     rw [if_neg hs7] at hgo
     repeat' (first|refine Ga ?_|(refine Gb ?_;intro b)|(refine Gc ?_;intro ad cap)|(refine Dt 25 [(0,1),(1,1),(2,0),(3,1),(4,1),(5,0),(6,0),(7,0)] (.pick [(8,2),(9,2),(10,3),(11,3)] .done (.pick [(9,2),(8,2),(10,3),(11,3)] .done .nope)) [10,11] ?_)|apply StD.pick|exact StD.nope|refine Gl h15 ?_|refine Gl hl7 ?_|(refine Ge ?_ ?_<;>intro h<;>try omega)|fail)
     all_goals refine IH2 ⟨((k2+1,l2++[wv],⟨ta8,⟨ak8,oa8,⟨ov8a,os8a⟩,⟨nv8b,ns8b⟩⟩,false⟩),ad,cap),by dsimp only;omega,by dsimp only;rw [List.length_append,hlk2];rfl,hx7,by dsimp only;rw [hmk];exact hgo⟩ (by show wl.toNat - (k2+1)<wl.toNat - k2;omega) ?_ ?_
     all_goals (dsimp only;first|(exact Sub.go)|(rw [List.length_append,List.flatMap_append];exact Ent.go))
    ·rw [show wl.toNat - k2=0 by omega,rlimbo] at hgo
     subst hgo;subst hX;obtain ⟨ta7,⟨ak7,oa7,⟨ov7a,os7a⟩,⟨nv7b,ns7b⟩⟩,tn7⟩:=t7;unfold tpV;dsimp only
     repeat' (first|refine Ga ?_|(refine Dt 32 [] (.pick [(0,3)] (.pick [(1,3),(2,3),(3,3),(4,0)] .done (.pick [(2,3),(1,3),(3,3),(4,0)] .done .nope)) (.pick [(1,3),(0,3),(2,3),(3,3),(4,0)] .done .nope)) [0,1,2,3] ?_)|apply StD.pick|exact StD.nope|(refine StD.ok3 rfl (OpOk.ofW OpV.go) rfl ?_;rintro _ _ ⟨rfl,rfl⟩)|(refine Ge ?_ ?_<;>intro h<;>try omega)|fail)
     all_goals refine St.conv ?_ (Sub.refl _) (Ent.of_take (p:=Row (.slice mad l2.length mcap) 22 1 l2.length (l2.flatMap u1V)) Take.go)
     all_goals refine St.rowL rfl fun R2 hR2'=>?_
     all_goals refine St.conv ?_ (Sub.refl _) (Ent.trans (Ent.of_take (p:=q1) Take.go) (Ent.star_in [q1,R2]))
     all_goals exact St.d1 Tryz.func18 ⟨_,⟨star [q1,R2],lad,lcap,mad,mcap,hg1.trans (Gr.star R2 q1),hn1.gr (Gr.star R2 q1),hR2'.weak fun b l h=>RdC.star (L:=[q1,R2]) (List.mem_cons_of_mem _ (List.mem_cons_self ..)) h,rfl,rfl⟩,Ent.go⟩
end
section
set_option maxHeartbeats 2000000 in
theorem rput14_t {c:Cfg}(hc:Small c){q:HProp}{lv:Value}{puts:List (Int×Nat)}(hl:ListR entV q lv puts)(hll:puts.length+3≤1000000)(room:Nat)(hroom:room≤1000000)(r:BRow)(hrc:0≤r.rc∧r.rc≤1000000)(xa:Option Addr)(xn xc:Nat):Tri Tryz.prog 128 #[.agg ⟨[.int .i64 (room:Int),lv]⟩, .agg ⟨c.v⟩, .agg ⟨[.int .i64 r.who, .int .u64 (r.tag:Int), .int .i64 r.rc, .int .u64 (r.rv:Int), .slice xa xn xc]⟩] [q]
  fun v L=>∃ q' ad n cap,Gr q q'∧ListR entV q' (.slice ad n cap) (rput3 c room puts r)∧v=.agg ⟨[.int .i64 (room:Int), .slice ad n cap]⟩∧L=[q']:=by
 obtain ⟨who,tag,rc,rv,news⟩:=r;dsimp only at hrc;have h8:=rat_r c hc 8 who 0;have h9:=rat_r c hc 9 who 0;have h7:=rat_r c hc 7 who 0
 have e1:((rc.toNat:Nat):Int)=rc:=by omega
 have hp1:=rputS_t hl (by omega) room hroom (c.at 8 who 0) rc.toNat;have hle1:=putP_le room puts (c.at 8 who 0) rc.toNat;rw [e1] at hp1;unfold rput3;dsimp only;generalize putP room puts (c.at 8 who 0) rc.toNat=puts1 at hp1 hle1⊢;have hle2:=putP_le room puts1 (c.at 9 who 0) rv
 have hp2:=fun {q':HProp} {lv':Value} (h':ListR entV q' lv' puts1)=>rputS_t h' (by omega) room hroom (c.at 9 who 0) rv
 generalize putP room puts1 (c.at 9 who 0) rv=puts2 at hp2 hle2⊢
 have hp3:=fun {q':HProp} {lv':Value} (h':ListR entV q' lv' puts2)=>rputS_t h' (by omega) room hroom (c.at 7 who 0) tag
 obtain ⟨lad,lcap,rfl,hlc,_⟩:=id hl;unfold Cfg.v at h7 h8 h9;unfold Cfg.v
 refine TB (vs:=[_,_,_]) Tryz.func128 fun w0 F=>?_
 repeat' (first|refine St.halt 2 ?_|refine Ga ?_|(refine Gb ?_;intro b)|(refine Dr 1 [(0,1),(1,1),(2,0),(3,1),(4,1),(5,0),(6,1),(7,0),(8,3),(9,0),(10,0),(11,0),(12,3)] [8,12] ?_)|refine Gl h8 ?_|(refine Gt hp1 ?_;rintro _ _ ⟨q1',ad1',n1',cap1',hg1,hl1',rfl,rfl⟩)|fail)
 have hp2:=hp2 hl1';refine Halt.go ?_
 repeat' (first|refine St.halt 3 ?_|refine Ga ?_|(refine Dr 2 [(0,1),(1,1),(2,0),(3,1),(4,1),(5,0),(6,1),(7,3),(8,0),(9,0),(10,0),(11,3)] [7,11] ?_)|refine Gl h9 ?_|(refine Gt hp2 ?_;rintro _ _ ⟨q2',ad2',n2',cap2',hg2,hl2',rfl,rfl⟩)|fail)
 have hp3:=hp3 hl2';refine Halt.go ?_
 repeat' (first|refine Ga ?_|(refine Dr 3 [(0,1),(1,1),(2,0),(3,1),(4,1),(5,0),(6,1),(7,3),(8,0),(9,0),(10,0),(11,3)] [7,11] ?_)|refine Gl h7 ?_|(refine Gt hp3 ?_;rintro _ _ ⟨q3',ad3',n3',cap3',hg3,hl3',rfl,rfl⟩)|fail)
 all_goals exact St.d1 Tryz.func128 ⟨_,⟨q3',_,_,_,(hg1.trans hg2).trans hg3,hl3',rfl,rfl⟩,Ent.go⟩
end
def NE (B:Int)(r:Rr):Prop:=r.nl≤B∧0≤r.er∧r.er≤100∧r.val<18446744073709551616
section
variable {c:Cfg}{B:Int}{r:Rr}
theorem NE.fails (h:NE B r){e:Int}(h0:0≤e)(h1:e≤100):NE B (r.fails e):=⟨h.1,h0,h1,h.2.2.2⟩
theorem NE.ends (h:NE B r)(s:Int):NE B (r.ends s):=by
 unfold Rr.ends;split
 ·exact h.fails (by decide) (by decide)
 ·exact h
theorem NE.pay (h:NE B r)(op:Int):NE B (r.pay c op).1:=by
 unfold Rr.pay;split
 ·exact h.fails (by decide) (by decide)
 ·exact h
theorem NE.goOn (hB:c.limit≤B)(h:NE B r)(room:Nat)(i:Ins)(x:Nat):NE B (r.goOn c room i x):=by
 have hp:NE B (r.pay c i.op).1:=h.pay i.op;unfold Rr.goOn;split
 ·exact h
 split
 ·unfold Rr.taken
  split
  ·exact h.fails (by decide) (by decide)
  ·exact h
 split
 ·split<;>exact hp
 split
 ·split
  ·refine ⟨?_,hp.2⟩
   have h1:=hp.1;dsimp only;unfold giveP;split
   ·exact h1
   ·dsimp only;omega
  ·exact hp
 ·exact h
theorem NE.after (hB:c.limit≤B)(h:NE B r)(room:Nat)(i:Ins)(x:Rv×Nat×Int):NE B (r.after c room i x):=by
 unfold Rr.after;split
 ·exact NE.goOn hB (r:={ r with v:=x.1 }) h room i _
 ·exact NE.ends (r:={ r with v:=x.1 }) h _
theorem NE.fetch (hB:c.limit≤B)(h:NE B r)(os:List Out)(room:Nat)(i:Ins)(a:Int)(t:Tp):NE B (rfetch c os room i r a t).2:=by
 unfold rfetch;split
 ·exact h.goOn hB room i _
 ·exact h.after hB room i _
theorem NE.does (hB:c.limit≤B)(h:NE B r)(hv:∀ x∈r.regs,x<18446744073709551616)(os:List Out)(room:Nat)(args:List Nat)(i:Ins)(hi:i.imm<18446744073709551616)(t:Tp):NE B (rdoes c os room args i r t).2:=by
 have hp:NE B (r.pay c i.op).1:=h.pay i.op;unfold rdoes;split
 ·exact h
 split
 ·dsimp only;split<;>exact h
 split
 ·exact ⟨h.1,h.2.1,h.2.2.1,rreg_lt hv _⟩
 split
 ·exact NE.fails (r:={ r with val:=i.imm }) ⟨h.1,h.2.1,h.2.2.1,hi⟩ (by decide) (by decide)
 split
 ·unfold rroot
  split
  ·exact h.fails (by decide) (by decide)
  split
  ·dsimp only;split<;>exact hp
  ·exact h.fetch hB os room i _ _
 split
 ·unfold rtouch
  split
  ·exact h.fails (by decide) (by decide)
  split
  ·split
   ·exact h.goOn hB room i _
   ·exact h.after hB room i _
  split
  ·exact h.goOn hB room i _
  ·exact h.after hB room i _
 split
 ·unfold rfresh
  split
  ·split
   ·exact hp.fails (by decide) (by decide)
   ·exact hp.fetch hB os room i _ _
  ·exact hp
 ·exact h
theorem NE.step (hB:c.limit≤B)(h:NE B r)(hv:∀ x∈r.regs,x<18446744073709551616)(os:List Out)(room:Nat)(code:List Ins)(hcv:∀ i∈code,i.imm<18446744073709551616)(args:List Nat)(t:Tp):NE B (rstep c os room code args r t).2:=by
 unfold rstep;split
 ·exact h.fails (by decide) (by decide)
 ·refine NE.does hB (r:={ r with steps:=r.steps+1,pc:=r.pc+1 }) h hv os room args _ ?_ t
  rw [List.getD_eq_getElem?_getD]
  cases e:code[r.pc.toNat]? with
  | none=>exact z64
  | some x=>exact hcv x (List.mem_of_getElem? e)
end
theorem RI.go2 {c:Cfg}{os:List Out}{room:Nat}{code:List Ins}{args:List Nat}(hos:∀ o∈os,o.was.val<18446744073709551616){N:Nat}{nt0 nl0 B:Int}(hB:c.limit≤B)(hr:rightB code=true)(hcv:∀ i∈code,i.imm<18446744073709551616)(ha:∀ x∈args,x<18446744073709551616)(hb:c.blocks≤1000):∀ (k:Nat) {r:Rr} {t:Tp},RI c code.length N nt0 nl0 r→NE B r→RI c code.length N nt0 nl0 (rgo c os room code args k r t).2∧NE B (rgo c os room code args k r t).2
 | 0,_,_,h,g=>⟨h,g⟩
 | k+1,r,t,h,g=>by
  unfold rgo;split
  ·rename_i hs
   exact RI.go2 hos hB hr hcv ha hb k (h.step hos room rfl hr hcv args ha hb hs.1 t) (g.step hB h.rv os room code hcv args t)
  ·exact ⟨h,g⟩
structure PN (c:Cfg)(B:Int)(nt0:Int)(puts:List (Int×Nat))(r:Rr):Prop where
 nt:0≤r.nt∧r.nt≤nt0
 nl:0≤r.nl∧r.nl≤B
 er:0≤r.er∧r.er≤100
 val:r.val<18446744073709551616
 len:r.puts.length≤puts.length+9 * c.fuel.toNat
 news:r.news.length≤c.fuel.toNat
 pv:∀ p∈r.puts,p.2<18446744073709551616
theorem rplay_num {c:Cfg}{os:List Out}{room:Nat}{code:List Ins}{args:List Nat}(hos:∀ o∈os,o.was.val<18446744073709551616)(hcv:∀ i∈code,i.imm<18446744073709551616)(ha:∀ x∈args,x<18446744073709551616)(hb:c.blocks≤1000)(hf:0≤c.fuel){B:Int}(hB:c.limit≤B){puts:List (Int×Nat)}(hp:∀ p∈puts,p.2<18446744073709551616)(v:Rv)(nt nl:Int)(hnt:0≤nt)(hnl:0≤nl∧nl≤B)(t:Tp) :
  PN c B nt puts (rplay c os room code args v nt nl puts t).2:=by
 unfold rplay
 by_cases hr:rightB code=true
 ·rw [if_pos hr]
  obtain ⟨h0,_,_⟩:=right_at hr;have hi:=RI.init (c:=c) (n:=code.length) (nt0:=nt) (nl0:=nl) hos hf hp h0 v hnt;obtain ⟨hg,hn⟩:=RI.go2 (room:=room) hos hB hr hcv ha hb (c.fuel.toNat+1) (t:=t) hi (⟨hnl.2,Int.le_refl _,by show (0:Int)≤100;decide,z64⟩:NE B (Rr.init v nt nl puts));dsimp only;generalize (rgo c os room code args (c.fuel.toNat+1) (Rr.init v nt nl puts) t).2=r at hg hn⊢;have h1:=hg.st;have h2:=hg.nl;have h3:=hg.len;have h4:=hg.news;unfold Rr.undo;split
  ·exact ⟨⟨hnt,Int.le_refl _⟩,hnl,⟨hn.2.1,hn.2.2.1⟩,hn.2.2.2,by dsimp only;omega,by dsimp only;omega,hp⟩
  ·exact ⟨hg.nt,⟨by omega,hn.1⟩,⟨hn.2.1,hn.2.2.1⟩,hn.2.2.2,by omega,by omega,hg.pv⟩
 ·rw [if_neg hr]
  exact ⟨⟨hnt,Int.le_refl _⟩,hnl,⟨by show (0:Int)≤30;decide,by show (30:Int)≤100;decide⟩,z64,by show puts.length≤_;omega,Nat.zero_le _,hp⟩
theorem rvnew_r (c:Cfg)(who:Int)(seq:Nat):RTri Tryz.prog 24 #[.agg ⟨c.v⟩, .int .i64 who, .int .u64 (seq:Int)] [] (.agg ⟨rvV c (.new who seq)⟩):=by
 apply RTri.of_pure
 refine TB (vs:=[_,_,_]) Tryz.func24 fun w0 F=>?_
 repeat' (first|refine Ga ?_|(refine Gb ?_;intro b)|fail)
 all_goals exact St.d1 Tryz.func24 ⟨_,⟨rfl,rfl⟩,Ent.go⟩
theorem rsnew_r (room:Nat)(h:room≤65536):RTri Tryz.prog 26 #[.int .i64 (room:Int)] [] (.agg ⟨[.int .i64 (room:Int), .slice none 0 0]⟩):=by
 apply RTri.of_pure
 refine TB (vs:=[_]) Tryz.func26 fun w0 F=>?_
 repeat' (first|refine Ga ?_|(refine Gb ?_;intro b)|(refine Ge ?_ ?_<;>intro h<;>try omega)|fail)
 all_goals exact St.d1 Tryz.func26 ⟨_,⟨rfl,rfl⟩,Ent.go⟩
theorem rargs_val {os:List Out}(hos:∀ o∈os,o.was.val<18446744073709551616)(c:Cfg)(u:Int):∀ (k j:Nat) (l:List Nat) (t:Tp),(∀ x∈l,x<18446744073709551616)→∀ x∈(rargs c os u k j l t).2,x<18446744073709551616
 | 0,_,_,_,h=>h
 | k+1,j,l,t,h=>by
  rw [rargs];exact rargs_val hos c u k (j+1) _ _ (set_lt h (tdo_lt hos _ _))
theorem rargs_at {os:List Out}(hos:os.length≤100000)(c:Cfg)(u:Int):∀ (k j:Nat) (l:List Nat) {t:Tp},t.at_≤100000→(rargs c os u k j l t).1.at_≤100000
 | 0,_,_,_,h=>h
 | k+1,j,l,t,h=>by
  rw [rargs];exact rargs_at hos c u k (j+1) _ (tdo_at hos h _)
theorem tdo_seq {os:List Out}(hos:∀ o∈os,o.was.seq<18446744073709551616)(t:Tp)(o:MOp):(tdo os t o).2.was.seq<18446744073709551616:=by
 unfold tdo;split
 ·exact z64
 split
 ·exact z64
 ·show (os.getD t.at_ out0).was.seq<18446744073709551616
  rw [List.getD_eq_getElem?_getD]
  cases e:os[t.at_]? with
  | none=>exact z64
  | some x=>exact hos x (List.mem_of_getElem? e)
theorem rcall_num {os:List Out}(hosl:os.length≤100000)(hos:∀ o∈os,o.was.val<18446744073709551616)(hoss:∀ o∈os,o.was.seq<18446744073709551616)(c:Cfg)(v:Rv)(u:Int){t:Tp}(ht:t.at_≤100000):(rcall c os v u t).2.args.length=4∧(∀ x∈(rcall c os v u t).2.args,x<18446744073709551616)∧(rcall c os v u t).1.at_≤100000∧(rcall c os v u t).2.ann.seq<18446744073709551616:=by
 have h0:∀ x∈args0,x<18446744073709551616:=by decide
 have hs:=tdo_seq hoss t (mop 0 (c.at 1 u 0) 0);unfold rcall rcall1;split
 ·exact ⟨rfl,h0,tdo_at hosl ht _,hs⟩
 ·unfold rcall2
  split
  ·exact ⟨rfl,h0,rcell_at hosl (tdo_at hosl ht _) _ _ _,hs⟩
  ·exact ⟨rargs_len _ _ _ _ _ _ _,rargs_val hos _ _ _ _ _ _ h0,rargs_at hosl _ _ _ _ _ (rcell_at hosl (tdo_at hosl ht _) _ _ _),hs⟩
theorem rput3_num {c:Cfg}{room:Nat}{puts:List (Int×Nat)}(hp:∀ p∈puts,p.2<18446744073709551616)(r:BRow)(h1:r.rc.toNat<18446744073709551616)(h2:r.rv<18446744073709551616)(h3:r.tag<18446744073709551616):(rput3 c room puts r).length≤puts.length+3∧∀ p∈rput3 c room puts r,p.2<18446744073709551616:=by
 have l1:=putP_le room puts (c.at 8 r.who 0) r.rc.toNat;have l2:=putP_le room (putP room puts (c.at 8 r.who 0) r.rc.toNat) (c.at 9 r.who 0) r.rv;have l3:=putP_le room (putP room (putP room puts (c.at 8 r.who 0) r.rc.toNat) (c.at 9 r.who 0) r.rv) (c.at 7 r.who 0) r.tag;unfold rput3;exact ⟨by omega,putP_val (putP_val (putP_val hp h1) h2) h3⟩
theorem rgo_at {os:List Out}(hosl:os.length≤100000)(c:Cfg)(room:Nat)(code:List Ins)(args:List Nat):∀ (k:Nat) {r:Rr} {t:Tp},t.at_≤100000→(rgo c os room code args k r t).1.at_≤100000
 | 0,_,_,h=>h
 | k+1,r,t,h=>by
  unfold rgo;split
  ·exact rgo_at hosl c room code args k (rstep_at hosl h c room code args r)
  ·exact h
theorem rplay_tat {os:List Out}(hosl:os.length≤100000)(c:Cfg)(room:Nat)(code:List Ins)(args:List Nat)(v:Rv)(nt nl:Int)(puts:List (Int×Nat)){t:Tp}(ht:t.at_≤100000):(rplay c os room code args v nt nl puts t).1.at_≤100000:=by
 unfold rplay;split
 ·exact rgo_at hosl c room code args _ ht
 ·exact ht
theorem ProgsR.gr {q q':HProp}{pv:Value}{progs:Progs}(h:ProgsR q pv progs)(g:Gr q q'):ProgsR q' pv progs:=by
 obtain ⟨pad,pcap,h1,h2,h3⟩:=h;refine ⟨pad,pcap,h1,h2,fun i hi=>?_⟩;obtain ⟨b,o,l,cv,h4,h5,h6,h7⟩:=h3 i hi;exact ⟨b,o,l,cv,h4,g.2 _ _ h5,h6,h7.gr g⟩
theorem progOf_val {progs:Progs}(h:∀ p∈progs,∀ i∈p,i.imm<18446744073709551616)(n:Nat):∀ i∈progOf progs n,i.imm<18446744073709551616:=by
 unfold progOf;rw [List.getD_eq_getElem?_getD]
 cases e:progs[n]? with
 | none=>intro i hi;cases hi
 | some p=>exact h p (List.mem_of_getElem? e)
abbrev MakeQ (_c:Cfg)(q:HProp)(ov:Value)(X:Tp×RbE)(v:Value)(L:List HProp):Prop :=
 ∃ q' sa sc ra rc room rl,Gr q q'∧ListR entV q' (.slice sa X.2.1.length sc) X.2.1∧rl.map (·.1)=X.2.2.1∧(∀ x∈rl,ListR u1V q' (.slice x.2.1 x.1.news.length x.2.2) x.1.news)∧ListR rowV q' (.slice ra rl.length rc) rl∧
  v=.agg ⟨tpV ov X.1++[.int .i64 room, .slice sa X.2.1.length sc, .slice ra rl.length rc, .int .i64 X.2.2.2]⟩∧L=[q']
theorem minI_bd {a b:Int}(h0:0≤a)(h1:0≤b):0≤minI a b∧minI a b≤b:=by unfold minI;split<;>omega
theorem rnamed_len (c:Cfg)(os:List Out):∀ (k u:Nat) (l:List Nat) (t:Tp),(rnamed c os k u l t).2.length=l.length+k
 | 0,_,_,_=>rfl
 | k+1,u,l,t=>by rw [rnamed,rnamed_len c os k,List.length_append,List.length_singleton];omega
theorem rlimbo_len (c:Cfg)(os:List Out)(seq:Nat):∀ (n k:Nat) (l:List Nat) (t:Tp),(rlimbo c os seq n k l t).2.1.length≤l.length+n
 | 0,_,_,_=>Nat.le_refl _
 | n+1,k,l,t=>by
  rw [rlimbo];split
  ·dsimp only;omega
  split
  ·dsimp only;omega
  ·have:=rlimbo_len c os seq n (k+1) (l++[(tdo os t (mop 0 (c.at 15 k 0) 0)).2.was.val]) (tdo os t (mop 0 (c.at 15 k 0) 0)).1
   rw [List.length_append,List.length_singleton] at this;omega
theorem rread_num {c:Cfg}(hc:Small c)(os:List Out)(seq:Nat)(t:Tp):(rread c os seq t).2.1.named.length≤8∧(rread c os seq t).2.1.limbo.length≤520∧(0≤(rread c os seq t).2.1.wt∧(rread c os seq t).2.1.wt≤64)∧(0≤(rread c os seq t).2.1.wl∧(rread c os seq t).2.1.wl≤520):=by
 have ht:=hc.t1;have hb0:=hc.b0;have hb1:=hc.b1;have hli:=hc.limit;have hn:=rnamed_len c os c.threads.toNat 0 [] t;rw [List.length_nil] at hn;unfold rread rread1;generalize rnamed c os c.threads.toNat 0 [] t=x at hn⊢;split
 ·exact ⟨by dsimp only;omega,Nat.zero_le _,⟨Int.le_refl _,by show (0:Int)≤64;decide⟩,⟨Int.le_refl _,by show (0:Int)≤520;decide⟩⟩
 split
 ·exact ⟨by dsimp only;omega,Nat.zero_le _,⟨Int.le_refl _,by show (0:Int)≤64;decide⟩,⟨Int.le_refl _,by show (0:Int)≤520;decide⟩⟩
 unfold rread2;split
 ·exact ⟨by dsimp only;omega,Nat.zero_le _,⟨Int.le_refl _,by show (0:Int)≤64;decide⟩,⟨Int.le_refl _,by show (0:Int)≤520;decide⟩⟩
 split
 ·exact ⟨by dsimp only;omega,Nat.zero_le _,⟨Int.le_refl _,by show (0:Int)≤64;decide⟩,⟨Int.le_refl _,by show (0:Int)≤520;decide⟩⟩
 unfold rread3;dsimp only;generalize (tdo os x.1 (mop 0 (c.at 12 0 0) 0))=y;generalize (tdo os y.1 (mop 0 (c.at 14 0 0) 0))=z;have h1:=minI_bd (a:=(y.2.was.val:Int)) (b:=c.blocks) (by omega) (by omega);have h2:=minI_bd (a:=(z.2.was.val:Int)) (b:=c.limit) (by omega) hli.1;have h3:=rlimbo_len c os seq (minI z.2.was.val c.limit).toNat 0 [] z.1;rw [List.length_nil] at h3;exact ⟨by omega,by omega,⟨h1.1,by omega⟩,⟨h2.1,by omega⟩⟩
theorem fedM_take {M:Type}(X:Mch M)(l:List Out)(m:M){i:Nat}(hi:i≤l.length):∀ j,j≤i→fedM X (l.take i) m j=fedM X l m j
 | 0,_=>rfl
 | j+1,h=>by
  rw [fedM,fedM,fedM_take X l m hi j (by omega)]
  congr 1
  rw [List.getD_eq_getElem?_getD,List.getD_eq_getElem?_getD,List.getElem?_take,if_pos (by omega)]
theorem setStep_val (c:Cfg)(hb:c.blocks≤1000)(room:Nat)(names:List Nat)(k b:Nat)(s:SetS)(h:∀ p∈s.puts,p.2<18446744073709551616):∀ p∈(setStep c room names k b s).puts,p.2<18446744073709551616:=by
 unfold setStep;split
 ·exact h
 rename_i hlt
 have hb:b<18446744073709551616:=by omega
 split
 ·unfold relP
  dsimp only;split
  ·exact putP_val (putP_val h z64) hb
  ·exact putP_val h z64
 ·dsimp only
  split
  ·exact putP_val h hb
  ·exact h
theorem setGo_val (c:Cfg)(hb:c.blocks≤1000)(room:Nat)(names:List Nat):∀ (l:List Nat) (k:Nat) (s:SetS),(∀ p∈s.puts,p.2<18446744073709551616)→∀ p∈(setGo c room names k l s).puts,p.2<18446744073709551616
 | [],_,_,h=>h
 | b::l,k,s,h=>setGo_val c hb room names l (k+1) _ (setStep_val c hb room names k b s h)
theorem DropN.all {α:Type}:∀ (a b:List α),DropN a.length (a++b) b
 | [],_=>.zero
 | _::a,b=>.succ (DropN.all a b)
end Go.Proofs.YthmbgodcpgkkeaaGreat
