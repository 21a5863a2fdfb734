/-
  Package tumblerref12: Apply.
-/
import Derived.Test.YthmbgodcpgkkeaaGreatLf
set_option maxRecDepth 100000
namespace Go.Proofs.YthmbgodcpgkkeaaGreat
def rent (c:Cfg)(os:List Out)(who owner:Int)(seq:Nat)(e:Int×Nat)(l:List (Int×Nat))(held:Int)(t:Tp):Tp :=
  if (rdoE os seq e t).need=true then rdoE os seq e t else rapply c os who owner seq l held (rdoE os seq e t)
section
variable {c:Cfg}{os:List Out}{who owner:Int}{seq:Nat}{e:Int×Nat}{l:List (Int×Nat)}{held:Int}{t:Tp}
theorem rapply_out (h:e.1<c.f7∨c.f17≤e.1):rapply c os who owner seq (e::l) held t=rapply c os who owner seq l held t:=by
  rw [rapply,if_pos h]
theorem rapply_in (h:¬ (e.1<c.f7∨c.f17≤e.1))(h2:¬ (0≤rblock c e.1∧rblock c e.1≠held)):rapply c os who owner seq (e::l) held t=rent c os who owner seq e l held t:=by
  rw [rapply,if_neg h,if_neg h2];rfl
theorem rapply_new (h:¬ (e.1<c.f7∨c.f17≤e.1))(h2:0≤rblock c e.1∧rblock c e.1≠held):rapply c os who owner seq (e::l) held t =
    (if (ropen c os owner seq (tdo os t ⟨1,c.at 3 who 0,⟨0,0⟩,⟨(rblock c e.1+1).toNat,0⟩⟩).1).1.need=true∨(ropen c os owner seq (tdo os t ⟨1,c.at 3 who 0,⟨0,0⟩,⟨(rblock c e.1+1).toNat,0⟩⟩).1).2=false then (ropen c os owner seq (tdo os t ⟨1,c.at 3 who 0,⟨0,0⟩,⟨(rblock c e.1+1).toNat,0⟩⟩).1).1
     else rent c os who owner seq e l (rblock c e.1) (ropen c os owner seq (tdo os t ⟨1,c.at 3 who 0,⟨0,0⟩,⟨(rblock c e.1+1).toNat,0⟩⟩).1).1):=by
  rw [rapply,if_neg h,if_pos h2];rfl
end
theorem rblock_le {c:Cfg}{a:Int}(h:a≤1000000):-1≤rblock c a∧(0≤c.f16→rblock c a≤1000000):=by
  unfold rblock;split<;>omega
section
set_option maxHeartbeats 4000000 in
theorem rapply_r {q:HProp}{ov:Value}{os:List Out}(hov:ListR Out.v q ov os)(hos:os.length≤100000){c:Cfg}(hc:Small c)(who owner:Int)(seq:Nat)(list:List (Int×Nat))(lv:Value)(hl:ListR entV q lv list)(hll:list.length≤1000000)(t:Tp)(ht:t.at_≤100000):RTri Tryz.prog 273 #[.agg ⟨c.v⟩, .int .i64 who, .int .i64 owner, .int .u64 (seq:Int),lv, .agg ⟨tpV ov t⟩] [q]
    (.agg ⟨tpV ov (rapply c os who owner seq list (-1) t)⟩):=by
  have hat4:=rat_r c hc 4 owner 0;have hat3:=rat_r c hc 3 who 0;have h7:RTri Tryz.prog 133 #[.agg ⟨c.v⟩, .int .i64 7] [] (.int .i64 c.f7):=rfrom_7 c hc;have hsz:=rsize_r c hc
  have hst:=fun t ht a x=>rst_r hov hos t ht a x
  have hld:=fun t ht a=>rld_r hov hos t ht a
  have hdo:=fun t ht o=>rdo_r hov hos t ht o
  have hop:=fun t ht=>ropen_r hov hos hc owner seq t ht
  have hblk:=fun a ha=>rblock_r hc a ha
  have hf17:c.f17≤1000000∧0≤c.f16:=by
    have hn:=hc.nums.f7;have hn2:=hc.nums.f17;have ht:=hc.ts;have:=hc.t0;have:=hc.b0;have:=hc.b1;have:=hc.limit;have:=hc.t1;obtain ⟨hf7,hf10,hf11,hf12,hf13,hf14,hf15,hf16,hf17,hstr⟩:=c.froms;omega
  obtain ⟨lad,lcap,rfl,hlc,_⟩:=id hl
  refine RTri.of_reads fun p1 hp=>?_
  replace hst:=fun t ht a x=>(hst t ht a x).of_read hp
  replace hld:=fun t ht a=>(hld t ht a).of_read hp
  replace hdo:=fun t ht o=>(hdo t ht o).of_read hp
  replace hop:=fun t ht=>(hop t ht).of_read hp
  replace hl:=hl.weak fun b l h=>RdC.of_sat hp (ReadsC.here h)
  obtain ⟨ad,cap,rfl,_⟩:=hov;unfold Cfg.v at hat4 hat3 h7 hsz hblk hop;unfold Cfg.v;generalize hR:rapply c os who owner seq list (-1) t=R
  refine TB (vs:=[_,_,_,_,_,_]) Tryz.func273 fun w0 F=>?_
  repeat' (first|refine Ga ?_|(refine Gb ?_;intro b)|fail)
  rename_i tb;refine St.loopY (Lr:=?Lr1) (ι:={ x:Nat×Int×Tp // x.1≤list.length∧x.2.2.at_≤100000∧rapply c os who owner seq (list.drop x.1) x.2.1 x.2.2=R }) (fun x=>list.length - x.1.1) (fun x=>[(14, .int .i64 (x.1.1:Int)),(13, .int .i64 x.1.2.1)]) (fun x=>[bl tb 43 (tpV (.slice ad os.length cap) x.1.2.2)]) ⟨(0,-1,t),Nat.zero_le _,ht,hR⟩ ?hE1 ?hL1 ?round1
  case hE1=>exact Sub.go
  case hL1=>exact Takes.go
  case round1 =>
    rintro ⟨⟨k,held,t⟩,hk,ht,hgo⟩ IH;dsimp only at hk ht hgo IH⊢
    by_cases hlt:k<list.length
    · obtain ⟨lb,lo,ll,l1,rfl,hrd,hdr,htk⟩:=hl.at' entV_len k hlt
      rw [List.drop_eq_getElem_cons hlt] at hgo;generalize list[k]=e at htk hgo;obtain ⟨ea,ex⟩:=e;unfold entV at htk;dsimp only at hgo htk;have hn0:NthN (lo+(k:Int).toNat * 2) ll (.int .i64 ea):=NthN.part (j:=0) hdr htk (NthN.of rfl);have hn1:NthN (lo+(k:Int).toNat * 2+1) ll (.int .u64 (ex:Int)):=NthN.part (j:=1) hdr htk (NthN.of rfl)
      by_cases hio:ea<c.f7∨c.f17≤ea
      · rw [rapply_out hio] at hgo
        obtain ⟨ta,⟨ak,oa,⟨ova,osa⟩,⟨nvb,nsb⟩⟩,tn⟩:=t;unfold tpV;dsimp only at hgo⊢
        by_cases hio2:ea<c.f7
        · repeat' (first|refine Ga ?_|refine Gl h7 ?_|(refine Ge ?_ ?_<;>intro h<;>try omega)|fail)
          refine IH ⟨⟨k+1,held,⟨ta,⟨ak,oa,⟨ova,osa⟩,⟨nvb,nsb⟩⟩,tn⟩⟩,hlt,ht,hgo⟩ (by show list.length - (k+1)<list.length - k;omega) ?_ ?_
          · exact Sub.go
          · exact Ent.go
        · repeat' (first|refine Ga ?_|refine Gl h7 ?_|refine Gl hsz ?_|(refine Ge ?_ ?_<;>intro h<;>try omega)|fail)
          refine IH ⟨⟨k+1,held,⟨ta,⟨ak,oa,⟨ova,osa⟩,⟨nvb,nsb⟩⟩,tn⟩⟩,hlt,ht,hgo⟩ (by show list.length - (k+1)<list.length - k;omega) ?_ ?_
          · exact Sub.go
          · exact Ent.go
      have hbl:=hblk ea (by omega);have hble:=rblock_le (c:=c) (a:=ea) (by omega);have hble2:=hble.2 hf17.2;have hble1:=hble.1;clear hble
      by_cases hnew:0≤rblock c ea∧rblock c ea≠held
      · rw [rapply_new hio hnew] at hgo
        dsimp only at hgo;have hs1:=hst t ht (c.at 3 who 0) ⟨(rblock c ea+1).toNat,0⟩;have hx1:=tdo_at hos ht ⟨1,c.at 3 who 0,⟨0,0⟩,⟨(rblock c ea+1).toNat,0⟩⟩;generalize (tdo os t ⟨1,c.at 3 who 0,⟨0,0⟩,⟨(rblock c ea+1).toNat,0⟩⟩).1=t1 at hs1 hx1 hgo;have ho1:=hop t1 hx1;have hx2:=ropen_at hos hx1 c owner seq;generalize ropen c os owner seq t1=y2 at ho1 hx2 hgo;generalize rblock c ea=rb at hs1 hgo hbl hble1 hble2 hnew;obtain ⟨t2,is⟩:=y2;dsimp only at ho1 hx2 hgo;unfold Cell.v at hs1;dsimp only at hs1;rw [show (((rb+1).toNat:Nat):Int)=rb+1 by omega] at hs1
        by_cases hstop:t2.need=true∨is=false
        · rw [if_pos hstop] at hgo
          obtain ⟨ta,⟨ak,oa,⟨ova,osa⟩,⟨nvb,nsb⟩⟩,tn⟩:=t;obtain ⟨ta1,⟨ak1,oa1,⟨ov1a,os1a⟩,⟨nv1b,ns1b⟩⟩,tn1⟩:=t1;obtain ⟨ta2,⟨ak2,oa2,⟨ov2a,os2a⟩,⟨nv2b,ns2b⟩⟩,tn2⟩:=t2;unfold tpV at hs1 ho1;unfold tpV;dsimp only at hs1 ho1 hgo hstop⊢;subst hgo
          cases tn2 with
          | true =>
            repeat' (first|refine Ga ?_|(refine Gb ?_;intro b)|(refine Dr 9 [(0,1),(1,1),(2,0),(3,1),(4,0),(5,0),(6,0),(7,0),(8,1),(9,3)] [9] ?_)|refine Gl h7 ?_|refine Gl hsz ?_|refine Gl hbl ?_|refine Gl hat3 ?_|refine Gl hs1 ?_|refine Gl ho1 ?_|(refine Ge ?_ ?_<;>intro h<;>try omega)|fail)
            all_goals first|(exfalso;omega)|exact St.d1 Tryz.func273 ⟨_,⟨rfl,rfl⟩,Ent.go⟩|skip
          | false =>
            cases is with
            | true=>exact absurd hstop (by decide)
            | false =>
              repeat' (first|refine Ga ?_|(refine Gb ?_;intro b)|(refine Dr 9 [(0,1),(1,1),(2,0),(3,1),(4,0),(5,0),(6,0),(7,0),(8,1),(9,3)] [9] ?_)|refine Gl h7 ?_|refine Gl hsz ?_|refine Gl hbl ?_|refine Gl hat3 ?_|refine Gl hs1 ?_|refine Gl ho1 ?_|(refine Ge ?_ ?_<;>intro h<;>try omega)|fail)
              all_goals first|(exfalso;omega)|exact St.d1 Tryz.func273 ⟨_,⟨rfl,rfl⟩,Ent.go⟩|skip
        · rw [if_neg hstop] at hgo
          have his:is=true:=by cases is with
            | true=>rfl
            | false=>exact absurd (.inr rfl) hstop
          have hnd:t2.need=false:=by cases h:t2.need with
            | true=>exact absurd (.inl h) hstop
            | false=>rfl
          subst his;clear hstop;have hl1:=hld t2 hx2 ea;have hx8:=tdo_at hos hx2 (mop 0 ea 0);unfold rent rdoE at hgo;dsimp only at hgo;generalize tdo os t2 (mop 0 ea 0)=y8 at hl1 hx8 hgo;obtain ⟨t8,⟨⟨wv,ws⟩,wok⟩⟩:=y8;dsimp only at hl1 hx8 hgo
          by_cases hws:ws<seq
          · rw [if_pos hws] at hgo
            have hd1:=hdo t8 hx8 ⟨2,ea,⟨wv,ws⟩,⟨ex,seq⟩⟩;have hx9:=tdo_at hos hx8 ⟨2,ea,⟨wv,ws⟩,⟨ex,seq⟩⟩;generalize tdo os t8 ⟨2,ea,⟨wv,ws⟩,⟨ex,seq⟩⟩=y9 at hd1 hx9 hgo;obtain ⟨t9,⟨⟨qv,qs⟩,qok⟩⟩:=y9;dsimp only at hd1 hx9 hgo;obtain ⟨ta,⟨ak,oa,⟨ova,osa⟩,⟨nvb,nsb⟩⟩,tn⟩:=t;obtain ⟨ta1,⟨ak1,oa1,⟨ov1a,os1a⟩,⟨nv1b,ns1b⟩⟩,tn1⟩:=t1;obtain ⟨ta2,⟨ak2,oa2,⟨ov2a,os2a⟩,⟨nv2b,ns2b⟩⟩,tn2⟩:=t2;dsimp only at hnd;subst hnd;unfold tpV at hs1 ho1 hl1;unfold tpV;dsimp only at hs1 ho1 hl1⊢;obtain ⟨ta8,⟨ak8,oa8,⟨ov8a,os8a⟩,⟨nv8b,ns8b⟩⟩,tn8⟩:=t8;obtain ⟨ta9,⟨ak9,oa9,⟨ov9a,os9a⟩,⟨nv9b,ns9b⟩⟩,tn9⟩:=t9;unfold Cell.v at hl1;unfold tpV MOp.v Out.v at hd1;dsimp only [List.cons_append,List.nil_append] at hl1 hd1 hgo⊢
            cases tn9 with
            | true =>
              rw [if_pos rfl] at hgo;subst hgo
              repeat' (first|refine Ga ?_|(refine Gb ?_;intro b)|(refine Dr 9 [(0,1),(1,1),(2,0),(3,1),(4,0),(5,0),(6,0),(7,0),(8,1),(9,3)] [9] ?_)|(refine Dr 18 [(0,1),(1,0),(2,1),(3,0),(4,0),(5,0),(6,0),(7,1),(8,0),(9,0),(10,0),(11,1),(12,0),(13,0),(14,0),(15,3)] [15] ?_)|refine Gl h7 ?_|refine Gl hsz ?_|refine Gl hbl ?_|refine Gl hat3 ?_|refine Gl hs1 ?_|refine Gl ho1 ?_|refine Gl hl1 ?_|refine Gl hd1 ?_|(refine Ge ?_ ?_<;>intro h<;>try omega)|fail)
              all_goals first|(exfalso;omega)|exact St.d1 Tryz.func273 ⟨_,⟨rfl,rfl⟩,Ent.go⟩|skip
            | false =>
              rw [if_neg Bool.false_ne_true] at hgo
              repeat' (first|refine Ga ?_|(refine Gb ?_;intro b)|(refine Dr 9 [(0,1),(1,1),(2,0),(3,1),(4,0),(5,0),(6,0),(7,0),(8,1),(9,3)] [9] ?_)|(refine Dr 18 [(0,1),(1,0),(2,1),(3,0),(4,0),(5,0),(6,0),(7,1),(8,0),(9,0),(10,0),(11,1),(12,0),(13,0),(14,0),(15,3)] [15] ?_)|refine Gl h7 ?_|refine Gl hsz ?_|refine Gl hbl ?_|refine Gl hat3 ?_|refine Gl hs1 ?_|refine Gl ho1 ?_|refine Gl hl1 ?_|refine Gl hd1 ?_|(refine Ge ?_ ?_<;>intro h<;>try omega)|fail)
              refine IH ⟨⟨k+1,rb,⟨ta9,⟨ak9,oa9,⟨ov9a,os9a⟩,⟨nv9b,ns9b⟩⟩,false⟩⟩,hlt,hx9,hgo⟩ (by show list.length - (k+1)<list.length - k;omega) ?_ ?_
              · exact Sub.go
              · exact Ent.go
          · rw [if_neg hws] at hgo
            obtain ⟨ta,⟨ak,oa,⟨ova,osa⟩,⟨nvb,nsb⟩⟩,tn⟩:=t;obtain ⟨ta1,⟨ak1,oa1,⟨ov1a,os1a⟩,⟨nv1b,ns1b⟩⟩,tn1⟩:=t1;obtain ⟨ta2,⟨ak2,oa2,⟨ov2a,os2a⟩,⟨nv2b,ns2b⟩⟩,tn2⟩:=t2;dsimp only at hnd;subst hnd;unfold tpV at hs1 ho1 hl1;unfold tpV;dsimp only at hs1 ho1 hl1⊢;obtain ⟨ta8,⟨ak8,oa8,⟨ov8a,os8a⟩,⟨nv8b,ns8b⟩⟩,tn8⟩:=t8;unfold Cell.v at hl1;dsimp only [List.cons_append,List.nil_append] at hl1 hgo⊢
            cases tn8 with
            | true =>
              rw [if_pos rfl] at hgo;subst hgo
              repeat' (first|refine Ga ?_|(refine Gb ?_;intro b)|(refine Dr 9 [(0,1),(1,1),(2,0),(3,1),(4,0),(5,0),(6,0),(7,0),(8,1),(9,3)] [9] ?_)|refine Gl h7 ?_|refine Gl hsz ?_|refine Gl hbl ?_|refine Gl hat3 ?_|refine Gl hs1 ?_|refine Gl ho1 ?_|refine Gl hl1 ?_|(refine Ge ?_ ?_<;>intro h<;>try omega)|fail)
              all_goals first|(exfalso;omega)|exact St.d1 Tryz.func273 ⟨_,⟨rfl,rfl⟩,Ent.go⟩|skip
            | false =>
              rw [if_neg Bool.false_ne_true] at hgo
              repeat' (first|refine Ga ?_|(refine Gb ?_;intro b)|(refine Dr 9 [(0,1),(1,1),(2,0),(3,1),(4,0),(5,0),(6,0),(7,0),(8,1),(9,3)] [9] ?_)|refine Gl h7 ?_|refine Gl hsz ?_|refine Gl hbl ?_|refine Gl hat3 ?_|refine Gl hs1 ?_|refine Gl ho1 ?_|refine Gl hl1 ?_|(refine Ge ?_ ?_<;>intro h<;>try omega)|fail)
              refine IH ⟨⟨k+1,rb,⟨ta8,⟨ak8,oa8,⟨ov8a,os8a⟩,⟨nv8b,ns8b⟩⟩,false⟩⟩,hlt,hx8,hgo⟩ (by show list.length - (k+1)<list.length - k;omega) ?_ ?_
              · exact Sub.go
              · exact Ent.go
      · rw [rapply_in hio hnew] at hgo
        have hxz:=ht;generalize rblock c ea=rb at hbl hble1 hble2 hnew
        by_cases hb0:0≤rb
        · have hbh:rb=held:=by omega
          have hl1:=hld t hxz ea;have hx8:=tdo_at hos hxz (mop 0 ea 0);unfold rent rdoE at hgo;dsimp only at hgo;generalize tdo os t (mop 0 ea 0)=y8 at hl1 hx8 hgo;obtain ⟨t8,⟨⟨wv,ws⟩,wok⟩⟩:=y8;dsimp only at hl1 hx8 hgo
          by_cases hws:ws<seq
          · rw [if_pos hws] at hgo
            have hd1:=hdo t8 hx8 ⟨2,ea,⟨wv,ws⟩,⟨ex,seq⟩⟩;have hx9:=tdo_at hos hx8 ⟨2,ea,⟨wv,ws⟩,⟨ex,seq⟩⟩;generalize tdo os t8 ⟨2,ea,⟨wv,ws⟩,⟨ex,seq⟩⟩=y9 at hd1 hx9 hgo;obtain ⟨t9,⟨⟨qv,qs⟩,qok⟩⟩:=y9;dsimp only at hd1 hx9 hgo;obtain ⟨ta,⟨ak,oa,⟨ova,osa⟩,⟨nvb,nsb⟩⟩,tn⟩:=t;unfold tpV at hl1;unfold tpV;dsimp only at hl1⊢;obtain ⟨ta8,⟨ak8,oa8,⟨ov8a,os8a⟩,⟨nv8b,ns8b⟩⟩,tn8⟩:=t8;obtain ⟨ta9,⟨ak9,oa9,⟨ov9a,os9a⟩,⟨nv9b,ns9b⟩⟩,tn9⟩:=t9;unfold Cell.v at hl1;unfold tpV MOp.v Out.v at hd1;dsimp only [List.cons_append,List.nil_append] at hl1 hd1 hgo⊢
            cases tn9 with
            | true =>
              rw [if_pos rfl] at hgo;subst hgo
              repeat' (first|refine Ga ?_|(refine Gb ?_;intro b)|(refine Dr 18 [(0,1),(1,0),(2,1),(3,0),(4,0),(5,0),(6,0),(7,1),(8,0),(9,0),(10,0),(11,1),(12,0),(13,0),(14,0),(15,3)] [15] ?_)|refine Gl h7 ?_|refine Gl hsz ?_|refine Gl hbl ?_|refine Gl hl1 ?_|refine Gl hd1 ?_|(refine Ge ?_ ?_<;>intro h<;>try omega)|fail)
              all_goals first|(exfalso;omega)|exact St.d1 Tryz.func273 ⟨_,⟨rfl,rfl⟩,Ent.go⟩|skip
            | false =>
              rw [if_neg Bool.false_ne_true] at hgo
              repeat' (first|refine Ga ?_|(refine Gb ?_;intro b)|(refine Dr 18 [(0,1),(1,0),(2,1),(3,0),(4,0),(5,0),(6,0),(7,1),(8,0),(9,0),(10,0),(11,1),(12,0),(13,0),(14,0),(15,3)] [15] ?_)|refine Gl h7 ?_|refine Gl hsz ?_|refine Gl hbl ?_|refine Gl hl1 ?_|refine Gl hd1 ?_|(refine Ge ?_ ?_<;>intro h<;>try omega)|fail)
              refine IH ⟨⟨k+1,held,⟨ta9,⟨ak9,oa9,⟨ov9a,os9a⟩,⟨nv9b,ns9b⟩⟩,false⟩⟩,hlt,hx9,hgo⟩ (by show list.length - (k+1)<list.length - k;omega) ?_ ?_
              · exact Sub.go
              · exact Ent.go
          · rw [if_neg hws] at hgo
            obtain ⟨ta,⟨ak,oa,⟨ova,osa⟩,⟨nvb,nsb⟩⟩,tn⟩:=t;unfold tpV at hl1;unfold tpV;dsimp only at hl1⊢;obtain ⟨ta8,⟨ak8,oa8,⟨ov8a,os8a⟩,⟨nv8b,ns8b⟩⟩,tn8⟩:=t8;unfold Cell.v at hl1;dsimp only [List.cons_append,List.nil_append] at hl1 hgo⊢
            cases tn8 with
            | true =>
              rw [if_pos rfl] at hgo;subst hgo
              repeat' (first|refine Ga ?_|(refine Gb ?_;intro b)|refine Gl h7 ?_|refine Gl hsz ?_|refine Gl hbl ?_|refine Gl hl1 ?_|(refine Ge ?_ ?_<;>intro h<;>try omega)|fail)
              all_goals first|(exfalso;omega)|exact St.d1 Tryz.func273 ⟨_,⟨rfl,rfl⟩,Ent.go⟩|skip
            | false =>
              rw [if_neg Bool.false_ne_true] at hgo
              repeat' (first|refine Ga ?_|(refine Gb ?_;intro b)|refine Gl h7 ?_|refine Gl hsz ?_|refine Gl hbl ?_|refine Gl hl1 ?_|(refine Ge ?_ ?_<;>intro h<;>try omega)|fail)
              refine IH ⟨⟨k+1,held,⟨ta8,⟨ak8,oa8,⟨ov8a,os8a⟩,⟨nv8b,ns8b⟩⟩,false⟩⟩,hlt,hx8,hgo⟩ (by show list.length - (k+1)<list.length - k;omega) ?_ ?_
              · exact Sub.go
              · exact Ent.go
        · skip
          have hl1:=hld t hxz ea;have hx8:=tdo_at hos hxz (mop 0 ea 0);unfold rent rdoE at hgo;dsimp only at hgo;generalize tdo os t (mop 0 ea 0)=y8 at hl1 hx8 hgo;obtain ⟨t8,⟨⟨wv,ws⟩,wok⟩⟩:=y8;dsimp only at hl1 hx8 hgo
          by_cases hws:ws<seq
          · rw [if_pos hws] at hgo
            have hd1:=hdo t8 hx8 ⟨2,ea,⟨wv,ws⟩,⟨ex,seq⟩⟩;have hx9:=tdo_at hos hx8 ⟨2,ea,⟨wv,ws⟩,⟨ex,seq⟩⟩;generalize tdo os t8 ⟨2,ea,⟨wv,ws⟩,⟨ex,seq⟩⟩=y9 at hd1 hx9 hgo;obtain ⟨t9,⟨⟨qv,qs⟩,qok⟩⟩:=y9;dsimp only at hd1 hx9 hgo;obtain ⟨ta,⟨ak,oa,⟨ova,osa⟩,⟨nvb,nsb⟩⟩,tn⟩:=t;unfold tpV at hl1;unfold tpV;dsimp only at hl1⊢;obtain ⟨ta8,⟨ak8,oa8,⟨ov8a,os8a⟩,⟨nv8b,ns8b⟩⟩,tn8⟩:=t8;obtain ⟨ta9,⟨ak9,oa9,⟨ov9a,os9a⟩,⟨nv9b,ns9b⟩⟩,tn9⟩:=t9;unfold Cell.v at hl1;unfold tpV MOp.v Out.v at hd1;dsimp only [List.cons_append,List.nil_append] at hl1 hd1 hgo⊢
            cases tn9 with
            | true =>
              rw [if_pos rfl] at hgo;subst hgo
              repeat' (first|refine Ga ?_|(refine Gb ?_;intro b)|(refine Dr 18 [(0,1),(1,0),(2,1),(3,0),(4,0),(5,0),(6,0),(7,1),(8,0),(9,0),(10,0),(11,1),(12,0),(13,0),(14,0),(15,3)] [15] ?_)|refine Gl h7 ?_|refine Gl hsz ?_|refine Gl hbl ?_|refine Gl hl1 ?_|refine Gl hd1 ?_|(refine Ge ?_ ?_<;>intro h<;>try omega)|fail)
              all_goals first|(exfalso;omega)|exact St.d1 Tryz.func273 ⟨_,⟨rfl,rfl⟩,Ent.go⟩|skip
            | false =>
              rw [if_neg Bool.false_ne_true] at hgo
              repeat' (first|refine Ga ?_|(refine Gb ?_;intro b)|(refine Dr 18 [(0,1),(1,0),(2,1),(3,0),(4,0),(5,0),(6,0),(7,1),(8,0),(9,0),(10,0),(11,1),(12,0),(13,0),(14,0),(15,3)] [15] ?_)|refine Gl h7 ?_|refine Gl hsz ?_|refine Gl hbl ?_|refine Gl hl1 ?_|refine Gl hd1 ?_|(refine Ge ?_ ?_<;>intro h<;>try omega)|fail)
              refine IH ⟨⟨k+1,held,⟨ta9,⟨ak9,oa9,⟨ov9a,os9a⟩,⟨nv9b,ns9b⟩⟩,false⟩⟩,hlt,hx9,hgo⟩ (by show list.length - (k+1)<list.length - k;omega) ?_ ?_
              · exact Sub.go
              · exact Ent.go
          · rw [if_neg hws] at hgo
            obtain ⟨ta,⟨ak,oa,⟨ova,osa⟩,⟨nvb,nsb⟩⟩,tn⟩:=t;unfold tpV at hl1;unfold tpV;dsimp only at hl1⊢;obtain ⟨ta8,⟨ak8,oa8,⟨ov8a,os8a⟩,⟨nv8b,ns8b⟩⟩,tn8⟩:=t8;unfold Cell.v at hl1;dsimp only [List.cons_append,List.nil_append] at hl1 hgo⊢
            cases tn8 with
            | true =>
              rw [if_pos rfl] at hgo;subst hgo
              repeat' (first|refine Ga ?_|(refine Gb ?_;intro b)|refine Gl h7 ?_|refine Gl hsz ?_|refine Gl hbl ?_|refine Gl hl1 ?_|(refine Ge ?_ ?_<;>intro h<;>try omega)|fail)
              all_goals first|(exfalso;omega)|exact St.d1 Tryz.func273 ⟨_,⟨rfl,rfl⟩,Ent.go⟩|skip
            | false =>
              rw [if_neg Bool.false_ne_true] at hgo
              repeat' (first|refine Ga ?_|(refine Gb ?_;intro b)|refine Gl h7 ?_|refine Gl hsz ?_|refine Gl hbl ?_|refine Gl hl1 ?_|(refine Ge ?_ ?_<;>intro h<;>try omega)|fail)
              refine IH ⟨⟨k+1,held,⟨ta8,⟨ak8,oa8,⟨ov8a,os8a⟩,⟨nv8b,ns8b⟩⟩,false⟩⟩,hlt,hx8,hgo⟩ (by show list.length - (k+1)<list.length - k;omega) ?_ ?_
              · exact Sub.go
              · exact Ent.go
    · rw [show k=list.length by omega,List.drop_length] at hgo
      unfold rapply at hgo;have hd1:=hdo t ht ⟨2,c.at 4 owner 0,⟨1,seq⟩,⟨0,seq⟩⟩;generalize tdo os t ⟨2,c.at 4 owner 0,⟨1,seq⟩,⟨0,seq⟩⟩=y at hd1 hgo;obtain ⟨t1,⟨⟨qv,qs⟩,qok⟩⟩:=y;dsimp only at hgo;subst hgo;obtain ⟨ta,⟨ak,oa,⟨ova,osa⟩,⟨nvb,nsb⟩⟩,tn⟩:=t;obtain ⟨ta1,⟨ak1,oa1,⟨ov1a,os1a⟩,⟨nv1b,ns1b⟩⟩,tn1⟩:=t1;unfold tpV MOp.v Out.v at hd1;unfold tpV;dsimp only [List.cons_append,List.nil_append] at hd1⊢
      repeat' (first|refine Ga ?_|(refine Dr 21 [(0,1),(1,1),(2,0),(3,1),(4,0),(5,0),(6,0),(7,0),(8,0),(9,1),(10,0),(11,0),(12,0),(13,3)] [13] ?_)|refine Gl hat4 ?_|refine Gl hd1 ?_|(refine Ge ?_ ?_<;>intro h<;>try omega)|fail)
      all_goals first|(exfalso;omega)|exact St.d1 Tryz.func273 ⟨_,⟨rfl,rfl⟩,Ent.go⟩|skip
end
end Go.Proofs.YthmbgodcpgkkeaaGreat
