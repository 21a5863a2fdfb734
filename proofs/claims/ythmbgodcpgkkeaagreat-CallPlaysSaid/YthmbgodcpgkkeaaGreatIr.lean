/-
  Package tumblerref15: try. What each step of a tape keeps, the functions of the document's that go on with it keep. A program of the document's comes to an end, is stale, or asks for something.
-/
import Derived.Test.YthmbgodcpgkkeaaGreatOe
import Derived.Test.YthmbgodcpgkkeaaGreatLf
import Derived.Test.YthmbgodcpgkkeaaGreatHf
import Derived.Test.YthmbgodcpgkkeaaGreatId
set_option maxRecDepth 100000
namespace Go.Proofs.YthmbgodcpgkkeaaGreat
def RowsQ (q:HProp)(rows:List BRow)(ra:Option Addr)(rc:Nat)(rl:List RowH):Prop :=
 rl.map (·.1)=rows∧ListR rowV q (.slice ra rl.length rc) rl∧∀ x∈rl,ListR u1V q (.slice x.2.1 x.1.news.length x.2.2) x.1.news
theorem RowsQ.gr {q q':HProp}{rows:List BRow}{ra:Option Addr}{rc:Nat}{rl:List RowH}(h:RowsQ q rows ra rc rl)(g:Gr q q'):RowsQ q' rows ra rc rl:=⟨h.1,h.2.1.gr g,fun x hx=>(h.2.2 x hx).gr g⟩
theorem RowsQ.nil (q:HProp):RowsQ q [] none 0 []:=⟨rfl,⟨none,0,rfl,Nat.le_refl _, .inl rfl⟩,fun _ h=>by cases h⟩
section
variable {c:Cfg}{os:List Out}{p:Cp}{progs:Progs}{s:Rs}{t:Tp}
theorem ends_rows (s:Rs)(e:Int)(v:Nat)(t:Tp):(s.ends e v t).rows=s.rows:=by
 unfold Rs.ends;split<;>rfl
theorem rlook_rows (c:Cfg)(os:List Out)(p:Cp)(progs:Progs)(s:Rs)(t:Tp):(rlook c os p progs s t).2.1.rows=s.rows:=by
 unfold rlook rlook1;split
 ·rfl
 split
 ·exact ends_rows _ _ _ _
 ·unfold rlook2;rfl
theorem rreads_rows (c:Cfg)(os:List Out)(p:Cp)(progs:Progs)(s:Rs)(seq:Nat)(t:Tp):(rreads c os p progs s seq t).2.1.rows=s.rows:=by
 unfold rreads rreads1;split
 ·exact ends_rows _ _ _ _
 ·rfl
theorem ranswer_rows (c:Cfg)(os:List Out)(p:Cp)(progs:Progs)(s:Rs)(seq:Nat)(t:Tp):(ranswer c os p progs s seq t).2.rows=s.rows:=by
 unfold ranswer ranswer1;split
 ·rfl
 split
 ·exact ends_rows _ _ _ _
 split
 ·exact rreads_rows _ _ _ _ _ _ _
 split
 ·exact ends_rows _ _ _ _
 ·rfl
end
theorem own15_n {q:HProp}{ra:Option Addr}{rn rc:Nat}{rl:List RowH}{rows:List BRow}{who:Int}(hx:ListR rowV q (.slice ra rn rc) rl)(hn:rl.length≤1000000)(hr:rl.map (·.1)=rows)(ho:rown rows who=none):RTri Tryz.prog 219 #[.slice ra rn rc, .int .i64 who] [q] (.tuple ⟨[.agg ⟨[.int .i64 0, .int .u64 0, .int .i64 0, .int .u64 0, .slice none 0 0]⟩, .bool false]⟩):=by
 have h:=own15_r hx hn who;rw [← hr,rown_find] at ho
 cases e:rl.find? (fun x=>x.1.who == who) with
 | none=>rw [e] at h;exact h
 | some x=>rw [e] at ho;cases ho
theorem own15_s {q:HProp}{ra:Option Addr}{rn rc:Nat}{rl:List RowH}{rows:List BRow}{who:Int}{row:BRow}(hx:ListR rowV q (.slice ra rn rc) rl)(hn:rl.length≤1000000)(hr:rl.map (·.1)=rows)(ho:rown rows who=some row):∃ xa xn xc,RTri Tryz.prog 219 #[.slice ra rn rc, .int .i64 who] [q] (.tuple ⟨[.agg ⟨[.int .i64 row.who, .int .u64 (row.tag:Int), .int .i64 row.rc, .int .u64 (row.rv:Int), .slice xa xn xc]⟩, .bool true]⟩):=by
 have h:=own15_r hx hn who;rw [← hr,rown_find] at ho
 cases e:rl.find? (fun x=>x.1.who == who) with
 | none=>rw [e] at ho;cases ho
 | some x =>
  rw [e] at h ho
  injection ho with ho
  subst ho;exact ⟨_,_,_,h⟩
section
set_option maxHeartbeats 8000000 in
theorem try15_t {q:HProp}{ov:Value}{os:List Out}(hov:ListR Out.v q ov os)(hos:os.length≤100000)(hosv:∀ o∈os,o.was.val<18446744073709551616)(hoss:∀ o∈os,o.was.seq<18446744073709551616){c:Cfg}(hc:Small c)(hf0:0≤c.fuel)(hfu:c.fuel≤1000)(hlast:c.last≤140737488355328){pv:Value}{progs:Progs}(hpr:ProgsR q pv progs)(hpi:∀ p∈progs,∀ i∈p,i.imm<18446744073709551616)(hpl:∀ p∈progs,p.length≤1000000)(p:Cp)(h4:p.args.length=4)(hav:∀ a∈p.args,a<18446744073709551616)(hw:0≤p.who∧p.who≤1000)(t:Tp)(ht:t.at_≤100000)(s:Rs)(ra:Option Addr)(rc:Nat)(rl0:List RowH)(hrq:RowsQ q s.rows ra rc rl0)(now:Cell) :
  Tri Tryz.prog 155 #[.agg ⟨cpV c p pv⟩, .agg ⟨rsV ov t s (.slice ra rl0.length rc)⟩, .agg ⟨now.v⟩] [q]
   fun r L=>∃ q' ra' rc' rl,Gr q q'∧RowsQ q' (rtry c os p progs s now t).2.rows ra' rc' rl∧r=.agg ⟨rsV ov (rtry c os p progs s now t).1 (rtry c os p progs s now t).2 (.slice ra' rl.length rc')⟩∧L=[q']:=by
 have ht1:=hc.t1;have ht0:=hc.t0;have hans:=answer15_t hov hos hosv hc hf0 hfu hpr hpi hpl p h4 hav t ht s ra rl0.length rc now.seq;have hx2:=ranswer_at (c:=c) hos ht p progs s now.seq;have hr2:=ranswer_rows c os p progs s now.seq t;generalize hX:rtry c os p progs s now t=X;unfold rtry at hX;generalize ranswer c os p progs s now.seq t=Y at hans hx2 hr2 hX;obtain ⟨t2,s2⟩:=Y;dsimp only at hans hx2 hr2 hX;rw [← hr2] at hrq
 have hmk:=fun (q1:HProp) (h1:Gr q q1)=>rmake_t (hov.gr h1) hos hosv hoss hc hf0 hfu p.who now.seq (hpr.gr h1) hpi t2 hx2
 have hkq:=kq_rmake hc os p.who now.seq progs t2;have hx3:=rmake_tat (c:=c) hos hx2 p.who now.seq progs;have hnum:=rmake_num (progs:=progs) hc hos hosv hoss hf0 hfu hpi p.who now.seq hx2;unfold rtry1 at hX;generalize rmake c os p.who now.seq progs t2=Z at hmk hkq hx3 hnum hX;obtain ⟨t3,⟨P3,rows3,st3⟩⟩:=Z;unfold rtry2 at hX;unfold MakeQ at hmk;dsimp only at hmk hkq hx3 hnum hX;obtain ⟨hlen3,hrow3⟩:=hnum
 have hel3:(entriesOf c P3).length≤1000000:=by
  have h1:(entriesOf c P3).length≤(allP P3).length:=List.length_filter_le _ _;have h2:=allP_le P3;omega
 have hx4:=rwrite_at (c:=c) hos hx3 p.who (now.seq+1) (entriesOf c P3)
 have hwr:=fun (q4:HProp) (h4:Gr q q4) lv (hl:ListR entV q4 lv (entriesOf c P3))=>rwrite_r (hov.gr h4) hos hc p.who (now.seq+1) (entriesOf c P3) lv hl hel3 t3 hx3
 generalize rwrite c os p.who (now.seq+1) (entriesOf c P3) t3=t4 at hx4 hwr hX
 have hdo:=fun (q4:HProp) (h4:Gr q q4)=>rdo_r (hov.gr h4) hos t4 hx4 ⟨2,c.at 0 0 0,now,⟨p.who.toNat,now.seq+1⟩⟩
 have hx5:=tdo_at hos hx4 ⟨2,c.at 0 0 0,now,⟨p.who.toNat,now.seq+1⟩⟩;rw [Cfg.at0 hc] at hX hdo hx5;generalize tdo os t4 ⟨2,0,now,⟨p.who.toNat,now.seq+1⟩⟩=y5 at hdo hx5 hX;obtain ⟨t5,⟨⟨wv5,ws5⟩,ok5⟩⟩:=y5;unfold rtry3 at hX;dsimp only at hdo hx5 hX
 have hap:=fun (q4:HProp) (h4:Gr q q4) pad pn pcp lv (hl:ListR entV q4 lv (entriesOf c P3))=>apply15_r (hov.gr h4) hos hc pad pn pcp p (now.seq+1) (entriesOf c P3) lv hl hel3 t5 hx5
 generalize rapply c os p.who p.who (now.seq+1) (entriesOf c P3) (-1) t5=t6 at hap hX;obtain ⟨adt,capt,rfl,_⟩:=id hov;obtain ⟨pad,pcp,rfl,_⟩:=id hpr;obtain ⟨who,tag,prog,args⟩:=p;obtain ⟨nv,ns⟩:=now;obtain ⟨ta,⟨ak,oa,⟨ova,osa⟩,⟨nvb,nsb⟩⟩,tn⟩:=t;obtain ⟨ta2,⟨ak2,oa2,⟨ov2a,os2a⟩,⟨nv2b,ns2b⟩⟩,tn2⟩:=t2;obtain ⟨ta3,⟨ak3,oa3,⟨ov3a,os3a⟩,⟨nv3b,ns3b⟩⟩,tn3⟩:=t3;obtain ⟨ta4,⟨ak4,oa4,⟨ov4a,os4a⟩,⟨nv4b,ns4b⟩⟩,tn4⟩:=t4;obtain ⟨ta5,⟨ak5,oa5,⟨ov5a,os5a⟩,⟨nv5b,ns5b⟩⟩,tn5⟩:=t5;obtain ⟨ta6,⟨ak6,oa6,⟨ov6a,os6a⟩,⟨nv6b,ns6b⟩⟩,tn6⟩:=t6;obtain ⟨al,dn,er,vl,lk,sw,rws⟩:=s;obtain ⟨al2,dn2,er2,vl2,lk2,sw2,rws2⟩:=s2;dsimp only at h4 hw hx2 hx3 hx4 hx5 hX hr2 hrq hans hmk hwr hdo hap;have hwho:((who.toNat:Nat):Int)=who:=Int.toNat_of_nonneg hw.1
 have hns1:((ns+1:Nat):Int)=(ns:Int)+1:=by omega
 unfold cpV rsV tpV Cfg.v g4 at hans;unfold tpV Cfg.v at hmk;unfold tpV Cfg.v at hwr;unfold tpV MOp.v Out.v at hdo;unfold cpV tpV Cfg.v g4 at hap;rw [hns1] at hwr hap;rw [hns1,hwho] at hdo;unfold cpV rsV tpV Cfg.v Cell.v g4;dsimp only [List.cons_append,List.nil_append] at hans hmk hwr hdo hap⊢
 refine TB (vs:=[_,_,_]) Tryz.func155 fun w0 F=>?_
 repeat' (first|refine St.halt 2 ?_|refine Ga ?_|(refine Gb ?_;intro b)|(refine Gt hans ?_;rintro _ _ ⟨q1,hg1,rfl,rfl⟩)|fail)
 refine Halt.go ?_
 by_cases hstop:dn2=true∨tn2=true∨c.last≤ns
 ·rw [if_pos hstop] at hX
  subst hX;dsimp only
  cases dn2 with
  | true =>
   repeat' (first|refine Ga ?_|fail)
   exact St.d1 Tryz.func155 ⟨_,⟨q1,ra,rc,rl0,hg1,hrq.gr hg1,rfl,rfl⟩,Ent.go⟩
  | false =>
   cases tn2 with
   | true =>
    repeat' (first|refine Ga ?_|fail)
    exact St.d1 Tryz.func155 ⟨_,⟨q1,ra,rc,rl0,hg1,hrq.gr hg1,rfl,rfl⟩,Ent.go⟩
   | false =>
    have hl:c.last≤ns:=(hstop.resolve_left Bool.false_ne_true).resolve_left Bool.false_ne_true
    repeat' (first|refine Ga ?_|(refine Ge ?_ ?_<;>intro h<;>try omega)|fail)
    exact St.d1 Tryz.func155 ⟨_,⟨q1,ra,rc,rl0,hg1,hrq.gr hg1,rfl,rfl⟩,Ent.go⟩
 ·rw [if_neg hstop] at hX
  have hd2:dn2=false:=by
   cases dn2 with
   | true=>exact absurd (.inl rfl) hstop
   | false=>rfl
  have hn2:tn2=false:=by
   cases tn2 with
   | true=>exact absurd (.inr (.inl rfl)) hstop
   | false=>rfl
  have hl:¬ c.last≤ns:=fun e=>hstop (.inr (.inr e))
  subst hd2 hn2;clear hstop;replace hmk:=hmk q1 hg1
  repeat' (first|refine St.halt 6 ?_|refine Ga ?_|(refine Gb ?_;intro b)|(refine Gt hmk ?_;rintro _ _ ⟨q3,sa,sc,ra3,rc3,room,rl,hg3,hP,hrl,hnw,hR,rfl,rfl⟩)|(refine Ge ?_ ?_<;>intro h<;>try omega)|fail)
  refine Halt.go ?_;have hg13:=hg1.trans hg3
  have hrll:rl.length≤1000000:=by rw [← hrl,List.length_map] at hrow3;omega
  cases hro:rown rows3 who with
  | none =>
   rw [hro] at hX;dsimp only at hX;subst hX;dsimp only;have hown:=own15_n hR hrll hrl hro
   repeat' (first|refine Ga ?_|(refine Gb ?_;intro b)|refine Gl hown ?_|(refine Ge ?_ ?_<;>intro h<;>try omega)|fail)
   all_goals exact St.d1 Tryz.func155 ⟨_,⟨q3,ra,rc,rl0,hg13,hrq.gr hg13,rfl,rfl⟩,Ent.go⟩
  | some row =>
   rw [hro] at hX;dsimp only at hX;obtain ⟨xa,xn,xc,hown⟩:=own15_s hR hrll hrl hro
   by_cases h1:st3=1
   ·rw [if_neg (fun e=>e h1)] at hX
    subst h1;have hen:=rentries_z hc hP (by omega) hkq.all room;unfold Cfg.v at hen
    repeat' (first|refine St.halt 10 ?_|refine Ga ?_|(refine Gb ?_;intro b)|refine Gl hown ?_|(refine Gt hen ?_;rintro _ _ ⟨R5,lad,lcp,hR5,rfl,rfl⟩)|fail)
    refine Halt.go ?_;refine St.conv ?_ (Sub.refl _) (Ent.trans (Ent.of_take (p:=q3) Take.go) (Ent.trans (Ent.cons (Ent.of_take (p:=R5) Take.go)) (Ent.star_in [q3,R5])));have hgs:Gr q (star [q3,R5]):=hg13.trans (Gr.star R5 q3)
    have hls:ListR entV (star [q3,R5]) (.slice lad (entriesOf c P3).length lcp) (entriesOf c P3):=hR5.weak fun b l h=>RdC.star (L:=[q3,R5]) (List.mem_cons_of_mem _ (List.mem_cons_self ..)) h
    have hRs:RowsQ (star [q3,R5]) rows3 ra3 rc3 rl:=RowsQ.gr ⟨hrl,hR,hnw⟩ (Gr.star R5 q3);generalize star [q3,R5]=q4 at hgs hls hRs⊢;replace hwr:=hwr q4 hgs _ hls;replace hdo:=hdo q4 hgs;replace hap:=hap q4 hgs pad progs.length pcp _ hls
    cases tn5 with
    | true =>
     rw [if_pos (.inl rfl)] at hX;subst hX;dsimp only
     repeat' (first|refine Ga ?_|(refine Gb ?_;intro b)|refine Gl hwr ?_|refine Gl hdo ?_|fail)
     all_goals exact St.d1 Tryz.func155 ⟨_,⟨q4,ra,rc,rl0,hgs,hrq.gr hgs,rfl,rfl⟩,Ent.go⟩
    | false =>
     cases ok5 with
     | false =>
      rw [if_pos (.inr rfl)] at hX;subst hX;dsimp only
      repeat' (first|refine Ga ?_|(refine Gb ?_;intro b)|refine Gl hwr ?_|refine Gl hdo ?_|fail)
      all_goals exact St.d1 Tryz.func155 ⟨_,⟨q4,ra,rc,rl0,hgs,hrq.gr hgs,rfl,rfl⟩,Ent.go⟩
     | true =>
      rw [if_neg (fun e=>e.elim Bool.false_ne_true (fun e=>Bool.noConfusion e))] at hX;have hre:=ends_rows ⟨al2,false,er2,vl2,lk2,(ta5:Int) - 1,rows3⟩ row.rc row.rv ⟨ta6,⟨ak6,oa6,⟨ov6a,os6a⟩,⟨nv6b,ns6b⟩⟩,tn6⟩;have hend:=end15_r adt os.length capt ⟨ta6,⟨ak6,oa6,⟨ov6a,os6a⟩,⟨nv6b,ns6b⟩⟩,tn6⟩ ⟨al2,false,er2,vl2,lk2,(ta5:Int) - 1,rows3⟩ ra3 rl.length rc3 row.rc row.rv;generalize Rs.ends ⟨al2,false,er2,vl2,lk2,(ta5:Int) - 1,rows3⟩ row.rc row.rv ⟨ta6,⟨ak6,oa6,⟨ov6a,os6a⟩,⟨nv6b,ns6b⟩⟩,tn6⟩=s9 at hre hend hX;subst hX;obtain ⟨al9,dn9,er9,vl9,lk9,sw9,rws9⟩:=s9;dsimp only at hre;subst hre;unfold rsV tpV at hend;dsimp only [List.cons_append,List.nil_append] at hend⊢
      repeat' (first|refine Ga ?_|(refine Gb ?_;intro b)|refine Gl hwr ?_|refine Gl hdo ?_|refine Gl hap ?_|refine Gl hend ?_|fail)
      all_goals exact St.d1 Tryz.func155 ⟨_,⟨q4,ra3,rc3,rl,hgs,hRs,rfl,rfl⟩,Ent.go⟩
   ·rw [if_pos h1] at hX
    subst hX;dsimp only
    repeat' (first|refine Ga ?_|(refine Gb ?_;intro b)|refine Gl hown ?_|(refine Ge ?_ ?_<;>intro h<;>try omega)|fail)
    all_goals exact St.d1 Tryz.func155 ⟨_,⟨q3,ra,rc,rl0,hg13,hrq.gr hg13,rfl,rfl⟩,Ent.go⟩
end
theorem tdo_g {os:List Out}{G:Tp→Prop}(hG:∀ t o,G t→G (tdo os t o).1){t:Tp}(ht:G t)(o:MOp):G (tdo os t o).1:=hG t o ht
theorem rload_g {os:List Out}{G:Tp→Prop}(hG:∀ t o,G t→G (tdo os t o).1){t:Tp}(ht:G t)(v:Rv)(a:Int):G (rload os v a t).1:=by
 have h:=tdo_g hG ht (mop 0 a 0);unfold rload;split
 ·exact h
 split<;>exact h
theorem rlive_g {os:List Out}{G:Tp→Prop}(hG:∀ t o,G t→G (tdo os t o).1){t:Tp}(ht:G t)(c:Cfg)(v:Rv)(b:Int):G (rlive c os v b t).1:=by
 unfold rlive;split
 ·exact ht
 split
 ·exact ht
 split
 ·exact ht
 split
 ·exact tdo_g hG ht _
 ·exact rload_g hG (tdo_g hG ht _) _ _
theorem rcell_g {os:List Out}{G:Tp→Prop}(hG:∀ t o,G t→G (tdo os t o).1){t:Tp}(ht:G t)(c:Cfg)(v:Rv)(a:Int):G (rcell c os v a t).1:=by
 unfold rcell;split
 ·exact ht
 split
 ·exact ht
 ·exact rload_g hG ht _ _
theorem rcell_g2 {os:List Out}{G:Tp→Prop}(hG:∀ t o,G t→G (tdo os t o).1){t:Tp}(ht:G t)(c:Cfg)(v:Rv)(a:Int):G (rcell c os v a t).1:=by
 unfold rcell;split
 ·exact ht
 split
 ·exact ht
 ·exact rload_g hG ht _ _
theorem rword_g {os:List Out}{G:Tp→Prop}(hG:∀ t o,G t→G (tdo os t o).1){t:Tp}(ht:G t)(c:Cfg)(v:Rv)(b w:Int):G (rword c os v b w t).1:=by
 unfold rword;split
 ·exact ht
 split
 ·exact ht
 split
 ·exact rlive_g hG ht _ _ _
 ·exact rload_g hG (rlive_g hG ht _ _ _) _ _
theorem rstep_g {os:List Out}{G:Tp→Prop}(hG:∀ t o,G t→G (tdo os t o).1){t:Tp}(ht:G t)(c:Cfg)(room:Nat)(code:List Ins)(args:List Nat)(r:Rr):G (rstep c os room code args r t).1:=by
 have hf:∀ i r a,G (rfetch c os room i r a t).1:=fun i r a=>by
  unfold rfetch;split
  ·exact ht
  ·exact rcell_g2 hG ht _ _ _
 unfold rstep;split
 ·exact ht
 unfold rdoes;split
 ·exact ht
 split
 ·exact ht
 split
 ·exact ht
 split
 ·exact ht
 split
 ·unfold rroot
  split
  ·exact ht
  split
  ·exact ht
  ·exact hf _ _ _
 split
 ·unfold rtouch
  split
  ·exact ht
  split
  ·split
   ·exact ht
   ·exact rword_g hG ht _ _ _ _
  split
  ·exact ht
  ·exact rlive_g hG ht _ _ _
 split
 ·unfold rfresh
  split
  ·split
   ·exact ht
   ·exact hf _ _ _
  ·exact ht
 ·exact ht
theorem rargs_g {os:List Out}{G:Tp→Prop}(hG:∀ t o,G t→G (tdo os t o).1)(c:Cfg)(u:Int):∀ (k j:Nat) (l:List Nat) {t:Tp},G t→G (rargs c os u k j l t).1
 | 0,_,_,_,h=>h
 | k+1,j,l,t,h=>by
  rw [rargs];exact rargs_g hG c u k (j+1) _ (tdo_g hG h _)
theorem rgo_g {os:List Out}{G:Tp→Prop}(hG:∀ t o,G t→G (tdo os t o).1)(c:Cfg)(room:Nat)(code:List Ins)(args:List Nat):∀ (k:Nat) {r:Rr} {t:Tp},G t→G (rgo c os room code args k r t).1
 | 0,_,_,h=>h
 | k+1,r,t,h=>by
  unfold rgo;split
  ·exact rgo_g hG c room code args k (rstep_g hG h c room code args r)
  ·exact h
theorem rplay_g {os:List Out}{G:Tp→Prop}(hG:∀ t o,G t→G (tdo os t o).1)(c:Cfg)(room:Nat)(code:List Ins)(args:List Nat)(v:Rv)(nt nl:Int)(puts:List (Int×Nat)){t:Tp}(ht:G t):G (rplay c os room code args v nt nl puts t).1:=by
 unfold rplay;split
 ·exact rgo_g hG c room code args _ ht
 ·exact ht
theorem rnamed_g {os:List Out}{G:Tp→Prop}(hG:∀ t o,G t→G (tdo os t o).1)(c:Cfg):∀ (k u:Nat) (l:List Nat) {t:Tp},G t→G (rnamed c os k u l t).1
 | 0,_,_,_,h=>h
 | k+1,u,l,t,h=>by
  rw [rnamed];exact rnamed_g hG c k (u+1) _ (tdo_g hG h _)
theorem rlimbo_g {os:List Out}{G:Tp→Prop}(hG:∀ t o,G t→G (tdo os t o).1)(c:Cfg)(seq:Nat):∀ (n k:Nat) (l:List Nat) {t:Tp},G t→G (rlimbo c os seq n k l t).1
 | 0,_,_,_,h=>h
 | n+1,k,l,t,h=>by
  rw [rlimbo];split
  ·exact tdo_g hG h _
  split
  ·exact tdo_g hG h _
  ·exact rlimbo_g hG c seq n (k+1) _ (tdo_g hG h _)
theorem rread_g {os:List Out}{G:Tp→Prop}(hG:∀ t o,G t→G (tdo os t o).1)(c:Cfg)(seq:Nat){t:Tp}(ht:G t):G (rread c os seq t).1:=by
 have h1:=rnamed_g hG c c.threads.toNat 0 [] ht;unfold rread rread1;split
 ·exact tdo_g hG h1 _
 split
 ·exact tdo_g hG h1 _
 unfold rread2;split
 ·exact tdo_g hG (tdo_g hG h1 _) _
 split
 ·exact tdo_g hG (tdo_g hG h1 _) _
 unfold rread3;exact rlimbo_g hG c seq _ _ _ (tdo_g hG (tdo_g hG h1 _) _)
theorem rcopyL_g {os:List Out}{G:Tp→Prop}(hG:∀ t o,G t→G (tdo os t o).1)(c:Cfg)(owner:Int):∀ (m k:Nat) (l:List (Int×Nat)) {t:Tp} (_:G t),G (rcopyL c os owner m k l t).1
 | 0,_,_,_,ht=>ht
 | m+1,k,l,t,ht=>by
  rw [rcopyL];split
  ·exact ht
  ·exact rcopyL_g hG c owner m _ _ (tdo_g hG ht _)
theorem rcopy_g {os:List Out}{G:Tp→Prop}(hG:∀ t o,G t→G (tdo os t o).1)(c:Cfg)(owner:Int){t:Tp}(ht:G t):G (rcopy c os owner t).1:=rcopyL_g hG c owner _ _ _ (tdo_g hG ht _)
theorem ropen_g {os:List Out}{G:Tp→Prop}(hG:∀ t o,G t→G (tdo os t o).1){t:Tp}(ht:G t)(c:Cfg)(owner:Int)(seq:Nat):G (ropen c os owner seq t).1:=by
 unfold ropen;exact tdo_g hG ht _
section
variable {c:Cfg}{os:List Out}{t:Tp}
theorem rdoE_g {G:Tp→Prop}(hG:∀ t o,G t→G (tdo os t o).1)(ht:G t)(seq:Nat)(e:Int×Nat):G (rdoE os seq e t):=by
 unfold rdoE;split
 ·exact tdo_g hG (tdo_g hG ht _) _
 ·exact tdo_g hG ht _
theorem rapply_g {G:Tp→Prop}(hG:∀ t o,G t→G (tdo os t o).1)(who owner:Int)(seq:Nat):∀ (l:List (Int×Nat)) (held:Int) {t:Tp},G t→G (rapply c os who owner seq l held t)
 | [],_,_,ht=>tdo_g hG ht _
 | e::l,held,t,ht=>by
  have h1:=rdoE_g hG ht seq e;have h2:=tdo_g hG ht (mop 1 (c.at 3 who 0) (rblock c e.1+1).toNat);have h3:=ropen_g hG h2 c owner seq;have h4:=rdoE_g hG h3 seq e;rw [rapply];split
  ·exact rapply_g hG who owner seq l held ht
  split
  ·split
   ·exact h3
   split
   ·exact h4
   ·exact rapply_g hG who owner seq l _ h4
  split
  ·exact h1
  ·exact rapply_g hG who owner seq l held h1
theorem rhelp_g {G:Tp→Prop}(hG:∀ t o,G t→G (tdo os t o).1)(ht:G t)(who owner:Int)(seq:Nat):G (rhelp c os who owner seq t):=by
 unfold rhelp;split
 ·exact ropen_g hG (rcopy_g hG c owner ht) _ _ _
 ·exact rapply_g hG _ _ _ _ _ (ropen_g hG (rcopy_g hG c owner ht) _ _ _)
theorem rlog_g {G:Tp→Prop}(hG:∀ t o,G t→G (tdo os t o).1)(who:Int):∀ (k:Nat) (l:List (Int×Nat)) {t:Tp},G t→G (rlog c os who k l t)
 | _,[],_,ht=>ht
 | k,e::l,t,ht=>by
  rw [rlog];exact rlog_g hG who (k+1) l (tdo_g hG ht _)
theorem rwrite_g {G:Tp→Prop}(hG:∀ t o,G t→G (tdo os t o).1)(ht:G t)(who:Int)(seq:Nat)(list:List (Int×Nat)):G (rwrite c os who seq list t):=by
 unfold rwrite;exact tdo_g hG (tdo_g hG (rlog_g hG who _ _ ht) _) _
theorem ranL_g {G:Tp→Prop}(hG:∀ t o,G t→G (tdo os t o).1)(p:Cp):∀ (k j:Nat) {t:Tp},G t→G (ranL c os p k j t)
 | 0,_,_,ht=>tdo_g hG ht _
 | k+1,j,t,ht=>by
  rw [ranL];exact ranL_g hG p k (j+1) (tdo_g hG ht _)
theorem rlook_g {G:Tp→Prop}(hG:∀ t o,G t→G (tdo os t o).1)(ht:G t)(p:Cp)(progs:Progs)(s:Rs):G (rlook c os p progs s t).1:=by
 unfold rlook rlook1;split
 ·exact tdo_g hG ht _
 split
 ·exact tdo_g hG ht _
 ·unfold rlook2
  dsimp only;split
  ·exact rhelp_g hG (tdo_g hG (tdo_g hG ht _) _) _ _ _
  ·exact tdo_g hG (tdo_g hG ht _) _
theorem rreads_g {G:Tp→Prop}(hG:∀ t o,G t→G (tdo os t o).1)(ht:G t)(p:Cp)(progs:Progs)(s:Rs)(seq:Nat):G (rreads c os p progs s seq t).1:=by
 unfold rreads rreads1;split
 all_goals exact rplay_g hG _ _ _ _ _ _ _ _ ht
theorem ranswer_g {G:Tp→Prop}(hG:∀ t o,G t→G (tdo os t o).1)(ht:G t)(p:Cp)(progs:Progs)(s:Rs)(seq:Nat):G (ranswer c os p progs s seq t).1:=by
 unfold ranswer ranswer1;split
 ·exact tdo_g hG ht _
 split
 ·exact tdo_g hG (tdo_g hG (tdo_g hG ht _) _) _
 split
 ·exact rreads_g hG (tdo_g hG ht _) _ _ _ _
 split
 all_goals exact tdo_g hG ht _
theorem rcall_g {G:Tp→Prop}(hG:∀ t o,G t→G (tdo os t o).1)(ht:G t)(v:Rv)(u:Int):G (rcall c os v u t).1:=by
 unfold rcall rcall1;split
 ·exact tdo_g hG ht _
 ·unfold rcall2
  split
  ·exact rcell_g hG (tdo_g hG ht _) _ _ _
  ·exact rargs_g hG _ _ _ _ _ (rcell_g hG (tdo_g hG ht _) _ _ _)
theorem rmk_g {G:Tp→Prop}(hG:∀ t o,G t→G (tdo os t o).1)(room:Nat)(progs:Progs)(p:Rp):∀ (k u:Nat) (b:Rb) {t:Tp},G t→G (rmk c os room progs p k u b t).1
 | 0,_,_,_,ht=>ht
 | k+1,u,b,t,ht=>by
  rw [rmk_succ];have h1:=rcall_g (c:=c) hG ht b.v u;unfold rmkC;split
  ·exact h1
  split
  ·exact h1
  split
  ·exact rmk_g hG room progs p k (u+1) _ h1
  ·unfold rmkP
   split
   ·exact rplay_g hG _ _ _ _ _ _ _ _ h1
   ·exact rmk_g hG room progs p k (u+1) _ (rplay_g hG _ _ _ _ _ _ _ _ h1)
theorem rmake_g {G:Tp→Prop}(hG:∀ t o,G t→G (tdo os t o).1)(ht:G t)(who:Int)(seq:Nat)(progs:Progs):G (rmake c os who seq progs t).1:=by
 unfold rmake;split
 ·exact rread_g hG c seq ht
 ·exact rmk_g hG _ _ _ _ _ _ (rread_g hG c seq ht)
theorem rtry_g {G:Tp→Prop}(hG:∀ t o,G t→G (tdo os t o).1)(ht:G t)(p:Cp)(progs:Progs)(s:Rs)(now:Cell):G (rtry c os p progs s now t).1:=by
 have h1:=ranswer_g (c:=c) hG ht p progs s now.seq;unfold rtry rtry1;split
 ·exact h1
 ·have h2:=rmake_g (c:=c) hG h1 p.who now.seq progs
  unfold rtry2;split
  ·exact h2
  split
  ·exact h2
  ·unfold rtry3
   split
   ·exact tdo_g hG (rwrite_g hG h2 _ _ _) _
   ·exact rapply_g hG _ _ _ _ _ (tdo_g hG (rwrite_g hG h2 _ _ _) _)
end
def S3 (r:Rr):Prop:=r.s=0∨r.s=1∨r.s=2
def S4 (s:Int):Prop:=s=0∨s=1∨s=2∨s=3
theorem rload_s4 (os:List Out)(v:Rv)(a:Int)(t:Tp):S4 (rload os v a t).2.2.2:=by
 unfold rload;split
 ·exact .inl rfl
 split
 ·exact .inr (.inr (.inl rfl))
 ·exact .inr (.inl rfl)
theorem rlive_s4 (c:Cfg)(os:List Out)(v:Rv)(b:Int)(t:Tp):S4 (rlive c os v b t).2.2:=by
 unfold rlive;split
 ·exact .inr (.inr (.inl rfl))
 split
 ·exact .inr (.inr (.inr rfl))
 split
 ·exact .inr (.inl rfl)
 split
 ·exact .inl rfl
 ·have h:=rload_s4 os { v with held := -1 } (c.at 11 b 0) (tdo os t (mop 1 (c.at 3 v.who 0) (b+1).toNat)).1
  dsimp only;unfold rlife;split
  ·exact .inr (.inr (.inr rfl))
  split
  ·exact .inr (.inl rfl)
  ·exact h
theorem rword_s4 (c:Cfg)(os:List Out)(v:Rv)(b w:Int)(t:Tp):S4 (rword c os v b w t).2.2.2:=by
 unfold rword;split
 ·exact .inr (.inr (.inl rfl))
 split
 ·exact .inr (.inr (.inr rfl))
 split
 ·exact rlive_s4 _ _ _ _ _
 ·exact rload_s4 _ _ _ _
section
variable {c:Cfg}{room:Nat}{r:Rr}
theorem s3_fails (r:Rr)(e:Int):S3 (r.fails e):=.inr (.inl rfl)
theorem s3_ends (r:Rr){s:Int}(h:S4 s):S3 (r.ends s):=by
 unfold Rr.ends;split
 ·exact s3_fails _ _
 ·rename_i h3
  rcases h with h|h|h|h
  ·exact .inl h
  ·exact .inr (.inl h)
  ·exact .inr (.inr h)
  ·exact absurd h h3
theorem s3_pay (h:S3 r)(op:Int):S3 (r.pay c op).1:=by
 unfold Rr.pay;split
 ·exact s3_fails _ _
 ·exact h
theorem s3_goOn (h:S3 r)(i:Ins)(x:Nat):S3 (r.goOn c room i x):=by
 have hp:S3 (r.pay c i.op).1:=s3_pay h i.op;unfold Rr.goOn;split
 ·exact h
 split
 ·unfold Rr.taken
  split
  ·exact s3_fails _ _
  ·exact h
 split
 ·split<;>exact hp
 split
 ·split<;>exact hp
 ·exact h
theorem s3_after (h:S3 r)(i:Ins)(x:Rv×Nat×Int)(hx:S4 x.2.2):S3 (r.after c room i x):=by
 unfold Rr.after;split
 ·exact s3_goOn (r:={ r with v:=x.1 }) h i _
 ·exact s3_ends _ hx
theorem s3_fetch (h:S3 r)(os:List Out)(i:Ins)(a:Int)(t:Tp):S3 (rfetch c os room i r a t).2:=by
 unfold rfetch;split
 ·exact s3_goOn h i _
 ·exact s3_after h i _ (rcell_s c os r.v a t)
theorem s3_does (h:S3 r)(os:List Out)(args:List Nat)(i:Ins)(t:Tp):S3 (rdoes c os room args i r t).2:=by
 have hp:S3 (r.pay c i.op).1:=s3_pay h i.op;unfold rdoes;split
 ·exact h
 split
 ·dsimp only;split<;>exact h
 split
 ·exact .inr (.inl rfl)
 split
 ·exact s3_fails _ _
 split
 ·unfold rroot
  split
  ·exact s3_fails _ _
  split
  ·dsimp only;split<;>exact hp
  ·exact s3_fetch h os i _ _
 split
 ·unfold rtouch
  split
  ·exact s3_fails _ _
  split
  ·split
   ·exact s3_goOn h i _
   ·exact s3_after h i _ (rword_s4 _ _ _ _ _ _)
  split
  ·exact s3_goOn h i _
  ·exact s3_after h i _ (rlive_s4 _ _ _ _ _)
 split
 ·unfold rfresh
  split
  ·split
   ·exact s3_fails _ _
   ·exact s3_fetch hp os i _ _
  ·exact hp
 ·exact h
theorem s3_step (h:S3 r)(os:List Out)(code:List Ins)(args:List Nat)(t:Tp):S3 (rstep c os room code args r t).2:=by
 unfold rstep;split
 ·exact s3_fails _ _
 ·exact s3_does (r:={ r with steps:=r.steps+1,pc:=r.pc+1 }) h os args _ t
end
theorem rgo_end (c:Cfg)(os:List Out)(room:Nat)(code:List Ins)(args:List Nat):∀ (k:Nat) {r:Rr} {t:Tp},S3 r→(r.s=0→(c.fuel - r.steps).toNat<k)→S3 (rgo c os room code args k r t).2∧((rgo c os room code args k r t).2.s=0→(rgo c os room code args k r t).1.need=true)
 | 0,_,_,h,hk=>⟨h,fun e=>absurd (hk e) (Nat.not_lt_zero _)⟩
 | k+1,r,t,h,hk=>by
  unfold rgo;split
  ·rename_i hs
   have hk:=hk hs.1;refine rgo_end c os room code args k (s3_step h os code args t) (fun e=>?_);have h2:=rstep_steps room code args t e
   have h3:¬ c.fuel≤r.steps:=fun hf=>by
    unfold rstep at e;rw [if_pos hf] at e;exact absurd (show (1:Int)=0 from e) (by decide)
   omega
  ·rename_i hs
   refine ⟨h,fun e=>?_⟩
   cases hn:t.need with
   | true=>rfl
   | false=>exact absurd ⟨e,hn⟩ hs
theorem rplay_end (c:Cfg)(os:List Out)(room:Nat)(code:List Ins)(args:List Nat)(v:Rv)(nt nl:Int)(puts:List (Int×Nat))(t:Tp):S3 (rplay c os room code args v nt nl puts t).2∧((rplay c os room code args v nt nl puts t).2.s=0→(rplay c os room code args v nt nl puts t).1.need=true):=by
 unfold rplay;split
 ·have h:=rgo_end c os room code args (c.fuel.toNat+1) (r:=Rr.init v nt nl puts) (t:=t) (.inl rfl) (fun _=>by show (c.fuel - 0).toNat<c.fuel.toNat+1;omega)
  dsimp only;generalize rgo c os room code args (c.fuel.toNat+1) (Rr.init v nt nl puts) t=y at h⊢;obtain ⟨t2,r2⟩:=y;unfold Rr.undo;split<;>exact h
 ·exact ⟨s3_fails _ _,fun e=>absurd (show (1:Int)=0 from e) (by decide)⟩
theorem rreads_end (c:Cfg)(os:List Out)(p:Cp)(progs:Progs)(s:Rs)(seq:Nat)(t:Tp) :
  ((rreads c os p progs s seq t).2.2=true→(rreads c os p progs s seq t).2.1=s)∧((rreads c os p progs s seq t).2.2=false→(rreads c os p progs s seq t).2.1.done=true∨(rreads c os p progs s seq t).1.need=true):=by
 have h:=rplay_end c os 0 (p.code progs) p.args (.new p.who seq) 0 0 [] t;unfold rreads;generalize rplay c os 0 (p.code progs) p.args (.new p.who seq) 0 0 [] t=y at h⊢;obtain ⟨t2,r2⟩:=y;dsimp only at h⊢;obtain ⟨h1,h2⟩:=h;unfold rreads1;split
 ·refine ⟨fun e=>(by cases e),fun _=>?_⟩
  dsimp only;unfold Rs.ends Rs.lone
  cases hn:t2.need with
  | true=>exact .inr rfl
  | false=>exact .inl rfl
 ·rename_i hs
  refine ⟨fun _=>rfl,fun e=>.inr ?_⟩;have e:=of_decide_eq_false e
  rcases h1 with h1|h1|h1
  ·exact h2 h1
  ·exact absurd h1 hs
  ·exact absurd h1 e
end Go.Proofs.YthmbgodcpgkkeaaGreat
