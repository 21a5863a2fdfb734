/-
  Package help: New, open, unless, read, entry, Ask. Package help: Ask, Tell, Own.
-/
import Derived.Test.YthmbgodcpgkkeaaGreatHe
namespace Go.Proofs.YthmbgodcpgkkeaaGreat
set_option maxRecDepth 100000
def hpV (c:Cfg) (lv:Value) (y:Hm):List Value:=c.m++[.int .i64 y.who, .int .i64 y.owner, .int .u64 (y.seq:Int),lv, .int .i64 y.n, .int .i64 y.k, .int .i64 y.held, .int .u64 (y.cell.val:Int), .int .u64 (y.cell.seq:Int), .int .i64 y.next]
theorem take_h (c:Cfg) (lv:Value) (y:Hm):TakeN 24 (hpV c lv y) c.m:=TakeN.app c.m _
def hpL (H:Nat) (c:Cfg) (y:Hm) (a:Option Addr×Nat):List HProp:=[bl H 392 (hpV c (.slice a.1 y.list.length a.2) y),Row (.slice a.1 y.list.length a.2) 119 2 y.list.length (y.list.flatMap entV)]
def HpE (H:Nat) (c:Cfg) (y:Hm):HProp:=ex (hpL H c y)
theorem Ent.hp {H:Nat} {c:Cfg} {y:Hm} {ad:Option Addr} {cap:Nat} {L:List HProp}:Ent (bl H 392 (hpV c (.slice ad y.list.length cap) y)::Row (.slice ad y.list.length cap) 119 2 y.list.length (y.list.flatMap entV)::L) (HpE H c y::L):=Ent.ex_in (Ls:=hpL H c y) (ad,cap)
theorem sat_rowF {v:Value} {e sz n:Nat} {xs:List Value} {L:List HProp} {h:Hp} (hn:0<n) (hs:Sat (Row v e sz n xs::L) h):∃ g cap rest,v=.slice (some ⟨g,0,none⟩) n cap∧Sat (Go.Proofs.YthmbgodcpgkkeaaGreat.bl g e (xs++rest)::L) h:=by
  rw [sat_cons] at hs
  obtain ⟨h1,h2,hd,hor,⟨_,hr⟩,hL⟩:=hs
  rcases hr with ⟨_,h0⟩|⟨g,cap,cur,rfl,_,_,_,htk,hp⟩
  · omega
  · refine ⟨g,cap,cur.toList.drop (n * sz),rfl, ?_⟩
    rw [sat_cons]
    refine ⟨h1,h2,hd,hor, ?_,hL⟩
    rw [←htk,List.take_append_drop]
    exact hp
theorem part_nth {α:Type} {n m j:Nat} {l l1 vs:List α} {v:α} (h:DropN n l l1) (k:TakeN m l1 vs) (e:NthN j vs v):NthN (n+j) l v:=by
  obtain ⟨h1,_⟩:=h.eq
  obtain ⟨h3,_⟩:=k.eq
  have h5:=e.eq
  refine NthN.of ?_
  rw [←h3,←h1,List.getElem?_take,List.getElem?_drop] at h5
  split at h5
  · exact h5
  · cases h5
theorem ent_at {l:List (Int×Nat)} {k:Nat} (hk:k<l.length) (rest:List Value):NthN ((k:Int).toNat * 2) (l.flatMap entV++rest) (.int .i64 l[k].1)∧NthN ((k:Int).toNat * 2+1) (l.flatMap entV++rest) (.int .u64 ((l[k].2:Nat):Int)):=by
  have hd:=(DropN.flat (f:=entV) entV_len hk).more rest
  rw [List.append_assoc] at hd
  have ht:TakeN 2 (entV l[k]++((l.drop (k+1)).flatMap entV++rest)) (entV l[k]):=TakeN.app (entV l[k]) _
  rw [Int.toNat_natCast]
  exact ⟨part_nth (j:=0) hd ht (NthN.of rfl),part_nth (j:=1) hd ht (NthN.of rfl)⟩
theorem hnew_t (c:Cfg) (who owner:Int) (seq:Nat):Tri Tryz.prog 223 #[.agg ⟨c.m⟩, .int .i64 who, .int .i64 owner, .int .u64 (seq:Int)] [] fun r L=>∃ H,r=.pointer (some ⟨H,0,none⟩)∧L=[HpE H c (Hm.new who owner seq)]:=by
  have hone:(Cfg.m c).length=24:=rfl
  refine Tri.of_body (vs:=[_,_,_,_]) Tryz.func223 rfl rfl fun w0 F=>?_
  repeat' (first|refine Ga ?_|(refine Gb ?_;intro b)|(refine Gd ?_;intro g cap rest hcap)|(refine Gc ?_;intro ad cap) |(refine Ge ?_ ?_<;>(intro h;try (exfalso;omega)))|fail)
  refine St.d1 Tryz.func223 ⟨_,⟨_,rfl,rfl⟩, ?_⟩
  refine Ent.trans (Ent.row_nil 119 2) ?_
  refine Ent.trans Ent.go (Ent.hp (ad:=none) (cap:=0) (y:=Hm.new who owner seq))
theorem hopen_r (H:Nat) (c:Cfg) (hc:Small c) (y:Hm):RTri Tryz.prog 345 #[.pointer (some ⟨H,0,none⟩)] [HpE H c y] (.tuple ⟨[.int .i64 (c.at 4 y.owner 0), .agg ⟨[.int .u64 1, .int .u64 (y.seq:Int)]⟩]⟩):=by
  have hat:=at_r c hc 4 y.owner 0
  refine RTri.of_exact fun W0 hs=>?_
  obtain ⟨⟨lad,lcap⟩,hs⟩:=sat_ex hs
  have hH:=RdC.exact hs (ReadsC.here RdC.bl)
  have htk:=take_h c (.slice lad y.list.length lcap) y
  refine Tri.of_body (vs:=[_]) Tryz.func345 rfl rfl fun w0 F=>?_
  repeat' (first|refine Ga ?_|(refine Gb ?_;intro b)|(refine Gd ?_;intro g cap rest hcap)|(refine Gc ?_;intro ad cap)|(refine St.draw (id:=1) [(0,0),(1,0),(2,0),(3,1),(4,0),(5,0),(6,0),(7,1),(8,1),(9,0),(10,0),(11,0),(12,1),(13,0),(14,0),(15,3)] [15] mixed (by kernel_rfl) ?_)| refine Gl hat ?_|(refine Ge ?_ ?_<;>(intro h;try (exfalso;omega)))|fail)
  (first|refine St.dn Tryz.func345 ⟨?_,rfl⟩ Ent.go|refine St.fl Tryz.func345 ⟨?_,rfl⟩ Ent.go)
  rfl
theorem hdone_r (H:Nat) (c:Cfg) (y:Hm):RTri Tryz.prog 276 #[.pointer (some ⟨H,0,none⟩)] [HpE H c y] (.bool (decide (y.next=8))):=by
  refine RTri.of_exact fun W0 hs=>?_
  obtain ⟨⟨lad,lcap⟩,hs⟩:=sat_ex hs
  have hH:=RdC.exact hs (ReadsC.here RdC.bl)
  refine Tri.of_body (vs:=[_]) Tryz.func276 rfl rfl fun w0 F=>?_
  repeat' (first|refine Ga ?_|(refine Gb ?_;intro b)|(refine Gd ?_;intro g cap rest hcap)|(refine Gc ?_;intro ad cap) |(refine Ge ?_ ?_<;>(intro h;try (exfalso;omega)))|fail)
  (first|refine St.dn Tryz.func276 ⟨?_,rfl⟩ Ent.go|refine St.fl Tryz.func276 ⟨?_,rfl⟩ Ent.go)
  rw [beq_dec];rfl
theorem hunless_t (H:Nat) (c:Cfg) (y:Hm) (is:Bool):Tri Tryz.prog 347 #[.pointer (some ⟨H,0,none⟩), .bool is] [HpE H c y] fun r L=>r=.tuple ⟨[]⟩∧L=[HpE H c (y.unless is)]:=by
  refine Tri.ex_out ?_
  rintro ⟨lad,lcap⟩
  unfold hpL
  cases is
  · refine Tri.of_body (vs:=[_,_]) Tryz.func347 rfl rfl fun w0 F=>?_
    repeat' (first|refine Ga ?_|(refine Gb ?_;intro b)|(refine Gd ?_;intro g cap rest hcap)|(refine Gc ?_;intro ad cap) |(refine Ge ?_ ?_<;>(intro h;try (exfalso;omega)))|fail)
    refine St.f1 Tryz.func347 ⟨_,⟨rfl,rfl⟩, ?_⟩
    exact Ent.trans Ent.go (Ent.hp (ad:=lad) (cap:=lcap) (y:=y.unless false))
  · refine Tri.of_body (vs:=[_,_]) Tryz.func347 rfl rfl fun w0 F=>?_
    repeat' (first|refine Ga ?_|(refine Gb ?_;intro b)|(refine Gd ?_;intro g cap rest hcap)|(refine Gc ?_;intro ad cap) |(refine Ge ?_ ?_<;>(intro h;try (exfalso;omega)))|fail)
    refine St.f1 Tryz.func347 ⟨_,⟨rfl,rfl⟩, ?_⟩
    exact Ent.trans Ent.go (Ent.hp (ad:=lad) (cap:=lcap) (y:=y.unless true))
theorem hread_t (H:Nat) (c:Cfg) (y:Hm):Tri Tryz.prog 344 #[.pointer (some ⟨H,0,none⟩)] [HpE H c y] fun r L=>r=.tuple ⟨[]⟩∧L=[HpE H c y.read]:=by
  refine Tri.ex_out ?_
  rintro ⟨lad,lcap⟩
  unfold hpL Hm.read
  by_cases he:(y.list.length:Int)=y.n
  · rw [if_pos he]
    refine Tri.of_body (vs:=[_]) Tryz.func344 rfl rfl fun w0 F=>?_
    repeat' (first|refine Ga ?_|(refine Gb ?_;intro b)|(refine Gd ?_;intro g cap rest hcap)|(refine Gc ?_;intro ad cap)|(refine St.draw (id:=1) [(0,0),(1,0),(2,0),(3,1),(4,0),(5,0),(6,0),(7,0),(8,1),(9,0)] [] mixed (by kernel_rfl) ?_)|(refine Ge ?_ ?_<;>(intro h;try (exfalso;omega)))|fail)
    refine St.f1 Tryz.func344 ⟨_,⟨rfl,rfl⟩, ?_⟩
    exact Ent.trans Ent.go (Ent.hp (ad:=lad) (cap:=lcap) (y:={ y with next:=2 }))
  · rw [if_neg he]
    refine Tri.of_body (vs:=[_]) Tryz.func344 rfl rfl fun w0 F=>?_
    repeat' (first|refine Ga ?_|(refine Gb ?_;intro b)|(refine Gd ?_;intro g cap rest hcap)|(refine Gc ?_;intro ad cap)|(refine St.draw (id:=1) [(0,0),(1,0),(2,0),(3,1),(4,0),(5,0),(6,0),(7,0),(8,1),(9,0)] [] mixed (by kernel_rfl) ?_)|(refine Ge ?_ ?_<;>(intro h;try (exfalso;omega)))|fail)
    refine St.f1 Tryz.func344 ⟨_,⟨rfl,rfl⟩, ?_⟩
    exact Ent.trans Ent.go (Ent.hp (ad:=lad) (cap:=lcap) (y:={ y with next:=1 }))
theorem entryL_cons (c:Cfg) (y:Hm) {k:Nat} (hk:k<y.list.length):y.entryL c (y.list.drop k) k=if (c.what y.list[k].1).1<7 then y.entryL c (y.list.drop (k+1)) (k+1) else { y with k:=(k:Int),next:=if (c.what y.list[k].1).1=16∧(c.what y.list[k].1).2.1≠y.held then 3 else 5 }:=by
  rw [List.drop_eq_getElem_cons hk];rfl
set_option maxHeartbeats 1000000 in
theorem hentry_t (H:Nat) (c:Cfg) (hc:Small c) (y:Hm) (hl:y.list.length≤1000000) (k:Nat) (hk:k≤1000001):Tri Tryz.prog 274 #[.pointer (some ⟨H,0,none⟩), .int .i64 (k:Int)] [HpE H c y] fun r L=>r=.tuple ⟨[]⟩∧L=[HpE H c (y.entry c k)]:=by
  refine Tri.ex_out ?_
  rintro ⟨lad,lcap⟩
  unfold hpL
  have htk:=take_h c (.slice lad y.list.length lcap) y
  generalize hR:y.entry c k=R
  by_cases h0:y.list.length=0
  · have hnil:y.list=[]:=List.eq_nil_of_length_eq_zero h0
    have e7:{ y with next:=7 }=R:=by rw [←hR];unfold Hm.entry;rw [hnil,List.drop_nil];unfold Hm.entryL;rw [hnil]
    refine Tri.of_body (vs:=[_,_]) Tryz.func274 rfl rfl fun w0 F=>?_
    repeat' (first|(apply St.loop1)|(apply St.inLoop1)|refine Ga ?_|(refine Gb ?_;intro b)|(refine Gd ?_;intro g cap rest hcap)|(refine Gc ?_;intro ad cap)|(refine St.draw (id:=2) [(0,0),(1,0),(2,0),(3,1),(4,0),(5,0),(6,0),(7,1),(8,0),(9,0),(10,0),(11,1),(12,1),(13,0),(14,0),(15,0),(16,0),(17,0),(18,0),(19,0)] [] mixed (by kernel_rfl) ?_)|(refine Ge ?_ ?_<;>(intro h;try (exfalso;omega)))|fail)
    all_goals first|(exfalso;omega)|skip
    refine St.f1 Tryz.func274 ⟨_,⟨rfl,rfl⟩, ?_⟩
    rw [←e7]
    exact Ent.trans Ent.go (Ent.hp (ad:=lad) (cap:=lcap) (y:={ y with next:=7 }))
  · refine Tri.of_body (vs:=[_,_]) Tryz.func274 rfl rfl fun w0 F=>?_
    refine St.conv ?_ (Sub.refl _) (Ent.of_take (p:=Row (.slice lad y.list.length lcap) 119 2 y.list.length (y.list.flatMap entV)) Take.go)
    refine St.rowF (by omega) fun g cap rest hv hrf=>?_
    injection hv with hv1 hv2 hv3
    subst hv1 hv3
    repeat' (first|refine Ga ?_|(refine Gb ?_;intro b)|(refine Gd ?_;intro g cap rest hcap)|(refine Gc ?_;intro ad cap)|(refine St.draw (id:=2) [(0,0),(1,0),(2,0),(3,1),(4,0),(5,0),(6,0),(7,1),(8,0),(9,0),(10,0),(11,1),(12,1),(13,0),(14,0),(15,0),(16,0),(17,0),(18,0),(19,0)] [] mixed (by kernel_rfl) ?_)|(refine Ge ?_ ?_<;>(intro h;try (exfalso;omega)))|fail)
    refine St.loopY (Lr:=?Lr1) (ι:={ x:Nat // x≤1000001∧y.entryL c (y.list.drop x) x=R }) (fun x=>1000001 - x.1) (fun x=>[(1, .int .i64 (x.1:Int))]) (fun _=>[]) ⟨k,hk,hR⟩ ?hE1 ?hL1 ?round1
    case hE1=>exact Sub.go
    case hL1=>exact Takes.go
    case round1 =>
      rintro ⟨k,hk,hgo⟩ IH;dsimp only at hk hgo IH⊢
      by_cases hlt:k<y.list.length
      · rw [entryL_cons c y hlt] at hgo
        obtain ⟨hn0,hn1⟩:=ent_at hlt rest
        have hw:=what_r c hc y.list[k].1
        generalize y.list[k]=e at hgo hn0 hn1 hw
        obtain ⟨ek,ev⟩:=e
        dsimp only at hgo hn0 hn1 hw
        generalize c.what ek=w at hgo hw
        obtain ⟨w0,w1,w2⟩:=w
        dsimp only at hgo hw
        by_cases h7:w0<7
        · rw [if_pos h7] at hgo
          repeat' (first|refine Ga ?_|(refine Gb ?_;intro b)|(refine Gd ?_;intro g cap rest hcap)|(refine Gc ?_;intro ad cap)|(refine St.draw (id:=2) [(0,0),(1,0),(2,0),(3,1),(4,0),(5,0),(6,0),(7,1),(8,0),(9,0),(10,0),(11,1),(12,1),(13,0),(14,0),(15,0),(16,0),(17,0),(18,0),(19,0)] [] mixed (by kernel_rfl) ?_)| refine Gl hw ?_|(refine Ge ?_ ?_<;>(intro h;try (exfalso;omega)))|fail)
          all_goals first|(exfalso;omega)|skip
          refine IH ⟨k+1,by omega,hgo⟩ (by show 1000001 - (k+1)<1000001 - k;omega) ?_ ?_
          · exact Sub.go
          · exact Ent.go
        · rw [if_neg h7] at hgo
          clear IH
          by_cases h3:w0=16∧w1≠y.held
          · rw [if_pos h3] at hgo
            obtain ⟨h16,hh⟩:=h3
            repeat' (first|refine Ga ?_|(refine Gb ?_;intro b)|(refine Gd ?_;intro g cap rest hcap)|(refine Gc ?_;intro ad cap)|(refine St.draw (id:=2) [(0,0),(1,0),(2,0),(3,1),(4,0),(5,0),(6,0),(7,1),(8,0),(9,0),(10,0),(11,1),(12,1),(13,0),(14,0),(15,0),(16,0),(17,0),(18,0),(19,0)] [] mixed (by kernel_rfl) ?_)| refine Gl hw ?_|(refine Ge ?_ ?_<;>(intro h;try (exfalso;omega)))|fail)
            all_goals first|(exfalso;omega)|skip
            refine St.d1 Tryz.func274 ⟨_,⟨rfl,rfl⟩, ?_⟩
            rw [←hgo]
            exact Ent.trans (Ent.trans (Ent.of_take (p:=bl g 119 (y.list.flatMap entV++rest)) Take.go) (Ent.rowF hrf)) (Ent.trans Ent.go (Ent.hp (ad:=some ⟨g,0,none⟩) (cap:=lcap) (y:={ y with k:=(k:Int),next:=3 })))
          · rw [if_neg h3] at hgo
            repeat' (first|refine Ga ?_|(refine Gb ?_;intro b)|(refine Gd ?_;intro g cap rest hcap)|(refine Gc ?_;intro ad cap)|(refine St.draw (id:=2) [(0,0),(1,0),(2,0),(3,1),(4,0),(5,0),(6,0),(7,1),(8,0),(9,0),(10,0),(11,1),(12,1),(13,0),(14,0),(15,0),(16,0),(17,0),(18,0),(19,0)] [] mixed (by kernel_rfl) ?_)| refine Gl hw ?_|(refine Ge ?_ ?_<;>(intro h;try (exfalso;omega)))|fail)
            all_goals first|(exfalso;omega)|skip
            all_goals refine St.d1 Tryz.func274 ⟨_,⟨rfl,rfl⟩, ?_⟩
            all_goals rw [←hgo]
            all_goals exact Ent.trans (Ent.trans (Ent.of_take (p:=bl g 119 (y.list.flatMap entV++rest)) Take.go) (Ent.rowF hrf)) (Ent.trans Ent.go (Ent.hp (ad:=some ⟨g,0,none⟩) (cap:=lcap) (y:={ y with k:=(k:Int),next:=5 })))
      · rw [List.drop_eq_nil_of_le (by omega)] at hgo
        clear IH
        have hgo:{ y with next:=7 }=R:=hgo
        repeat' (first|refine Ga ?_|(refine Gb ?_;intro b)|(refine Gd ?_;intro g cap rest hcap)|(refine Gc ?_;intro ad cap)|(refine St.draw (id:=2) [(0,0),(1,0),(2,0),(3,1),(4,0),(5,0),(6,0),(7,1),(8,0),(9,0),(10,0),(11,1),(12,1),(13,0),(14,0),(15,0),(16,0),(17,0),(18,0),(19,0)] [] mixed (by kernel_rfl) ?_)|(refine Ge ?_ ?_<;>(intro h;try (exfalso;omega)))|fail)
        all_goals first|(exfalso;omega)|skip
        refine St.f1 Tryz.func274 ⟨_,⟨rfl,rfl⟩, ?_⟩
        rw [←hgo]
        exact Ent.trans (Ent.trans (Ent.of_take (p:=bl g 119 (y.list.flatMap entV++rest)) Take.go) (Ent.rowF hrf)) (Ent.trans Ent.go (Ent.hp (ad:=some ⟨g,0,none⟩) (cap:=lcap) (y:={ y with next:=7 })))
end Go.Proofs.YthmbgodcpgkkeaaGreat
namespace Go.Proofs.YthmbgodcpgkkeaaGreat
set_option maxRecDepth 100000
theorem Cfg.hwhat_word {c:Cfg} (hc:Small c) {p:Int} (h:(c.what p).1=16):0≤(c.what p).2.1∧(c.what p).2.1<c.blocks:=by
  have hf17:c.f17=c.f16+c.blocks * 8:=rfl
  have hm:=Int.emod_nonneg (p - c.f7) (show (3:Int)≠0 by decide)
  have hm2:=Int.emod_lt_of_pos (p - c.f7) (show (0:Int)<3 by decide)
  have hb:=hc.b0
  clear hc
  revert h
  unfold Cfg.what
  generalize (p - 1) % c.stride=q
  generalize (p - 1) / c.stride=q2
  generalize (p - c.f16) % 8=q4
  generalize (p - c.f7) / 3=q5
  generalize (p - c.f7) % 3=m at hm hm2⊢
  repeat' split
  all_goals (intro h;dsimp only at h⊢)
  all_goals first|(exfalso;omega)|omega
theorem Hm.at_eq {y:Hm} (h0:0≤y.k) (h1:y.k<y.list.length):y.at_=y.list[y.k.toNat]'(by omega):=by
  unfold Hm.at_
  rw [List.getD_eq_getElem?_getD,List.getElem?_eq_getElem (by omega)];rfl
set_option maxHeartbeats 1000000 in
theorem hask_r (H:Nat) (c:Cfg) (hc:Small c) (y:Hm) (hi:Hinv c y):RTri Tryz.prog 342 #[.pointer (some ⟨H,0,none⟩)] [HpE H c y] (.tuple ⟨[.agg ⟨(y.ask c).1.v⟩, .bool (y.ask c).2]⟩):=by
  have hop0:=hopen_r H c hc y
  refine RTri.of_exact fun W0 hs=>?_
  have hop:=hop0.of_read (p:=exact' W0) (fun k hk=>by rw [show k=hpOf W0 from hk];exact hs)
  obtain ⟨⟨lad,lcap⟩,hs⟩:=sat_ex hs
  have hH:=RdC.exact hs (ReadsC.here RdC.bl)
  have htk:=take_h c (.slice lad y.list.length lcap) y
  have hnx:=hi.nx
  have hbb:=hc.b1
  have hll:=hi.l
  by_cases hin:3≤y.next∧y.next≤6
  · have hk:=hi.k hin
    have hw16:=hi.w
    have hat:=Hm.at_eq hk.1 hk.2
    have hsw:=hs.swap
    obtain ⟨g,cap,rest,hv,hs2⟩:=sat_rowF (by omega) hsw
    injection hv with hv1 hv2 hv3
    subst hv1 hv3
    have hG:=RdC.exact hs2 (ReadsC.here RdC.bl)
    obtain ⟨hn0,hn1⟩:=ent_at (l:=y.list) (k:=y.k.toNat) (by omega) rest
    rw [←hat,show ((y.k.toNat:Nat):Int).toNat=y.k.toNat by omega] at hn0 hn1
    have hw:=what_r c hc y.at_.1
    have hww:=fun e=>Cfg.hwhat_word (p:=y.at_.1) hc e
    have ha3:=at_r c hc 3 y.who 0
    unfold Hm.ask
    generalize y.at_=e at hn0 hn1 hw hww hw16⊢
    obtain ⟨ek,ev⟩:=e
    dsimp only at hn0 hn1 hw hww hw16⊢
    generalize c.what ek=w at hw hww hw16⊢
    obtain ⟨w0,w1,w2⟩:=w
    dsimp only at hw hww hw16⊢
    obtain ⟨who,owner,seq,list,n,k,held,cell,next⟩:=y
    unfold hpV at hH htk
    dsimp only at *
    have hk1:0≤k:=hk.1
    have hk2:k<(list.length:Int):=hk.2
    rcases (by omega:next=3∨next=4∨next=5∨next=6) with rfl|rfl|rfl|rfl
    · have hb:=hww (hw16 (.inl rfl))
      have e1:((w1+1).toNat:Int)=w1+1:=by omega
      rw [if_neg (by decide),if_neg (by decide),if_neg (by decide),if_pos rfl]
      unfold mop MOp.v
      dsimp only
      rw [e1]
      refine Tri.of_body (vs:=[_]) Tryz.func342 rfl rfl fun w0 F=>?_
      repeat' (first|refine Ga ?_|(refine Gb ?_;intro b)|(refine Gd ?_;intro g cap rest hcap)|(refine Gc ?_;intro ad cap)|(refine St.draw (id:=4) [(0,0),(1,0),(2,0),(3,1),(4,0),(5,0),(6,0),(7,1),(8,1),(9,0),(10,3),(11,0)] [10] mixed (by kernel_rfl) ?_)|(refine St.draw (id:=6) [(0,0),(1,0),(2,0),(3,1),(4,0),(5,0),(6,0),(7,1),(8,0),(9,0),(10,0),(11,1),(12,0),(13,1),(14,0),(15,3),(16,0)] [15] mixed (by kernel_rfl) ?_)|(refine St.draw (id:=11) [(0,0),(1,0),(2,0),(3,1),(4,0),(5,0),(6,0),(7,1),(8,0),(9,0),(10,0),(11,1),(12,0),(13,0),(14,1),(15,1),(16,0),(17,0),(18,0),(19,0),(20,0),(21,0),(22,0)] [] mixed (by kernel_rfl) ?_)|(refine St.draw (id:=12) [(0,0),(1,0),(2,0),(3,1),(4,0),(5,0),(6,0),(7,1),(8,1),(9,0),(10,0),(11,0),(12,0),(13,0),(14,3),(15,0)] [14] mixed (by kernel_rfl) ?_)|(refine St.draw (id:=14) [(0,0),(1,0),(2,0),(3,1),(4,0),(5,0),(6,0),(7,1),(8,0),(9,0),(10,1),(11,0),(12,3),(13,0)] [12] mixed (by kernel_rfl) ?_)|(refine St.draw (id:=16) [(0,0),(1,0),(2,0),(3,1),(4,0),(5,0),(6,0),(7,1),(8,0),(9,0),(10,1),(11,0),(12,0),(13,0),(14,1),(15,0),(16,0),(17,0),(18,1),(19,0),(20,0),(21,0),(22,1),(23,0),(24,0),(25,1),(26,0),(27,0),(28,0),(29,1),(30,0),(31,0),(32,3),(33,0)] [32] mixed (by kernel_rfl) ?_)|(refine St.draw (id:=18) [(0,0),(1,1),(2,0),(3,0),(4,0),(5,1),(6,0),(7,0),(8,3),(9,0)] [8] mixed (by kernel_rfl) ?_)| refine Gl hop ?_|refine Gl hw ?_|refine Gl ha3 ?_|(refine Ge ?_ ?_<;>(intro h;try (exfalso;omega)))|fail)
      refine St.d1 Tryz.func342 ⟨_,⟨rfl,rfl⟩,Ent.go⟩
    · rw [if_neg (by decide),if_neg (by decide),if_pos (.inr rfl)]
      unfold mop MOp.v
      refine Tri.of_body (vs:=[_]) Tryz.func342 rfl rfl fun w0 F=>?_
      repeat' (first|refine Ga ?_|(refine Gb ?_;intro b)|(refine Gd ?_;intro g cap rest hcap)|(refine Gc ?_;intro ad cap)|(refine St.draw (id:=4) [(0,0),(1,0),(2,0),(3,1),(4,0),(5,0),(6,0),(7,1),(8,1),(9,0),(10,3),(11,0)] [10] mixed (by kernel_rfl) ?_)|(refine St.draw (id:=6) [(0,0),(1,0),(2,0),(3,1),(4,0),(5,0),(6,0),(7,1),(8,0),(9,0),(10,0),(11,1),(12,0),(13,1),(14,0),(15,3),(16,0)] [15] mixed (by kernel_rfl) ?_)|(refine St.draw (id:=11) [(0,0),(1,0),(2,0),(3,1),(4,0),(5,0),(6,0),(7,1),(8,0),(9,0),(10,0),(11,1),(12,0),(13,0),(14,1),(15,1),(16,0),(17,0),(18,0),(19,0),(20,0),(21,0),(22,0)] [] mixed (by kernel_rfl) ?_)|(refine St.draw (id:=12) [(0,0),(1,0),(2,0),(3,1),(4,0),(5,0),(6,0),(7,1),(8,1),(9,0),(10,0),(11,0),(12,0),(13,0),(14,3),(15,0)] [14] mixed (by kernel_rfl) ?_)|(refine St.draw (id:=14) [(0,0),(1,0),(2,0),(3,1),(4,0),(5,0),(6,0),(7,1),(8,0),(9,0),(10,1),(11,0),(12,3),(13,0)] [12] mixed (by kernel_rfl) ?_)|(refine St.draw (id:=16) [(0,0),(1,0),(2,0),(3,1),(4,0),(5,0),(6,0),(7,1),(8,0),(9,0),(10,1),(11,0),(12,0),(13,0),(14,1),(15,0),(16,0),(17,0),(18,1),(19,0),(20,0),(21,0),(22,1),(23,0),(24,0),(25,1),(26,0),(27,0),(28,0),(29,1),(30,0),(31,0),(32,3),(33,0)] [32] mixed (by kernel_rfl) ?_)|(refine St.draw (id:=18) [(0,0),(1,1),(2,0),(3,0),(4,0),(5,1),(6,0),(7,0),(8,3),(9,0)] [8] mixed (by kernel_rfl) ?_)| refine Gl hop ?_|(refine Ge ?_ ?_<;>(intro h;try (exfalso;omega)))|fail)
      refine St.d1 Tryz.func342 ⟨_,⟨rfl,rfl⟩,Ent.go⟩
    · rw [if_neg (by decide),if_neg (by decide),if_neg (by decide),if_neg (by decide),if_pos rfl]
      unfold mop MOp.v
      refine Tri.of_body (vs:=[_]) Tryz.func342 rfl rfl fun w0 F=>?_
      repeat' (first|refine Ga ?_|(refine Gb ?_;intro b)|(refine Gd ?_;intro g cap rest hcap)|(refine Gc ?_;intro ad cap)|(refine St.draw (id:=4) [(0,0),(1,0),(2,0),(3,1),(4,0),(5,0),(6,0),(7,1),(8,1),(9,0),(10,3),(11,0)] [10] mixed (by kernel_rfl) ?_)|(refine St.draw (id:=6) [(0,0),(1,0),(2,0),(3,1),(4,0),(5,0),(6,0),(7,1),(8,0),(9,0),(10,0),(11,1),(12,0),(13,1),(14,0),(15,3),(16,0)] [15] mixed (by kernel_rfl) ?_)|(refine St.draw (id:=11) [(0,0),(1,0),(2,0),(3,1),(4,0),(5,0),(6,0),(7,1),(8,0),(9,0),(10,0),(11,1),(12,0),(13,0),(14,1),(15,1),(16,0),(17,0),(18,0),(19,0),(20,0),(21,0),(22,0)] [] mixed (by kernel_rfl) ?_)|(refine St.draw (id:=12) [(0,0),(1,0),(2,0),(3,1),(4,0),(5,0),(6,0),(7,1),(8,1),(9,0),(10,0),(11,0),(12,0),(13,0),(14,3),(15,0)] [14] mixed (by kernel_rfl) ?_)|(refine St.draw (id:=14) [(0,0),(1,0),(2,0),(3,1),(4,0),(5,0),(6,0),(7,1),(8,0),(9,0),(10,1),(11,0),(12,3),(13,0)] [12] mixed (by kernel_rfl) ?_)|(refine St.draw (id:=16) [(0,0),(1,0),(2,0),(3,1),(4,0),(5,0),(6,0),(7,1),(8,0),(9,0),(10,1),(11,0),(12,0),(13,0),(14,1),(15,0),(16,0),(17,0),(18,1),(19,0),(20,0),(21,0),(22,1),(23,0),(24,0),(25,1),(26,0),(27,0),(28,0),(29,1),(30,0),(31,0),(32,3),(33,0)] [32] mixed (by kernel_rfl) ?_)|(refine St.draw (id:=18) [(0,0),(1,1),(2,0),(3,0),(4,0),(5,1),(6,0),(7,0),(8,3),(9,0)] [8] mixed (by kernel_rfl) ?_)| refine Gl hop ?_|(refine Ge ?_ ?_<;>(intro h;try (exfalso;omega)))|fail)
      refine St.d1 Tryz.func342 ⟨_,⟨rfl,rfl⟩,Ent.go⟩
    · rw [if_neg (by decide),if_neg (by decide),if_neg (by decide),if_neg (by decide),if_neg (by decide),if_pos rfl]
      unfold MOp.v
      refine Tri.of_body (vs:=[_]) Tryz.func342 rfl rfl fun w0 F=>?_
      repeat' (first|refine Ga ?_|(refine Gb ?_;intro b)|(refine Gd ?_;intro g cap rest hcap)|(refine Gc ?_;intro ad cap)|(refine St.draw (id:=4) [(0,0),(1,0),(2,0),(3,1),(4,0),(5,0),(6,0),(7,1),(8,1),(9,0),(10,3),(11,0)] [10] mixed (by kernel_rfl) ?_)|(refine St.draw (id:=6) [(0,0),(1,0),(2,0),(3,1),(4,0),(5,0),(6,0),(7,1),(8,0),(9,0),(10,0),(11,1),(12,0),(13,1),(14,0),(15,3),(16,0)] [15] mixed (by kernel_rfl) ?_)|(refine St.draw (id:=11) [(0,0),(1,0),(2,0),(3,1),(4,0),(5,0),(6,0),(7,1),(8,0),(9,0),(10,0),(11,1),(12,0),(13,0),(14,1),(15,1),(16,0),(17,0),(18,0),(19,0),(20,0),(21,0),(22,0)] [] mixed (by kernel_rfl) ?_)|(refine St.draw (id:=12) [(0,0),(1,0),(2,0),(3,1),(4,0),(5,0),(6,0),(7,1),(8,1),(9,0),(10,0),(11,0),(12,0),(13,0),(14,3),(15,0)] [14] mixed (by kernel_rfl) ?_)|(refine St.draw (id:=14) [(0,0),(1,0),(2,0),(3,1),(4,0),(5,0),(6,0),(7,1),(8,0),(9,0),(10,1),(11,0),(12,3),(13,0)] [12] mixed (by kernel_rfl) ?_)|(refine St.draw (id:=16) [(0,0),(1,0),(2,0),(3,1),(4,0),(5,0),(6,0),(7,1),(8,0),(9,0),(10,1),(11,0),(12,0),(13,0),(14,1),(15,0),(16,0),(17,0),(18,1),(19,0),(20,0),(21,0),(22,1),(23,0),(24,0),(25,1),(26,0),(27,0),(28,0),(29,1),(30,0),(31,0),(32,3),(33,0)] [32] mixed (by kernel_rfl) ?_)|(refine St.draw (id:=18) [(0,0),(1,1),(2,0),(3,0),(4,0),(5,1),(6,0),(7,0),(8,3),(9,0)] [8] mixed (by kernel_rfl) ?_)| refine Gl hop ?_|(refine Ge ?_ ?_<;>(intro h;try (exfalso;omega)))|fail)
      refine St.d1 Tryz.func342 ⟨_,⟨rfl,rfl⟩,Ent.go⟩
  · have ha5:=at_r c hc 5 y.owner 0
    have ha6:=at_r c hc 6 y.owner y.list.length
    unfold Hm.ask
    obtain ⟨who,owner,seq,list,n,k,held,cell,next⟩:=y
    unfold hpV at hH htk
    dsimp only at *
    rcases (by omega:next=0∨next=1∨next=2∨next=7∨next=8) with rfl|rfl|rfl|rfl|rfl
    · rw [if_pos rfl]
      unfold mop MOp.v
      refine Tri.of_body (vs:=[_]) Tryz.func342 rfl rfl fun w0 F=>?_
      repeat' (first|refine Ga ?_|(refine Gb ?_;intro b)|(refine Gd ?_;intro g cap rest hcap)|(refine Gc ?_;intro ad cap)|(refine St.draw (id:=4) [(0,0),(1,0),(2,0),(3,1),(4,0),(5,0),(6,0),(7,1),(8,1),(9,0),(10,3),(11,0)] [10] mixed (by kernel_rfl) ?_)|(refine St.draw (id:=6) [(0,0),(1,0),(2,0),(3,1),(4,0),(5,0),(6,0),(7,1),(8,0),(9,0),(10,0),(11,1),(12,0),(13,1),(14,0),(15,3),(16,0)] [15] mixed (by kernel_rfl) ?_)|(refine St.draw (id:=11) [(0,0),(1,0),(2,0),(3,1),(4,0),(5,0),(6,0),(7,1),(8,0),(9,0),(10,0),(11,1),(12,0),(13,0),(14,1),(15,1),(16,0),(17,0),(18,0),(19,0),(20,0),(21,0),(22,0)] [] mixed (by kernel_rfl) ?_)|(refine St.draw (id:=12) [(0,0),(1,0),(2,0),(3,1),(4,0),(5,0),(6,0),(7,1),(8,1),(9,0),(10,0),(11,0),(12,0),(13,0),(14,3),(15,0)] [14] mixed (by kernel_rfl) ?_)|(refine St.draw (id:=14) [(0,0),(1,0),(2,0),(3,1),(4,0),(5,0),(6,0),(7,1),(8,0),(9,0),(10,1),(11,0),(12,3),(13,0)] [12] mixed (by kernel_rfl) ?_)|(refine St.draw (id:=16) [(0,0),(1,0),(2,0),(3,1),(4,0),(5,0),(6,0),(7,1),(8,0),(9,0),(10,1),(11,0),(12,0),(13,0),(14,1),(15,0),(16,0),(17,0),(18,1),(19,0),(20,0),(21,0),(22,1),(23,0),(24,0),(25,1),(26,0),(27,0),(28,0),(29,1),(30,0),(31,0),(32,3),(33,0)] [32] mixed (by kernel_rfl) ?_)|(refine St.draw (id:=18) [(0,0),(1,1),(2,0),(3,0),(4,0),(5,1),(6,0),(7,0),(8,3),(9,0)] [8] mixed (by kernel_rfl) ?_)| refine Gl hop ?_|refine Gl ha5 ?_|(refine Ge ?_ ?_<;>(intro h;try (exfalso;omega)))|fail)
      refine St.d1 Tryz.func342 ⟨_,⟨rfl,rfl⟩,Ent.go⟩
    · rw [if_neg (by decide),if_pos rfl]
      unfold mop MOp.v
      refine Tri.of_body (vs:=[_]) Tryz.func342 rfl rfl fun w0 F=>?_
      repeat' (first|refine Ga ?_|(refine Gb ?_;intro b)|(refine Gd ?_;intro g cap rest hcap)|(refine Gc ?_;intro ad cap)|(refine St.draw (id:=4) [(0,0),(1,0),(2,0),(3,1),(4,0),(5,0),(6,0),(7,1),(8,1),(9,0),(10,3),(11,0)] [10] mixed (by kernel_rfl) ?_)|(refine St.draw (id:=6) [(0,0),(1,0),(2,0),(3,1),(4,0),(5,0),(6,0),(7,1),(8,0),(9,0),(10,0),(11,1),(12,0),(13,1),(14,0),(15,3),(16,0)] [15] mixed (by kernel_rfl) ?_)|(refine St.draw (id:=11) [(0,0),(1,0),(2,0),(3,1),(4,0),(5,0),(6,0),(7,1),(8,0),(9,0),(10,0),(11,1),(12,0),(13,0),(14,1),(15,1),(16,0),(17,0),(18,0),(19,0),(20,0),(21,0),(22,0)] [] mixed (by kernel_rfl) ?_)|(refine St.draw (id:=12) [(0,0),(1,0),(2,0),(3,1),(4,0),(5,0),(6,0),(7,1),(8,1),(9,0),(10,0),(11,0),(12,0),(13,0),(14,3),(15,0)] [14] mixed (by kernel_rfl) ?_)|(refine St.draw (id:=14) [(0,0),(1,0),(2,0),(3,1),(4,0),(5,0),(6,0),(7,1),(8,0),(9,0),(10,1),(11,0),(12,3),(13,0)] [12] mixed (by kernel_rfl) ?_)|(refine St.draw (id:=16) [(0,0),(1,0),(2,0),(3,1),(4,0),(5,0),(6,0),(7,1),(8,0),(9,0),(10,1),(11,0),(12,0),(13,0),(14,1),(15,0),(16,0),(17,0),(18,1),(19,0),(20,0),(21,0),(22,1),(23,0),(24,0),(25,1),(26,0),(27,0),(28,0),(29,1),(30,0),(31,0),(32,3),(33,0)] [32] mixed (by kernel_rfl) ?_)|(refine St.draw (id:=18) [(0,0),(1,1),(2,0),(3,0),(4,0),(5,1),(6,0),(7,0),(8,3),(9,0)] [8] mixed (by kernel_rfl) ?_)| refine Gl hop ?_|refine Gl ha6 ?_|(refine Ge ?_ ?_<;>(intro h;try (exfalso;omega)))|fail)
      refine St.d1 Tryz.func342 ⟨_,⟨rfl,rfl⟩,Ent.go⟩
    · rw [if_neg (by decide),if_neg (by decide),if_pos (.inl rfl)]
      unfold mop MOp.v
      refine Tri.of_body (vs:=[_]) Tryz.func342 rfl rfl fun w0 F=>?_
      repeat' (first|refine Ga ?_|(refine Gb ?_;intro b)|(refine Gd ?_;intro g cap rest hcap)|(refine Gc ?_;intro ad cap)|(refine St.draw (id:=4) [(0,0),(1,0),(2,0),(3,1),(4,0),(5,0),(6,0),(7,1),(8,1),(9,0),(10,3),(11,0)] [10] mixed (by kernel_rfl) ?_)|(refine St.draw (id:=6) [(0,0),(1,0),(2,0),(3,1),(4,0),(5,0),(6,0),(7,1),(8,0),(9,0),(10,0),(11,1),(12,0),(13,1),(14,0),(15,3),(16,0)] [15] mixed (by kernel_rfl) ?_)|(refine St.draw (id:=11) [(0,0),(1,0),(2,0),(3,1),(4,0),(5,0),(6,0),(7,1),(8,0),(9,0),(10,0),(11,1),(12,0),(13,0),(14,1),(15,1),(16,0),(17,0),(18,0),(19,0),(20,0),(21,0),(22,0)] [] mixed (by kernel_rfl) ?_)|(refine St.draw (id:=12) [(0,0),(1,0),(2,0),(3,1),(4,0),(5,0),(6,0),(7,1),(8,1),(9,0),(10,0),(11,0),(12,0),(13,0),(14,3),(15,0)] [14] mixed (by kernel_rfl) ?_)|(refine St.draw (id:=14) [(0,0),(1,0),(2,0),(3,1),(4,0),(5,0),(6,0),(7,1),(8,0),(9,0),(10,1),(11,0),(12,3),(13,0)] [12] mixed (by kernel_rfl) ?_)|(refine St.draw (id:=16) [(0,0),(1,0),(2,0),(3,1),(4,0),(5,0),(6,0),(7,1),(8,0),(9,0),(10,1),(11,0),(12,0),(13,0),(14,1),(15,0),(16,0),(17,0),(18,1),(19,0),(20,0),(21,0),(22,1),(23,0),(24,0),(25,1),(26,0),(27,0),(28,0),(29,1),(30,0),(31,0),(32,3),(33,0)] [32] mixed (by kernel_rfl) ?_)|(refine St.draw (id:=18) [(0,0),(1,1),(2,0),(3,0),(4,0),(5,1),(6,0),(7,0),(8,3),(9,0)] [8] mixed (by kernel_rfl) ?_)| refine Gl hop ?_|(refine Ge ?_ ?_<;>(intro h;try (exfalso;omega)))|fail)
      refine St.d1 Tryz.func342 ⟨_,⟨rfl,rfl⟩,Ent.go⟩
    · rw [if_neg (by decide),if_neg (by decide),if_neg (by decide),if_neg (by decide),if_neg (by decide),if_neg (by decide),if_pos rfl]
      unfold MOp.v
      refine Tri.of_body (vs:=[_]) Tryz.func342 rfl rfl fun w0 F=>?_
      repeat' (first|refine Ga ?_|(refine Gb ?_;intro b)|(refine Gd ?_;intro g cap rest hcap)|(refine Gc ?_;intro ad cap)|(refine St.draw (id:=4) [(0,0),(1,0),(2,0),(3,1),(4,0),(5,0),(6,0),(7,1),(8,1),(9,0),(10,3),(11,0)] [10] mixed (by kernel_rfl) ?_)|(refine St.draw (id:=6) [(0,0),(1,0),(2,0),(3,1),(4,0),(5,0),(6,0),(7,1),(8,0),(9,0),(10,0),(11,1),(12,0),(13,1),(14,0),(15,3),(16,0)] [15] mixed (by kernel_rfl) ?_)|(refine St.draw (id:=11) [(0,0),(1,0),(2,0),(3,1),(4,0),(5,0),(6,0),(7,1),(8,0),(9,0),(10,0),(11,1),(12,0),(13,0),(14,1),(15,1),(16,0),(17,0),(18,0),(19,0),(20,0),(21,0),(22,0)] [] mixed (by kernel_rfl) ?_)|(refine St.draw (id:=12) [(0,0),(1,0),(2,0),(3,1),(4,0),(5,0),(6,0),(7,1),(8,1),(9,0),(10,0),(11,0),(12,0),(13,0),(14,3),(15,0)] [14] mixed (by kernel_rfl) ?_)|(refine St.draw (id:=14) [(0,0),(1,0),(2,0),(3,1),(4,0),(5,0),(6,0),(7,1),(8,0),(9,0),(10,1),(11,0),(12,3),(13,0)] [12] mixed (by kernel_rfl) ?_)|(refine St.draw (id:=16) [(0,0),(1,0),(2,0),(3,1),(4,0),(5,0),(6,0),(7,1),(8,0),(9,0),(10,1),(11,0),(12,0),(13,0),(14,1),(15,0),(16,0),(17,0),(18,1),(19,0),(20,0),(21,0),(22,1),(23,0),(24,0),(25,1),(26,0),(27,0),(28,0),(29,1),(30,0),(31,0),(32,3),(33,0)] [32] mixed (by kernel_rfl) ?_)|(refine St.draw (id:=18) [(0,0),(1,1),(2,0),(3,0),(4,0),(5,1),(6,0),(7,0),(8,3),(9,0)] [8] mixed (by kernel_rfl) ?_)| refine Gl hop ?_|(refine Ge ?_ ?_<;>(intro h;try (exfalso;omega)))|fail)
      refine St.d1 Tryz.func342 ⟨_,⟨rfl,rfl⟩,Ent.go⟩
    · rw [if_neg (by decide),if_neg (by decide),if_neg (by decide),if_neg (by decide),if_neg (by decide),if_neg (by decide),if_neg (by decide)]
      unfold mop MOp.v
      refine Tri.of_body (vs:=[_]) Tryz.func342 rfl rfl fun w0 F=>?_
      repeat' (first|refine Ga ?_|(refine Gb ?_;intro b)|(refine Gd ?_;intro g cap rest hcap)|(refine Gc ?_;intro ad cap)|(refine St.draw (id:=4) [(0,0),(1,0),(2,0),(3,1),(4,0),(5,0),(6,0),(7,1),(8,1),(9,0),(10,3),(11,0)] [10] mixed (by kernel_rfl) ?_)|(refine St.draw (id:=6) [(0,0),(1,0),(2,0),(3,1),(4,0),(5,0),(6,0),(7,1),(8,0),(9,0),(10,0),(11,1),(12,0),(13,1),(14,0),(15,3),(16,0)] [15] mixed (by kernel_rfl) ?_)|(refine St.draw (id:=11) [(0,0),(1,0),(2,0),(3,1),(4,0),(5,0),(6,0),(7,1),(8,0),(9,0),(10,0),(11,1),(12,0),(13,0),(14,1),(15,1),(16,0),(17,0),(18,0),(19,0),(20,0),(21,0),(22,0)] [] mixed (by kernel_rfl) ?_)|(refine St.draw (id:=12) [(0,0),(1,0),(2,0),(3,1),(4,0),(5,0),(6,0),(7,1),(8,1),(9,0),(10,0),(11,0),(12,0),(13,0),(14,3),(15,0)] [14] mixed (by kernel_rfl) ?_)|(refine St.draw (id:=14) [(0,0),(1,0),(2,0),(3,1),(4,0),(5,0),(6,0),(7,1),(8,0),(9,0),(10,1),(11,0),(12,3),(13,0)] [12] mixed (by kernel_rfl) ?_)|(refine St.draw (id:=16) [(0,0),(1,0),(2,0),(3,1),(4,0),(5,0),(6,0),(7,1),(8,0),(9,0),(10,1),(11,0),(12,0),(13,0),(14,1),(15,0),(16,0),(17,0),(18,1),(19,0),(20,0),(21,0),(22,1),(23,0),(24,0),(25,1),(26,0),(27,0),(28,0),(29,1),(30,0),(31,0),(32,3),(33,0)] [32] mixed (by kernel_rfl) ?_)|(refine St.draw (id:=18) [(0,0),(1,1),(2,0),(3,0),(4,0),(5,1),(6,0),(7,0),(8,3),(9,0)] [8] mixed (by kernel_rfl) ?_)| refine Gl hop ?_|(refine Ge ?_ ?_<;>(intro h;try (exfalso;omega)))|fail)
      refine St.d1 Tryz.func342 ⟨_,⟨rfl,rfl⟩,Ent.go⟩
end Go.Proofs.YthmbgodcpgkkeaaGreat
