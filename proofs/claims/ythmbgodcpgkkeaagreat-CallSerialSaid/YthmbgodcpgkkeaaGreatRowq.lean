/-
  Package build: Entries, Rows. Package build, sealed; a memory, sealed; package tumblerlaw14: few. Package tumblerlaw14: want, plan. Package tumblerlaw14: alive. Rows: programs, calls and replies, with what is known of their numbers.
-/
import Derived.Test.YthmbgodcpgkkeaaGreatBi
import Derived.Test.YthmbgodcpgkkeaaGreatExc
import Derived.Test.YthmbgodcpgkkeaaGreatIns
section
namespace Go.Proofs.YthmbgodcpgkkeaaGreat
set_option maxRecDepth 100000
theorem filter_snoc (c:Cfg) (P l:List (Int×Nat)) (k:Nat) (hk:k<l.length):(l.take (k+1)).filter (entB c P)=(l.take k).filter (entB c P)++if entB c P l[k]=true then [l[k]] else []:=by
  rw [List.take_succ_eq_append_getElem hk,List.filter_append]
  congr 1
  by_cases h:entB c P l[k]=true
  · simp [h]
  · simp [h]
set_option maxHeartbeats 1000000 in
theorem bentries_tE (B room:Nat) (c:Cfg) (hc:Small c) (pv:Value) (q:HProp) (progs:Progs) (m:Bm) (hlen:m.e.puts.length≤1000000):Tri Tryz.prog 47 #[.pointer (some ⟨B,0,none⟩)] [BdE B room c pv q progs m]
    fun r L=>∃ ad cap,r=.slice ad (entriesOf c m.e.puts).length cap∧L=[BdE B room c pv q progs m,Row (.slice ad (entriesOf c m.e.puts).length cap) 119 2 (entriesOf c m.e.puts).length ((entriesOf c m.e.puts).flatMap entV)]:=by
  refine Tri.ex_out ?_
  intro h
  have hal:=wall_t h.W room m.e.puts
  have hget:=fun a=>wget_r h.W room m.e.puts a
  have hat:=fun k i j=>at_r c hc k i j
  have hwh:=fun p=>what_r c hc p
  have htk:=take_b c pv h.V h.Pb h.W h.xv (.slice h.rad m.rows.length h.rcap) m.b
  have hll:=allP_len m.e.puts
  have shut:∀ {M:List HProp},Ent (bdL B room c pv q progs m h++M) (BdE B room c pv q progs m::M):=Ent.ex_in (Ls:=bdL B room c pv q progs m) h
  unfold bdL bdO at shut⊢
  unfold entriesOf
  refine Tri.of_body (vs:=[_]) Tryz.func47 rfl rfl fun w0 F=>?_
  repeat' (first|refine Ga ?_|(refine Gb ?_;intro b)|(refine Gd ?_;intro g cap rest hcap)|(refine Gc ?_;intro ad cap)|(refine St.draw (id:=5) [(0,0),(1,0),(2,0),(3,1),(4,0),(5,1),(6,1),(7,0),(8,0),(9,0),(10,0),(11,0),(12,0),(13,0)] [] mixed (by kernel_rfl) ?_)|(refine St.draw (id:=7) [(0,0),(1,0),(2,0),(3,1),(4,0),(5,0),(6,0),(7,1),(8,0),(9,1),(10,1),(11,0),(12,0),(13,0),(14,0),(15,0)] [] mixed (by kernel_rfl) ?_)|(refine Gt hal ?_;rintro _ _ ⟨aad,acap,rfl,rfl⟩)|(refine Ge ?_ ?_<;>(intro h;try (exfalso;omega)))|fail)
  refine St.conv ?_ (Sub.refl _) (Ent.of_take (p:=Row (.slice aad (allP m.e.puts).length acap) 119 2 (allP m.e.puts).length ((allP m.e.puts).flatMap entV)) Take.go)
  by_cases hl0:(allP m.e.puts).length=0
  · have hnil:=List.eq_nil_of_length_eq_zero hl0
    rw [hnil]
    refine St.loop1 ?_
    repeat' (first|refine Ga ?_|(refine Gb ?_;intro b)|(refine Gd ?_;intro g cap rest hcap)|(refine Gc ?_;intro ad cap)|(refine St.draw (id:=5) [(0,0),(1,0),(2,0),(3,1),(4,0),(5,1),(6,1),(7,0),(8,0),(9,0),(10,0),(11,0),(12,0),(13,0)] [] mixed (by kernel_rfl) ?_)|(refine St.draw (id:=7) [(0,0),(1,0),(2,0),(3,1),(4,0),(5,0),(6,0),(7,1),(8,0),(9,1),(10,1),(11,0),(12,0),(13,0),(14,0),(15,0)] [] mixed (by kernel_rfl) ?_)|(refine Ge ?_ ?_<;>(intro h;try (exfalso;omega)))|fail)
    refine St.d1 Tryz.func47 ⟨_,⟨none,0,rfl,rfl⟩, ?_⟩
    refine Ent.trans (Ent.row_nil 119 2) (Ent.trans ?_ (shut (M:=Row (.slice none 0 0) 119 2 0 []::F)))
    exact Ent.go
  refine St.rowF (by omega) (fun g acap' rst hv hrf=>?_)
  injection hv with hv1 hv2 hv3
  subst hv1 hv3
  have hle:=hrf.le
  refine St.conv ?_ (Sub.refl _) (Ent.row_nil 119 2)
  refine St.loopY (Lr:=?Lr) (ι:={ x:Nat×Option Addr×Nat // x.1≤(allP m.e.puts).length }) (fun x=>(allP m.e.puts).length - x.1.1) (fun x=>[(17, .int .i64 (x.1.1:Int)),(3, .slice x.1.2.1 (((allP m.e.puts).take x.1.1).filter (entB c m.e.puts)).length x.1.2.2)])
    (fun x=>[Row (.slice x.1.2.1 (((allP m.e.puts).take x.1.1).filter (entB c m.e.puts)).length x.1.2.2) 119 2 (((allP m.e.puts).take x.1.1).filter (entB c m.e.puts)).length ((((allP m.e.puts).take x.1.1).filter (entB c m.e.puts)).flatMap entV)]) ⟨(0,none,0),Nat.zero_le _⟩ ?hE ?hL ?round
  case hE=>exact Sub.go
  case hL=>exact Takes.go
  case round =>
    rintro ⟨⟨k,ead,ecap⟩,hk⟩ IH;dsimp only at hk⊢
    by_cases hlt:k<(allP m.e.puts).length
    · have hs:=filter_snoc c m.e.puts (allP m.e.puts) k hlt
      have hd:DropN ((k:Int).toNat * 2) ((allP m.e.puts).flatMap entV++rst) (entV (allP m.e.puts)[k]++(((allP m.e.puts).drop (k+1)).flatMap entV++rst)):=by
        rw [←List.append_assoc];exact (DropN.flat entV_len hlt).more rst
      have htke:TakeN 2 (entV (allP m.e.puts)[k]++(((allP m.e.puts).drop (k+1)).flatMap entV++rst)) (entV (allP m.e.puts)[k]):=TakeN.app (entV (allP m.e.puts)[k]) _
      have hfl:(((allP m.e.puts).take k).filter (entB c m.e.puts)).length≤k:=Nat.le_trans (List.length_filter_le _ _) (by rw [List.length_take];omega)
      generalize (allP m.e.puts)[k]=e at hs hd htke
      obtain ⟨ek,ev⟩:=e
      have hw:=hwh ek
      have hb:entB c m.e.puts (ek,ev)=(if (c.what ek).1=16 then !((mget (allP m.e.puts) (c.at 11 (c.what ek).2.1 0)).isSome && ((((mget (allP m.e.puts) (c.at 11 (c.what ek).2.1 0)).getD 0:Nat):Int) != 1)) else true):=rfl
      by_cases h16:(c.what ek).1=16
      · rw [if_pos h16] at hb
        have hg:=hget (c.at 11 (c.what ek).2.1 0)
        have ha:=hat 11 (c.what ek).2.1 0
        generalize mget (allP m.e.puts) (c.at 11 (c.what ek).2.1 0)=gl at hb hg
        cases gl with
        | none =>
          rw [if_pos (by rw [hb];rfl)] at hs
          repeat' (first|refine Ga ?_|(refine Gb ?_;intro b)|(refine Gd ?_;intro g cap rest hcap)|(refine Gc ?_;intro ad cap)|(refine St.draw (id:=5) [(0,0),(1,0),(2,0),(3,1),(4,0),(5,1),(6,1),(7,0),(8,0),(9,0),(10,0),(11,0),(12,0),(13,0)] [] mixed (by kernel_rfl) ?_)|(refine St.draw (id:=7) [(0,0),(1,0),(2,0),(3,1),(4,0),(5,0),(6,0),(7,1),(8,0),(9,1),(10,1),(11,0),(12,0),(13,0),(14,0),(15,0)] [] mixed (by kernel_rfl) ?_)| refine Gl hw ?_|refine Gl ha ?_|refine Gl hg ?_|(refine Ge ?_ ?_<;>(intro h;try (exfalso;omega)))|fail)
          (refine IH ⟨(k+1,ad,cap),hlt⟩ (by show _ - (k+1)<_ - k;omega) ?_ ?_;(dsimp only;rw [hs,List.length_append];exact Sub.go);(dsimp only;rw [hs,List.length_append,List.flatMap_append];exact Ent.go))
        | some y =>
          by_cases hy:y=1
          · subst hy
            rw [if_pos (by rw [hb];rfl)] at hs
            repeat' (first|refine Ga ?_|(refine Gb ?_;intro b)|(refine Gd ?_;intro g cap rest hcap)|(refine Gc ?_;intro ad cap)|(refine St.draw (id:=5) [(0,0),(1,0),(2,0),(3,1),(4,0),(5,1),(6,1),(7,0),(8,0),(9,0),(10,0),(11,0),(12,0),(13,0)] [] mixed (by kernel_rfl) ?_)|(refine St.draw (id:=7) [(0,0),(1,0),(2,0),(3,1),(4,0),(5,0),(6,0),(7,1),(8,0),(9,1),(10,1),(11,0),(12,0),(13,0),(14,0),(15,0)] [] mixed (by kernel_rfl) ?_)| refine Gl hw ?_|refine Gl ha ?_|refine Gl hg ?_|(refine Ge ?_ ?_<;>(intro h;try (exfalso;omega)))|fail)
            (refine IH ⟨(k+1,ad,cap),hlt⟩ (by show _ - (k+1)<_ - k;omega) ?_ ?_;(dsimp only;rw [hs,List.length_append];exact Sub.go);(dsimp only;rw [hs,List.length_append,List.flatMap_append];exact Ent.go))
          · have hy':¬ ((y:Nat):Int)=1:=by omega
            rw [if_neg (by rw [hb];simp;omega),List.append_nil] at hs
            repeat' (first|refine Ga ?_|(refine Gb ?_;intro b)|(refine Gd ?_;intro g cap rest hcap)|(refine Gc ?_;intro ad cap)|(refine St.draw (id:=5) [(0,0),(1,0),(2,0),(3,1),(4,0),(5,1),(6,1),(7,0),(8,0),(9,0),(10,0),(11,0),(12,0),(13,0)] [] mixed (by kernel_rfl) ?_)|(refine St.draw (id:=7) [(0,0),(1,0),(2,0),(3,1),(4,0),(5,0),(6,0),(7,1),(8,0),(9,1),(10,1),(11,0),(12,0),(13,0),(14,0),(15,0)] [] mixed (by kernel_rfl) ?_)| refine Gl hw ?_|refine Gl ha ?_|refine Gl hg ?_|(refine Ge ?_ ?_<;>(intro h;try (exfalso;omega)))|fail)
            · refine IH ⟨(k+1,ead,ecap),hlt⟩ (by show _ - (k+1)<_ - k;omega) ?_ ?_
              · dsimp only;rw [hs];exact Sub.go
              · dsimp only;rw [hs];exact Ent.go
            · exact absurd h hy'
      · rw [if_neg h16] at hb
        rw [if_pos hb] at hs
        repeat' (first|refine Ga ?_|(refine Gb ?_;intro b)|(refine Gd ?_;intro g cap rest hcap)|(refine Gc ?_;intro ad cap)|(refine St.draw (id:=5) [(0,0),(1,0),(2,0),(3,1),(4,0),(5,1),(6,1),(7,0),(8,0),(9,0),(10,0),(11,0),(12,0),(13,0)] [] mixed (by kernel_rfl) ?_)|(refine St.draw (id:=7) [(0,0),(1,0),(2,0),(3,1),(4,0),(5,0),(6,0),(7,1),(8,0),(9,1),(10,1),(11,0),(12,0),(13,0),(14,0),(15,0)] [] mixed (by kernel_rfl) ?_)| refine Gl hw ?_|(refine Ge ?_ ?_<;>(intro h;try (exfalso;omega)))|fail)
        (refine IH ⟨(k+1,ad,cap),hlt⟩ (by show _ - (k+1)<_ - k;omega) ?_ ?_;(dsimp only;rw [hs,List.length_append];exact Sub.go);(dsimp only;rw [hs,List.length_append,List.flatMap_append];exact Ent.go))
    · obtain rfl:k=(allP m.e.puts).length:=by omega
      clear IH
      rw [List.take_length]
      repeat' (first|refine Ga ?_|(refine Gb ?_;intro b)|(refine Gd ?_;intro g cap rest hcap)|(refine Gc ?_;intro ad cap)|(refine St.draw (id:=5) [(0,0),(1,0),(2,0),(3,1),(4,0),(5,1),(6,1),(7,0),(8,0),(9,0),(10,0),(11,0),(12,0),(13,0)] [] mixed (by kernel_rfl) ?_)|(refine St.draw (id:=7) [(0,0),(1,0),(2,0),(3,1),(4,0),(5,0),(6,0),(7,1),(8,0),(9,1),(10,1),(11,0),(12,0),(13,0),(14,0),(15,0)] [] mixed (by kernel_rfl) ?_)|(refine Ge ?_ ?_<;>(intro h;try (exfalso;omega)))|fail)
      refine St.d1 Tryz.func47 ⟨_,⟨ead,ecap,rfl,rfl⟩, ?_⟩
      refine Ent.trans ?_ (shut (M:=Row (.slice ead ((allP m.e.puts).filter (entB c m.e.puts)).length ecap) 119 2 ((allP m.e.puts).filter (entB c m.e.puts)).length (((allP m.e.puts).filter (entB c m.e.puts)).flatMap entV)::F))
      exact Ent.go
theorem Ent.star_get (A B:List HProp) (p:HProp) {M:List HProp}:Ent (star (A++p::B)::M) (p::star (A++B)::M):=by
  refine Ent.trans Ent.star_out ?_
  rw [List.append_assoc,List.cons_append]
  refine Ent.trans Ent.mid' (Ent.cons ?_)
  rw [←List.append_assoc]
  exact Ent.star_in (A++B)
theorem Ent.star_put (A B:List HProp) (p:HProp) {M:List HProp}:Ent (p::star (A++B)::M) (star (A++p::B)::M):=by
  refine Ent.trans (Ent.cons Ent.star_out) ?_
  rw [List.append_assoc]
  refine Ent.trans Ent.mid ?_
  rw [←List.cons_append,←List.append_assoc]
  exact Ent.star_in (A++p::B)
theorem clone_row (v:Value) (n:Nat) (xs:List Value) (h1:xs.all one=true) (hn:n≤1000000):Tri Tryz.prog 131 #[v] [Row v 128 5 n xs]
    fun r L=>∃ ad cap,r=.slice ad n cap∧L=[Row v 128 5 n xs,Row (.slice ad n cap) 128 5 n xs]:=by
  refine Tri.of_body (vs:=[_]) Tryz.func131 rfl rfl fun w0 F=>?_
  refine St.rowC (fun hv h0 hx=>?_) (fun g cap rest hv hrf=>?_)
  · subst hv h0 hx
    repeat' (first|refine Ga ?_|(refine Gb ?_;intro b)|(refine Gd ?_;intro g cap rest hcap)|(refine Gc ?_;intro ad cap) |(refine Ge ?_ ?_<;>(intro h;try (exfalso;omega)))|fail)
    refine St.d1 Tryz.func131 ⟨_,⟨none,0,rfl,rfl⟩, ?_⟩
    exact Ent.trans (Ent.row_nil 128 5) (Ent.trans (Ent.row_nil 128 5) Ent.go)
  · subst hv
    have htk:TakeN (n * 5) (xs++rest) xs:=by rw [←hrf.len];exact TakeN.app _ _
    repeat' (first|refine Ga ?_|(refine Gb ?_;intro b)|(refine Gd ?_;intro g cap rest hcap)|(refine Gc ?_;intro ad cap) |(refine Ge ?_ ?_<;>(intro h;try (exfalso;omega)))|fail)
    refine St.d1 Tryz.func131 ⟨_,⟨_,_,rfl,rfl⟩, ?_⟩
    refine Ent.trans (Ent.of_take (p:=bl g 128 (xs++rest)) Take.go) (Ent.trans (Ent.rowF hrf) Ent.go)
theorem clone_u64 (v:Value) (n:Nat) (xs:List Value) (h1:xs.all one=true) (hn:n≤1000000):Tri Tryz.prog 132 #[v] [Row v 22 1 n xs]
    fun r L=>∃ ad cap,r=.slice ad n cap∧L=[Row v 22 1 n xs,Row (.slice ad n cap) 22 1 n xs]:=by
  refine Tri.of_body (vs:=[_]) Tryz.func132 rfl rfl fun w0 F=>?_
  refine St.rowC (fun hv h0 hx=>?_) (fun g cap rest hv hrf=>?_)
  · subst hv h0 hx
    repeat' (first|refine Ga ?_|(refine Gb ?_;intro b)|(refine Gd ?_;intro g cap rest hcap)|(refine Gc ?_;intro ad cap) |(refine Ge ?_ ?_<;>(intro h;try (exfalso;omega)))|fail)
    refine St.d1 Tryz.func132 ⟨_,⟨none,0,rfl,rfl⟩, ?_⟩
    exact Ent.trans (Ent.row_nil 22 1) (Ent.trans (Ent.row_nil 22 1) Ent.go)
  · subst hv
    have htk:TakeN (n * 1) (xs++rest) xs:=by rw [←hrf.len];exact TakeN.app _ _
    repeat' (first|refine Ga ?_|(refine Gb ?_;intro b)|(refine Gd ?_;intro g cap rest hcap)|(refine Gc ?_;intro ad cap) |(refine Ge ?_ ?_<;>(intro h;try (exfalso;omega)))|fail)
    refine St.d1 Tryz.func132 ⟨_,⟨_,_,rfl,rfl⟩, ?_⟩
    refine Ent.trans (Ent.of_take (p:=bl g 22 (xs++rest)) Take.go) (Ent.trans (Ent.rowF hrf) Ent.go)
theorem rowV_one (rs:List RowH):(rs.flatMap rowV).all one=true:=by
  induction rs with
  | nil=>rfl
  | cons x l ih=>rw [List.flatMap_cons,List.all_append,ih];rfl
theorem u64s_onb (l:List Nat):(u64s l).all one=true:=by
  unfold u64s
  induction l with
  | nil=>rfl
  | cons x l ih=>rw [List.map_cons,List.all_cons,ih];rfl
set_option maxHeartbeats 1000000 in
theorem brows_tE (B room:Nat) (c:Cfg) (pv:Value) (q:HProp) (progs:Progs) (m:Bm) (hlen:m.rows.length≤1000) (hnw:∀ r∈m.rows,r.news.length≤1000):Tri Tryz.prog 44 #[.pointer (some ⟨B,0,none⟩)] [BdE B room c pv q progs m]
    fun r L=>∃ (ad:Option Addr) (cap:Nat) (rs:List RowH),rs.map (·.1)=m.rows∧r=.slice ad m.rows.length cap∧L=[BdE B room c pv q progs m,Row (.slice ad m.rows.length cap) 128 5 m.rows.length (rs.flatMap rowV),star (rs.map rowP)]:=by
  refine Tri.ex_out ?_
  intro y
  have hrs:=y.hrs
  have hlrs:y.rs.length=m.rows.length:=by rw [←hrs,List.length_map]
  have hcr:=clone_row (.slice y.rad m.rows.length y.rcap) m.rows.length (y.rs.flatMap rowV) (rowV_one _) (by omega)
  have shut:∀ {M:List HProp},Ent (bdL B room c pv q progs m y++M) (BdE B room c pv q progs m::M):=Ent.ex_in (Ls:=bdL B room c pv q progs m) y
  unfold bdL bdO at shut⊢
  refine Tri.of_body (vs:=[_]) Tryz.func44 rfl rfl fun w0 F=>?_
  repeat' (first|refine Ga ?_|(refine Gb ?_;intro b)|(refine Gd ?_;intro g cap rest hcap)|(refine Gc ?_;intro ad cap) |(refine Gt hcr ?_;rintro _ _ ⟨oad,ocap,rfl,rfl⟩)|(refine Ge ?_ ?_<;>(intro h;try (exfalso;omega)))|fail)
  by_cases hl0:m.rows.length=0
  · have hrn:m.rows=[]:=List.eq_nil_of_length_eq_zero hl0
    have hsn:y.rs=[]:=List.eq_nil_of_length_eq_zero (by omega)
    refine St.loop1 ?_
    repeat' (first|refine Ga ?_|(refine Gb ?_;intro b)|(refine Gd ?_;intro g cap rest hcap)|(refine Gc ?_;intro ad cap) |(refine Ge ?_ ?_<;>(intro h;try (exfalso;omega)))|fail)
    refine St.d1 Tryz.func44 ⟨_,⟨oad,ocap,y.rs,hrs,rfl,rfl⟩, ?_⟩
    refine Ent.trans (Ent.star_in []) (Ent.trans ?_ (shut (M:=Row (.slice oad m.rows.length ocap) 128 5 m.rows.length (y.rs.flatMap rowV)::star (y.rs.map rowP)::F)))
    rw [hsn]
    exact Ent.go
  · refine St.conv ?_ (Sub.refl _) (Ent.of_take (p:=Row (.slice oad m.rows.length ocap) 128 5 m.rows.length (y.rs.flatMap rowV)) Take.go)
    refine St.rowF (by omega) (fun g ocap' rst hv hrf=>?_)
    injection hv with hv1 hv2 hv3
    subst hv1 hv3
    have hle:=hrf.le
    refine St.conv ?_ (Sub.refl _) (Ent.star_in [])
    refine St.loopY (Lr:=?Lr) (ι:={ x:Nat×List RowH // x.1≤m.rows.length∧x.2.length=x.1∧x.2.map (·.1)=(y.rs.take x.1).map (·.1) }) (fun x=>m.rows.length - x.1.1) (fun x=>[(12, .int .i64 (x.1.1:Int))])
      (fun x=>[bl g 128 ((x.1.2++y.rs.drop x.1.1).flatMap rowV++rst),star (x.1.2.map rowP)]) ⟨(0,[]),Nat.zero_le _,rfl,rfl⟩ ?hE ?hL ?round
    case hE=>exact Sub.go
    case hL=>exact Takes.go
    case round =>
      rintro ⟨⟨k,xs⟩,hk,hxl,hxm⟩ IH;dsimp only at hk hxl hxm⊢
      by_cases hlt:k<m.rows.length
      · have hkr:k<y.rs.length:=by omega
        have hsplit:y.rs.map rowP=(y.rs.take k).map rowP++rowP y.rs[k]::(y.rs.drop (k+1)).map rowP:=by
          rw [←List.map_cons,←List.drop_eq_getElem_cons hkr,←List.map_append,List.take_append_drop]
        have hkl:k<(xs++y.rs.drop k).length:=by rw [List.length_append,List.length_drop];omega
        have hget:(xs++y.rs.drop k)[k]=y.rs[k]:=by
          rw [List.getElem_append_right (by omega)]
          simp [hxl]
        have hr1:y.rs[k].1∈m.rows:=by rw [←hrs];exact List.mem_map.2 ⟨_,List.getElem_mem hkr,rfl⟩
        have hn1:=hnw _ hr1
        have hnx:(y.rs.take (k+1)).map (·.1)=(y.rs.take k).map (·.1)++[y.rs[k].1]:=by rw [List.take_succ_eq_append_getElem hkr,List.map_append];rfl
        have hnth:NthN ((k:Int).toNat * 5+4) ((xs++y.rs.drop k).flatMap rowV++rst) (.slice y.rs[k].2.1 y.rs[k].1.news.length y.rs[k].2.2):=by
          rw [Int.toNat_natCast]
          have h1:=NthN.flat rowV_len hkl (NthN.of (l:=rowV (xs++y.rs.drop k)[k]) (n:=4) rfl)
          rw [hget] at h1
          exact h1.app_left rst
        have hset:∀ (a:Option Addr) (cp:Nat),SetN (.slice a y.rs[k].1.news.length cp) ((k:Int).toNat * 5+4) ((xs++y.rs.drop k).flatMap rowV++rst) (((xs++[(y.rs[k].1,a,cp)])++y.rs.drop (k+1)).flatMap rowV++rst):=fun a cp=>by
          rw [Int.toNat_natCast]
          have h1:SetN (.slice a y.rs[k].1.news.length cp) (k * 5+4) ((xs++y.rs.drop k).flatMap rowV) (((xs++y.rs.drop k).set k (y.rs[k].1,a,cp)).flatMap rowV):=SetN.flat rowV_len hkl (by rw [hget];exact .succ (.succ (.succ (.succ .zero))))
          have e:(xs++y.rs.drop k).set k (y.rs[k].1,a,cp)=(xs++[(y.rs[k].1,a,cp)])++y.rs.drop (k+1):=by
            rw [List.set_append_right _ _ (by omega),List.drop_eq_getElem_cons hkr,hxl,Nat.sub_self,List.set_cons_zero];simp
          rw [e] at h1
          exact h1.app_left rst
        refine St.conv ?_ (Sub.refl _) (Ent.trans (Ent.of_take (p:=star (y.rs.map rowP)) Take.go) (by rw [hsplit];exact Ent.star_get _ _ _))
        have hin:(y.rs.take k).map rowP++rowP y.rs[k]::(y.rs.drop (k+1)).map rowP=y.rs.map rowP:=hsplit.symm
        generalize y.rs[k]=r at *
        obtain ⟨r,rad,rcap⟩:=r
        dsimp only at *
        have hcl:=clone_u64 (.slice rad r.news.length rcap) r.news.length (u64s r.news) (u64s_onb _) (by omega)
        have hrp:∀ a cp,rowP (r,a,cp)=Row (.slice a r.news.length cp) 22 1 r.news.length (u64s r.news):=fun _ _=>rfl
        rw [hrp]
        repeat' (first|refine Ga ?_|(refine Gb ?_;intro b)|(refine Gd ?_;intro g cap rest hcap)|(refine Gc ?_;intro ad cap) |(refine Gt hcl ?_;rintro _ _ ⟨nad,ncap,rfl,rfl⟩)|(refine Ge ?_ ?_<;>(intro h;try (exfalso;omega)))|fail)
        have hset1:=hset nad ncap
        repeat' (first|refine Ga ?_|(refine Gb ?_;intro b)|(refine Gd ?_;intro g cap rest hcap)|(refine Gc ?_;intro ad cap) |(refine Ge ?_ ?_<;>(intro h;try (exfalso;omega)))|fail)
        refine IH ⟨(k+1,xs++[(r,nad,ncap)]),hlt,by dsimp only;rw [List.length_append,hxl];rfl,by dsimp only;rw [List.map_append,hxm,hnx];rfl⟩ (by show _ - (k+1)<_ - k;omega) ?_ ?_
        · exact Sub.go
        · dsimp only
          rw [List.map_append]
          refine Ent.trans (Ent.of_take (p:=star ((y.rs.take k).map rowP++(y.rs.drop (k+1)).map rowP)) Take.go) (Ent.trans (Ent.of_take (p:=Row (.slice rad r.news.length rcap) 22 1 r.news.length (u64s r.news)) Take.go) (Ent.trans (Ent.star_put _ _ _) ?_))
          rw [←hrp,hin]
          refine Ent.trans (Ent.of_take (p:=star (xs.map rowP)) Take.go) (Ent.trans (Ent.of_take (p:=Row (.slice nad r.news.length ncap) 22 1 r.news.length (u64s r.news)) Take.go) (Ent.trans (Ent.star_snoc _ _) ?_))
          exact Ent.go
      · obtain rfl:k=m.rows.length:=by omega
        clear IH
        have hdn:y.rs.drop m.rows.length=[]:=List.drop_eq_nil_of_le (by omega)
        rw [List.take_of_length_le (by omega),hrs] at hxm
        rw [hdn,List.append_nil]
        repeat' (first|refine Ga ?_|(refine Gb ?_;intro b)|(refine Gd ?_;intro g cap rest hcap)|(refine Gc ?_;intro ad cap) |(refine Ge ?_ ?_<;>(intro h;try (exfalso;omega)))|fail)
        refine St.d1 Tryz.func44 ⟨_,⟨some ⟨g,0,none⟩,ocap,xs,hxm,rfl,rfl⟩, ?_⟩
        have hrf':RowF m.rows.length ocap 5 (xs.flatMap rowV) rst:=by
          have e:(xs.flatMap rowV).length=m.rows.length * 5:=by rw [flat_len rowV_len,hxl]
          exact ⟨hrf.le,hrf.max,e,by have h1:=hrf.tot;have h2:=hrf.len;omega⟩
        refine Ent.trans ?_ (shut (M:=Row (.slice (some ⟨g,0,none⟩) m.rows.length ocap) 128 5 m.rows.length (xs.flatMap rowV)::star (xs.map rowP)::F))
        exact Ent.trans (Ent.of_take (p:=bl g 128 (xs.flatMap rowV++rst)) Take.go) (Ent.trans (Ent.rowF hrf') Ent.go)
end Go.Proofs.YthmbgodcpgkkeaaGreat
end
section
namespace Go.Proofs.YthmbgodcpgkkeaaGreat
set_option maxRecDepth 100000
def Bd (B:Nat) (c:Cfg) (pv:Value) (q:HProp) (progs:Progs) (m:Bm):HProp:=BdE B c.cap.toNat c pv q progs m
theorem bnew_t (c:Cfg) (hc:Small c) (pv:Value) (q:HProp) (progs:Progs) (who:Int) (seq:Nat) (hpv:ProgsR q pv progs):Tri Tryz.prog 38 #[.agg ⟨c.m⟩, .int .i64 who, .int .u64 (seq:Int),pv] [] fun r L=>∃ B,r=.pointer (some ⟨B,0,none⟩)∧L=[Bd B c pv q progs (Bm.new who seq)]:=bnew_tE c hc who seq pv q progs hpv
theorem btell_t (B:Nat) (c:Cfg) (hc:Small c) (pv:Value) (q:HProp) (progs:Progs) (m:Bm) (hf:0≤c.fuel∧c.fuel≤1000) (hpv:ProgsR q pv progs) (hi:Binv c progs m) (o:Out):Tri Tryz.prog 49 #[.pointer (some ⟨B,0,none⟩), .agg ⟨o.v⟩] [Bd B c pv q progs m,q]
    fun r L=>r=.tuple ⟨[]⟩∧L=[Bd B c pv q progs (m.tell c c.cap.toNat progs o),q]:=btell_tE B c hc hf pv q progs hpv m hi o
theorem bstatus_r (B:Nat) (c:Cfg) (pv:Value) (q:HProp) (progs:Progs) (m:Bm):RTri Tryz.prog 41 #[.pointer (some ⟨B,0,none⟩)] [Bd B c pv q progs m] (.int .i64 m.b.s):=bstatus_rE B c.cap.toNat c pv q progs m
theorem bask_r (B:Nat) (c:Cfg) (hc:Small c) (pv:Value) (q:HProp) (progs:Progs) (m:Bm) (hi:Binv c progs m):RTri Tryz.prog 40 #[.pointer (some ⟨B,0,none⟩)] [Bd B c pv q progs m] (.tuple ⟨[.agg ⟨(m.ask c).1.v⟩, .bool (m.ask c).2]⟩):=bask_rE B c hc pv q progs m hi
theorem bentries_t (B:Nat) (c:Cfg) (hc:Small c) (pv:Value) (q:HProp) (progs:Progs) (m:Bm) (hi:Binv c progs m):Tri Tryz.prog 47 #[.pointer (some ⟨B,0,none⟩)] [Bd B c pv q progs m]
    fun r L=>∃ ad cap,r=.slice ad (entriesOf c m.e.puts).length cap∧L=[Bd B c pv q progs m,Row (.slice ad (entriesOf c m.e.puts).length cap) 119 2 (entriesOf c m.e.puts).length ((entriesOf c m.e.puts).flatMap entV)] :=
  bentries_tE B c.cap.toNat c hc pv q progs m (by have:=hi.len;omega)
theorem brows_t (B:Nat) (c:Cfg) (hc:Small c) (pv:Value) (q:HProp) (progs:Progs) (m:Bm) (hi:Binv c progs m):Tri Tryz.prog 44 #[.pointer (some ⟨B,0,none⟩)] [Bd B c pv q progs m]
    fun r L=>∃ (ad:Option Addr) (cap:Nat) (rs:List RowH),rs.map (·.1)=m.rows∧r=.slice ad m.rows.length cap∧L=[Bd B c pv q progs m,Row (.slice ad m.rows.length cap) 128 5 m.rows.length (rs.flatMap rowV),star (rs.map rowP)] :=
  brows_tE B c.cap.toNat c pv q progs m (by have:=hi.rows;have:=hi.u;have:=hc.t1;omega) (fun r hr=>(hi.gen.news r hr).1)
attribute [irreducible] Bd
structure Pm where
  cs:List Cell
  st:List Int
  tr:List Ev
def Pm.do (M:Pm) (who:Int) (o:MOp):Pm×Out :=
  if checkOf M.cs.length who o≠0 then (M,⟨⟨0,0⟩,false⟩) else
  (⟨M.cs.set o.at_.toNat (becomes (M.cs.getD o.at_.toNat ⟨0,0⟩) o),M.st.set who.toNat (IntKind.i64.wrap (M.st.getD who.toNat 0+1)),M.tr++[⟨who,o,outOf (M.cs.getD o.at_.toNat ⟨0,0⟩) o⟩]⟩,outOf (M.cs.getD o.at_.toNat ⟨0,0⟩) o)
theorem Pm.do_len (M:Pm) (who:Int) (o:MOp):(M.do who o).1.cs.length=M.cs.length∧(M.do who o).1.st.length=M.st.length∧(M.do who o).1.tr.length≤M.tr.length+1:=by
  unfold Pm.do;split
  · exact ⟨rfl,rfl,Nat.le_succ _⟩
  · exact ⟨List.length_set,List.length_set,by rw [List.length_append];exact Nat.le_refl _⟩
def mmL (Mb C:Nat) (M:Pm) (tv:Value):List HProp:=[bl Mb 244 (memV C M.cs.length M.st tv),bl C 39 (M.cs.flatMap Cell.v),Row tv 285 10 M.tr.length (M.tr.flatMap Ev.v)]
def Mm (Mb C:Nat) (M:Pm):HProp:=ex (mmL Mb C M)
theorem Ent.mm (Mb C:Nat) (M:Pm) (tv:Value) {L:List HProp}:Ent (bl Mb 244 (memV C M.cs.length M.st tv)::bl C 39 (M.cs.flatMap Cell.v)::Row tv 285 10 M.tr.length (M.tr.flatMap Ev.v)::L) (Mm Mb C M::L):=Ent.ex_in (Ls:=mmL Mb C M) tv
theorem mdo_t (Mb C:Nat) (M:Pm) (hst:M.st.length=8) (htr:M.tr.length≤1000000) (who:Int) (o:MOp):Tri Tryz.prog 87 #[.pointer (some ⟨Mb,0,none⟩), .int .i64 who, .agg ⟨o.v⟩] [Mm Mb C M]
    fun v L=>∃ e,v=.tuple ⟨[.agg ⟨(M.do who o).2.v⟩, .int .i64 e]⟩∧L=[Mm Mb C (M.do who o).1]:=by
  refine Tri.ex_out fun tv=>?_
  have h:=do_t Mb C M.cs M.st hst tv M.tr htr who o
  unfold Tri at h⊢
  intro w F hs
  refine (h w F hs).mono ?_
  rintro e w' ⟨v,L,he,hq,hs',ho⟩
  have fin:∀ (M':Pm) (tv':Value),Sat ([bl Mb 244 (memV C M'.cs.length M'.st tv'),bl C 39 (M'.cs.flatMap Cell.v),Row tv' 285 10 M'.tr.length (M'.tr.flatMap Ev.v)]++F) (hpOf w')→Sat ([Mm Mb C M']++F) (hpOf w'):=fun M' tv' h=>by
    have:=Ent.mm Mb C M' tv' (L:=F)
    unfold Ent at this
    exact this _ h
  rcases hq with ⟨h1,rfl,rfl⟩|⟨h1,hat,hw,tv',rfl,rfl⟩
  · have e1:M.do who o=(M,⟨⟨0,0⟩,false⟩):=by unfold Pm.do;rw [if_pos h1]
    refine ⟨_,_,he,⟨checkOf M.cs.length who o,by rw [e1],rfl⟩, ?_,ho⟩
    rw [e1];exact fin M tv hs'
  · have e1:M.do who o=(⟨M.cs.set o.at_.toNat (becomes M.cs[o.at_.toNat] o),M.st.set who.toNat (IntKind.i64.wrap (M.st[who.toNat]+1)),M.tr++[⟨who,o,outOf M.cs[o.at_.toNat] o⟩]⟩,outOf M.cs[o.at_.toNat] o):=by
      unfold Pm.do
      rw [if_neg (by simpa using h1),List.getD_eq_getElem?_getD,List.getElem?_eq_getElem hat,List.getD_eq_getElem?_getD,List.getElem?_eq_getElem hw]
      rfl
    refine ⟨_,_,he,⟨0,by rw [e1],rfl⟩, ?_,ho⟩
    rw [e1]
    refine fin _ tv' ?_
    dsimp only
    rw [List.length_set,List.length_append]
    exact hs'
def ProgsG (q:HProp) (pv:Value) (progs:Progs):Prop :=
  ∃ pad pcap,pv=.slice pad progs.length pcap∧progs.length≤9223372036854775807∧∀ (i:Nat) (h:i<progs.length),∃ b o l cv,pad=some ⟨b,o,none⟩∧RdC q b l∧NthN (o+(i:Int).toNat * 1) l cv∧InsR q cv progs[i]
theorem ProgsG.r {q:HProp} {pv:Value} {progs:Progs} (h:ProgsG q pv progs) (hl:progs.length≤1000):ProgsR q pv progs:=by
  obtain ⟨pad,pcap,h1,_,h3⟩:=h
  exact ⟨pad,pcap,h1,hl,h3⟩
theorem InsR.of {p q:HProp} {cv:Value} {code:List Ins} (h:InsR q cv code) (hq:∀ {b:Nat} {l:List Value},RdC q b l→RdC p b l):InsR p cv code:=by
  obtain ⟨ad,cap,h1,h2|⟨b,o,l,rest,h3,h4,h5⟩⟩:=h
  · exact ⟨ad,cap,h1, .inl h2⟩
  · exact ⟨ad,cap,h1, .inr ⟨b,o,l,rest,h3,hq h4,h5⟩⟩
theorem ProgsG.of {p q:HProp} {pv:Value} {progs:Progs} (h:ProgsG q pv progs) (hq:∀ {b:Nat} {l:List Value},RdC q b l→RdC p b l):ProgsG p pv progs:=by
  obtain ⟨pad,pcap,h1,h2,h3⟩:=h
  refine ⟨pad,pcap,h1,h2,fun i hi=>?_⟩
  obtain ⟨b,o,l,cv,h4,h5,h6,h7⟩:=h3 i hi
  exact ⟨b,o,l,cv,h4,hq h5,h6,h7.of hq⟩
def short14 (progs:Progs):Bool:=progs.all fun p=>decide (p.length≤40)
def few14B (c:Cfg) (progs:Progs):Bool:=short14 progs && (c.right && decide (c.fuel≤200) && decide (progs.length≤8))
theorem right14_r (c:Cfg):RTri Tryz.prog 103 #[.agg ⟨c.v⟩] [] (.bool c.right):=by
  apply RTri.of_pure
  refine Tri.of_body (vs:=[_]) Tryz.func103 rfl rfl fun w0 F=>?_
  repeat' (first|refine Ga ?_|(refine Gb ?_;intro b)|(refine Gd ?_;intro g cap rest hcap)|(refine Gc ?_;intro ad cap) |(refine Ge ?_ ?_<;>(intro h;try (exfalso;omega)))|fail)
  all_goals (first|refine St.dn Tryz.func103 ⟨?_,rfl⟩ Ent.go|refine St.fl Tryz.func103 ⟨?_,rfl⟩ Ent.go)
  all_goals exact congrArg Value.bool (by first|(simp [Cfg.right];omega)|(rw [Bool.eq_iff_iff];simp [Cfg.right];omega))
attribute [irreducible] Mm
end Go.Proofs.YthmbgodcpgkkeaaGreat
namespace Go.Proofs.YthmbgodcpgkkeaaGreat
set_option maxRecDepth 100000
def wantN (c:Cfg) (cs:List Cell) (who:Int) (args:List Nat):Nat→List Cell
  | 0=>cs
  | k+1=>setOf (wantN c cs who args k) (c.at 2 who k) ⟨args.getD k 0,0⟩
def opL (o:MOp):List Value:=[.int .i64 o.kind, .int .i64 o.at_, .int .u64 o.old.val, .int .u64 o.old.seq, .int .u64 o.new.val, .int .u64 o.new.seq]
end Go.Proofs.YthmbgodcpgkkeaaGreat
namespace Go.Proofs.YthmbgodcpgkkeaaGreat
set_option maxRecDepth 100000
def blkV (l:Value×Unit):Value:=l.1
instance:MapTy Tryz.prog 248 Int (Value×Unit) (Value.int .u64) blkV (.agg #[.int .u64 0, .int .u64 0, .int .u64 0, .int .u64 0, .int .u64 0, .int .u64 0, .int .u64 0, .int .u64 0],()) :=
  MapTy.int Tryz.underlying248 Tryz.underlying22 (inferInstance:Zer Tryz.prog 257 _).h
theorem mnewb_t:Tri Tryz.prog 55 #[] [] fun r L=>(∃ S,r=.pointer (some ⟨S,0,none⟩))∧L=[]:=by
  refine Tri.of_body (vs:=[]) Tryz.func55 rfl rfl fun w0 F=>?_
  repeat' (first|refine Ga ?_|(refine Gb ?_;intro b)|(refine Gd ?_;intro g cap rest hcap)|(refine Gc ?_;intro ad cap) |(refine Ge ?_ ?_<;>(intro h;try (exfalso;omega)))|fail)
  refine St.d1 Tryz.func55 ⟨_,⟨⟨_,rfl⟩,rfl⟩, ?_⟩
  exact Ent.go
theorem bootm_t (c:Cfg) (hc:Small c):Tri Tryz.prog 50 #[.agg ⟨c.m⟩] [] fun v L=>∃ M C,v=.pointer (some ⟨M,0,none⟩)∧L=[Mm M C ⟨c.boot,zeros8,[]⟩]:=by
  refine (boot_t c hc).wk ?_
  rintro v L' ⟨M,C,rfl,rfl⟩
  refine ⟨_,⟨M,C,rfl,rfl⟩, ?_⟩
  have hl:c.boot.length=c.size:=c.bootN_len _
  have:=Ent.mm M C ⟨c.boot,zeros8,[]⟩ (.slice none 0 0) (L:=[])
  dsimp only at this
  rw [hl] at this
  refine Ent.trans ?_ this
  refine Ent.trans (Ent.row_nil 285 10) ?_
  exact Ent.go
theorem RdC.starR {L:List HProp} {b:Nat} {l:List Value} (r:ReadsC L b l):RdC (Go.Proofs.YthmbgodcpgkkeaaGreat.star L) b l:=by
  refine RdC.of_sat (fun k hk=>?_) r
  have:=Ent.star_out (L:=L) (M:=[])
  unfold Ent at this
  have:=this k (sat_cons.2 ⟨k,fun _=>none,fun _=>.inr rfl,fun _=>(or_none' _).symm,hk,by with_unfolding_all exact True.intro⟩)
  rwa [List.append_nil] at this
theorem St.gather {P:Program} {C:Cx} {k:List Item} {E:Env} {L ps Lr:List HProp} (t:Takes ps L Lr) (h:St P C k E (star ps::Lr)):St P C k E L :=
  h.conv (Sub.refl _) (t.ent.trans (Ent.star_in ps))
end Go.Proofs.YthmbgodcpgkkeaaGreat
end
section
namespace Go.Proofs.YthmbgodcpgkkeaaGreat
open Go.ChangeShapes Go.WideShapes Go.ChangeAt Go.RowKit Go.Deep
def PrB (W:World):Type:={ p:Value×List Ins // InsR (exact' W) p.1 p.2∧∀ i∈p.2,i.imm<18446744073709551616 }
def PrB.f {W:World} (p:PrB W):List Value:=[p.1.1]
theorem progB_of {H:Type} {enc:TypeId×Value→H} {W:World} {fuel:Nat} {cs:List Value} {x:DataW H×List MemPlace} (h:DataW.trod enc Tryz.prog W 0 (fun _=>true) true fuel 67 cs=some x):∃ p:PrB W,cs=p.f:=by
  obtain ⟨ad,code,cap,e0,_,_,hr⟩:=slice_cs InsB.f (fun i=>Ins.v_len i.1) (by decide) Tryz.underlying67 (by kernel_rfl) (fun _ _ _ h=>insB_of h) h
  have hlen:(code.map fun i=>i.1).length=code.length:=List.length_map ..
  refine ⟨⟨(.slice ad code.length cap,code.map fun i=>i.1),⟨ad,cap,by rw [hlen], ?_⟩,fun i hi=>?_⟩,e0⟩
  · dsimp only
    rw [hlen]
    rcases hr with hr|⟨b,o,blk,rest,h1,h2,h3⟩
    · exact .inl hr
    · exact .inr ⟨b,o,blk,rest,h1,h2,by rw [map_f];exact h3⟩
  · obtain ⟨y,_,rfl⟩:=List.mem_map.1 hi
    exact y.2
theorem progsB_of {W:World} {ad:Option Addr} {cap:Nat} (l:List (PrB W)) (h1:l.length≤cap) (h2:cap≤maxLen) (h:l.length=0∨∃ b o blk rest,ad=some ⟨b,o,none⟩∧RdC (exact' W) b blk∧DropN o blk (l.flatMap PrB.f++rest)) :
    ProgsG (exact' W) (.slice ad l.length cap) (l.map fun p=>p.1.2)∧∀ p∈(l.map fun p=>p.1.2),∀ i∈p,i.imm<18446744073709551616:=by
  have hm:maxLen=9223372036854775807:=by decide
  refine ⟨⟨ad,cap,by rw [List.length_map],by rw [List.length_map];omega,fun i hi=>?_⟩,fun p hp=>?_⟩
  · rw [List.length_map] at hi
    rcases h with h|⟨b,o,blk,rest,e1,e2,e3⟩
    · omega
    · have hd:=e3.add ((DropN.flat (f:=PrB.f) (sz:=1) (fun _=>rfl) hi).more rest)
      refine ⟨b,o,blk,l[i].1.1,e1,e2, ?_, ?_⟩
      · exact NthN.part (j:=0) hd (TakeN.succ .zero) .zero
      · rw [List.getElem_map];exact l[i].2.1
  · obtain ⟨y,_,rfl⟩:=List.mem_map.1 hp
    exact y.2.2
end Go.Proofs.YthmbgodcpgkkeaaGreat
end
