/-
  Package exec: fail, pay, block. Rows: replies, instructions, arguments, with what is known of their numbers. Ranges over functions that hand memory on; lists that can be read. A contract that says less. Package exec: block, reads, taken, goOn. Package exec: goOn, fetch.
-/
import Derived.Test.YthmbgodcpgkkeaaGreatPo
import Derived.Test.YthmbgodcpgkkeaaGreatIns
import Derived.Test.YthmbgodcpgkkeaaGreatInsc
section
namespace Go.Proofs.YthmbgodcpgkkeaaGreat
def g4 (l:List Nat):List Value:=[.int .u64 ((l.getD 0 0:Nat):Int), .int .u64 ((l.getD 1 0:Nat):Int), .int .u64 ((l.getD 2 0:Nat):Int), .int .u64 ((l.getD 3 0:Nat):Int)]
def g16 (l:List Nat):List Value:=[.int .u64 ((l.getD 0 0:Nat):Int), .int .u64 ((l.getD 1 0:Nat):Int), .int .u64 ((l.getD 2 0:Nat):Int), .int .u64 ((l.getD 3 0:Nat):Int), .int .u64 ((l.getD 4 0:Nat):Int), .int .u64 ((l.getD 5 0:Nat):Int), .int .u64 ((l.getD 6 0:Nat):Int), .int .u64 ((l.getD 7 0:Nat):Int), .int .u64 ((l.getD 8 0:Nat):Int), .int .u64 ((l.getD 9 0:Nat):Int), .int .u64 ((l.getD 10 0:Nat):Int), .int .u64 ((l.getD 11 0:Nat):Int), .int .u64 ((l.getD 12 0:Nat):Int), .int .u64 ((l.getD 13 0:Nat):Int), .int .u64 ((l.getD 14 0:Nat):Int), .int .u64 ((l.getD 15 0:Nat):Int)]
theorem len16 {l:List Nat} (h:l.length=16):∃ a0 a1 a2 a3 a4 a5 a6 a7 a8 a9 a10 a11 a12 a13 a14 a15,l=[a0,a1,a2,a3,a4,a5,a6,a7,a8,a9,a10,a11,a12,a13,a14,a15]:=by
  match l,h with
  | [a0,a1,a2,a3,a4,a5,a6,a7,a8,a9,a10,a11,a12,a13,a14,a15],_=>exact ⟨a0,a1,a2,a3,a4,a5,a6,a7,a8,a9,a10,a11,a12,a13,a14,a15,rfl⟩
theorem len4 {l:List Nat} (h:l.length=4):∃ a0 a1 a2 a3,l=[a0,a1,a2,a3]:=by
  match l,h with
  | [a0,a1,a2,a3],_=>exact ⟨a0,a1,a2,a3,rfl⟩
theorem g16_eq {l:List Nat} (h:l.length=16):g16 l=u64s l:=by
  obtain ⟨a0,a1,a2,a3,a4,a5,a6,a7,a8,a9,a10,a11,a12,a13,a14,a15,rfl⟩:=len16 h
  rfl
theorem g4_eq {l:List Nat} (h:l.length=4):g4 l=u64s l:=by
  obtain ⟨a0,a1,a2,a3,rfl⟩:=len4 h
  rfl
structure Xs where
  args:List Nat
  mark:Nat
  st:Int
  sl:Int
  regs:List Nat
  pc:Int
  steps:Int
  writes:Int
  waits:Bool
  i:Ins
  s:Int
  rc:Int
  rv:Nat
def exV (c:Cfg) (cv:Value) (V Pb W:Nat) (nv:Value) (x:Xs):List Value :=
  c.m++(cv::(g4 x.args++(.pointer (some ⟨V,0,none⟩)::.pointer (some ⟨Pb,0,none⟩)::.pointer (some ⟨W,0,none⟩)::.int .i64 (x.mark:Int)::.int .i64 x.st::.int .i64 x.sl ::
    (g16 x.regs++(.int .i64 x.pc::.int .i64 x.steps::.int .i64 x.writes::.bool x.waits::(x.i.v++[.int .i64 x.s, .int .i64 x.rc, .int .u64 (x.rv:Int),nv]))))))
theorem take_x (c:Cfg) (cv:Value) (V Pb W:Nat) (nv:Value) (x:Xs):TakeN 24 (exV c cv V Pb W nv x) c.m:=TakeN.app c.m _
theorem ex_reg (c:Cfg) (cv:Value) (V Pb W:Nat) (nv:Value) (x:Xs) {a:Int} (h0:0≤a) (h1:a<16):NthN (0+35+a.toNat * 1) (exV c cv V Pb W nv x) (.int .u64 ((x.regs.getD a.toNat 0:Nat):Int)):=by
  have h:a=0∨a=1∨a=2∨a=3∨a=4∨a=5∨a=6∨a=7∨a=8∨a=9∨a=10∨a=11∨a=12∨a=13∨a=14∨a=15:=by omega
  rcases h with rfl|rfl|rfl|rfl|rfl|rfl|rfl|rfl|rfl|rfl|rfl|rfl|rfl|rfl|rfl|rfl<;>exact NthN.of rfl
theorem ex_setreg (c:Cfg) (cv:Value) (V Pb W:Nat) (nv:Value) (x:Xs) (hl:x.regs.length=16) {a:Int} (h0:0≤a) (h1:a<16) (n:Nat):SetN (.int .u64 (n:Int)) (0+35+a.toNat * 1) (exV c cv V Pb W nv x) (exV c cv V Pb W nv { x with regs:=x.regs.set a.toNat n }):=by
  have h:a=0∨a=1∨a=2∨a=3∨a=4∨a=5∨a=6∨a=7∨a=8∨a=9∨a=10∨a=11∨a=12∨a=13∨a=14∨a=15:=by omega
  obtain ⟨args,mark,st,sl,regs,pc,steps,writes,waits,i,s,rc,rv⟩:=x
  obtain ⟨a0,a1,a2,a3,a4,a5,a6,a7,a8,a9,a10,a11,a12,a13,a14,a15,rfl⟩:=len16 hl
  have key:∀ (k:Nat) (l l':List Value),k<l.length→l.set k (.int .u64 (n:Int))=l'→SetN (.int .u64 (n:Int)) k l l':=fun k l l' hk e=>e▸SetN.of hk
  rcases h with rfl|rfl|rfl|rfl|rfl|rfl|rfl|rfl|rfl|rfl|rfl|rfl|rfl|rfl|rfl|rfl<;>exact key _ _ _ (by simp [exV,Cfg.m,Cfg.v,Cfg.fr,g4,g16,Ins.v]) rfl
set_option maxRecDepth 100000 in
theorem xfail_t (X V Pb W room:Nat) (c:Cfg) (cv nv:Value) (x:Xs) (p:Po) (puts:List (Int×Nat)) (e:Int) (val:Nat) (hm:x.mark≤puts.length) (hlen:puts.length≤1000000000) :
    Tri Tryz.prog 115 #[.pointer (some ⟨X,0,none⟩), .int .i64 e, .int .u64 (val:Int)] [bl X 221 (exV c cv V Pb W nv x),Pl Pb c p,Ws W room puts]
      fun r L=>r=.tuple ⟨[]⟩∧L=[bl X 221 (exV c cv V Pb W nv { x with s:=1,rc:=e,rv:=val }),Pl Pb c { p with nt:=x.st,nl:=x.sl },Ws W room (puts.take x.mark)]:=by
  have hb:=wback_t W room x.mark puts hm hlen
  have hp:=pback_t Pb c p x.st x.sl
  refine Tri.of_body (vs:=[_,_,_]) Tryz.func115 rfl rfl fun w0 F=>?_
  repeat' (first|refine Ga ?_|(refine Gb ?_;intro b)|(refine Gd ?_;intro g cap rest hcap)|(refine Gc ?_;intro ad cap)|(refine St.draw (id:=0) [(0,0),(1,0),(2,0),(3,1),(4,0),(5,0),(6,0),(7,1),(8,3)] [8] mixed (by kernel_rfl) ?_)|(refine St.draw (id:=1) [(0,0),(1,0),(2,0),(3,1),(4,0),(5,0),(6,0),(7,1),(8,3)] [8] mixed (by kernel_rfl) ?_)|(refine Gt hb ?_;rintro _ _ ⟨rfl,rfl⟩)|(refine Gt hp ?_;rintro _ _ ⟨rfl,rfl⟩)|(refine Ge ?_ ?_<;>(intro h;try (exfalso;omega)))|fail)
  refine St.f1 Tryz.func115 ⟨_,⟨rfl,rfl⟩, ?_⟩
  exact Ent.go
structure Xm where
  x:Xs
  v:Vw
  p:Po
  puts:List (Int×Nat)
  news:List Nat
def Xm.fail (m:Xm) (e:Int) (val:Nat):Xm:={ m with x:={ m.x with s:=1,rc:=e,rv:=val },p:={ m.p with nt:=m.x.st,nl:=m.x.sl },puts:=m.puts.take m.x.mark }
def Xm.pay (c:Cfg) (m:Xm):Xm×Bool:=if c.writes - m.x.writes<costs m.x.i.op then (m.fail 42 0,false) else ({ m with x:={ m.x with writes:=m.x.writes+costs m.x.i.op } },true)
theorem costs_le (op:Int):0≤costs op∧costs op≤9:=by
  unfold costs
  repeat' split
  all_goals omega
set_option maxRecDepth 100000 in
theorem xpay_t (X V Pb W room:Nat) (c:Cfg) (hc:Small c) (cv nv:Value) (m:Xm) (hm:m.x.mark≤m.puts.length) (hlen:m.puts.length≤1000000000) (hw:0≤m.x.writes∧m.x.writes≤1000000) :
    Tri Tryz.prog 251 #[.pointer (some ⟨X,0,none⟩)] [bl X 221 (exV c cv V Pb W nv m.x),Pl Pb c m.p,Ws W room m.puts]
      fun r L=>r=.bool (m.pay c).2∧L=[bl X 221 (exV c cv V Pb W nv (m.pay c).1.x),Pl Pb c (m.pay c).1.p,Ws W room (m.pay c).1.puts]:=by
  have hf:=xfail_t X V Pb W room c cv nv m.x m.p m.puts 42 0 hm hlen
  have hco:=costs_r m.x.i.op
  have hcl:=costs_le m.x.i.op
  have hcf:=cfg_r c
  have htk:=take_x c cv V Pb W nv m.x
  have:=hc.w0;have:=hc.w1
  unfold Xm.pay
  by_cases h:c.writes - m.x.writes<costs m.x.i.op
  · rw [if_pos h]
    dsimp only [Xm.fail]
    refine Tri.of_body (vs:=[_]) Tryz.func251 rfl rfl fun w0 F=>?_
    repeat' (first|refine Ga ?_|(refine Gb ?_;intro b)|(refine Gd ?_;intro g cap rest hcap)|(refine Gc ?_;intro ad cap)|(refine St.draw (id:=2) [(0,0),(1,0),(2,0),(3,0),(4,1),(5,1),(6,0),(7,0),(8,0),(9,0),(10,1),(11,0),(12,0)] [] mixed (by kernel_rfl) ?_)| refine Gl hco ?_|refine Gl hcf ?_|(refine Gt hf ?_;rintro _ _ ⟨rfl,rfl⟩)|(refine Ge ?_ ?_<;>(intro h;try (exfalso;omega)))|fail)
    refine St.d1 Tryz.func251 ⟨_,⟨rfl,rfl⟩, ?_⟩
    exact Ent.go
  · rw [if_neg h]
    dsimp only
    refine Tri.of_body (vs:=[_]) Tryz.func251 rfl rfl fun w0 F=>?_
    repeat' (first|refine Ga ?_|(refine Gb ?_;intro b)|(refine Gd ?_;intro g cap rest hcap)|(refine Gc ?_;intro ad cap)|(refine St.draw (id:=2) [(0,0),(1,0),(2,0),(3,0),(4,1),(5,1),(6,0),(7,0),(8,0),(9,0),(10,1),(11,0),(12,0)] [] mixed (by kernel_rfl) ?_)| refine Gl hco ?_|refine Gl hcf ?_|(refine Ge ?_ ?_<;>(intro h;try (exfalso;omega)))|fail)
    refine St.d1 Tryz.func251 ⟨_,⟨rfl,rfl⟩, ?_⟩
    exact Ent.go
end Go.Proofs.YthmbgodcpgkkeaaGreat
end
section
namespace Go.Proofs.YthmbgodcpgkkeaaGreat
open Go.ChangeShapes Go.WideShapes Go.ChangeAt Go.RowKit Go.Deep
def InsB:Type:={ i:Ins // i.imm<18446744073709551616 }
def InsB.f (i:InsB):List Value:=i.1.v
theorem map_f {α β:Type} (g:β→α) (f:α→List Value) (l:List β):(l.map g).flatMap f=l.flatMap fun x=>f (g x):=by rw [List.flatMap_map]
section
variable {H:Type} {enc:TypeId×Value→H} {w:World} {base fuel:Nat} {spare:Nat→Bool} {held:Bool} {cs:List Value} {x:DataW H×List MemPlace}
theorem insB_of (h:DataW.trod enc Tryz.prog w base spare held fuel 200 cs=some x):∃ i:InsB,cs=i.f:=by
 obtain ⟨hl,hf⟩:=trod_fld Tryz.underlying200 h 5 (by kernel_rfl)
 obtain ⟨_,_,h0⟩:=hf 0 _ 0 1 rfl rfl (by kernel_rfl)
 obtain ⟨_,_,h1⟩:=hf 1 _ 1 1 rfl rfl (by kernel_rfl)
 obtain ⟨_,_,h2⟩:=hf 2 _ 2 1 rfl rfl (by kernel_rfl)
 obtain ⟨_,_,h3⟩:=hf 3 _ 3 1 rfl rfl (by kernel_rfl)
 obtain ⟨_,_,h4⟩:=hf 4 _ 4 1 rfl rfl (by kernel_rfl)
 obtain ⟨a0,e0,_,_⟩:=DataW.trod_int Tryz.underlying3 h0
 obtain ⟨a1,e1,_,_⟩:=DataW.trod_int Tryz.underlying3 h1
 obtain ⟨a2,e2,_,_⟩:=DataW.trod_int Tryz.underlying3 h2
 obtain ⟨a3,e3,_,_⟩:=DataW.trod_int Tryz.underlying3 h3
 obtain ⟨a4,e4,_,w4⟩:=DataW.trod_int Tryz.underlying22 h4
 have:=wf_u64 w4
 match cs,hl with
 | [c0,c1,c2,c3,c4],_ =>
  injection e0 with e0 _;injection e1 with e1 _;injection e2 with e2 _;injection e3 with e3 _;injection e4 with e4 _
  subst e0;subst e1;subst e2;subst e3;subst e4
  refine ⟨⟨⟨a0,a1,a2,a3,a4.toNat⟩,by dsimp only;omega⟩, ?_⟩
  unfold InsB.f Ins.v
  dsimp only
  rw [Int.toNat_of_nonneg (by omega)]
theorem fourB_of (h:DataW.trod enc Tryz.prog w base spare held fuel 68 cs=some x):∃ l:List Nat,l.length=4∧(∀ a∈l,a<18446744073709551616)∧cs=g4 l:=by
 obtain ⟨xs,m,_,_,hl,hx,hf⟩:=DataW.trod_array Tryz.underlying68 h
 rw [show Tryz.prog.cellsOf 68=4 by kernel_rfl] at hl
 rw [show Tryz.prog.cellsOf 22=1 by kernel_rfl] at hf
 have hi:∀ i,i<4→∃ a:Nat,a<18446744073709551616∧(cs.drop (i * 1)).take 1=[.int .u64 (a:Int)]:=fun i hi=>by
  have h1:=hf i hi
  rw [List.getElem?_eq_getElem (by omega)] at h1
  obtain ⟨a,e,_,wa⟩:=DataW.trod_int Tryz.underlying22 h1
  have:=wf_u64 wa
  exact ⟨a.toNat,by omega,by rw [e,Int.toNat_of_nonneg (by omega)]⟩
 obtain ⟨a0,b0,e0⟩:=hi 0 (by decide)
 obtain ⟨a1,b1,e1⟩:=hi 1 (by decide)
 obtain ⟨a2,b2,e2⟩:=hi 2 (by decide)
 obtain ⟨a3,b3,e3⟩:=hi 3 (by decide)
 match cs,hl with
 | [c0,c1,c2,c3],_ =>
  injection e0 with e0 _;injection e1 with e1 _;injection e2 with e2 _;injection e3 with e3 _
  subst e0;subst e1;subst e2;subst e3
  refine ⟨[a0,a1,a2,a3],rfl,fun a ha=>?_,rfl⟩
  simp only [List.mem_cons,List.not_mem_nil,or_false] at ha
  rcases ha with rfl|rfl|rfl|rfl<;>assumption
end
end Go.Proofs.YthmbgodcpgkkeaaGreat
end
section
namespace Go.Proofs.YthmbgodcpgkkeaaGreat
set_option maxRecDepth 100000
def ListR {α:Type} (f:α→List Value) (q:HProp) (v:Value) (xs:List α):Prop :=
  ∃ ad cap,v=.slice ad xs.length cap∧xs.length≤cap∧(xs.length=0∨∃ b o l rest,ad=some ⟨b,o,none⟩∧RdC q b l∧DropN o l (xs.flatMap f++rest))
theorem ListR.at {α:Type} {f:α→List Value} {sz:Nat} (hf:∀ x,(f x).length=sz) {q:HProp} {ad:Option Addr} {xs:List α} (h:xs.length=0∨∃ b o l rest,ad=some ⟨b,o,none⟩∧RdC q b l∧DropN o l (xs.flatMap f++rest)) (i:Nat) (hi:i<xs.length) :
    ∃ b o l l1,ad=some ⟨b,o,none⟩∧RdC q b l∧DropN (o+(i:Int).toNat * sz) l l1∧TakeN sz l1 (f xs[i]):=by
  rcases h with h|⟨b,o,l,rest,h1,h2,h3⟩
  · omega
  · refine ⟨b,o,l,f xs[i]++(xs.drop (i+1)).flatMap f++rest,h1,h2,h3.add ((DropN.flat hf hi).more rest), ?_⟩
    rw [List.append_assoc];rw [←hf xs[i]];exact TakeN.app (f xs[i]) _
theorem NthN.part {α:Type} {n m j:Nat} {l l1 vs:List α} {v:α} (h:DropN n l l1) (k:TakeN m l1 vs) (e:NthN j vs v):NthN (n+j) l v:=by
  obtain ⟨h1,_⟩:=h.eq
  obtain ⟨h3,_⟩:=k.eq
  have h5:=e.eq
  refine NthN.of ?_
  rw [←h3,←h1,List.getElem?_take,List.getElem?_drop] at h5
  split at h5
  · exact h5
  · cases h5
theorem St.rowL {P:Program} {C:Cx} {k:List Item} {E:Env} {L:List HProp} {α:Type} {f:α→List Value} {v:Value} {e sz n:Nat} {xs:List α} (hn:xs.length=n)
    (h:∀ R,ListR f R v xs→St P C k E (R::L)):St P C k E (Row v e sz n (xs.flatMap f)::L):=by
  refine St.rowC (fun h0 h1 _=>?_) (fun g cap rest hv hr=>?_)
  · exact (h (Row (.slice none 0 0) e sz 0 []) ⟨none,0,by rw [h0,hn,h1],by omega, .inl (by omega)⟩).conv (Sub.refl _) (Ent.row_nil e sz)
  · exact h _ ⟨_,_,by rw [hv,hn],by rw [hn];exact hr.le, .inr ⟨g,0,_,rest,rfl,RdC.bl, .zero⟩⟩
theorem sat_rowL {α:Type} {f:α→List Value} {v:Value} {e sz n:Nat} {xs:List α} {L:List HProp} {h:Hp} (hn:xs.length=n) (hs:Sat (Row v e sz n (xs.flatMap f)::L) h):∃ R,ListR f R v xs∧Sat (R::L) h:=by
  have hs0:=hs
  rw [sat_cons] at hs
  obtain ⟨h1,h2,hd,hor,⟨hl,hr⟩,hL⟩:=hs
  rcases hr with ⟨hv,hz⟩|⟨g,cap,cur,rfl,hc,hm,hcs,htk,hp⟩
  · exact ⟨_,⟨none,0,by rw [hv,hn,hz],by omega, .inl (by omega)⟩,hs0⟩
  · refine ⟨bl g e (xs.flatMap f++cur.toList.drop (n * sz)),⟨_,_,by rw [hn],by rw [hn];exact hc, .inr ⟨g,0,_,cur.toList.drop (n * sz),rfl,RdC.bl, .zero⟩⟩, ?_⟩
    rw [sat_cons]
    refine ⟨h1,h2,hd,hor, ?_,hL⟩
    rw [←htk,List.take_append_drop]
    exact hp
def star (L:List HProp):HProp:=ex (ι:=Unit) fun _=>L
theorem Ent.star_in (L:List HProp) {M:List HProp}:Ent (L++M) (star L::M):=Ent.ex_in (Ls:=fun _:Unit=>L) ()
theorem Ent.star_out {L M:List HProp}:Ent (star L::M) (L++M):=by
  unfold Ent
  intro h hs
  obtain ⟨_,h1⟩:=sat_ex hs
  exact h1
theorem Ent.star_snoc (L:List HProp) (p:HProp) {M:List HProp}:Ent (p::star L::M) (star (L++[p])::M):=by
  refine Ent.trans ?_ (Ent.star_in (L++[p]))
  refine Ent.trans (Ent.cons Ent.star_out) ?_
  rw [List.append_assoc]
  exact Ent.mid
theorem ListR.weak {α:Type} {f:α→List Value} {q q':HProp} {v:Value} {xs:List α} (h:ListR f q v xs) (hq:∀ b l,RdC q b l→RdC q' b l):ListR f q' v xs:=by
  obtain ⟨ad,cap,h1,h0,h2⟩:=h
  refine ⟨ad,cap,h1,h0, ?_⟩
  rcases h2 with h2|⟨b,o,l,rest,e,hr,hd⟩
  · exact .inl h2
  · exact .inr ⟨b,o,l,rest,e,hq _ _ hr,hd⟩
theorem mput_all {κ β:Type} [DecidableEq κ] {q:β→Prop} (k:κ) (x:β) (hx:q x):∀ (m:List (κ×β)),(∀ p∈m,q p.2)→∀ p∈mput m k x,q p.2
  | [],_,p,hp=>by
    simp only [mput,List.mem_singleton] at hp
    subst hp;exact hx
  | (a,y)::m,h,p,hp=>by
    unfold mput at hp
    split at hp
    · rcases List.mem_cons.1 hp with rfl|hp
      · exact hx
      · exact h p (List.mem_cons_of_mem _ hp)
    · rcases List.mem_cons.1 hp with rfl|hp
      · exact h _ (List.mem_cons_self ..)
      · exact mput_all k x hx m (fun p hp=>h p (List.mem_cons_of_mem _ hp)) p hp
theorem ListR.tail {α:Type} {f:α→List Value} {sz:Nat} {q:HProp} {ad:Option Addr} {n cap:Nat} {x:α} {xs:List α} (hf:(f x).length=sz) (h:ListR f q (.slice ad n cap) (x::xs)):ListR f q (.slice (tlA ad cap sz) (n - 1) (cap - 1)) xs:=by
  obtain ⟨ad',cap',h1,h0,h2⟩:=h
  injection h1 with e1 e2 e3
  subst e1 e3
  rw [List.length_cons] at e2 h0
  refine ⟨tlA ad cap sz,cap - 1,by rw [e2];rfl,by omega, ?_⟩
  rcases h2 with h2|⟨b,o,l,rest,rfl,hr,hd⟩
  · simp at h2
  · by_cases h3:xs.length=0
    · exact .inl h3
    · refine .inr ⟨b,o+sz,l,rest, ?_,hr, ?_⟩
      · unfold tlA
        rw [if_neg (by omega),Option.map_some,Addr.add]
        split
        · next h=>subst h;rfl
        · rfl
      · refine hd.add ?_
        rw [List.flatMap_cons,List.append_assoc,←hf]
        exact DropN.app _ _
theorem ListR.at' {α:Type} {f:α→List Value} {sz:Nat} (hf:∀ x,(f x).length=sz) {q:HProp} {ad:Option Addr} {n cap:Nat} {xs:List α} (h:ListR f q (.slice ad n cap) xs) (i:Nat) (hi:i<xs.length) :
    ∃ b o l l1,ad=some ⟨b,o,none⟩∧RdC q b l∧DropN (o+(i:Int).toNat * sz) l l1∧TakeN sz l1 (f xs[i]):=by
  obtain ⟨_,_,h1,_,h2⟩:=h
  injection h1 with e1 _ _
  subst e1
  exact ListR.at hf h2 i hi
end Go.Proofs.YthmbgodcpgkkeaaGreat
end
section
namespace Go.Proofs.YthmbgodcpgkkeaaGreat
theorem Tri.wk {P:Program} {f:FuncId} {args:Array Value} {L:List HProp} {Q Q':Value→List HProp→Prop} (h:Tri P f args L Q) (hq:∀ v L',Q v L'→∃ M,Q' v M∧Ent L' M):Tri P f args L Q':=by
 unfold Tri at *
 intro w F hs
 refine (h w F hs).mono ?_
 rintro e w' ⟨v,L',he,h1,hs',ho⟩
 obtain ⟨M,h2,h3⟩:=hq v L' h1
 have:=h3.app (N:=F)
 unfold Ent at this
 exact ⟨v,M,he,h2,this _ hs',ho⟩
end Go.Proofs.YthmbgodcpgkkeaaGreat
end
section
namespace Go.Proofs.YthmbgodcpgkkeaaGreat
structure InsOk (i:Ins):Prop where
  a0:0≤i.a
  a1:i.a<16
  b0:0≤i.b
  b1:i.b<16
  c0:0≤i.c
  c1:i.c<16
def Xs.reg (x:Xs) (a:Int):Nat:=x.regs.getD a.toNat 0
def Xs.hOf (x:Xs):Nat:=if x.i.op=16 then x.reg x.i.a else x.reg x.i.b
def Xs.wOf (x:Xs):Nat:=if x.i.op=12∨x.i.op=14 then x.reg x.i.c else if x.i.op=16 then 0 else x.i.imm
def Xs.block (c:Cfg) (x:Xs):Int×Int×Bool:=if x.hOf<1∨c.blocks<(x.hOf:Int)∨8≤x.wOf then (0,0,false) else ((x.hOf:Int) - 1,(x.wOf:Int),true)
set_option maxRecDepth 100000 in
theorem xblock_r (X V Pb W:Nat) (c:Cfg) (hc:Small c) (cv nv:Value) (x:Xs) (hi:InsOk x.i):RTri Tryz.prog 250 #[.pointer (some ⟨X,0,none⟩)] [bl X 221 (exV c cv V Pb W nv x)]
    (.tuple ⟨[.int .i64 (x.block c).1, .int .i64 (x.block c).2.1, .bool (x.block c).2.2]⟩):=by
  apply RTri.of_reads
  intro q hq
  have hX:=RdC.of_sat hq (ReadsC.here RdC.bl)
  have hcf:=cfg_r c
  have htk:=take_x c cv V Pb W nv x
  have ha:NthN _ _ (Value.int .u64 ((x.reg x.i.a:Nat):Int)):=ex_reg c cv V Pb W nv x hi.a0 hi.a1
  have hb:NthN _ _ (Value.int .u64 ((x.reg x.i.b:Nat):Int)):=ex_reg c cv V Pb W nv x hi.b0 hi.b1
  have hcc:NthN _ _ (Value.int .u64 ((x.reg x.i.c:Nat):Int)):=ex_reg c cv V Pb W nv x hi.c0 hi.c1
  have:=hi.a0;have:=hi.a1;have:=hi.b0;have:=hi.b1;have:=hi.c0;have:=hi.c1;have:=hc.b0;have:=hc.b1
  by_cases h16:x.i.op=16
  · have e1:x.hOf=x.reg x.i.a:=if_pos h16
    have e2:x.wOf=0:=(if_neg (by omega)).trans (if_pos h16)
    unfold Xs.block
    rw [e1,e2]
    generalize x.reg x.i.a=ra at *
    generalize x.reg x.i.b=rb at *
    generalize x.reg x.i.c=rc at *
    refine Tri.of_body (vs:=[_]) Tryz.func250 rfl rfl fun w0 F=>?_
    repeat' (first|refine Ga ?_|(refine Gb ?_;intro b)|(refine Gd ?_;intro g cap rest hcap)|(refine Gc ?_;intro ad cap)|(refine St.draw (id:=1) [(0,0),(1,0),(2,0),(3,0),(4,0),(5,1),(6,0),(7,0),(8,0),(9,1),(10,0),(11,0),(12,0),(13,0),(14,1),(15,0),(16,0)] [] mixed (by kernel_rfl) ?_)|(refine St.draw (id:=5) [(0,0),(1,0),(2,0),(3,0),(4,0),(5,1),(6,0),(7,0),(8,0),(9,1),(10,0)] [] mixed (by kernel_rfl) ?_)|(refine St.draw (id:=7) [(0,0),(1,0),(2,0),(3,0),(4,0),(5,1),(6,0),(7,0),(8,0),(9,1),(10,0),(11,0)] [] mixed (by kernel_rfl) ?_)| refine Gl hcf ?_|(refine Ge ?_ ?_<;>(intro h;try (exfalso;omega)))|fail)
    all_goals (first|refine St.dn Tryz.func250 ⟨?_,rfl⟩ Ent.go|refine St.fl Tryz.func250 ⟨?_,rfl⟩ Ent.go)
    all_goals (repeat (first|rw [if_pos (by omega)]|rw [if_neg (by omega)]))
    all_goals rfl
  · have e1:x.hOf=x.reg x.i.b:=if_neg h16
    by_cases h12:x.i.op=12∨x.i.op=14
    · have e2:x.wOf=x.reg x.i.c:=if_pos h12
      unfold Xs.block
      rw [e1,e2]
      generalize x.reg x.i.a=ra at *
      generalize x.reg x.i.b=rb at *
      generalize x.reg x.i.c=rc at *
      refine Tri.of_body (vs:=[_]) Tryz.func250 rfl rfl fun w0 F=>?_
      repeat' (first|refine Ga ?_|(refine Gb ?_;intro b)|(refine Gd ?_;intro g cap rest hcap)|(refine Gc ?_;intro ad cap)|(refine St.draw (id:=1) [(0,0),(1,0),(2,0),(3,0),(4,0),(5,1),(6,0),(7,0),(8,0),(9,1),(10,0),(11,0),(12,0),(13,0),(14,1),(15,0),(16,0)] [] mixed (by kernel_rfl) ?_)|(refine St.draw (id:=5) [(0,0),(1,0),(2,0),(3,0),(4,0),(5,1),(6,0),(7,0),(8,0),(9,1),(10,0)] [] mixed (by kernel_rfl) ?_)|(refine St.draw (id:=7) [(0,0),(1,0),(2,0),(3,0),(4,0),(5,1),(6,0),(7,0),(8,0),(9,1),(10,0),(11,0)] [] mixed (by kernel_rfl) ?_)| refine Gl hcf ?_|(refine Ge ?_ ?_<;>(intro h;try (exfalso;omega)))|fail)
      all_goals (first|refine St.dn Tryz.func250 ⟨?_,rfl⟩ Ent.go|refine St.fl Tryz.func250 ⟨?_,rfl⟩ Ent.go)
      all_goals (repeat (first|rw [if_pos (by omega)]|rw [if_neg (by omega)]))
      all_goals rfl
    · have e2:x.wOf=x.i.imm:=(if_neg h12).trans (if_neg h16)
      unfold Xs.block
      rw [e1,e2]
      generalize x.reg x.i.a=ra at *
      generalize x.reg x.i.b=rb at *
      generalize x.reg x.i.c=rc at *
      refine Tri.of_body (vs:=[_]) Tryz.func250 rfl rfl fun w0 F=>?_
      repeat' (first|refine Ga ?_|(refine Gb ?_;intro b)|(refine Gd ?_;intro g cap rest hcap)|(refine Gc ?_;intro ad cap)|(refine St.draw (id:=1) [(0,0),(1,0),(2,0),(3,0),(4,0),(5,1),(6,0),(7,0),(8,0),(9,1),(10,0),(11,0),(12,0),(13,0),(14,1),(15,0),(16,0)] [] mixed (by kernel_rfl) ?_)|(refine St.draw (id:=5) [(0,0),(1,0),(2,0),(3,0),(4,0),(5,1),(6,0),(7,0),(8,0),(9,1),(10,0)] [] mixed (by kernel_rfl) ?_)|(refine St.draw (id:=7) [(0,0),(1,0),(2,0),(3,0),(4,0),(5,1),(6,0),(7,0),(8,0),(9,1),(10,0),(11,0)] [] mixed (by kernel_rfl) ?_)| refine Gl hcf ?_|(refine Ge ?_ ?_<;>(intro h;try (exfalso;omega)))|fail)
      all_goals (first|refine St.dn Tryz.func250 ⟨?_,rfl⟩ Ent.go|refine St.fl Tryz.func250 ⟨?_,rfl⟩ Ent.go)
      all_goals (repeat (first|rw [if_pos (by omega)]|rw [if_neg (by omega)]))
      all_goals rfl
def readsB (op:Int):Bool:=op == 11 || op == 12
theorem xreads_r (op:Int):RTri Tryz.prog 284 #[.int .i64 op] [] (.bool (readsB op)):=by
  apply RTri.of_pure
  refine Tri.of_body (vs:=[_]) Tryz.func284 rfl rfl fun w0 F=>?_
  repeat' (first|refine Ga ?_|(refine Gb ?_;intro b)|(refine Gd ?_;intro g cap rest hcap)|(refine Gc ?_;intro ad cap) |(refine Ge ?_ ?_<;>(intro h;try (exfalso;omega)))|fail)
  all_goals (first|refine St.dn Tryz.func284 ⟨?_,rfl⟩ Ent.go|refine St.fl Tryz.func284 ⟨?_,rfl⟩ Ent.go)
  all_goals refine congrArg Value.bool ?_
  all_goals simp [readsB, *]
def xeL (X:Nat) (c:Cfg) (cv:Value) (V Pb W:Nat) (x:Xs) (news:List Nat) (a:Option Addr×Nat):List HProp:=[bl X 221 (exV c cv V Pb W (.slice a.1 news.length a.2) x),Row (.slice a.1 news.length a.2) 22 1 news.length (u64s news)]
def XeE (X:Nat) (c:Cfg) (cv:Value) (V Pb W:Nat) (x:Xs) (news:List Nat):HProp:=ex (xeL X c cv V Pb W x news)
def Xm.taken (c:Cfg) (room:Nat) (m:Xm) (b:Nat):Xm :=
  if c.blocks≤(b:Int) then m.fail 43 0 else
  { m with p:={ m.p with nt:=(takeP c room m.p.nt m.puts b).1 },puts:=(takeP c room m.p.nt m.puts b).2,news:=m.news++[b+1],x:={ m.x with regs:=m.x.regs.set m.x.i.a.toNat (b+1) } }
structure Xok (m:Xm):Prop where
  mark:m.x.mark≤m.puts.length
  len:m.puts.length≤999999900
  w0:0≤m.x.writes
  w1:m.x.writes≤1000000
  nt0:0≤m.p.nt
  nt1:m.p.nt≤1000000
  nl0:0≤m.p.nl
  nl1:m.p.nl≤1000000
  news:m.news.length≤1000000
  regs:m.x.regs.length=16
  args:m.x.args.length=4
  i:InsOk m.x.i
set_option maxRecDepth 100000 in
theorem xtaken_t (X V Pb W room:Nat) (c:Cfg) (hc:Small c) (cv:Value) (m:Xm) (hm:Xok m) (bk:Nat) :
    Tri Tryz.prog 249 #[.pointer (some ⟨X,0,none⟩), .int .u64 (bk:Int)] [XeE X c cv V Pb W m.x m.news,Pl Pb c m.p,Ws W room m.puts]
      fun r L=>r=.tuple ⟨[]⟩∧L=[XeE X c cv V Pb W (m.taken c room bk).x (m.taken c room bk).news,Pl Pb c (m.taken c room bk).p,Ws W room (m.taken c room bk).puts]:=by
  refine Tri.ex_out ?_
  rintro ⟨nad,ncap⟩
  have hlen:=hm.len
  have hnl:=hm.news
  have hcf:=cfg_r c
  have htk:=take_x c cv V Pb W (.slice nad m.news.length ncap) m.x
  have ha0:=hm.i.a0;have ha1:=hm.i.a1
  have:=hc.b0;have:=hc.b1
  unfold Xm.taken
  by_cases h1:c.blocks≤(bk:Int)
  · rw [if_pos h1]
    dsimp only [Xm.fail]
    have hf:=xfail_t X V Pb W room c cv (.slice nad m.news.length ncap) m.x m.p m.puts 43 0 hm.mark (by omega)
    refine Tri.of_body (vs:=[_,_]) Tryz.func249 rfl rfl fun w0 F=>?_
    repeat' (first|refine Ga ?_|(refine Gb ?_;intro b)|(refine Gd ?_;intro g cap rest hcap)|(refine Gc ?_;intro ad cap)|(refine St.draw (id:=2) [(0,0),(1,0),(2,0),(3,1),(4,0),(5,0),(6,0),(7,1),(8,0),(9,0),(10,3)] [10] mixed (by kernel_rfl) ?_)|(refine St.draw (id:=4) [(0,0),(1,0),(2,0),(3,0),(4,0),(5,1),(6,0),(7,0),(8,0),(9,0),(10,0),(11,3)] [11] mixed (by kernel_rfl) ?_)| refine Gl hcf ?_|(refine Gt hf ?_;rintro _ _ ⟨rfl,rfl⟩)|(refine Ge ?_ ?_<;>(intro h;try (exfalso;omega)))|fail)
    refine St.d1 Tryz.func249 ⟨_,⟨rfl,rfl⟩, ?_⟩
    exact Ent.trans Ent.go (Ent.ex_in (Ls:=xeL X c cv V Pb W { m.x with s:=1,rc:=43,rv:=0 } m.news) (nad,ncap))
  · rw [if_neg h1]
    dsimp only
    have ht:=ptake_t Pb W room c hc m.p m.puts bk (by omega) ⟨hm.nt0,hm.nt1⟩
    have hsr:=fun nv=>ex_setreg c cv V Pb W nv m.x hm.regs ha0 ha1 (bk+1)
    refine Tri.of_body (vs:=[_,_]) Tryz.func249 rfl rfl fun w0 F=>?_
    repeat' (first|refine Ga ?_|(refine Gb ?_;intro b)|(refine Gd ?_;intro g cap rest hcap)|(refine Gc ?_;intro ad cap)|(refine St.draw (id:=2) [(0,0),(1,0),(2,0),(3,1),(4,0),(5,0),(6,0),(7,1),(8,0),(9,0),(10,3)] [10] mixed (by kernel_rfl) ?_)|(refine St.draw (id:=4) [(0,0),(1,0),(2,0),(3,0),(4,0),(5,1),(6,0),(7,0),(8,0),(9,0),(10,0),(11,3)] [11] mixed (by kernel_rfl) ?_)| refine Gl hcf ?_|(refine Gt ht ?_;rintro _ _ ⟨rfl,rfl⟩)|(refine Ge ?_ ?_<;>(intro h;try (exfalso;omega)))|fail)
    have hsr2:=hsr (.slice ad (m.news.length+1) cap)
    repeat' (first|refine Ga ?_|(refine Gb ?_;intro b)|(refine Gd ?_;intro g cap rest hcap)|(refine Gc ?_;intro ad cap)|(refine St.draw (id:=2) [(0,0),(1,0),(2,0),(3,1),(4,0),(5,0),(6,0),(7,1),(8,0),(9,0),(10,3)] [10] mixed (by kernel_rfl) ?_)|(refine St.draw (id:=4) [(0,0),(1,0),(2,0),(3,0),(4,0),(5,1),(6,0),(7,0),(8,0),(9,0),(10,0),(11,3)] [11] mixed (by kernel_rfl) ?_)| refine Gl hcf ?_|(refine Ge ?_ ?_<;>(intro h;try (exfalso;omega)))|fail)
    refine St.f1 Tryz.func249 ⟨_,⟨rfl,rfl⟩, ?_⟩
    refine Ent.trans ?_ (Ent.ex_in (Ls:=xeL X c cv V Pb W { m.x with regs:=m.x.regs.set m.x.i.a.toNat (bk+1) } (m.news++[bk+1])) (ad,cap))
    unfold xeL;dsimp only
    rw [List.length_append,u64s_snoc]
    exact Ent.go
end Go.Proofs.YthmbgodcpgkkeaaGreat
end
section
namespace Go.Proofs.YthmbgodcpgkkeaaGreat
def Xs.bN (c:Cfg) (x:Xs):Nat:=(x.block c).1.toNat
theorem Xs.bN_eq (c:Cfg) (x:Xs):(x.block c).1=(x.bN c:Int):=by
  unfold Xs.bN Xs.block
  split
  · rfl
  · dsimp only;omega
def Xm.goOn (c:Cfg) (room:Nat) (m:Xm) (val:Nat):Xm :=
  if m.x.i.op=9∨m.x.i.op=11∨m.x.i.op=12 then { m with x:={ m.x with regs:=m.x.regs.set m.x.i.a.toNat val } } else
  if m.x.i.op=15 then m.taken c room val else
  if m.x.i.op=13∨m.x.i.op=14 then (if (m.pay c).2 then { (m.pay c).1 with puts:=putP room (m.pay c).1.puts (c.at 16 (m.x.block c).1 (m.x.block c).2.1) (m.x.reg m.x.i.a) } else (m.pay c).1) else
  if m.x.i.op=16 then (if (m.pay c).2 then { (m.pay c).1 with p:={ (m.pay c).1.p with nl:=(giveP c room (m.pay c).1.p.nl (m.pay c).1.puts (m.x.bN c)).1 },puts:=(giveP c room (m.pay c).1.p.nl (m.pay c).1.puts (m.x.bN c)).2 } else (m.pay c).1) else m
theorem Xm.pay_news (c:Cfg) (m:Xm):(m.pay c).1.news=m.news:=by unfold Xm.pay Xm.fail;split<;>rfl
theorem Xm.pay_t {c:Cfg} {m:Xm} (h:(m.pay c).2=true):(m.pay c).1={ m with x:={ m.x with writes:=m.x.writes+costs m.x.i.op } }:=by
  unfold Xm.pay at *;split at h
  · cases h
  · rename_i h1;rw [if_neg h1]
theorem Xm.pay_f {c:Cfg} {m:Xm} (h:(m.pay c).2=false):(m.pay c).1=m.fail 42 0:=by
  unfold Xm.pay at *;split at h
  · rename_i h1;rw [if_pos h1]
  · cases h
set_option maxHeartbeats 1000000 in
set_option maxRecDepth 100000 in
theorem xgoOn_t (X V Pb W room:Nat) (c:Cfg) (hc:Small c) (cv:Value) (m:Xm) (hm:Xok m) (val:Nat) :
    Tri Tryz.prog 195 #[.pointer (some ⟨X,0,none⟩), .int .u64 (val:Int)] [XeE X c cv V Pb W m.x m.news,Pl Pb c m.p,Ws W room m.puts]
      fun r L=>r=.tuple ⟨[]⟩∧L=[XeE X c cv V Pb W (m.goOn c room val).x (m.goOn c room val).news,Pl Pb c (m.goOn c room val).p,Ws W room (m.goOn c room val).puts]:=by
  have htak:=xtaken_t X V Pb W room c hc cv m hm val
  refine Tri.ex_out ?_
  rintro ⟨nad,ncap⟩
  have ha0:=hm.i.a0;have ha1:=hm.i.a1
  have hlen:=hm.len
  unfold Xm.goOn
  by_cases h1:m.x.i.op=9∨m.x.i.op=11∨m.x.i.op=12
  · rw [if_pos h1]
    dsimp only
    have hsr:=ex_setreg c cv V Pb W (.slice nad m.news.length ncap) m.x hm.regs ha0 ha1 val
    refine Tri.of_body (vs:=[_,_]) Tryz.func195 rfl rfl fun w0 F=>?_
    repeat' (first|refine Ga ?_|(refine Gb ?_;intro b)|(refine Gd ?_;intro g cap rest hcap)|(refine Gc ?_;intro ad cap)|(refine St.draw (id:=5) [(0,0),(1,0),(2,1),(3,0),(4,0),(5,0),(6,0),(7,3)] [7] mixed (by kernel_rfl) ?_)|(refine St.draw (id:=12) [(0,0),(1,0),(2,0),(3,1),(4,0),(5,0),(6,0),(7,1),(8,0),(9,0),(10,1),(11,0),(12,0),(13,1),(14,0),(15,0),(16,0),(17,1),(18,3)] [18] mixed (by kernel_rfl) ?_)|(refine St.draw (id:=16) [(0,0),(1,0),(2,0),(3,1),(4,0),(5,0),(6,0),(7,1),(8,0),(9,3)] [9] mixed (by kernel_rfl) ?_)|(refine Ge ?_ ?_<;>(intro h;try (exfalso;omega)))|fail)
    all_goals
      refine St.f1 Tryz.func195 ⟨_,⟨rfl,rfl⟩, ?_⟩
      exact Ent.trans Ent.go (Ent.ex_in (Ls:=xeL X c cv V Pb W { m.x with regs:=m.x.regs.set m.x.i.a.toNat val } m.news) (nad,ncap))
  · rw [if_neg h1]
    by_cases h2:m.x.i.op=15
    · rw [if_pos h2]
      have htak:=htak.ent (L:=[bl X 221 (exV c cv V Pb W (.slice nad m.news.length ncap) m.x),Row (.slice nad m.news.length ncap) 22 1 m.news.length (u64s m.news),Pl Pb c m.p,Ws W room m.puts]) (Ent.ex_in (Ls:=xeL X c cv V Pb W m.x m.news) (nad,ncap))
      refine Tri.of_body (vs:=[_,_]) Tryz.func195 rfl rfl fun w0 F=>?_
      repeat' (first|refine Ga ?_|(refine Gb ?_;intro b)|(refine Gd ?_;intro g cap rest hcap)|(refine Gc ?_;intro ad cap)|(refine St.draw (id:=5) [(0,0),(1,0),(2,1),(3,0),(4,0),(5,0),(6,0),(7,3)] [7] mixed (by kernel_rfl) ?_)|(refine St.draw (id:=12) [(0,0),(1,0),(2,0),(3,1),(4,0),(5,0),(6,0),(7,1),(8,0),(9,0),(10,1),(11,0),(12,0),(13,1),(14,0),(15,0),(16,0),(17,1),(18,3)] [18] mixed (by kernel_rfl) ?_)|(refine St.draw (id:=16) [(0,0),(1,0),(2,0),(3,1),(4,0),(5,0),(6,0),(7,1),(8,0),(9,3)] [9] mixed (by kernel_rfl) ?_)|(refine Gt htak ?_;rintro _ _ ⟨rfl,rfl⟩)|(refine Ge ?_ ?_<;>(intro h;try (exfalso;omega)))|fail)
      refine St.f1 Tryz.func195 ⟨_,⟨rfl,rfl⟩, ?_⟩
      exact Ent.go
    · rw [if_neg h2]
      have hbl:=xblock_r X V Pb W c hc cv (.slice nad m.news.length ncap) m.x hm.i
      have hpay:=xpay_t X V Pb W room c hc cv (.slice nad m.news.length ncap) m hm.mark (by omega) ⟨hm.w0,hm.w1⟩
      have hpn:=m.pay_news c
      by_cases h3:m.x.i.op=13∨m.x.i.op=14
      · rw [if_pos h3]
        cases hp:(m.pay c).2 with
        | false =>
          rw [hp] at hpay
          rw [if_neg (by decide)]
          refine Tri.of_body (vs:=[_,_]) Tryz.func195 rfl rfl fun w0 F=>?_
          repeat' (first|refine Ga ?_|(refine Gb ?_;intro b)|(refine Gd ?_;intro g cap rest hcap)|(refine Gc ?_;intro ad cap)|(refine St.draw (id:=5) [(0,0),(1,0),(2,1),(3,0),(4,0),(5,0),(6,0),(7,3)] [7] mixed (by kernel_rfl) ?_)|(refine St.draw (id:=12) [(0,0),(1,0),(2,0),(3,1),(4,0),(5,0),(6,0),(7,1),(8,0),(9,0),(10,1),(11,0),(12,0),(13,1),(14,0),(15,0),(16,0),(17,1),(18,3)] [18] mixed (by kernel_rfl) ?_)|(refine St.draw (id:=16) [(0,0),(1,0),(2,0),(3,1),(4,0),(5,0),(6,0),(7,1),(8,0),(9,3)] [9] mixed (by kernel_rfl) ?_)| refine Gl hbl ?_|(refine Gt hpay ?_;rintro _ _ ⟨rfl,rfl⟩)|(refine Ge ?_ ?_<;>(intro h;try (exfalso;omega)))|fail)
          all_goals
            refine St.f1 Tryz.func195 ⟨_,⟨rfl,rfl⟩, ?_⟩
            rw [hpn]
            exact Ent.trans Ent.go (Ent.ex_in (Ls:=xeL X c cv V Pb W (m.pay c).1.x m.news) (nad,ncap))
        | true =>
          rw [hp] at hpay
          rw [if_pos rfl]
          rw [Xm.pay_t hp] at hpay⊢
          dsimp only at hpay⊢
          have hat:=at_r c hc 16 (m.x.block c).1 (m.x.block c).2.1
          have hrg:NthN _ _ (Value.int .u64 ((m.x.reg m.x.i.a:Nat):Int)):=ex_reg c cv V Pb W (.slice nad m.news.length ncap) { m.x with writes:=m.x.writes+costs m.x.i.op } ha0 ha1
          have hput:=wput_t W room m.puts (c.at 16 (m.x.block c).1 (m.x.block c).2.1) (m.x.reg m.x.i.a) (by omega)
          have htk:=take_x c cv V Pb W (.slice nad m.news.length ncap) { m.x with writes:=m.x.writes+costs m.x.i.op }
          refine Tri.of_body (vs:=[_,_]) Tryz.func195 rfl rfl fun w0 F=>?_
          repeat' (first|refine Ga ?_|(refine Gb ?_;intro b)|(refine Gd ?_;intro g cap rest hcap)|(refine Gc ?_;intro ad cap)|(refine St.draw (id:=5) [(0,0),(1,0),(2,1),(3,0),(4,0),(5,0),(6,0),(7,3)] [7] mixed (by kernel_rfl) ?_)|(refine St.draw (id:=12) [(0,0),(1,0),(2,0),(3,1),(4,0),(5,0),(6,0),(7,1),(8,0),(9,0),(10,1),(11,0),(12,0),(13,1),(14,0),(15,0),(16,0),(17,1),(18,3)] [18] mixed (by kernel_rfl) ?_)|(refine St.draw (id:=16) [(0,0),(1,0),(2,0),(3,1),(4,0),(5,0),(6,0),(7,1),(8,0),(9,3)] [9] mixed (by kernel_rfl) ?_)| refine Gl hbl ?_|refine Gl hat ?_|(refine Gt hpay ?_;rintro _ _ ⟨rfl,rfl⟩)|(refine Gt hput ?_;rintro _ _ ⟨rfl,rfl⟩)|(refine Ge ?_ ?_<;>(intro h;try (exfalso;omega)))|fail)
          all_goals
            refine St.f1 Tryz.func195 ⟨_,⟨rfl,rfl⟩, ?_⟩
            exact Ent.trans Ent.go (Ent.ex_in (Ls:=xeL X c cv V Pb W { m.x with writes:=m.x.writes+costs m.x.i.op } m.news) (nad,ncap))
      · rw [if_neg h3]
        by_cases h4:m.x.i.op=16
        · rw [if_pos h4]
          rw [Xs.bN_eq] at hbl
          cases hp:(m.pay c).2 with
          | false =>
            rw [hp] at hpay
            rw [if_neg (by decide)]
            refine Tri.of_body (vs:=[_,_]) Tryz.func195 rfl rfl fun w0 F=>?_
            repeat' (first|refine Ga ?_|(refine Gb ?_;intro b)|(refine Gd ?_;intro g cap rest hcap)|(refine Gc ?_;intro ad cap)|(refine St.draw (id:=5) [(0,0),(1,0),(2,1),(3,0),(4,0),(5,0),(6,0),(7,3)] [7] mixed (by kernel_rfl) ?_)|(refine St.draw (id:=12) [(0,0),(1,0),(2,0),(3,1),(4,0),(5,0),(6,0),(7,1),(8,0),(9,0),(10,1),(11,0),(12,0),(13,1),(14,0),(15,0),(16,0),(17,1),(18,3)] [18] mixed (by kernel_rfl) ?_)|(refine St.draw (id:=16) [(0,0),(1,0),(2,0),(3,1),(4,0),(5,0),(6,0),(7,1),(8,0),(9,3)] [9] mixed (by kernel_rfl) ?_)| refine Gl hbl ?_|(refine Gt hpay ?_;rintro _ _ ⟨rfl,rfl⟩)|(refine Ge ?_ ?_<;>(intro h;try (exfalso;omega)))|fail)
            all_goals
              refine St.f1 Tryz.func195 ⟨_,⟨rfl,rfl⟩, ?_⟩
              rw [hpn]
              exact Ent.trans Ent.go (Ent.ex_in (Ls:=xeL X c cv V Pb W (m.pay c).1.x m.news) (nad,ncap))
          | true =>
            rw [hp] at hpay
            rw [if_pos rfl]
            rw [Xm.pay_t hp] at hpay⊢
            dsimp only at hpay⊢
            have hgv:=pgive_t Pb W room c hc m.p m.puts (m.x.bN c) (by omega) hm.nl0
            refine Tri.of_body (vs:=[_,_]) Tryz.func195 rfl rfl fun w0 F=>?_
            repeat' (first|refine Ga ?_|(refine Gb ?_;intro b)|(refine Gd ?_;intro g cap rest hcap)|(refine Gc ?_;intro ad cap)|(refine St.draw (id:=5) [(0,0),(1,0),(2,1),(3,0),(4,0),(5,0),(6,0),(7,3)] [7] mixed (by kernel_rfl) ?_)|(refine St.draw (id:=12) [(0,0),(1,0),(2,0),(3,1),(4,0),(5,0),(6,0),(7,1),(8,0),(9,0),(10,1),(11,0),(12,0),(13,1),(14,0),(15,0),(16,0),(17,1),(18,3)] [18] mixed (by kernel_rfl) ?_)|(refine St.draw (id:=16) [(0,0),(1,0),(2,0),(3,1),(4,0),(5,0),(6,0),(7,1),(8,0),(9,3)] [9] mixed (by kernel_rfl) ?_)| refine Gl hbl ?_|(refine Gt hpay ?_;rintro _ _ ⟨rfl,rfl⟩)|(refine Gt hgv ?_;rintro _ _ ⟨rfl,rfl⟩)|(refine Ge ?_ ?_<;>(intro h;try (exfalso;omega)))|fail)
            all_goals
              refine St.f1 Tryz.func195 ⟨_,⟨rfl,rfl⟩, ?_⟩
              exact Ent.trans Ent.go (Ent.ex_in (Ls:=xeL X c cv V Pb W { m.x with writes:=m.x.writes+costs m.x.i.op } m.news) (nad,ncap))
        · rw [if_neg h4]
          refine Tri.of_body (vs:=[_,_]) Tryz.func195 rfl rfl fun w0 F=>?_
          repeat' (first|refine Ga ?_|(refine Gb ?_;intro b)|(refine Gd ?_;intro g cap rest hcap)|(refine Gc ?_;intro ad cap)|(refine St.draw (id:=5) [(0,0),(1,0),(2,1),(3,0),(4,0),(5,0),(6,0),(7,3)] [7] mixed (by kernel_rfl) ?_)|(refine St.draw (id:=12) [(0,0),(1,0),(2,0),(3,1),(4,0),(5,0),(6,0),(7,1),(8,0),(9,0),(10,1),(11,0),(12,0),(13,1),(14,0),(15,0),(16,0),(17,1),(18,3)] [18] mixed (by kernel_rfl) ?_)|(refine St.draw (id:=16) [(0,0),(1,0),(2,0),(3,1),(4,0),(5,0),(6,0),(7,1),(8,0),(9,3)] [9] mixed (by kernel_rfl) ?_)|(refine Ge ?_ ?_<;>(intro h;try (exfalso;omega)))|fail)
          refine St.f1 Tryz.func195 ⟨_,⟨rfl,rfl⟩, ?_⟩
          exact Ent.trans Ent.go (Ent.ex_in (Ls:=xeL X c cv V Pb W m.x m.news) (nad,ncap))
end Go.Proofs.YthmbgodcpgkkeaaGreat
end
