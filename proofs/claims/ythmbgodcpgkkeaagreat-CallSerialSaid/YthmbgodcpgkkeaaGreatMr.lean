/-
  Package model: a program that runs: pay, root, word, fresh, free.
-/
import Derived.Test.YthmbgodcpgkkeaaGreatMo
namespace Go.Proofs.YthmbgodcpgkkeaaGreat
set_option maxRecDepth 100000
structure Rm where
  args:List Nat
  regs:List Nat
  wr:Int
  code:Int
  val:Nat
  steps:Int
  dw:Int
  pc:Int
  ended:Bool
  roots:List Nat
  blocks:List (Int×List Nat)
  pick:List Nat
  news:List Nat
def rmV (S:Nat) (pv nv:Value) (m:Rm):List Value :=
  .pointer (some ⟨S,0,none⟩)::(g4 m.args++(g16 m.regs++[.int .i64 m.wr,pv, .int .i64 m.code, .int .u64 (m.val:Int), .int .i64 m.steps, .int .i64 m.dw,nv, .int .i64 m.pc, .bool m.ended]))
structure At where
  mb:Nat
  pad:Option Addr
  pcap:Nat
  nad:Option Addr
  ncap:Nat
def rmL (X S:Nat) (q:HProp) (w:At) (m:Rm):List HProp :=
  [bl X 253 (rmV S (.slice w.pad m.pick.length w.pcap) (.slice w.nad m.news.length w.ncap) m),bl S 250 (stV m.roots w.mb),Mp w.mb u64K aggL m.blocks,Row (.slice w.nad m.news.length w.ncap) 22 1 m.news.length (u64s m.news),q]
def u64V (k:Nat):List Value:=[.int .u64 (k:Int)]
structure RmOk (m:Rm):Prop where
  a:m.args.length=4
  r:m.regs.length=16
  o:m.roots.length=16
  b:∀ p∈m.blocks,p.2.length=8
  w0:0≤m.wr
  w1:m.wr≤1000000
  d0:0≤m.dw
  d1:m.dw≤m.wr
  n:m.news.length≤1000000
def PickR (q:HProp) (w:At) (m:Rm):Prop:=ListR u64V q (.slice w.pad m.pick.length w.pcap) m.pick
def Rm.reg (m:Rm) (a:Int):Nat:=m.regs.getD a.toNat 0
def Rm.setR (m:Rm) (a:Int) (n:Nat):Rm:={ m with regs:=m.regs.set a.toNat n }
theorem rm_reg (S:Nat) (pv nv:Value) (m:Rm) {a:Int} (h0:0≤a) (h1:a<16):NthN (0+5+a.toNat * 1) (rmV S pv nv m) (.int .u64 ((m.reg a:Nat):Int)):=by
  have h:a=0∨a=1∨a=2∨a=3∨a=4∨a=5∨a=6∨a=7∨a=8∨a=9∨a=10∨a=11∨a=12∨a=13∨a=14∨a=15:=by omega
  rcases h with rfl|rfl|rfl|rfl|rfl|rfl|rfl|rfl|rfl|rfl|rfl|rfl|rfl|rfl|rfl|rfl<;>exact NthN.of rfl
theorem rm_set (S:Nat) (pv nv:Value) (m:Rm) (hl:m.regs.length=16) {a:Int} (h0:0≤a) (h1:a<16) (n:Nat):SetN (.int .u64 (n:Int)) (0+5+a.toNat * 1) (rmV S pv nv m) (rmV S pv nv (m.setR a n)):=by
  have h:a=0∨a=1∨a=2∨a=3∨a=4∨a=5∨a=6∨a=7∨a=8∨a=9∨a=10∨a=11∨a=12∨a=13∨a=14∨a=15:=by omega
  obtain ⟨args,regs,wr,code,val,steps,dw,pc,ended,roots,blocks,pick,news⟩:=m
  obtain ⟨a0,a1,a2,a3,a4,a5,a6,a7,a8,a9,a10,a11,a12,a13,a14,a15,rfl⟩:=len16 hl
  have key:∀ (k:Nat) (l l':List Value),k<l.length→l.set k (.int .u64 (n:Int))=l'→SetN (.int .u64 (n:Int)) k l l':=fun k l l' hk e=>e▸SetN.of hk
  rcases h with rfl|rfl|rfl|rfl|rfl|rfl|rfl|rfl|rfl|rfl|rfl|rfl|rfl|rfl|rfl|rfl<;>exact key _ _ _ (by simp [rmV,g4,g16]) rfl
theorem st_set (roots:List Nat) (mb:Nat) (hl:roots.length=16) {a:Int} (h0:0≤a) (h1:a<16) (n:Nat):SetN (.int .u64 (n:Int)) (0+0+a.toNat * 1) (stV roots mb) (stV (roots.set a.toNat n) mb):=by
  have h:a=0∨a=1∨a=2∨a=3∨a=4∨a=5∨a=6∨a=7∨a=8∨a=9∨a=10∨a=11∨a=12∨a=13∨a=14∨a=15:=by omega
  obtain ⟨a0,a1,a2,a3,a4,a5,a6,a7,a8,a9,a10,a11,a12,a13,a14,a15,rfl⟩:=len16 hl
  have key:∀ (k:Nat) (l l':List Value),k<l.length→l.set k (.int .u64 (n:Int))=l'→SetN (.int .u64 (n:Int)) k l l':=fun k l l' hk e=>e▸SetN.of hk
  rcases h with rfl|rfl|rfl|rfl|rfl|rfl|rfl|rfl|rfl|rfl|rfl|rfl|rfl|rfl|rfl|rfl<;>exact key _ _ _ (by simp [stV,g16]) rfl
def Rm.pay (op:Int) (m:Rm):Rm×Int:=if m.wr - m.dw<costs op then (m,42) else ({ m with dw:=m.dw+costs op },0)
def rmQ (X S:Nat) (q:HProp) (m':Rm×Int) (v:Value) (L:List HProp):Prop:=∃ w',v=.int .i64 m'.2∧PickR q w' m'.1∧L=rmL X S q w' m'.1
theorem mpay_t (X S:Nat) (q:HProp) (w:At) (m:Rm) (hm:RmOk m) (op:Int):Tri Tryz.prog 269 #[.pointer (some ⟨X,0,none⟩), .int .i64 op] (rmL X S q w m) fun v L=>v=.int .i64 (m.pay op).2∧L=rmL X S q w (m.pay op).1:=by
  have hco:=costs_r op
  have hcl:=costs_le op
  have:=hm.w0;have:=hm.w1;have:=hm.d0;have:=hm.d1
  unfold Rm.pay
  by_cases h:m.wr - m.dw<costs op
  · rw [if_pos h]
    unfold rmL rmV
    dsimp only
    refine Tri.of_body (vs:=[_,_]) Tryz.func269 rfl rfl fun w0 F=>?_
    repeat' (first|refine Ga ?_|(refine Gb ?_;intro b)|(refine Gd ?_;intro g cap rest hcap)|(refine Gc ?_;intro ad cap)|(refine St.draw (id:=2) [(0,0),(1,0),(2,0),(3,0),(4,1),(5,0),(6,0),(7,0),(8,0),(9,1),(10,0),(11,0)] [] mixed (by kernel_rfl) ?_)| refine Gl hco ?_|(refine Ge ?_ ?_<;>(intro h;try (exfalso;omega)))|fail)
    refine St.d1 Tryz.func269 ⟨_,⟨rfl,rfl⟩,Ent.go⟩
  · rw [if_neg h]
    unfold rmL rmV
    dsimp only
    refine Tri.of_body (vs:=[_,_]) Tryz.func269 rfl rfl fun w0 F=>?_
    repeat' (first|refine Ga ?_|(refine Gb ?_;intro b)|(refine Gd ?_;intro g cap rest hcap)|(refine Gc ?_;intro ad cap)|(refine St.draw (id:=2) [(0,0),(1,0),(2,0),(3,0),(4,1),(5,0),(6,0),(7,0),(8,0),(9,1),(10,0),(11,0)] [] mixed (by kernel_rfl) ?_)| refine Gl hco ?_|(refine Ge ?_ ?_<;>(intro h;try (exfalso;omega)))|fail)
    refine St.d1 Tryz.func269 ⟨_,⟨rfl,rfl⟩,Ent.go⟩
structure PaidM (m m1:Rm):Prop where
  args:m1.args=m.args
  regs:m1.regs=m.regs
  roots:m1.roots=m.roots
  blocks:m1.blocks=m.blocks
  pick:m1.pick=m.pick
  news:m1.news=m.news
  wr:m1.wr=m.wr
  pc:m1.pc=m.pc
  ended:m1.ended=m.ended
  code:m1.code=m.code
  val:m1.val=m.val
  steps:m1.steps=m.steps
  d0:m.dw≤m1.dw
  d1:m1.dw≤m1.wr∨m1.dw=m.dw
theorem Rm.paid (op:Int) (m:Rm):PaidM m (m.pay op).1:=by
  have:=costs_le op
  unfold Rm.pay
  split
  · exact ⟨rfl,rfl,rfl,rfl,rfl,rfl,rfl,rfl,rfl,rfl,rfl,rfl,Int.le_refl _, .inr rfl⟩
  · exact ⟨rfl,rfl,rfl,rfl,rfl,rfl,rfl,rfl,rfl,rfl,rfl,rfl,by dsimp only;omega, .inl (by dsimp only;omega)⟩
theorem PaidM.ok {m m1:Rm} (h:PaidM m m1) (hm:RmOk m):RmOk m1:=by
  have:=hm.d0;have:=hm.d1;have:=h.d0;have:=h.d1;have:=h.wr;have:=hm.w0;have:=hm.w1
  exact ⟨h.args▸hm.a,h.regs▸hm.r,h.roots▸hm.o,h.blocks▸hm.b,by omega,by omega,by omega,by omega,h.news▸hm.n⟩
theorem PickR.paid {q:HProp} {w:At} {m m1:Rm} (hp:PickR q w m) (h:m1.pick=m.pick):PickR q w m1:=by
  unfold PickR at *
  rw [h];exact hp
def Rm.root (i:Ins) (m:Rm):Rm×Int :=
  if 16≤m.reg i.b then (m,44) else
  if i.op=9 then (m.setR i.a (m.roots.getD (m.reg i.b) 0),0) else
  if (m.pay i.op).2≠0 then m.pay i.op else ({ (m.pay i.op).1 with roots:=(m.pay i.op).1.roots.set (m.reg i.b) (m.reg i.a) },0)
set_option maxHeartbeats 1000000 in
theorem mrunroot_t (X S:Nat) (q:HProp) (w:At) (m:Rm) (hm:RmOk m) (hp:PickR q w m) (i:Ins) (hi:InsOk i):Tri Tryz.prog 207 #[.pointer (some ⟨X,0,none⟩), .agg ⟨i.v⟩] (rmL X S q w m) (rmQ X S q (m.root i)):=by
  obtain ⟨a0,a1,b0,b1,c0,c1⟩:=hi
  have hnb:=rm_reg S (.slice w.pad m.pick.length w.pcap) (.slice w.nad m.news.length w.ncap) m b0 b1
  unfold Rm.root
  unfold Ins.v
  generalize hk:m.reg i.b=k at hnb⊢
  by_cases h16:16≤k
  · rw [if_pos h16]
    unfold rmL
    refine Tri.of_body (vs:=[_,_]) Tryz.func207 rfl rfl fun w0 F=>?_
    repeat' (first|refine Ga ?_|(refine Gb ?_;intro b)|(refine Gd ?_;intro g cap rest hcap)|(refine Gc ?_;intro ad cap)|(refine St.draw (id:=1) [(0,0),(1,0),(2,1),(3,0),(4,0),(5,0),(6,1),(7,0)] [] mixed (by kernel_rfl) ?_)|(refine St.draw (id:=5) [(0,0),(1,0),(2,1),(3,0),(4,0),(5,0),(6,1),(7,0),(8,0),(9,0),(10,0),(11,1),(12,0),(13,0),(14,0),(15,3)] [15] mixed (by kernel_rfl) ?_)|(refine St.draw (id:=10) [(0,0),(1,0),(2,0),(3,1),(4,0),(5,0),(6,0),(7,1),(8,0),(9,0),(10,0),(11,1),(12,0),(13,0),(14,0),(15,3)] [15] mixed (by kernel_rfl) ?_)|(refine Ge ?_ ?_<;>(intro h;try (exfalso;omega)))|fail)
    refine St.d1 Tryz.func207 ⟨_,⟨w,rfl,hp,rfl⟩,Ent.go⟩
  rw [if_neg h16]
  by_cases h9:i.op=9
  · rw [if_pos h9]
    have hnk:NthN (0+0+(k:Int).toNat * 1) (stV m.roots w.mb) (.int .u64 ((m.roots.getD k 0:Nat):Int)):=g16_at _ (by omega) (by omega)
    have hset:=rm_set S (.slice w.pad m.pick.length w.pcap) (.slice w.nad m.news.length w.ncap) m hm.r a0 a1 (m.roots.getD k 0)
    unfold rmL
    refine Tri.of_body (vs:=[_,_]) Tryz.func207 rfl rfl fun w0 F=>?_
    repeat' (first|refine Ga ?_|(refine Gb ?_;intro b)|(refine Gd ?_;intro g cap rest hcap)|(refine Gc ?_;intro ad cap)|(refine St.draw (id:=1) [(0,0),(1,0),(2,1),(3,0),(4,0),(5,0),(6,1),(7,0)] [] mixed (by kernel_rfl) ?_)|(refine St.draw (id:=5) [(0,0),(1,0),(2,1),(3,0),(4,0),(5,0),(6,1),(7,0),(8,0),(9,0),(10,0),(11,1),(12,0),(13,0),(14,0),(15,3)] [15] mixed (by kernel_rfl) ?_)|(refine St.draw (id:=10) [(0,0),(1,0),(2,0),(3,1),(4,0),(5,0),(6,0),(7,1),(8,0),(9,0),(10,0),(11,1),(12,0),(13,0),(14,0),(15,3)] [15] mixed (by kernel_rfl) ?_)|(refine Ge ?_ ?_<;>(intro h;try (exfalso;omega)))|fail)
    refine St.d1 Tryz.func207 ⟨_,⟨w,rfl,hp,rfl⟩, ?_⟩
    exact Ent.go
  rw [if_neg h9]
  have hpay:=mpay_t X S q w m hm i.op
  have hpd:=m.paid i.op
  unfold rmL at hpay⊢
  generalize m.pay i.op=r at hpay hpd⊢
  obtain ⟨m1,e⟩:=r
  dsimp only at hpay hpd⊢
  have hp1:=hp.paid hpd.pick
  by_cases he:e=0
  · rw [if_neg (fun h=>h he)]
    subst he
    have hna:=rm_reg S (.slice w.pad m1.pick.length w.pcap) (.slice w.nad m1.news.length w.ncap) m1 a0 a1
    rw [show m1.reg i.a=m.reg i.a from by unfold Rm.reg;rw [hpd.regs]] at hna
    have hset:=st_set m1.roots w.mb (hpd.roots▸hm.o) (a:=(k:Int)) (by omega) (by omega) (m.reg i.a)
    rw [show (k:Int).toNat=k by omega] at hset
    have hset':SetN (.int .u64 (m.reg i.a:Int)) (0+0+(k:Int).toNat * 1) (stV m1.roots w.mb) (stV (m1.roots.set k (m.reg i.a)) w.mb):=hset
    refine Tri.of_body (vs:=[_,_]) Tryz.func207 rfl rfl fun w0 F=>?_
    repeat' (first|refine Ga ?_|(refine Gb ?_;intro b)|(refine Gd ?_;intro g cap rest hcap)|(refine Gc ?_;intro ad cap)|(refine St.draw (id:=1) [(0,0),(1,0),(2,1),(3,0),(4,0),(5,0),(6,1),(7,0)] [] mixed (by kernel_rfl) ?_)|(refine St.draw (id:=5) [(0,0),(1,0),(2,1),(3,0),(4,0),(5,0),(6,1),(7,0),(8,0),(9,0),(10,0),(11,1),(12,0),(13,0),(14,0),(15,3)] [15] mixed (by kernel_rfl) ?_)|(refine St.draw (id:=10) [(0,0),(1,0),(2,0),(3,1),(4,0),(5,0),(6,0),(7,1),(8,0),(9,0),(10,0),(11,1),(12,0),(13,0),(14,0),(15,3)] [15] mixed (by kernel_rfl) ?_)|(refine Gt hpay ?_;rintro _ _ ⟨rfl,rfl⟩)|(refine Ge ?_ ?_<;>(intro h;try (exfalso;omega)))|fail)
    refine St.d1 Tryz.func207 ⟨_,⟨w,rfl,hp1,rfl⟩, ?_⟩
    exact Ent.go
  · rw [if_pos he]
    refine Tri.of_body (vs:=[_,_]) Tryz.func207 rfl rfl fun w0 F=>?_
    repeat' (first|refine Ga ?_|(refine Gb ?_;intro b)|(refine Gd ?_;intro g cap rest hcap)|(refine Gc ?_;intro ad cap)|(refine St.draw (id:=1) [(0,0),(1,0),(2,1),(3,0),(4,0),(5,0),(6,1),(7,0)] [] mixed (by kernel_rfl) ?_)|(refine St.draw (id:=5) [(0,0),(1,0),(2,1),(3,0),(4,0),(5,0),(6,1),(7,0),(8,0),(9,0),(10,0),(11,1),(12,0),(13,0),(14,0),(15,3)] [15] mixed (by kernel_rfl) ?_)|(refine St.draw (id:=10) [(0,0),(1,0),(2,0),(3,1),(4,0),(5,0),(6,0),(7,1),(8,0),(9,0),(10,0),(11,1),(12,0),(13,0),(14,0),(15,3)] [15] mixed (by kernel_rfl) ?_)|(refine Gt hpay ?_;rintro _ _ ⟨rfl,rfl⟩)|(refine Ge ?_ ?_<;>(intro h;try (exfalso;omega)))|fail)
    refine St.d1 Tryz.func207 ⟨_,⟨w,rfl,hp1,rfl⟩, ?_⟩
    exact Ent.go
def Rm.word2 (i:Ins) (m:Rm) (h w:Nat):Rm×Int:=match mget m.blocks (h:Int) with
  | none=>(m,44)
  | some b=>if 8≤w then (m,44) else
    if i.op=11∨i.op=12 then (m.setR i.a (b.getD w 0),0) else
    if (m.pay i.op).2≠0 then m.pay i.op else ({ (m.pay i.op).1 with blocks:=mput (m.pay i.op).1.blocks (h:Int) (b.set w (m.reg i.a)) },0)
def Rm.word (i:Ins) (m:Rm):Rm×Int:=m.word2 i (m.reg i.b) (if i.op=12∨i.op=14 then m.reg i.c else i.imm)
theorem u64s_at8 {l:List Nat} (hl:l.length=8) {a:Nat} (h1:a<8):NthN (0+(a:Int).toNat * 1) (u64s l) (.int .u64 ((l.getD a 0:Nat):Int)):=by
  rw [Nat.zero_add,Nat.mul_one];exact NthN.u64s (by omega)
theorem u64s_set8 {l:List Nat} (hl:l.length=8) {a:Nat} (h1:a<8) (n:Nat):SetN (.int .u64 (n:Int)) (0+(a:Int).toNat * 1) (u64s l) (u64s (l.set a n)):=by
  have h:a=0∨a=1∨a=2∨a=3∨a=4∨a=5∨a=6∨a=7:=by omega
  obtain ⟨x0,x1,x2,x3,x4,x5,x6,x7,rfl⟩:=eight_of hl
  have key:∀ (k:Nat) (l l':List Value),k<l.length→l.set k (.int .u64 (n:Int))=l'→SetN (.int .u64 (n:Int)) k l l':=fun k l l' hk e=>e▸SetN.of hk
  rcases h with rfl|rfl|rfl|rfl|rfl|rfl|rfl|rfl<;>exact key _ _ _ (by simp [u64s]) rfl
theorem u64s_one (l:List Nat):(u64s l).all one=true:=by
  induction l with
  | nil=>rfl
  | cons x l ih=>exact ih
theorem u64s_take {l:List Nat} (hl:l.length=8):TakeN 8 (u64s l) (u64s l):=by
  obtain ⟨x0,x1,x2,x3,x4,x5,x6,x7,rfl⟩:=eight_of hl
  repeat constructor
theorem u64s_over {l:List Nat} (hl:l.length=8):SplN (u64s l) 0 [.int .u64 0, .int .u64 0, .int .u64 0, .int .u64 0, .int .u64 0, .int .u64 0, .int .u64 0, .int .u64 0] (u64s l):=by
  obtain ⟨x0,x1,x2,x3,x4,x5,x6,x7,rfl⟩:=eight_of hl
  exact .zero (by repeat constructor)
set_option maxHeartbeats 1000000 in
theorem mword_tail (X S Bi:Nat) (q:HProp) (w:At) (m:Rm) (hm:RmOk m) (hp:PickR q w m) (i:Ins) (hi:InsOk i) (_:i.op=11∨i.op=12∨i.op=13∨i.op=14) (h wd:Nat) (w0:World) (F:List HProp) :
    St Tryz.prog ⟨208,Tryz.f208,w0,rmQ X S q (m.word2 i h wd),F,[]⟩ [.code (codeAt Tryz.f208 4)] [(0, .pointer (some ⟨X,0,none⟩)),(3, .pointer (some ⟨Bi,0,none⟩)),(5, .int .u64 (h:Int)),(6, .int .u64 (wd:Int))]
      (bl Bi 200 i.v::(rmL X S q w m++F)):=by
  obtain ⟨a0,a1,b0,b1,c0,c1⟩:=hi
  have hpay:=mpay_t X S q w m hm i.op
  have hpd:=m.paid i.op
  unfold Ins.v
  unfold Rm.word2
  unfold rmL at hpay⊢
  cases hg:mget m.blocks (h:Int) with
  | none =>
    have hag:aggL ((mget m.blocks (h:Int)).getD zero8)=.agg ⟨u64s zero8⟩:=by rw [hg];rfl
    dsimp only
    repeat' (first|refine Ga ?_|(refine Gb ?_;intro b)|(refine Gd ?_;intro g cap rest hcap)|(refine Gc ?_;intro ad cap)|(refine St.draw (id:=1) [(0,0),(1,0),(2,1),(3,0),(4,0),(5,0),(6,1),(7,0),(8,1),(9,0),(10,0)] [] mixed (by kernel_rfl) ?_)|(refine St.draw (id:=3) [(0,0),(1,0),(2,1),(3,0),(4,0),(5,0),(6,1),(7,0)] [] mixed (by kernel_rfl) ?_)|(refine St.draw (id:=8) [(0,0),(1,0),(2,1),(3,0),(4,0),(5,1),(6,0),(7,0),(8,0),(9,3)] [9] mixed (by kernel_rfl) ?_)|(refine St.draw (id:=13) [(0,0),(1,0),(2,0),(3,1),(4,0),(5,0),(6,0),(7,1),(8,0),(9,3)] [9] mixed (by kernel_rfl) ?_)|(refine St.draw (id:=14) [(0,0),(1,0),(2,0),(3,1),(4,0),(5,0),(6,1),(7,0),(8,1),(9,3)] [9] mixed (by kernel_rfl) ?_)|(refine Ge ?_ ?_<;>(intro h;try (exfalso;omega)))|fail)
    rw [hag,hg]
    repeat' (first|refine Ga ?_|(refine Gb ?_;intro b)|(refine Gd ?_;intro g cap rest hcap)|(refine Gc ?_;intro ad cap)|(refine St.draw (id:=1) [(0,0),(1,0),(2,1),(3,0),(4,0),(5,0),(6,1),(7,0),(8,1),(9,0),(10,0)] [] mixed (by kernel_rfl) ?_)|(refine St.draw (id:=3) [(0,0),(1,0),(2,1),(3,0),(4,0),(5,0),(6,1),(7,0)] [] mixed (by kernel_rfl) ?_)|(refine St.draw (id:=8) [(0,0),(1,0),(2,1),(3,0),(4,0),(5,1),(6,0),(7,0),(8,0),(9,3)] [9] mixed (by kernel_rfl) ?_)|(refine St.draw (id:=13) [(0,0),(1,0),(2,0),(3,1),(4,0),(5,0),(6,0),(7,1),(8,0),(9,3)] [9] mixed (by kernel_rfl) ?_)|(refine St.draw (id:=14) [(0,0),(1,0),(2,0),(3,1),(4,0),(5,0),(6,1),(7,0),(8,1),(9,3)] [9] mixed (by kernel_rfl) ?_)|(refine Ge ?_ ?_<;>(intro h;try (exfalso;omega)))|fail)
    refine St.d1 Tryz.func208 ⟨_,⟨w,rfl,hp,rfl⟩, ?_⟩
    exact Ent.go
  | some bk =>
    have hl8:bk.length=8:=hm.b _ (mget_mem hg)
    have hul:(u64s bk).length=8:=by rw [u64s_len,hl8]
    have hone:=u64s_one bk
    have hspl:=u64s_over hl8
    have hag:aggL ((mget m.blocks (h:Int)).getD zero8)=.agg ⟨u64s bk⟩:=by rw [hg];rfl
    dsimp only
    by_cases h8:8≤wd
    · rw [if_pos h8]
      repeat' (first|refine Ga ?_|(refine Gb ?_;intro b)|(refine Gd ?_;intro g cap rest hcap)|(refine Gc ?_;intro ad cap)|(refine St.draw (id:=1) [(0,0),(1,0),(2,1),(3,0),(4,0),(5,0),(6,1),(7,0),(8,1),(9,0),(10,0)] [] mixed (by kernel_rfl) ?_)|(refine St.draw (id:=3) [(0,0),(1,0),(2,1),(3,0),(4,0),(5,0),(6,1),(7,0)] [] mixed (by kernel_rfl) ?_)|(refine St.draw (id:=8) [(0,0),(1,0),(2,1),(3,0),(4,0),(5,1),(6,0),(7,0),(8,0),(9,3)] [9] mixed (by kernel_rfl) ?_)|(refine St.draw (id:=13) [(0,0),(1,0),(2,0),(3,1),(4,0),(5,0),(6,0),(7,1),(8,0),(9,3)] [9] mixed (by kernel_rfl) ?_)|(refine St.draw (id:=14) [(0,0),(1,0),(2,0),(3,1),(4,0),(5,0),(6,1),(7,0),(8,1),(9,3)] [9] mixed (by kernel_rfl) ?_)|(refine Ge ?_ ?_<;>(intro h;try (exfalso;omega)))|fail)
      rw [hag,hg]
      repeat' (first|refine Ga ?_|(refine Gb ?_;intro b)|(refine Gd ?_;intro g cap rest hcap)|(refine Gc ?_;intro ad cap)|(refine St.draw (id:=1) [(0,0),(1,0),(2,1),(3,0),(4,0),(5,0),(6,1),(7,0),(8,1),(9,0),(10,0)] [] mixed (by kernel_rfl) ?_)|(refine St.draw (id:=3) [(0,0),(1,0),(2,1),(3,0),(4,0),(5,0),(6,1),(7,0)] [] mixed (by kernel_rfl) ?_)|(refine St.draw (id:=8) [(0,0),(1,0),(2,1),(3,0),(4,0),(5,1),(6,0),(7,0),(8,0),(9,3)] [9] mixed (by kernel_rfl) ?_)|(refine St.draw (id:=13) [(0,0),(1,0),(2,0),(3,1),(4,0),(5,0),(6,0),(7,1),(8,0),(9,3)] [9] mixed (by kernel_rfl) ?_)|(refine St.draw (id:=14) [(0,0),(1,0),(2,0),(3,1),(4,0),(5,0),(6,1),(7,0),(8,1),(9,3)] [9] mixed (by kernel_rfl) ?_)|(refine Ge ?_ ?_<;>(intro h;try (exfalso;omega)))|fail)
      refine St.d1 Tryz.func208 ⟨_,⟨w,rfl,hp,rfl⟩, ?_⟩
      exact Ent.go
    · rw [if_neg h8]
      have hat:=u64s_at8 hl8 (a:=wd) (by omega)
      by_cases h11:i.op=11∨i.op=12
      · rw [if_pos h11]
        have hset:=rm_set S (.slice w.pad m.pick.length w.pcap) (.slice w.nad m.news.length w.ncap) m hm.r a0 a1 (bk.getD wd 0)
        repeat' (first|refine Ga ?_|(refine Gb ?_;intro b)|(refine Gd ?_;intro g cap rest hcap)|(refine Gc ?_;intro ad cap)|(refine St.draw (id:=1) [(0,0),(1,0),(2,1),(3,0),(4,0),(5,0),(6,1),(7,0),(8,1),(9,0),(10,0)] [] mixed (by kernel_rfl) ?_)|(refine St.draw (id:=3) [(0,0),(1,0),(2,1),(3,0),(4,0),(5,0),(6,1),(7,0)] [] mixed (by kernel_rfl) ?_)|(refine St.draw (id:=8) [(0,0),(1,0),(2,1),(3,0),(4,0),(5,1),(6,0),(7,0),(8,0),(9,3)] [9] mixed (by kernel_rfl) ?_)|(refine St.draw (id:=13) [(0,0),(1,0),(2,0),(3,1),(4,0),(5,0),(6,0),(7,1),(8,0),(9,3)] [9] mixed (by kernel_rfl) ?_)|(refine St.draw (id:=14) [(0,0),(1,0),(2,0),(3,1),(4,0),(5,0),(6,1),(7,0),(8,1),(9,3)] [9] mixed (by kernel_rfl) ?_)|(refine Ge ?_ ?_<;>(intro h;try (exfalso;omega)))|fail)
        rw [hag,hg]
        repeat' (first|refine Ga ?_|(refine Gb ?_;intro b)|(refine Gd ?_;intro g cap rest hcap)|(refine Gc ?_;intro ad cap)|(refine St.draw (id:=1) [(0,0),(1,0),(2,1),(3,0),(4,0),(5,0),(6,1),(7,0),(8,1),(9,0),(10,0)] [] mixed (by kernel_rfl) ?_)|(refine St.draw (id:=3) [(0,0),(1,0),(2,1),(3,0),(4,0),(5,0),(6,1),(7,0)] [] mixed (by kernel_rfl) ?_)|(refine St.draw (id:=8) [(0,0),(1,0),(2,1),(3,0),(4,0),(5,1),(6,0),(7,0),(8,0),(9,3)] [9] mixed (by kernel_rfl) ?_)|(refine St.draw (id:=13) [(0,0),(1,0),(2,0),(3,1),(4,0),(5,0),(6,0),(7,1),(8,0),(9,3)] [9] mixed (by kernel_rfl) ?_)|(refine St.draw (id:=14) [(0,0),(1,0),(2,0),(3,1),(4,0),(5,0),(6,1),(7,0),(8,1),(9,3)] [9] mixed (by kernel_rfl) ?_)|(refine Ge ?_ ?_<;>(intro h;try (exfalso;omega)))|fail)
        all_goals refine St.d1 Tryz.func208 ⟨_,⟨w,rfl,hp,rfl⟩, ?_⟩
        all_goals exact Ent.go
      · rw [if_neg h11]
        generalize m.pay i.op=r at hpay hpd⊢
        obtain ⟨m1,e⟩:=r
        dsimp only at hpay hpd⊢
        have hp1:=hp.paid hpd.pick
        by_cases he:e=0
        · rw [if_neg (fun h=>h he)]
          subst he
          have hna:=rm_reg S (.slice w.pad m1.pick.length w.pcap) (.slice w.nad m1.news.length w.ncap) m1 a0 a1
          rw [show m1.reg i.a=m.reg i.a from by unfold Rm.reg;rw [hpd.regs]] at hna
          have hset:=u64s_set8 hl8 (a:=wd) (by omega) (m.reg i.a)
          have htk8:=u64s_take (l:=bk.set wd (m.reg i.a)) (by rw [List.length_set];exact hl8)
          repeat' (first|refine Ga ?_|(refine Gb ?_;intro b)|(refine Gd ?_;intro g cap rest hcap)|(refine Gc ?_;intro ad cap)|(refine St.draw (id:=1) [(0,0),(1,0),(2,1),(3,0),(4,0),(5,0),(6,1),(7,0),(8,1),(9,0),(10,0)] [] mixed (by kernel_rfl) ?_)|(refine St.draw (id:=3) [(0,0),(1,0),(2,1),(3,0),(4,0),(5,0),(6,1),(7,0)] [] mixed (by kernel_rfl) ?_)|(refine St.draw (id:=8) [(0,0),(1,0),(2,1),(3,0),(4,0),(5,1),(6,0),(7,0),(8,0),(9,3)] [9] mixed (by kernel_rfl) ?_)|(refine St.draw (id:=13) [(0,0),(1,0),(2,0),(3,1),(4,0),(5,0),(6,0),(7,1),(8,0),(9,3)] [9] mixed (by kernel_rfl) ?_)|(refine St.draw (id:=14) [(0,0),(1,0),(2,0),(3,1),(4,0),(5,0),(6,1),(7,0),(8,1),(9,3)] [9] mixed (by kernel_rfl) ?_)|(refine Ge ?_ ?_<;>(intro h;try (exfalso;omega)))|fail)
          rw [hag,hg]
          repeat' (first|refine Ga ?_|(refine Gb ?_;intro b)|(refine Gd ?_;intro g cap rest hcap)|(refine Gc ?_;intro ad cap)|(refine St.draw (id:=1) [(0,0),(1,0),(2,1),(3,0),(4,0),(5,0),(6,1),(7,0),(8,1),(9,0),(10,0)] [] mixed (by kernel_rfl) ?_)|(refine St.draw (id:=3) [(0,0),(1,0),(2,1),(3,0),(4,0),(5,0),(6,1),(7,0)] [] mixed (by kernel_rfl) ?_)|(refine St.draw (id:=8) [(0,0),(1,0),(2,1),(3,0),(4,0),(5,1),(6,0),(7,0),(8,0),(9,3)] [9] mixed (by kernel_rfl) ?_)|(refine St.draw (id:=13) [(0,0),(1,0),(2,0),(3,1),(4,0),(5,0),(6,0),(7,1),(8,0),(9,3)] [9] mixed (by kernel_rfl) ?_)|(refine St.draw (id:=14) [(0,0),(1,0),(2,0),(3,1),(4,0),(5,0),(6,1),(7,0),(8,1),(9,3)] [9] mixed (by kernel_rfl) ?_)|(refine Gt hpay ?_;rintro _ _ ⟨rfl,rfl⟩)|(refine Ge ?_ ?_<;>(intro h;try (exfalso;omega)))|fail)
          refine St.d1 Tryz.func208 ⟨_,⟨w,rfl,hp1,rfl⟩, ?_⟩
          exact Ent.go
        · rw [if_pos he]
          repeat' (first|refine Ga ?_|(refine Gb ?_;intro b)|(refine Gd ?_;intro g cap rest hcap)|(refine Gc ?_;intro ad cap)|(refine St.draw (id:=1) [(0,0),(1,0),(2,1),(3,0),(4,0),(5,0),(6,1),(7,0),(8,1),(9,0),(10,0)] [] mixed (by kernel_rfl) ?_)|(refine St.draw (id:=3) [(0,0),(1,0),(2,1),(3,0),(4,0),(5,0),(6,1),(7,0)] [] mixed (by kernel_rfl) ?_)|(refine St.draw (id:=8) [(0,0),(1,0),(2,1),(3,0),(4,0),(5,1),(6,0),(7,0),(8,0),(9,3)] [9] mixed (by kernel_rfl) ?_)|(refine St.draw (id:=13) [(0,0),(1,0),(2,0),(3,1),(4,0),(5,0),(6,0),(7,1),(8,0),(9,3)] [9] mixed (by kernel_rfl) ?_)|(refine St.draw (id:=14) [(0,0),(1,0),(2,0),(3,1),(4,0),(5,0),(6,1),(7,0),(8,1),(9,3)] [9] mixed (by kernel_rfl) ?_)|(refine Ge ?_ ?_<;>(intro h;try (exfalso;omega)))|fail)
          rw [hag,hg]
          repeat' (first|refine Ga ?_|(refine Gb ?_;intro b)|(refine Gd ?_;intro g cap rest hcap)|(refine Gc ?_;intro ad cap)|(refine St.draw (id:=1) [(0,0),(1,0),(2,1),(3,0),(4,0),(5,0),(6,1),(7,0),(8,1),(9,0),(10,0)] [] mixed (by kernel_rfl) ?_)|(refine St.draw (id:=3) [(0,0),(1,0),(2,1),(3,0),(4,0),(5,0),(6,1),(7,0)] [] mixed (by kernel_rfl) ?_)|(refine St.draw (id:=8) [(0,0),(1,0),(2,1),(3,0),(4,0),(5,1),(6,0),(7,0),(8,0),(9,3)] [9] mixed (by kernel_rfl) ?_)|(refine St.draw (id:=13) [(0,0),(1,0),(2,0),(3,1),(4,0),(5,0),(6,0),(7,1),(8,0),(9,3)] [9] mixed (by kernel_rfl) ?_)|(refine St.draw (id:=14) [(0,0),(1,0),(2,0),(3,1),(4,0),(5,0),(6,1),(7,0),(8,1),(9,3)] [9] mixed (by kernel_rfl) ?_)|(refine Gt hpay ?_;rintro _ _ ⟨rfl,rfl⟩)|(refine Ge ?_ ?_<;>(intro h;try (exfalso;omega)))|fail)
          all_goals refine St.d1 Tryz.func208 ⟨_,⟨w,rfl,hp1,rfl⟩, ?_⟩
          all_goals exact Ent.go
set_option maxHeartbeats 1000000 in
theorem mword_t (X S:Nat) (q:HProp) (w:At) (m:Rm) (hm:RmOk m) (hp:PickR q w m) (i:Ins) (hi:InsOk i) (hop:i.op=11∨i.op=12∨i.op=13∨i.op=14):Tri Tryz.prog 208 #[.pointer (some ⟨X,0,none⟩), .agg ⟨i.v⟩] (rmL X S q w m) (rmQ X S q (m.word i)):=by
  have tail:=fun Bi h wd w0 F=>mword_tail X S Bi q w m hm hp i hi hop h wd w0 F
  obtain ⟨a0,a1,b0,b1,c0,c1⟩:=hi
  have hnb:=rm_reg S (.slice w.pad m.pick.length w.pcap) (.slice w.nad m.news.length w.ncap) m b0 b1
  have hnc:=rm_reg S (.slice w.pad m.pick.length w.pcap) (.slice w.nad m.news.length w.ncap) m c0 c1
  unfold Rm.word
  unfold Ins.v at tail⊢
  unfold rmL at tail⊢
  by_cases hc:i.op=12∨i.op=14
  · rw [if_pos hc]
    refine Tri.of_body (vs:=[_,_]) Tryz.func208 rfl rfl fun w0 F=>?_
    repeat' (first|refine St.halt 4 ?_ |refine Ga ?_|(refine Gb ?_;intro b)|(refine Gd ?_;intro g cap rest hcap)|(refine Gc ?_;intro ad cap)|(refine St.draw (id:=1) [(0,0),(1,0),(2,1),(3,0),(4,0),(5,0),(6,1),(7,0),(8,1),(9,0),(10,0)] [] mixed (by kernel_rfl) ?_)|(refine St.draw (id:=3) [(0,0),(1,0),(2,1),(3,0),(4,0),(5,0),(6,1),(7,0)] [] mixed (by kernel_rfl) ?_)|(refine St.draw (id:=8) [(0,0),(1,0),(2,1),(3,0),(4,0),(5,1),(6,0),(7,0),(8,0),(9,3)] [9] mixed (by kernel_rfl) ?_)|(refine St.draw (id:=13) [(0,0),(1,0),(2,0),(3,1),(4,0),(5,0),(6,0),(7,1),(8,0),(9,3)] [9] mixed (by kernel_rfl) ?_)|(refine St.draw (id:=14) [(0,0),(1,0),(2,0),(3,1),(4,0),(5,0),(6,1),(7,0),(8,1),(9,3)] [9] mixed (by kernel_rfl) ?_)|(refine Ge ?_ ?_<;>(intro h;try (exfalso;omega)))|fail)
    all_goals first|(exfalso;omega)|exact Halt.go (St.conv (tail b (m.reg i.b) (m.reg i.c) w0 F) Sub.go Ent.go)
  · rw [if_neg hc]
    refine Tri.of_body (vs:=[_,_]) Tryz.func208 rfl rfl fun w0 F=>?_
    repeat' (first|refine St.halt 4 ?_ |refine Ga ?_|(refine Gb ?_;intro b)|(refine Gd ?_;intro g cap rest hcap)|(refine Gc ?_;intro ad cap)|(refine St.draw (id:=1) [(0,0),(1,0),(2,1),(3,0),(4,0),(5,0),(6,1),(7,0),(8,1),(9,0),(10,0)] [] mixed (by kernel_rfl) ?_)|(refine St.draw (id:=3) [(0,0),(1,0),(2,1),(3,0),(4,0),(5,0),(6,1),(7,0)] [] mixed (by kernel_rfl) ?_)|(refine St.draw (id:=8) [(0,0),(1,0),(2,1),(3,0),(4,0),(5,1),(6,0),(7,0),(8,0),(9,3)] [9] mixed (by kernel_rfl) ?_)|(refine St.draw (id:=13) [(0,0),(1,0),(2,0),(3,1),(4,0),(5,0),(6,0),(7,1),(8,0),(9,3)] [9] mixed (by kernel_rfl) ?_)|(refine St.draw (id:=14) [(0,0),(1,0),(2,0),(3,1),(4,0),(5,0),(6,1),(7,0),(8,1),(9,3)] [9] mixed (by kernel_rfl) ?_)|(refine Ge ?_ ?_<;>(intro h;try (exfalso;omega)))|fail)
    all_goals first|(exfalso;omega)|exact Halt.go (St.conv (tail b (m.reg i.b) i.imm w0 F) Sub.go Ent.go)
def Rm.free (i:Ins) (m:Rm):Rm×Int:=match mget m.blocks ((m.reg i.a:Nat):Int) with
  | none=>(m,44)
  | some _=>if (m.pay i.op).2≠0 then m.pay i.op else ({ (m.pay i.op).1 with blocks:=mdel (m.pay i.op).1.blocks ((m.reg i.a:Nat):Int) },0)
set_option maxHeartbeats 1000000 in
theorem mfree_t (X S:Nat) (q:HProp) (w:At) (m:Rm) (hm:RmOk m) (hp:PickR q w m) (i:Ins) (hi:InsOk i):Tri Tryz.prog 210 #[.pointer (some ⟨X,0,none⟩), .agg ⟨i.v⟩] (rmL X S q w m) (rmQ X S q (m.free i)):=by
  obtain ⟨a0,a1,b0,b1,c0,c1⟩:=hi
  have hna:=rm_reg S (.slice w.pad m.pick.length w.pcap) (.slice w.nad m.news.length w.ncap) m a0 a1
  have hpay:=mpay_t X S q w m hm i.op
  have hpd:=m.paid i.op
  unfold Rm.free
  unfold Ins.v
  unfold rmL at hpay⊢
  generalize m.reg i.a=h at hna⊢
  cases hg:mget m.blocks (h:Int) with
  | none =>
    have hag:aggL ((mget m.blocks (h:Int)).getD zero8)=.agg ⟨u64s zero8⟩:=by rw [hg];rfl
    dsimp only
    refine Tri.of_body (vs:=[_,_]) Tryz.func210 rfl rfl fun w0 F=>?_
    repeat' (first|refine Ga ?_|(refine Gb ?_;intro b)|(refine Gd ?_;intro g cap rest hcap)|(refine Gc ?_;intro ad cap)|(refine St.draw (id:=1) [(0,0),(1,0),(2,1),(3,0),(4,0),(5,0),(6,1),(7,0)] [] mixed (by kernel_rfl) ?_)|(refine Ge ?_ ?_<;>(intro h;try (exfalso;omega)))|fail)
    rw [hag,hg]
    repeat' (first|refine Ga ?_|(refine Gb ?_;intro b)|(refine Gd ?_;intro g cap rest hcap)|(refine Gc ?_;intro ad cap)|(refine St.draw (id:=1) [(0,0),(1,0),(2,1),(3,0),(4,0),(5,0),(6,1),(7,0)] [] mixed (by kernel_rfl) ?_)|(refine Ge ?_ ?_<;>(intro h;try (exfalso;omega)))|fail)
    refine St.d1 Tryz.func210 ⟨_,⟨w,rfl,hp,rfl⟩, ?_⟩
    exact Ent.go
  | some bk =>
    have hl8:bk.length=8:=hm.b _ (mget_mem hg)
    have hul:(u64s bk).length=8:=by rw [u64s_len,hl8]
    have hone:=u64s_one bk
    have hspl:=u64s_over hl8
    have hag:aggL ((mget m.blocks (h:Int)).getD zero8)=.agg ⟨u64s bk⟩:=by rw [hg];rfl
    dsimp only
    generalize m.pay i.op=r at hpay hpd⊢
    obtain ⟨m1,e⟩:=r
    dsimp only at hpay hpd⊢
    have hp1:=hp.paid hpd.pick
    by_cases he:e=0
    · rw [if_neg (fun h=>h he)]
      subst he
      refine Tri.of_body (vs:=[_,_]) Tryz.func210 rfl rfl fun w0 F=>?_
      repeat' (first|refine Ga ?_|(refine Gb ?_;intro b)|(refine Gd ?_;intro g cap rest hcap)|(refine Gc ?_;intro ad cap)|(refine St.draw (id:=1) [(0,0),(1,0),(2,1),(3,0),(4,0),(5,0),(6,1),(7,0)] [] mixed (by kernel_rfl) ?_)|(refine Ge ?_ ?_<;>(intro h;try (exfalso;omega)))|fail)
      rw [hag,hg]
      repeat' (first|refine Ga ?_|(refine Gb ?_;intro b)|(refine Gd ?_;intro g cap rest hcap)|(refine Gc ?_;intro ad cap)|(refine St.draw (id:=1) [(0,0),(1,0),(2,1),(3,0),(4,0),(5,0),(6,1),(7,0)] [] mixed (by kernel_rfl) ?_)|(refine Gt hpay ?_;rintro _ _ ⟨rfl,rfl⟩)|(refine Ge ?_ ?_<;>(intro h;try (exfalso;omega)))|fail)
      refine St.d1 Tryz.func210 ⟨_,⟨w,rfl,hp1,rfl⟩, ?_⟩
      exact Ent.go
    · rw [if_pos he]
      refine Tri.of_body (vs:=[_,_]) Tryz.func210 rfl rfl fun w0 F=>?_
      repeat' (first|refine Ga ?_|(refine Gb ?_;intro b)|(refine Gd ?_;intro g cap rest hcap)|(refine Gc ?_;intro ad cap)|(refine St.draw (id:=1) [(0,0),(1,0),(2,1),(3,0),(4,0),(5,0),(6,1),(7,0)] [] mixed (by kernel_rfl) ?_)|(refine Ge ?_ ?_<;>(intro h;try (exfalso;omega)))|fail)
      rw [hag,hg]
      repeat' (first|refine Ga ?_|(refine Gb ?_;intro b)|(refine Gd ?_;intro g cap rest hcap)|(refine Gc ?_;intro ad cap)|(refine St.draw (id:=1) [(0,0),(1,0),(2,1),(3,0),(4,0),(5,0),(6,1),(7,0)] [] mixed (by kernel_rfl) ?_)|(refine Gt hpay ?_;rintro _ _ ⟨rfl,rfl⟩)|(refine Ge ?_ ?_<;>(intro h;try (exfalso;omega)))|fail)
      refine St.d1 Tryz.func210 ⟨_,⟨w,rfl,hp1,rfl⟩, ?_⟩
      exact Ent.go
def Rm.fresh (i:Ins) (m:Rm):Rm×Int :=
  if (m.pay i.op).2≠0 then m.pay i.op else match (m.pay i.op).1.pick with
  | []=>((m.pay i.op).1,43)
  | h::rest=>if (mget (m.pay i.op).1.blocks (h:Int)).isSome then ((m.pay i.op).1,43) else if h=0∨64<h then ((m.pay i.op).1,43) else
    ({ (m.pay i.op).1 with pick:=rest,blocks:=mput (m.pay i.op).1.blocks (h:Int) zero8,news:=(m.pay i.op).1.news++[h],regs:=(m.pay i.op).1.regs.set i.a.toNat h },0)
set_option maxHeartbeats 2000000 in
theorem mfresh_t (X S:Nat) (q:HProp) (w:At) (m:Rm) (hm:RmOk m) (hp:PickR q w m) (i:Ins) (hi:InsOk i):Tri Tryz.prog 209 #[.pointer (some ⟨X,0,none⟩), .agg ⟨i.v⟩] (rmL X S q w m) (rmQ X S q (m.fresh i)):=by
  obtain ⟨a0,a1,b0,b1,c0,c1⟩:=hi
  have hpay:=mpay_t X S q w m hm i.op
  have hpd:=m.paid i.op
  unfold Rm.fresh
  unfold Ins.v
  unfold rmL at hpay⊢
  have hm1:=hpd.ok hm
  have hp1:=hp.paid hpd.pick
  generalize m.pay i.op=r at hpay hpd hm1 hp1⊢
  obtain ⟨m1,e⟩:=r
  dsimp only at hpay hpd hm1 hp1⊢
  by_cases he:e=0
  · rw [if_neg (fun h=>h he)]
    subst he
    cases hpk:m1.pick with
    | nil =>
      rw [hpk] at hpay
      dsimp only
      refine Tri.of_body (vs:=[_,_]) Tryz.func209 rfl rfl fun w0 F=>?_
      repeat' (first|refine Ga ?_|(refine Gb ?_;intro b)|(refine Gd ?_;intro g cap rest hcap)|(refine Gc ?_;intro ad cap)|(refine St.draw (id:=13) [(0,0),(1,0),(2,1),(3,0),(4,0),(5,0),(6,0),(7,3)] [7] mixed (by kernel_rfl) ?_)|(refine Gt hpay ?_;rintro _ _ ⟨rfl,rfl⟩)|(refine Ge ?_ ?_<;>(intro h;try (exfalso;omega)))|fail)
      refine St.d1 Tryz.func209 ⟨_,⟨w,rfl,hp1,by unfold rmL;rw [hpk]⟩, ?_⟩
      exact Ent.go
    | cons hh rest =>
      obtain ⟨mb,pad,pcap,nad,ncap⟩:=w
      unfold PickR at hp1
      dsimp only at hp1 hpay⊢
      rw [hpk] at hp1 hpay
      obtain ⟨bf,o,l,l1,rfl,hrd,hdr,htk⟩:=hp1.at' (f:=u64V) (sz:=1) (fun _=>rfl) 0 (by simp)
      have hn0:NthN (o+(0:Int).toNat * 1) l (.int .u64 (hh:Int)):=NthN.part hdr htk (j:=0) (NthN.of rfl)
      have htl:=hp1.tail (sz:=1) rfl
      have hln:(hh::rest).length=rest.length+1:=rfl
      have hul:∃ bk,(mget m1.blocks (hh:Int)).getD zero8=bk∧bk.length=8:=⟨_,rfl,by
        cases hq:mget m1.blocks (hh:Int) with
        | none=>rfl
        | some l=>exact hm1.b _ (mget_mem hq)⟩
      obtain ⟨bk,hbk,hl8⟩:=hul
      have hul:(u64s bk).length=8:=by rw [u64s_len,hl8]
      have hone:=u64s_one bk
      have hspl:=u64s_over hl8
      have hag:aggL ((mget m1.blocks (hh:Int)).getD zero8)=.agg ⟨u64s bk⟩:=by rw [hbk];rfl
      cases hg:(mget m1.blocks (hh:Int)).isSome with
      | true =>
        rw [if_pos rfl]
        refine Tri.of_body (vs:=[_,_]) Tryz.func209 rfl rfl fun w0 F=>?_
        repeat' (first|refine Ga ?_|(refine Gb ?_;intro b)|(refine Gd ?_;intro g cap rest hcap)|(refine Gc ?_;intro ad cap)|(refine St.draw (id:=13) [(0,0),(1,0),(2,1),(3,0),(4,0),(5,0),(6,0),(7,3)] [7] mixed (by kernel_rfl) ?_)|(refine Gt hpay ?_;rintro _ _ ⟨rfl,rfl⟩)|(refine Ge ?_ ?_<;>(intro h;try (exfalso;omega)))|fail)
        rw [hag,hg]
        repeat' (first|refine Ga ?_|(refine Gb ?_;intro b)|(refine Gd ?_;intro g cap rest hcap)|(refine Gc ?_;intro ad cap)|(refine St.draw (id:=13) [(0,0),(1,0),(2,1),(3,0),(4,0),(5,0),(6,0),(7,3)] [7] mixed (by kernel_rfl) ?_)|(refine Ge ?_ ?_<;>(intro h;try (exfalso;omega)))|fail)
        refine St.d1 Tryz.func209 ⟨_,⟨⟨mb,some ⟨bf,o,none⟩,pcap,nad,ncap⟩,rfl,by unfold PickR;dsimp only;rw [hpk];exact hp1,by unfold rmL;rw [hpk]⟩, ?_⟩
        exact Ent.go
      | false =>
        rw [if_neg (by decide)]
        by_cases h0:hh=0∨64<hh
        · rw [if_pos h0]
          refine Tri.of_body (vs:=[_,_]) Tryz.func209 rfl rfl fun w0 F=>?_
          repeat' (first|refine Ga ?_|(refine Gb ?_;intro b)|(refine Gd ?_;intro g cap rest hcap)|(refine Gc ?_;intro ad cap)|(refine St.draw (id:=13) [(0,0),(1,0),(2,1),(3,0),(4,0),(5,0),(6,0),(7,3)] [7] mixed (by kernel_rfl) ?_)|(refine Gt hpay ?_;rintro _ _ ⟨rfl,rfl⟩)|(refine Ge ?_ ?_<;>(intro h;try (exfalso;omega)))|fail)
          rw [hag,hg]
          repeat' (first|refine Ga ?_|(refine Gb ?_;intro b)|(refine Gd ?_;intro g cap rest hcap)|(refine Gc ?_;intro ad cap)|(refine St.draw (id:=13) [(0,0),(1,0),(2,1),(3,0),(4,0),(5,0),(6,0),(7,3)] [7] mixed (by kernel_rfl) ?_)|(refine Ge ?_ ?_<;>(intro h;try (exfalso;omega)))|fail)
          all_goals refine St.d1 Tryz.func209 ⟨_,⟨⟨mb,some ⟨bf,o,none⟩,pcap,nad,ncap⟩,rfl,by unfold PickR;dsimp only;rw [hpk];exact hp1,by unfold rmL;rw [hpk]⟩, ?_⟩
          all_goals exact Ent.go
        · rw [if_neg h0]
          have hnl:=hm1.n
          refine Tri.of_body (vs:=[_,_]) Tryz.func209 rfl rfl fun w0 F=>?_
          repeat' (first|refine Ga ?_|(refine Gb ?_;intro b)|(refine Gd ?_;intro g cap rest hcap)|(refine Gc ?_;intro ad cap)|(refine St.draw (id:=13) [(0,0),(1,0),(2,1),(3,0),(4,0),(5,0),(6,0),(7,3)] [7] mixed (by kernel_rfl) ?_)|(refine Gt hpay ?_;rintro _ _ ⟨rfl,rfl⟩)|(refine Ge ?_ ?_<;>(intro h;try (exfalso;omega)))|fail)
          rw [hag,hg]
          unfold rmV
          repeat' (first|refine Ga ?_|(refine Gb ?_;intro b)|(refine Gd ?_;intro g cap rest hcap)|(refine Gc ?_;intro ad cap)|(refine St.draw (id:=13) [(0,0),(1,0),(2,1),(3,0),(4,0),(5,0),(6,0),(7,3)] [7] mixed (by kernel_rfl) ?_)|(refine Ge ?_ ?_<;>(intro h;try (exfalso;omega)))|fail)
          (apply StL.ok;(apply OpOk.mapUpdate (u:=zero8) rfl rfl rfl Take.go);rfl;rintro _ _ ⟨rfl,rfl⟩)
          repeat' (first|refine St.halt 13 ?_ |refine Ga ?_|(refine Gb ?_;intro b)|(refine Gd ?_;intro g cap rest hcap)|(refine Gc ?_;intro ad cap)|(refine St.draw (id:=13) [(0,0),(1,0),(2,1),(3,0),(4,0),(5,0),(6,0),(7,3)] [7] mixed (by kernel_rfl) ?_)|(refine Ge ?_ ?_<;>(intro h;try (exfalso;omega)))|fail)
          apply Halt.go
          have hset:=rm_set S (.slice (tlA (some ⟨bf,o,none⟩) pcap 1) ((hh::rest).length - 1) (pcap - 1)) (.slice ad (m1.news.length+1) cap) { m1 with pick:=rest,blocks:=mput m1.blocks (hh:Int) zero8,news:=m1.news++[hh] } hm1.r a0 a1 hh
          repeat' (first|refine Ga ?_|(refine Gb ?_;intro b)|(refine Gd ?_;intro g cap rest hcap)|(refine Gc ?_;intro ad cap)|(refine St.draw (id:=13) [(0,0),(1,0),(2,1),(3,0),(4,0),(5,0),(6,0),(7,3)] [7] mixed (by kernel_rfl) ?_)|(refine Ge ?_ ?_<;>(intro h;try (exfalso;omega)))|fail)
          refine St.d1 Tryz.func209 ⟨_,⟨⟨mb,tlA (some ⟨bf,o,none⟩) pcap 1,pcap - 1,ad,cap⟩,rfl,htl,rfl⟩, ?_⟩
          unfold rmL
          dsimp only
          rw [List.length_append,show u64s (m1.news++[hh])=u64s m1.news++[.int .u64 (hh:Int)] by simp [u64s]]
          exact Ent.go
  · rw [if_pos he]
    refine Tri.of_body (vs:=[_,_]) Tryz.func209 rfl rfl fun w0 F=>?_
    repeat' (first|refine Ga ?_|(refine Gb ?_;intro b)|(refine Gd ?_;intro g cap rest hcap)|(refine Gc ?_;intro ad cap)|(refine St.draw (id:=13) [(0,0),(1,0),(2,1),(3,0),(4,0),(5,0),(6,0),(7,3)] [7] mixed (by kernel_rfl) ?_)|(refine Gt hpay ?_;rintro _ _ ⟨rfl,rfl⟩)|(refine Ge ?_ ?_<;>(intro h;try (exfalso;omega)))|fail)
    refine St.d1 Tryz.func209 ⟨_,⟨w,rfl,hp1,rfl⟩, ?_⟩
    exact Ent.go
end Go.Proofs.YthmbgodcpgkkeaaGreat
