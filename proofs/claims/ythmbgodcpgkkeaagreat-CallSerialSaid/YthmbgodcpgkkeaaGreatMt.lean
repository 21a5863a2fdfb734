/-
  Package model: step. Package model: Run.
-/
import Derived.Test.YthmbgodcpgkkeaaGreatMr
section
namespace Go.Proofs.YthmbgodcpgkkeaaGreat
set_option maxRecDepth 100000
def Rm.tick (m:Rm):Rm:={ m with pc:=m.pc+1 }
def Rm.step (i:Ins) (m0:Rm):Rm×Int :=
  if i.op=17 then ({ m0.tick with pc:=i.imm },0) else
  if i.op=18 then (if m0.reg i.a=0 then ({ m0.tick with pc:=i.imm },0) else (m0.tick,0)) else
  if i.op=19 then (if m0.reg i.a=0 then (m0.tick,0) else ({ m0.tick with pc:=i.imm },0)) else
  if i.op=20 then ({ m0.tick with val:=m0.reg i.a,ended:=true },0) else
  if i.op=21 then ({ m0.tick with val:=i.imm },40) else
  if i.op=9∨i.op=10 then m0.tick.root i else
  if 11≤i.op∧i.op≤14 then m0.tick.word i else
  if i.op=15 then m0.tick.fresh i else
  if i.op=16 then m0.tick.free i else
  (m0.tick.setR i.a (reckon i m0.regs m0.args),0)
structure StepOk (i:Ins) (m:Rm):Prop where
  io:InsOk i
  mo:RmOk m
  p0:0≤m.pc
  p1:m.pc≤1000000
  j:i.op=17∨i.op=18∨i.op=19→i.imm≤1000000
  k:i.imm<9223372036854775808∨i.op≠8
theorem RmOk.tick {m:Rm} (h:RmOk m):RmOk m.tick:=⟨h.a,h.r,h.o,h.b,h.w0,h.w1,h.d0,h.d1,h.n⟩
set_option maxHeartbeats 2000000 in
theorem mstep_t (X S:Nat) (q:HProp) (w:At) (m:Rm) (i:Ins) (hk:StepOk i m) (hp:PickR q w m):Tri Tryz.prog 145 #[.pointer (some ⟨X,0,none⟩), .agg ⟨i.v⟩] (rmL X S q w m) (rmQ X S q (m.step i)):=by
  have hm:=hk.mo
  have hmt:=hm.tick
  have hp':PickR q w m.tick:=hp
  have hp0:=hk.p0
  have hp1:=hk.p1
  have hj:=hk.j
  have hi:=hk.io
  have ha0:=hi.a0
  have ha1:=hi.a1
  have hna:=rm_reg S (.slice w.pad m.pick.length w.pcap) (.slice w.nad m.news.length w.ncap) m.tick hi.a0 hi.a1
  rw [show m.tick.reg i.a=m.reg i.a from rfl] at hna
  unfold Rm.step
  have hroot:=mrunroot_t X S q w m.tick hmt hp' i hi
  have hfresh:=mfresh_t X S q w m.tick hmt hp' i hi
  have hfree:=mfree_t X S q w m.tick hmt hp' i hi
  have hword:=fun h=>mword_t X S q w m.tick hmt hp' i hi h
  unfold Ins.v at hroot hfresh hfree hword⊢
  unfold rmL at hroot hfresh hfree hword⊢
  by_cases h17:i.op=17
  · rw [if_pos h17]
    have:=hj (.inl h17)
    refine Tri.of_body (vs:=[_,_]) Tryz.func145 rfl rfl fun w0 F=>?_
    repeat' (first|refine Ga ?_|(refine Gb ?_;intro b)|(refine Gd ?_;intro g cap rest hcap)|(refine Gc ?_;intro ad cap)|(refine St.draw (id:=7) [(0,0),(1,0),(2,1),(3,0),(4,0),(5,0),(6,1),(7,0)] [] mixed (by kernel_rfl) ?_)|(refine St.draw (id:=10) [(0,0),(1,0),(2,1),(3,0),(4,0),(5,0),(6,1),(7,0)] [] mixed (by kernel_rfl) ?_)|(refine St.draw (id:=13) [(0,0),(1,0),(2,0),(3,0),(4,1),(5,0),(6,0),(7,0),(8,1),(9,0),(10,0),(11,0),(12,0),(13,3),(14,0),(15,0),(16,3)] [13,16] mixed (by kernel_rfl) ?_)|(refine St.draw (id:=3) [(0,0),(1,0),(2,1),(3,1),(4,0),(5,0),(6,0),(7,1),(8,0),(9,0),(10,0),(11,1),(12,1),(13,0),(14,0),(15,0),(16,3)] [16] mixed (by kernel_rfl) ?_)|(refine Ge ?_ ?_<;>(intro h;try (exfalso;omega)))|fail)
    refine St.d1 Tryz.func145 ⟨_,⟨w,rfl,hp,rfl⟩, ?_⟩
    exact Ent.go
  rw [if_neg h17]
  by_cases h18:i.op=18
  · rw [if_pos h18]
    have:=hj (.inr (.inl h18))
    by_cases hz:m.reg i.a=0
    · rw [if_pos hz]
      refine Tri.of_body (vs:=[_,_]) Tryz.func145 rfl rfl fun w0 F=>?_
      repeat' (first|refine Ga ?_|(refine Gb ?_;intro b)|(refine Gd ?_;intro g cap rest hcap)|(refine Gc ?_;intro ad cap)|(refine St.draw (id:=7) [(0,0),(1,0),(2,1),(3,0),(4,0),(5,0),(6,1),(7,0)] [] mixed (by kernel_rfl) ?_)|(refine St.draw (id:=10) [(0,0),(1,0),(2,1),(3,0),(4,0),(5,0),(6,1),(7,0)] [] mixed (by kernel_rfl) ?_)|(refine St.draw (id:=13) [(0,0),(1,0),(2,0),(3,0),(4,1),(5,0),(6,0),(7,0),(8,1),(9,0),(10,0),(11,0),(12,0),(13,3),(14,0),(15,0),(16,3)] [13,16] mixed (by kernel_rfl) ?_)|(refine St.draw (id:=3) [(0,0),(1,0),(2,1),(3,1),(4,0),(5,0),(6,0),(7,1),(8,0),(9,0),(10,0),(11,1),(12,1),(13,0),(14,0),(15,0),(16,3)] [16] mixed (by kernel_rfl) ?_)|(refine Ge ?_ ?_<;>(intro h;try (exfalso;omega)))|fail)
      refine St.d1 Tryz.func145 ⟨_,⟨w,rfl,hp,rfl⟩, ?_⟩
      exact Ent.go
    · rw [if_neg hz]
      refine Tri.of_body (vs:=[_,_]) Tryz.func145 rfl rfl fun w0 F=>?_
      repeat' (first|refine Ga ?_|(refine Gb ?_;intro b)|(refine Gd ?_;intro g cap rest hcap)|(refine Gc ?_;intro ad cap)|(refine St.draw (id:=7) [(0,0),(1,0),(2,1),(3,0),(4,0),(5,0),(6,1),(7,0)] [] mixed (by kernel_rfl) ?_)|(refine St.draw (id:=10) [(0,0),(1,0),(2,1),(3,0),(4,0),(5,0),(6,1),(7,0)] [] mixed (by kernel_rfl) ?_)|(refine St.draw (id:=13) [(0,0),(1,0),(2,0),(3,0),(4,1),(5,0),(6,0),(7,0),(8,1),(9,0),(10,0),(11,0),(12,0),(13,3),(14,0),(15,0),(16,3)] [13,16] mixed (by kernel_rfl) ?_)|(refine St.draw (id:=3) [(0,0),(1,0),(2,1),(3,1),(4,0),(5,0),(6,0),(7,1),(8,0),(9,0),(10,0),(11,1),(12,1),(13,0),(14,0),(15,0),(16,3)] [16] mixed (by kernel_rfl) ?_)|(refine Ge ?_ ?_<;>(intro h;try (exfalso;omega)))|fail)
      refine St.d1 Tryz.func145 ⟨_,⟨w,rfl,hp,rfl⟩, ?_⟩
      exact Ent.go
  rw [if_neg h18]
  by_cases h19:i.op=19
  · rw [if_pos h19]
    have:=hj (.inr (.inr h19))
    by_cases hz:m.reg i.a=0
    · rw [if_pos hz]
      refine Tri.of_body (vs:=[_,_]) Tryz.func145 rfl rfl fun w0 F=>?_
      repeat' (first|refine Ga ?_|(refine Gb ?_;intro b)|(refine Gd ?_;intro g cap rest hcap)|(refine Gc ?_;intro ad cap)|(refine St.draw (id:=7) [(0,0),(1,0),(2,1),(3,0),(4,0),(5,0),(6,1),(7,0)] [] mixed (by kernel_rfl) ?_)|(refine St.draw (id:=10) [(0,0),(1,0),(2,1),(3,0),(4,0),(5,0),(6,1),(7,0)] [] mixed (by kernel_rfl) ?_)|(refine St.draw (id:=13) [(0,0),(1,0),(2,0),(3,0),(4,1),(5,0),(6,0),(7,0),(8,1),(9,0),(10,0),(11,0),(12,0),(13,3),(14,0),(15,0),(16,3)] [13,16] mixed (by kernel_rfl) ?_)|(refine St.draw (id:=3) [(0,0),(1,0),(2,1),(3,1),(4,0),(5,0),(6,0),(7,1),(8,0),(9,0),(10,0),(11,1),(12,1),(13,0),(14,0),(15,0),(16,3)] [16] mixed (by kernel_rfl) ?_)|(refine Ge ?_ ?_<;>(intro h;try (exfalso;omega)))|fail)
      refine St.d1 Tryz.func145 ⟨_,⟨w,rfl,hp,rfl⟩, ?_⟩
      exact Ent.go
    · rw [if_neg hz]
      refine Tri.of_body (vs:=[_,_]) Tryz.func145 rfl rfl fun w0 F=>?_
      repeat' (first|refine Ga ?_|(refine Gb ?_;intro b)|(refine Gd ?_;intro g cap rest hcap)|(refine Gc ?_;intro ad cap)|(refine St.draw (id:=7) [(0,0),(1,0),(2,1),(3,0),(4,0),(5,0),(6,1),(7,0)] [] mixed (by kernel_rfl) ?_)|(refine St.draw (id:=10) [(0,0),(1,0),(2,1),(3,0),(4,0),(5,0),(6,1),(7,0)] [] mixed (by kernel_rfl) ?_)|(refine St.draw (id:=13) [(0,0),(1,0),(2,0),(3,0),(4,1),(5,0),(6,0),(7,0),(8,1),(9,0),(10,0),(11,0),(12,0),(13,3),(14,0),(15,0),(16,3)] [13,16] mixed (by kernel_rfl) ?_)|(refine St.draw (id:=3) [(0,0),(1,0),(2,1),(3,1),(4,0),(5,0),(6,0),(7,1),(8,0),(9,0),(10,0),(11,1),(12,1),(13,0),(14,0),(15,0),(16,3)] [16] mixed (by kernel_rfl) ?_)|(refine Ge ?_ ?_<;>(intro h;try (exfalso;omega)))|fail)
      refine St.d1 Tryz.func145 ⟨_,⟨w,rfl,hp,rfl⟩, ?_⟩
      exact Ent.go
  rw [if_neg h19]
  by_cases h20:i.op=20
  · rw [if_pos h20]
    refine Tri.of_body (vs:=[_,_]) Tryz.func145 rfl rfl fun w0 F=>?_
    repeat' (first|refine Ga ?_|(refine Gb ?_;intro b)|(refine Gd ?_;intro g cap rest hcap)|(refine Gc ?_;intro ad cap)|(refine St.draw (id:=7) [(0,0),(1,0),(2,1),(3,0),(4,0),(5,0),(6,1),(7,0)] [] mixed (by kernel_rfl) ?_)|(refine St.draw (id:=10) [(0,0),(1,0),(2,1),(3,0),(4,0),(5,0),(6,1),(7,0)] [] mixed (by kernel_rfl) ?_)|(refine St.draw (id:=13) [(0,0),(1,0),(2,0),(3,0),(4,1),(5,0),(6,0),(7,0),(8,1),(9,0),(10,0),(11,0),(12,0),(13,3),(14,0),(15,0),(16,3)] [13,16] mixed (by kernel_rfl) ?_)|(refine St.draw (id:=3) [(0,0),(1,0),(2,1),(3,1),(4,0),(5,0),(6,0),(7,1),(8,0),(9,0),(10,0),(11,1),(12,1),(13,0),(14,0),(15,0),(16,3)] [16] mixed (by kernel_rfl) ?_)|(refine Ge ?_ ?_<;>(intro h;try (exfalso;omega)))|fail)
    refine St.d1 Tryz.func145 ⟨_,⟨w,rfl,hp,rfl⟩, ?_⟩
    exact Ent.go
  rw [if_neg h20]
  by_cases h21:i.op=21
  · rw [if_pos h21]
    refine Tri.of_body (vs:=[_,_]) Tryz.func145 rfl rfl fun w0 F=>?_
    repeat' (first|refine Ga ?_|(refine Gb ?_;intro b)|(refine Gd ?_;intro g cap rest hcap)|(refine Gc ?_;intro ad cap)|(refine St.draw (id:=7) [(0,0),(1,0),(2,1),(3,0),(4,0),(5,0),(6,1),(7,0)] [] mixed (by kernel_rfl) ?_)|(refine St.draw (id:=10) [(0,0),(1,0),(2,1),(3,0),(4,0),(5,0),(6,1),(7,0)] [] mixed (by kernel_rfl) ?_)|(refine St.draw (id:=13) [(0,0),(1,0),(2,0),(3,0),(4,1),(5,0),(6,0),(7,0),(8,1),(9,0),(10,0),(11,0),(12,0),(13,3),(14,0),(15,0),(16,3)] [13,16] mixed (by kernel_rfl) ?_)|(refine St.draw (id:=3) [(0,0),(1,0),(2,1),(3,1),(4,0),(5,0),(6,0),(7,1),(8,0),(9,0),(10,0),(11,1),(12,1),(13,0),(14,0),(15,0),(16,3)] [16] mixed (by kernel_rfl) ?_)|(refine Ge ?_ ?_<;>(intro h;try (exfalso;omega)))|fail)
    refine St.d1 Tryz.func145 ⟨_,⟨w,rfl,hp,rfl⟩, ?_⟩
    exact Ent.go
  rw [if_neg h21]
  by_cases h9:i.op=9∨i.op=10
  · rw [if_pos h9]
    generalize m.tick.root i=r at hroot⊢
    unfold rmQ at hroot
    refine Tri.of_body (vs:=[_,_]) Tryz.func145 rfl rfl fun w0 F=>?_
    repeat' (first|refine Ga ?_|(refine Gb ?_;intro b)|(refine Gd ?_;intro g cap rest hcap)|(refine Gc ?_;intro ad cap)|(refine St.draw (id:=7) [(0,0),(1,0),(2,1),(3,0),(4,0),(5,0),(6,1),(7,0)] [] mixed (by kernel_rfl) ?_)|(refine St.draw (id:=10) [(0,0),(1,0),(2,1),(3,0),(4,0),(5,0),(6,1),(7,0)] [] mixed (by kernel_rfl) ?_)|(refine St.draw (id:=13) [(0,0),(1,0),(2,0),(3,0),(4,1),(5,0),(6,0),(7,0),(8,1),(9,0),(10,0),(11,0),(12,0),(13,3),(14,0),(15,0),(16,3)] [13,16] mixed (by kernel_rfl) ?_)|(refine St.draw (id:=3) [(0,0),(1,0),(2,1),(3,1),(4,0),(5,0),(6,0),(7,1),(8,0),(9,0),(10,0),(11,1),(12,1),(13,0),(14,0),(15,0),(16,3)] [16] mixed (by kernel_rfl) ?_)|(refine Gt hroot ?_;rintro _ _ ⟨w',rfl,hpk,rfl⟩)|(refine Ge ?_ ?_<;>(intro h;try (exfalso;omega)))|fail)
    all_goals first|(exfalso;omega)|skip
    all_goals refine St.d1 Tryz.func145 ⟨_,⟨w',rfl,hpk,rfl⟩, ?_⟩
    all_goals exact Ent.go
  rw [if_neg h9]
  by_cases h11:11≤i.op∧i.op≤14
  · rw [if_pos h11]
    have hword:=hword (by omega)
    generalize m.tick.word i=r at hword⊢
    unfold rmQ at hword
    refine Tri.of_body (vs:=[_,_]) Tryz.func145 rfl rfl fun w0 F=>?_
    repeat' (first|refine Ga ?_|(refine Gb ?_;intro b)|(refine Gd ?_;intro g cap rest hcap)|(refine Gc ?_;intro ad cap)|(refine St.draw (id:=7) [(0,0),(1,0),(2,1),(3,0),(4,0),(5,0),(6,1),(7,0)] [] mixed (by kernel_rfl) ?_)|(refine St.draw (id:=10) [(0,0),(1,0),(2,1),(3,0),(4,0),(5,0),(6,1),(7,0)] [] mixed (by kernel_rfl) ?_)|(refine St.draw (id:=13) [(0,0),(1,0),(2,0),(3,0),(4,1),(5,0),(6,0),(7,0),(8,1),(9,0),(10,0),(11,0),(12,0),(13,3),(14,0),(15,0),(16,3)] [13,16] mixed (by kernel_rfl) ?_)|(refine St.draw (id:=3) [(0,0),(1,0),(2,1),(3,1),(4,0),(5,0),(6,0),(7,1),(8,0),(9,0),(10,0),(11,1),(12,1),(13,0),(14,0),(15,0),(16,3)] [16] mixed (by kernel_rfl) ?_)|(refine Gt hword ?_;rintro _ _ ⟨w',rfl,hpk,rfl⟩)|(refine Ge ?_ ?_<;>(intro h;try (exfalso;omega)))|fail)
    all_goals first|(exfalso;omega)|skip
    all_goals refine St.d1 Tryz.func145 ⟨_,⟨w',rfl,hpk,rfl⟩, ?_⟩
    all_goals exact Ent.go
  rw [if_neg h11]
  by_cases h15:i.op=15
  · rw [if_pos h15]
    generalize m.tick.fresh i=r at hfresh⊢
    unfold rmQ at hfresh
    refine Tri.of_body (vs:=[_,_]) Tryz.func145 rfl rfl fun w0 F=>?_
    repeat' (first|refine Ga ?_|(refine Gb ?_;intro b)|(refine Gd ?_;intro g cap rest hcap)|(refine Gc ?_;intro ad cap)|(refine St.draw (id:=7) [(0,0),(1,0),(2,1),(3,0),(4,0),(5,0),(6,1),(7,0)] [] mixed (by kernel_rfl) ?_)|(refine St.draw (id:=10) [(0,0),(1,0),(2,1),(3,0),(4,0),(5,0),(6,1),(7,0)] [] mixed (by kernel_rfl) ?_)|(refine St.draw (id:=13) [(0,0),(1,0),(2,0),(3,0),(4,1),(5,0),(6,0),(7,0),(8,1),(9,0),(10,0),(11,0),(12,0),(13,3),(14,0),(15,0),(16,3)] [13,16] mixed (by kernel_rfl) ?_)|(refine St.draw (id:=3) [(0,0),(1,0),(2,1),(3,1),(4,0),(5,0),(6,0),(7,1),(8,0),(9,0),(10,0),(11,1),(12,1),(13,0),(14,0),(15,0),(16,3)] [16] mixed (by kernel_rfl) ?_)|(refine Gt hfresh ?_;rintro _ _ ⟨w',rfl,hpk,rfl⟩)|(refine Ge ?_ ?_<;>(intro h;try (exfalso;omega)))|fail)
    all_goals first|(exfalso;omega)|skip
    all_goals refine St.d1 Tryz.func145 ⟨_,⟨w',rfl,hpk,rfl⟩, ?_⟩
    all_goals exact Ent.go
  rw [if_neg h15]
  by_cases h16:i.op=16
  · rw [if_pos h16]
    generalize m.tick.free i=r at hfree⊢
    unfold rmQ at hfree
    refine Tri.of_body (vs:=[_,_]) Tryz.func145 rfl rfl fun w0 F=>?_
    repeat' (first|refine Ga ?_|(refine Gb ?_;intro b)|(refine Gd ?_;intro g cap rest hcap)|(refine Gc ?_;intro ad cap)|(refine St.draw (id:=7) [(0,0),(1,0),(2,1),(3,0),(4,0),(5,0),(6,1),(7,0)] [] mixed (by kernel_rfl) ?_)|(refine St.draw (id:=10) [(0,0),(1,0),(2,1),(3,0),(4,0),(5,0),(6,1),(7,0)] [] mixed (by kernel_rfl) ?_)|(refine St.draw (id:=13) [(0,0),(1,0),(2,0),(3,0),(4,1),(5,0),(6,0),(7,0),(8,1),(9,0),(10,0),(11,0),(12,0),(13,3),(14,0),(15,0),(16,3)] [13,16] mixed (by kernel_rfl) ?_)|(refine St.draw (id:=3) [(0,0),(1,0),(2,1),(3,1),(4,0),(5,0),(6,0),(7,1),(8,0),(9,0),(10,0),(11,1),(12,1),(13,0),(14,0),(15,0),(16,3)] [16] mixed (by kernel_rfl) ?_)|(refine Gt hfree ?_;rintro _ _ ⟨w',rfl,hpk,rfl⟩)|(refine Ge ?_ ?_<;>(intro h;try (exfalso;omega)))|fail)
    all_goals first|(exfalso;omega)|skip
    all_goals refine St.d1 Tryz.func145 ⟨_,⟨w',rfl,hpk,rfl⟩, ?_⟩
    all_goals exact Ent.go
  rw [if_neg h16]
  have hrk:=reckon_r i m.regs m.args ⟨hi.b0,hi.b1,hi.c0,hi.c1,hm.r,hm.a,hk.k⟩
  rw [←g16_eq hm.r,←g4_eq hm.a] at hrk
  unfold Ins.v at hrk
  have hset:=rm_set S (.slice w.pad m.pick.length w.pcap) (.slice w.nad m.news.length w.ncap) m.tick hm.r hi.a0 hi.a1 (reckon i m.regs m.args)
  refine Tri.of_body (vs:=[_,_]) Tryz.func145 rfl rfl fun w0 F=>?_
  repeat' (first|refine Ga ?_|(refine Gb ?_;intro b)|(refine Gd ?_;intro g cap rest hcap)|(refine Gc ?_;intro ad cap)|(refine St.draw (id:=7) [(0,0),(1,0),(2,1),(3,0),(4,0),(5,0),(6,1),(7,0)] [] mixed (by kernel_rfl) ?_)|(refine St.draw (id:=10) [(0,0),(1,0),(2,1),(3,0),(4,0),(5,0),(6,1),(7,0)] [] mixed (by kernel_rfl) ?_)|(refine St.draw (id:=13) [(0,0),(1,0),(2,0),(3,0),(4,1),(5,0),(6,0),(7,0),(8,1),(9,0),(10,0),(11,0),(12,0),(13,3),(14,0),(15,0),(16,3)] [13,16] mixed (by kernel_rfl) ?_)|(refine St.draw (id:=3) [(0,0),(1,0),(2,1),(3,1),(4,0),(5,0),(6,0),(7,1),(8,0),(9,0),(10,0),(11,1),(12,1),(13,0),(14,0),(15,0),(16,3)] [16] mixed (by kernel_rfl) ?_)| refine Gl hrk ?_|(refine Ge ?_ ?_<;>(intro h;try (exfalso;omega)))|fail)
  all_goals first|(exfalso;omega)|skip
  all_goals refine St.d1 Tryz.func145 ⟨_,⟨w,rfl,hp,rfl⟩, ?_⟩
  all_goals exact Ent.go
end Go.Proofs.YthmbgodcpgkkeaaGreat
end
section
namespace Go.Proofs.YthmbgodcpgkkeaaGreat
set_option maxRecDepth 100000
theorem mdel_all {κ β:Type} [DecidableEq κ] {q:β→Prop} (k:κ):∀ (m:List (κ×β)),(∀ p∈m,q p.2)→∀ p∈mdel m k,q p.2
  | [],_,p,hp=>by cases hp
  | (a,y)::m,h,p,hp=>by
    unfold mdel at hp
    split at hp
    · exact h p (List.mem_cons_of_mem _ hp)
    · rcases List.mem_cons.1 hp with rfl|hp
      · exact h _ (List.mem_cons_self ..)
      · exact mdel_all k m (fun p hp=>h p (List.mem_cons_of_mem _ hp)) p hp
structure Kept (m m':Rm):Prop where
  ok:RmOk m'
  n:m'.news.length≤m.news.length+1
  steps:m'.steps=m.steps
  code:m'.code=m.code
theorem Kept.refl {m:Rm} (h:RmOk m):Kept m m:=⟨h,by omega,rfl,rfl⟩
theorem Kept.setR {m m':Rm} (h:Kept m m') (a:Int) (n:Nat):Kept m (m'.setR a n):=by
  have:=h.ok
  exact ⟨⟨this.a,by show (List.set _ _ _).length=16;rw [List.length_set];exact this.r,this.o,this.b,this.w0,this.w1,this.d0,this.d1,this.n⟩,h.n,h.steps,h.code⟩
theorem PaidM.kept {m m1:Rm} (h:PaidM m m1) (hm:RmOk m):Kept m m1:=⟨h.ok hm,by rw [h.news];omega,h.steps,h.code⟩
theorem Rm.root_kept (i:Ins) {m:Rm} (hm:RmOk m):Kept m (m.root i).1:=by
  have hp:=(m.paid i.op).kept hm
  unfold Rm.root
  split
  · exact .refl hm
  split
  · exact (Kept.refl hm).setR _ _
  split
  · exact hp
  · have:=hp.ok
    exact ⟨⟨this.a,this.r,by show (List.set _ _ _).length=16;rw [List.length_set];exact this.o,this.b,this.w0,this.w1,this.d0,this.d1,this.n⟩,hp.n,hp.steps,hp.code⟩
theorem Rm.word_kept (i:Ins) {m:Rm} (hm:RmOk m):Kept m (m.word i).1:=by
  have hp:=(m.paid i.op).kept hm
  unfold Rm.word Rm.word2
  generalize (if i.op=12∨i.op=14 then m.reg i.c else i.imm)=wd
  cases hg:mget m.blocks ((m.reg i.b:Nat):Int) with
  | none=>exact .refl hm
  | some b =>
    dsimp only
    split
    · exact .refl hm
    split
    · exact (Kept.refl hm).setR _ _
    split
    · exact hp
    · have:=hp.ok
      refine ⟨⟨this.a,this.r,this.o,mput_all (q:=fun l:List Nat=>l.length=8) _ _ ?_ _ this.b,this.w0,this.w1,this.d0,this.d1,this.n⟩,hp.n,hp.steps,hp.code⟩
      rw [List.length_set]
      exact hm.b _ (mget_mem hg)
theorem Rm.free_kept (i:Ins) {m:Rm} (hm:RmOk m):Kept m (m.free i).1:=by
  have hp:=(m.paid i.op).kept hm
  unfold Rm.free
  split
  · exact .refl hm
  split
  · exact hp
  · have:=hp.ok
    exact ⟨⟨this.a,this.r,this.o,mdel_all (q:=fun l:List Nat=>l.length=8) _ _ this.b,this.w0,this.w1,this.d0,this.d1,this.n⟩,hp.n,hp.steps,hp.code⟩
theorem Rm.fresh_kept (i:Ins) {m:Rm} (hm:RmOk m) (hn:m.news.length≤999999):Kept m (m.fresh i).1:=by
  have hp:=(m.paid i.op).kept hm
  have hnw:=(m.paid i.op).news
  unfold Rm.fresh
  split
  · exact hp
  split
  · exact hp
  split
  · exact hp
  split
  · exact hp
  · have:=hp.ok
    refine ⟨⟨this.a,by show (List.set _ _ _).length=16;rw [List.length_set];exact this.r,this.o,mput_all (q:=fun l:List Nat=>l.length=8) _ _ rfl _ this.b,this.w0,this.w1,this.d0,this.d1, ?_⟩, ?_,hp.steps,hp.code⟩
    · show (List.append _ _).length≤_
      rw [show List.append _ _=(m.pay i.op).1.news++[_] from rfl,hnw,List.length_append,List.length_singleton];omega
    · show (List.append _ _).length≤_
      rw [show List.append _ _=(m.pay i.op).1.news++[_] from rfl,hnw,List.length_append,List.length_singleton];omega
theorem Rm.step_kept (i:Ins) {m:Rm} (hm:RmOk m) (hn:m.news.length≤999999):Kept m (m.step i).1:=by
  have ht:Kept m m.tick:=⟨hm.tick,by show m.news.length≤_;omega,rfl,rfl⟩
  have hx:∀ n:Int,Kept m { m.tick with pc:=n }:=fun n=>⟨⟨hm.a,hm.r,hm.o,hm.b,hm.w0,hm.w1,hm.d0,hm.d1,hm.n⟩,by show m.news.length≤_;omega,rfl,rfl⟩
  have hy:∀ {r:Rm},Kept m.tick r→Kept m r:=fun h=>⟨h.ok,h.n,h.steps,h.code⟩
  unfold Rm.step
  repeat' split
  all_goals first
    | exact hx _
    | exact ht
    | exact hy (Rm.root_kept i hm.tick)
    | exact hy (Rm.word_kept i hm.tick)
    | exact hy (Rm.fresh_kept i hm.tick hn)
    | exact hy (Rm.free_kept i hm.tick)
    | exact ht.setR _ _
    | exact ⟨⟨hm.a,hm.r,hm.o,hm.b,hm.w0,hm.w1,hm.d0,hm.d1,hm.n⟩,by show m.news.length≤_;omega,rfl,rfl⟩
def getIns (code:List Ins) (pc:Int):Option Ins:=if pc<0 then none else code[pc.toNat]?
def Rm.go (m:Rm) (i:Ins):Rm×Int:=Rm.step i { m with steps:=m.steps+1 }
def runGo (code:List Ins) (fuel:Int):Nat→Rm→Option (Rm×Bool)
  | 0,_=>none
  | k+1,m=>match m.ended with
    | true=>some (m,true)
    | false=>if fuel≤m.steps then some ({ m with code:=41,val:=0 },false) else match getIns code m.pc with
      | none=>none
      | some i=>if (m.go i).2=0 then runGo code fuel k (m.go i).1 else some ({ (m.go i).1 with code:=(m.go i).2 },false)
def regs16:List Nat:=[0,0,0,0,0,0,0,0,0,0,0,0,0,0,0,0]
def rm0 (ms:Ms) (args:List Nat) (wr:Int) (pick:List Nat):Rm:=⟨args,regs16,wr,0,0,0,0,0,false,ms.roots,ms.blocks,pick,[]⟩
structure CodeI (i:Ins):Prop where
  io:InsOk i
  j:i.op=17∨i.op=18∨i.op=19→i.imm≤1000000
  k:i.imm<9223372036854775808∨i.op≠8
def codeB (code:List Ins):Bool:=code.all fun i=>decide (0≤i.a∧i.a<16∧0≤i.b∧i.b<16∧0≤i.c∧i.c<16∧(i.imm≤1000000∨i.op≠17∧i.op≠18∧i.op≠19∧i.op≠8))
theorem CodeI.of {code:List Ins} (h:codeB code=true):∀ i∈code,CodeI i:=by
  intro i hi
  have h1:=of_decide_eq_true (List.all_eq_true.1 h i hi)
  exact ⟨⟨h1.1,h1.2.1,h1.2.2.1,h1.2.2.2.1,h1.2.2.2.2.1,h1.2.2.2.2.2.1⟩,by have:=h1.2.2.2.2.2.2;omega,by have:=h1.2.2.2.2.2.2;omega⟩
def doneV (m:Rm) (nad:Option Addr) (ncap:Nat):List Value:=[.int .i64 m.code, .int .u64 (m.val:Int), .int .i64 m.steps, .int .i64 m.dw, .slice nad m.news.length ncap]
set_option maxHeartbeats 2000000 in
theorem mrun_i (S:Nat) (ms:Ms) (hms:MsOk ms) (qc q:HProp) (cv:Value) (code:List Ins) (hins:InsR qc cv code) (hcok:codeB code=true) (hright:rightB code=true) (hcl:code.length≤256) (args:List Nat) (ha:args.length=4) (fuel wr:Int)
    (hf:0≤fuel∧fuel≤900000) (hw:0≤wr∧wr≤1000000) (pad:Option Addr) (pcap:Nat) (pick:List Nat) (hpk:ListR u64V q (.slice pad pick.length pcap) pick) (N:Nat) (mF:Rm) (ok:Bool) (hrun:runGo code fuel N (rm0 ms args wr pick)=some (mF,ok)) :
    Tri Tryz.prog 56 #[.pointer (some ⟨S,0,none⟩),cv, .agg ⟨g4 args⟩, .int .i64 fuel, .int .i64 wr, .slice pad pick.length pcap] [MsE S ms,qc,q]
      fun v L=>∃ nad ncap,v=.agg ⟨doneV mF nad ncap⟩∧L=[MsE S (if ok then ⟨mF.roots,mF.blocks⟩ else ms),Row (.slice nad mF.news.length ncap) 22 1 mF.news.length (u64s mF.news),qc,q]:=by
  have hri:=right_rr qc cv code hins
  rw [hright] at hri
  have hci:=CodeI.of hcok
  have hcl4:=mclone_t S ms
  have h0:RmOk (rm0 ms args wr pick):=⟨ha,rfl,hms.r,hms.b,hw.1,hw.2,Int.le_refl _,hw.1,Nat.zero_le _⟩
  obtain ⟨cad,ccap,rfl,hcv⟩:=hins
  unfold g4
  refine Tri.of_body (vs:=[_,_,_,_,_,_]) Tryz.func56 rfl rfl fun w0 F=>?_
  repeat' (first|refine Ga ?_|(refine Gb ?_;intro b)|(refine Gd ?_;intro g cap rest hcap)|(refine Gc ?_;intro ad cap)|(refine St.draw (id:=3) [(0,0),(2,1),(3,0),(4,0),(1,2),(5,0),(6,2),(7,0)] [] mixed (by kernel_rfl) ?_)| refine Gl hri ?_|(refine Gt hcl4 ?_;rintro _ _ ⟨S2,rfl,rfl⟩)|(refine Gu hcl4 ?_;rintro _ _ ⟨S2,rfl,rfl⟩;refine ⟨Ent.go, ?_⟩)|(refine Ge ?_ ?_<;>(intro h;try (exfalso;omega)))|fail)
  revert b;intro X
  revert b;intro Bd
  revert b;intro Ba
  refine St.conv ?_ (Sub.refl _) (Ent.of_take (p:=MsE S2 ms) Take.go)
  refine St.ex_out fun mb2=>?_
  unfold msL
  refine St.conv ?_ (Sub.refl _) (Ent.row_nil 22 1)
  refine St.loopY (Lr:=?Lr1) (ι:={ x:Nat×Rm×At // runGo code fuel x.1 x.2.1=some (mF,ok)∧RmOk x.2.1∧PickR q x.2.2 x.2.1∧(x.2.1.news.length:Int)≤x.2.1.steps∧x.2.1.steps≤900000∧x.2.1.code=0 }) (fun x=>x.1.1)
    (fun _=>[]) (fun x=>rmL X S2 q x.1.2.2 x.1.2.1) ⟨(N,rm0 ms args wr pick,⟨mb2,pad,pcap,none,0⟩),hrun,h0,hpk,Int.le_refl _,by show (0:Int)≤900000;decide,rfl⟩ ?hE1 ?hL1 ?round1
  case hE1=>exact Sub.go
  case hL1=>unfold rmL rmV;exact Takes.go
  case round1 =>
    rintro ⟨⟨k,m,w⟩,hgo,hok,hpk,hns,hst,hc0⟩ IH;dsimp only at hgo hok hpk hns hst hc0 IH⊢
    have hnl:(0:Int)≤m.news.length:=Int.natCast_nonneg _
    cases k with
    | zero=>cases hgo
    | succ k =>
      have hu:runGo code fuel (k+1) m=match m.ended with|true=>some (m,true)|false=>if fuel≤m.steps then some ({ m with code:=41,val:=0 },false) else match getIns code m.pc with|none=>none|some i=>if (m.go i).2=0 then runGo code fuel k (m.go i).1 else some ({ (m.go i).1 with code:=(m.go i).2 },false):=rfl
      rw [hu] at hgo
      cases hen:m.ended with
      | true =>
        rw [hen] at hgo
        injection hgo with hgo
        injection hgo with e1 e2
        subst e1 e2
        clear IH
        unfold rmL rmV
        rw [hen]
        repeat' (first|refine St.halt 13 ?_ |refine Ga ?_|(refine Gb ?_;intro b)|(refine Gd ?_;intro g cap rest hcap)|(refine Gc ?_;intro ad cap)|(refine St.draw (id:=3) [(0,0),(2,1),(3,0),(4,0),(1,2),(5,0),(6,2),(7,0)] [] mixed (by kernel_rfl) ?_)|(refine Ge ?_ ?_<;>(intro h;try (exfalso;omega)))|fail)
        apply Halt.go
        refine St.conv ?_ (Sub.refl _) (Ent.of_take (p:=MsE S ms) Take.go)
        refine St.ex_out fun mb0=>?_
        unfold msL
        repeat' (first|refine Ga ?_|(refine Gb ?_;intro b)|(refine Gd ?_;intro g cap rest hcap)|(refine Gc ?_;intro ad cap)|(refine St.draw (id:=3) [(0,0),(2,1),(3,0),(4,0),(1,2),(5,0),(6,2),(7,0)] [] mixed (by kernel_rfl) ?_)|(refine Ge ?_ ?_<;>(intro h;try (exfalso;omega)))|fail)
        refine St.d1 Tryz.func56 ⟨_,⟨w.nad,w.ncap,rfl,rfl⟩, ?_⟩
        rw [if_pos rfl]
        refine Ent.trans ?_ (Ent.ms (S:=S) (mb:=w.mb) (m:=⟨m.roots,m.blocks⟩) (L:=[Row (.slice w.nad m.news.length w.ncap) 22 1 m.news.length (u64s m.news),qc,q]++F))
        exact Ent.go
      | false =>
        rw [hen] at hgo
        dsimp only at hgo
        by_cases hfu:fuel≤m.steps
        · rw [if_pos hfu] at hgo
          injection hgo with hgo
          injection hgo with e1 e2
          subst e1 e2
          clear IH
          unfold rmL rmV
          rw [hen]
          repeat' (first|refine Ga ?_|(refine Gb ?_;intro b)|(refine Gd ?_;intro g cap rest hcap)|(refine Gc ?_;intro ad cap)|(refine St.draw (id:=3) [(0,0),(2,1),(3,0),(4,0),(1,2),(5,0),(6,2),(7,0)] [] mixed (by kernel_rfl) ?_)|(refine Ge ?_ ?_<;>(intro h;try (exfalso;omega)))|fail)
          refine St.d1 Tryz.func56 ⟨_,⟨w.nad,w.ncap,rfl,rfl⟩, ?_⟩
          rw [if_neg (by decide)]
          exact Ent.go
        · rw [if_neg hfu] at hgo
          cases hgi:getIns code m.pc with
          | none=>rw [hgi] at hgo;cases hgo
          | some i =>
            rw [hgi] at hgo
            dsimp only at hgo
            obtain ⟨hp0,hpl,hgi⟩:0≤m.pc∧m.pc<code.length∧code[m.pc.toNat]? = some i:=by
              unfold getIns at hgi
              split at hgi
              · cases hgi
              · obtain ⟨h1,h2⟩:=List.getElem?_eq_some_iff.1 hgi
                exact ⟨by omega,by omega,hgi⟩
            obtain ⟨hlt,hgi⟩:=List.getElem?_eq_some_iff.1 hgi
            obtain ⟨bf,o,l,l1,rfl,hrd,hdr,htk⟩:=ListR.at (f:=Ins.v) (sz:=5) Ins.v_len hcv m.pc.toNat hlt
            rw [hgi] at htk
            rw [show ((m.pc.toNat:Nat):Int).toNat=m.pc.toNat by omega] at hdr
            have hi:=hci i (hgi▸List.getElem_mem hlt)
            have hok1:RmOk { m with steps:=m.steps+1 }:=⟨hok.a,hok.r,hok.o,hok.b,hok.w0,hok.w1,hok.d0,hok.d1,hok.n⟩
            have hstep:=mstep_t X S2 q w { m with steps:=m.steps+1 } i ⟨hi.io,hok1,hp0,by show m.pc≤_;omega,hi.j,hi.k⟩ hpk
            have hkept:=Rm.step_kept i hok1 (by show m.news.length≤_;omega)
            rw [show Rm.step i { m with steps:=m.steps+1 }=m.go i from rfl] at hstep hkept
            generalize m.go i=r at hgo hstep hkept
            obtain ⟨m1,e⟩:=r
            obtain ⟨hok2,hn2,hs2,hc2⟩:=hkept
            dsimp only at hgo hstep hok2 hn2 hs2 hc2
            unfold rmQ at hstep
            unfold Ins.v at hstep htk
            dsimp only at hstep
            by_cases he:e=0
            · rw [if_pos he] at hgo
              subst he
              unfold rmL at hstep IH⊢
              unfold rmV at hstep⊢
              dsimp only at hstep
              rw [hen] at hstep⊢
              repeat' (first|refine Ga ?_|(refine Gb ?_;intro b)|(refine Gd ?_;intro g cap rest hcap)|(refine Gc ?_;intro ad cap)|(refine St.draw (id:=3) [(0,0),(2,1),(3,0),(4,0),(1,2),(5,0),(6,2),(7,0)] [] mixed (by kernel_rfl) ?_)|(refine Gt hstep ?_;rintro _ _ ⟨w',rfl,hpk',rfl⟩)|(refine Gu hstep ?_;rintro _ _ ⟨w',rfl,hpk',rfl⟩;refine ⟨Ent.go, ?_⟩)|(refine Ge ?_ ?_<;>(intro h;try (exfalso;omega)))|fail)
              refine IH ⟨(k,m1,w'),hgo,hok2,hpk',by dsimp only;omega,by dsimp only;omega,by dsimp only;omega⟩ (by show k<k+1;omega) ?_ ?_
              · exact Sub.go
              · exact Ent.go
            · rw [if_neg he] at hgo
              injection hgo with hgo
              injection hgo with e1 e2
              subst e1 e2
              clear IH
              unfold rmL at hstep⊢
              unfold rmV at hstep⊢
              dsimp only at hstep
              rw [hen] at hstep⊢
              repeat' (first|refine St.halt 11 ?_ |refine Ga ?_|(refine Gb ?_;intro b)|(refine Gd ?_;intro g cap rest hcap)|(refine Gc ?_;intro ad cap)|(refine St.draw (id:=3) [(0,0),(2,1),(3,0),(4,0),(1,2),(5,0),(6,2),(7,0)] [] mixed (by kernel_rfl) ?_)|(refine Gt hstep ?_;rintro _ _ ⟨w',rfl,hpk',rfl⟩)|(refine Gu hstep ?_;rintro _ _ ⟨w',rfl,hpk',rfl⟩;refine ⟨Ent.go, ?_⟩)|(refine Ge ?_ ?_<;>(intro h;try (exfalso;omega)))|fail)
              apply Halt.go
              repeat' (first|refine Ga ?_|(refine Gb ?_;intro b)|(refine Gd ?_;intro g cap rest hcap)|(refine Gc ?_;intro ad cap)|(refine St.draw (id:=3) [(0,0),(2,1),(3,0),(4,0),(1,2),(5,0),(6,2),(7,0)] [] mixed (by kernel_rfl) ?_)|(refine Ge ?_ ?_<;>(intro h;try (exfalso;omega)))|fail)
              refine St.d1 Tryz.func56 ⟨_,⟨w'.nad,w'.ncap,rfl,rfl⟩, ?_⟩
              rw [if_neg (by decide)]
              exact Ent.go
end Go.Proofs.YthmbgodcpgkkeaaGreat
end
