/-
  Package lay: What and Of. Package lay: Of. Package cell: a shared memory, and what one step does to it.
-/
import Derived.Test.YthmbgodcpgkkeaaGreatLay
section
namespace Go.Proofs.YthmbgodcpgkkeaaGreat
structure Froms (c:Cfg):Prop where
  hf7:c.f7=1+c.threads * c.stride
  hf10:c.f10=c.f7+c.threads * 3
  hf11:c.f11=c.f10+16
  hf12:c.f12=c.f11+c.blocks
  hf13:c.f13=c.f12+1
  hf14:c.f14=c.f13+c.blocks
  hf15:c.f15=c.f14+1
  hf16:c.f16=c.f15+c.limit
  hf17:c.f17=c.f16+c.blocks * 8
  hstr:c.stride=8+c.cap
theorem Cfg.froms (c:Cfg):Froms c:=⟨rfl,rfl,rfl,rfl,rfl,rfl,rfl,rfl,rfl,rfl⟩
def Cfg.what (c:Cfg) (p:Int):Int×Int×Int :=
  if p<0∨c.f17≤p then (-1,0,0) else
  if p=0 then (0,0,0) else
  if p<c.f7 then
    (if 8≤(p - 1) % c.stride then (6,(p - 1) / c.stride,(p - 1) % c.stride - 8) else
     if 7≤(p - 1) % c.stride then (5,(p - 1) / c.stride,(p - 1) % c.stride - 7) else
     if 6≤(p - 1) % c.stride then (4,(p - 1) / c.stride,(p - 1) % c.stride - 6) else
     if 5≤(p - 1) % c.stride then (3,(p - 1) / c.stride,(p - 1) % c.stride - 5) else
     if 1≤(p - 1) % c.stride then (2,(p - 1) / c.stride,(p - 1) % c.stride - 1) else (1,(p - 1) / c.stride,(p - 1) % c.stride)) else
  if p<c.f10 then (7+(p - c.f7) % 3,(p - c.f7) / 3,0) else
  if c.f16≤p then (16,(p - c.f16) / 8,(p - c.f16) % 8) else
  if c.f15≤p then (15,p - c.f15,0) else
  if c.f14≤p then (14,p - c.f14,0) else
  if c.f13≤p then (13,p - c.f13,0) else
  if c.f12≤p then (12,p - c.f12,0) else
  if c.f11≤p then (11,p - c.f11,0) else (10,p - c.f10,0)
theorem what_r (c:Cfg) (hc:Small c) (p:Int):RTri Tryz.prog 54 #[.agg ⟨c.m⟩, .int .i64 p] [] (.tuple ⟨[.int .i64 (c.what p).1, .int .i64 (c.what p).2.1, .int .i64 (c.what p).2.2]⟩):=by
  have hn:=hc.nums.f7;have hn2:=hc.nums.f17;have ht:=hc.ts
  have hcap:=hc.cap
  have:=hc.t0;have:=hc.t1;have:=hc.b0;have:=hc.b1;have:=hc.limit
  obtain ⟨hf7,hf10,hf11,hf12,hf13,hf14,hf15,hf16,hf17,hstr⟩:=c.froms
  have hdiv:0≤(p - 1) % c.stride∧(p - 1) % c.stride<c.stride:=⟨Int.emod_nonneg _ (by omega),Int.emod_lt_of_pos _ (by omega)⟩
  have hdiv2:0≤p - 1→0≤(p - 1) / c.stride∧(p - 1) / c.stride≤p - 1:=fun h=>⟨Int.ediv_nonneg h (by omega),Int.ediv_le_self _ h⟩
  have c16:(c.cnt 16).2=8:=rfl
  have c15:(c.cnt (16 - 1)).2=1:=rfl
  have c14:(c.cnt (16 - 1 - 1)).2=1:=rfl
  have c13:(c.cnt (16 - 1 - 1 - 1)).2=1:=rfl
  have c12:(c.cnt (16 - 1 - 1 - 1 - 1)).2=1:=rfl
  have c11:(c.cnt (16 - 1 - 1 - 1 - 1 - 1)).2=1:=rfl
  have c10:(c.cnt (16 - 1 - 1 - 1 - 1 - 1 - 1)).2=1:=rfl
  have o6:ownOf 6=8:=rfl
  have o5:ownOf 5=7:=rfl
  have o4:ownOf 4=6:=rfl
  have o3:ownOf 3=5:=rfl
  have o2:ownOf 2=1:=rfl
  have o1:ownOf 1=0:=rfl
  apply RTri.of_pure
  refine Tri.of_body (vs:=[_,_]) Tryz.func54 rfl rfl fun w0 F=>?_
  repeat' (first|refine Ga ?_|(refine Gb ?_;intro b)|(refine Gd ?_;intro g cap rest hcap)|(refine Gc ?_;intro ad cap)|(refine St.draw (id:=6) [(0,0),(1,0),(2,1),(3,1),(4,0),(5,0),(6,0),(7,1),(8,1),(9,0),(10,0),(11,0)] [] mixed (by kernel_rfl) ?_)|(refine St.draw (id:=21) [(0,0),(1,0),(2,0),(3,0),(4,0),(5,0),(6,0),(7,0),(8,0),(9,0)] [] mixed (by kernel_rfl) ?_)| refine Gl (size_r c) ?_|refine Gl (stride_r c hc c.fr rfl) ?_|(refine Ge ?_ ?_<;>(intro h;try (exfalso;omega)))|fail)
  iterate 8 all_goals (try ((first|apply St.inLoop1|apply St.loop1);repeat' (first|refine Ga ?_|(refine Gb ?_;intro b)|(refine Gd ?_;intro g cap rest hcap)|(refine Gc ?_;intro ad cap)|(refine St.draw (id:=6) [(0,0),(1,0),(2,1),(3,1),(4,0),(5,0),(6,0),(7,1),(8,1),(9,0),(10,0),(11,0)] [] mixed (by kernel_rfl) ?_)|(refine St.draw (id:=21) [(0,0),(1,0),(2,0),(3,0),(4,0),(5,0),(6,0),(7,0),(8,0),(9,0)] [] mixed (by kernel_rfl) ?_)| refine Gl (own_r _) ?_|refine Gl (counts_r c hc _) ?_|(refine Ge ?_ ?_<;>(intro h;try (exfalso;omega)))|fail)))
  all_goals (first|refine St.dn Tryz.func54 ⟨?_,rfl⟩ Ent.go|refine St.fl Tryz.func54 ⟨?_,rfl⟩ Ent.go)
  all_goals simp only [resV,c16,c15,c14,c13,c12,c11,c10,Int.ediv_one,Int.emod_one]
  all_goals unfold Cfg.what
  all_goals (repeat (first|rw [if_pos (by omega)]|rw [if_neg (by omega)]))
  all_goals exact tup3 (by dsimp only;try omega) (by dsimp only;try omega) (by dsimp only;try omega)
end Go.Proofs.YthmbgodcpgkkeaaGreat
end
section
namespace Go.Proofs.YthmbgodcpgkkeaaGreat
def zero18:List Value:=[.int .i64 0, .int .i64 0, .int .i64 0, .int .i64 0, .int .i64 0, .int .i64 0, .int .i64 0, .int .i64 0, .int .i64 0, .int .i64 0, .int .i64 0, .int .i64 0, .int .i64 0, .int .i64 0, .int .i64 0, .int .i64 0, .int .i64 0, .int .i64 0]
def Cfg.zero:Cfg:=⟨0,0,0,0,0,0⟩
def Cfg.ofV (c:Cfg):Value:=if c.right then .tuple ⟨[.agg ⟨c.m⟩, .int .i64 0]⟩ else .tuple ⟨[.agg ⟨Cfg.zero.v++zero18⟩, .int .i64 1]⟩
theorem of_r (c:Cfg):RTri Tryz.prog 17 #[.agg ⟨c.v⟩] [] c.ofV:=by
 apply RTri.of_pure
 cases hr:c.right with
 | false =>
  have hr':=right_r c
  rw [hr] at hr'
  refine Tri.of_body (vs:=[_]) Tryz.func17 rfl rfl fun w0 F=>?_
  repeat' (first|refine Ga ?_|(refine Gb ?_;intro b)|(refine Gd ?_;intro g cap rest hcap)|(refine Gc ?_;intro ad cap)|(refine St.draw (id:=4) [(0,0),(1,1),(2,1),(3,1),(4,0),(5,0),(6,0)] [] mixed (by kernel_rfl) ?_)|(refine St.draw (id:=5) [(0,0),(1,1),(2,0),(3,0),(4,0),(5,0),(6,1),(7,0),(8,0),(9,0),(10,1),(11,0),(12,0),(13,1),(14,1),(15,0),(16,0),(17,1),(18,0),(19,0),(22,0),(20,2),(21,0)] [] mixed (by kernel_rfl) ?_)| refine Gl hr' ?_|(refine Ge ?_ ?_<;>(intro h;try (exfalso;omega)))|fail)
  all_goals (first|refine St.dn Tryz.func17 ⟨?_,rfl⟩ Ent.go|refine St.fl Tryz.func17 ⟨?_,rfl⟩ Ent.go)
  rw [Cfg.ofV,if_neg (by rw [hr];decide)];rfl
 | true =>
  have hr':=right_r c
  rw [hr] at hr'
  have hc:=Cfg.small hr
  have hn:=hc.nums.f7;have hn2:=hc.nums.f17;have ht:=hc.ts
  have hcap:=hc.cap
  have:=hc.t0;have:=hc.t1;have:=hc.b0;have:=hc.b1;have:=hc.limit
  obtain ⟨hf7,hf10,hf11,hf12,hf13,hf14,hf15,hf16,hf17,hstr⟩:=c.froms
  refine Tri.of_body (vs:=[_]) Tryz.func17 rfl rfl fun w0 F=>?_
  repeat' (first|refine Ga ?_|(refine Gb ?_;intro b)|(refine Gd ?_;intro g cap rest hcap)|(refine Gc ?_;intro ad cap)|(refine St.draw (id:=4) [(0,0),(1,1),(2,1),(3,1),(4,0),(5,0),(6,0)] [] mixed (by kernel_rfl) ?_)|(refine St.draw (id:=5) [(0,0),(1,1),(2,0),(3,0),(4,0),(5,0),(6,1),(7,0),(8,0),(9,0),(10,1),(11,0),(12,0),(13,1),(14,1),(15,0),(16,0),(17,1),(18,0),(19,0),(22,0),(20,2),(21,0)] [] mixed (by kernel_rfl) ?_)| refine Gl hr' ?_|refine Gl (stride_r c hc zero18 rfl) ?_|refine Gl (limit_r c hc zero18) ?_|(refine Ge ?_ ?_<;>(intro h;try (exfalso;omega)))|fail)
  iterate 9 ((first|apply St.inLoop1|apply St.loop1);repeat' (first|refine Ga ?_|(refine Gb ?_;intro b)|(refine Gd ?_;intro g cap rest hcap)|(refine Gc ?_;intro ad cap)|(refine St.draw (id:=4) [(0,0),(1,1),(2,1),(3,1),(4,0),(5,0),(6,0)] [] mixed (by kernel_rfl) ?_)|(refine St.draw (id:=5) [(0,0),(1,1),(2,0),(3,0),(4,0),(5,0),(6,1),(7,0),(8,0),(9,0),(10,1),(11,0),(12,0),(13,1),(14,1),(15,0),(16,0),(17,1),(18,0),(19,0),(22,0),(20,2),(21,0)] [] mixed (by kernel_rfl) ?_)|(refine Ge ?_ ?_<;>(intro h;try (exfalso;omega)))|fail))
  (first|refine St.dn Tryz.func17 ⟨?_,rfl⟩ Ent.go|refine St.fl Tryz.func17 ⟨?_,rfl⟩ Ent.go)
  rw [Cfg.ofV,if_pos hr];rfl
end Go.Proofs.YthmbgodcpgkkeaaGreat
end
section
namespace Go.Proofs.YthmbgodcpgkkeaaGreat
structure Cell where
  val:Nat
  seq:Nat
  deriving DecidableEq
def Cell.v (c:Cell):List Value:=[.int .u64 c.val, .int .u64 c.seq]
structure MOp where
  kind:Int
  at_:Int
  old:Cell
  new:Cell
def MOp.v (o:MOp):List Value:=[.int .i64 o.kind, .int .i64 o.at_, .int .u64 o.old.val, .int .u64 o.old.seq, .int .u64 o.new.val, .int .u64 o.new.seq]
structure Out where
  was:Cell
  ok:Bool
  deriving DecidableEq
def Out.v (o:Out):List Value:=[.int .u64 o.was.val, .int .u64 o.was.seq, .bool o.ok]
structure Ev where
  who:Int
  op:MOp
  out:Out
def Ev.v (e:Ev):List Value:=[.int .i64 e.who, .int .i64 e.op.kind, .int .i64 e.op.at_, .int .u64 e.op.old.val, .int .u64 e.op.old.seq, .int .u64 e.op.new.val, .int .u64 e.op.new.seq, .int .u64 e.out.was.val, .int .u64 e.out.was.seq, .bool e.out.ok]
theorem Cell.v_len (c:Cell):c.v.length=2:=rfl
def memV (C n:Nat) (st:List Int) (tv:Value):List Value:=.slice (some ⟨C,0,none⟩) n n::(st.map (Value.int .i64)++[tv])
def checkOf (n:Nat) (who:Int) (o:MOp):Int:=if who<0∨8≤who then 1 else if o.kind<0∨3<o.kind then 32 else if o.at_<0∨(n:Int)≤o.at_ then 31 else 0
theorem check_r (M C n:Nat) (st:List Int) (tv:Value) (who:Int) (o:MOp):RTri Tryz.prog 168 #[.pointer (some ⟨M,0,none⟩), .int .i64 who, .agg ⟨o.v⟩] [bl M 244 (memV C n st tv)] (.int .i64 (checkOf n who o)):=by
  apply RTri.of_reads
  intro p hp
  have hM:=RdC.of_sat hp (ReadsC.here RdC.bl)
  refine Tri.of_body (vs:=[_,_,_]) Tryz.func168 rfl rfl fun w0 F=>?_
  repeat' (first|refine Ga ?_|(refine Gb ?_;intro b)|(refine Gd ?_;intro g cap rest hcap)|(refine Gc ?_;intro ad cap)|(refine St.draw (id:=5) [(0,0),(1,1),(2,0),(3,0),(4,0),(5,1),(6,0),(7,0),(8,0),(9,1),(10,0),(11,0),(12,0),(13,0)] [] mixed (by kernel_rfl) ?_)|(refine Ge ?_ ?_<;>(intro h;try (exfalso;omega)))|fail)
  all_goals (first|refine St.dn Tryz.func168 ⟨?_,rfl⟩ Ent.go|refine St.fl Tryz.func168 ⟨?_,rfl⟩ Ent.go)
  all_goals refine congrArg (Value.int .i64) ?_
  all_goals unfold checkOf
  all_goals (repeat (first|rw [if_pos (by omega)]|rw [if_neg (by omega)]))
def Cell.eqB (c d:Cell):Bool:=((c.val:Int) == d.val && ((c.seq:Int) == d.seq && true))
theorem Cell.eqB_iff {c d:Cell}:c.eqB d=true↔c=d:=by
  cases c;cases d;simp [Cell.eqB];omega
def becomes (c:Cell) (o:MOp):Cell:=if o.kind=1 then o.new else if o.kind=2 then (if c.eqB o.old then o.new else c) else if o.kind=3 then ⟨(c.val+o.new.val) % 18446744073709551616,c.seq⟩ else c
def outOf (c:Cell) (o:MOp):Out:=⟨c,if o.kind=2 then c.eqB o.old else true⟩
theorem NthN.steps {st:List Int} {i:Nat} (hi:i<st.length) (C n:Nat) (tv:Value):NthN (1+i) (memV C n st tv) (.int .i64 st[i]):=by
  rw [Nat.add_comm]
  refine .succ ((NthN.of ?_).app_left _)
  simp [hi]
theorem SetN.steps {st:List Int} {i:Nat} (hi:i<st.length) (C n:Nat) (tv:Value) (x:Int):SetN (.int .i64 x) (1+i) (memV C n st tv) (memV C n (st.set i x) tv):=by
  rw [Nat.add_comm]
  refine .succ ?_
  rw [List.map_set]
  exact (SetN.of (by simpa using hi)).app_left _
theorem NthN.trace {st:List Int} (h:st.length=8) (C n:Nat) (tv:Value):NthN (0+9) (memV C n st tv) tv:=by
  have h1:NthN ((st.map (Value.int .i64)).length+0) (st.map (Value.int .i64)++[tv]) tv:=NthN.zero.app_right _
  rw [List.length_map,h] at h1
  exact .succ h1
theorem SetN.trace {st:List Int} (h:st.length=8) (C n:Nat) (tv:Value) (tv':Value):SetN tv' (0+9) (memV C n st tv) (memV C n st tv'):=by
  have h1:SetN tv' ((st.map (Value.int .i64)).length+0) (st.map (Value.int .i64)++[tv]) (st.map (Value.int .i64)++[tv']):=SetN.zero.app_right _
  rw [List.length_map,h] at h1
  exact .succ h1
theorem do_t (M C:Nat) (cs:List Cell) (st:List Int) (hst:st.length=8) (tv:Value) (tr:List Ev) (htr:tr.length≤1000000) (who:Int) (o:MOp) :
    Tri Tryz.prog 87 #[.pointer (some ⟨M,0,none⟩), .int .i64 who, .agg ⟨o.v⟩] [bl M 244 (memV C cs.length st tv),bl C 39 (cs.flatMap Cell.v),Row tv 285 10 tr.length (tr.flatMap Ev.v)]
      fun v L=>(checkOf cs.length who o≠0∧v=.tuple ⟨[.agg ⟨Out.v (Out.mk (Cell.mk 0 0) false)⟩, .int .i64 (checkOf cs.length who o)]⟩∧L=[bl M 244 (memV C cs.length st tv),bl C 39 (cs.flatMap Cell.v),Row tv 285 10 tr.length (tr.flatMap Ev.v)])∨
        (checkOf cs.length who o=0∧∃ (h:o.at_.toNat<cs.length) (hw:who.toNat<st.length) (tv':Value),v=.tuple ⟨[.agg ⟨(outOf cs[o.at_.toNat] o).v⟩, .int .i64 0]⟩∧
          L=[bl M 244 (memV C cs.length (st.set who.toNat (IntKind.i64.wrap (st[who.toNat]+1))) tv'),bl C 39 ((cs.set o.at_.toNat (becomes cs[o.at_.toNat] o)).flatMap Cell.v),Row tv' 285 10 (tr.length+1) ((tr++[Ev.mk who o (outOf cs[o.at_.toNat] o)]).flatMap Ev.v)]):=by
  by_cases h0:checkOf cs.length who o=0
  · have hb:0≤who∧who<8∧0≤o.kind∧o.kind≤3∧0≤o.at_∧o.at_<cs.length:=by
      unfold checkOf at h0
      refine Decidable.by_contra fun hn=>?_
      split at h0
      · omega
      · split at h0
        · omega
        · split at h0<;>omega
    have hat:o.at_.toNat<cs.length:=by omega
    have hwho:who.toNat<st.length:=by omega
    have hck:=check_r M C cs.length st tv who o
    rw [h0] at hck
    have hdrop:=DropN.flat Cell.v_len hat
    have hn0:NthN (o.at_.toNat * 2+0) (cs.flatMap Cell.v) (.int .u64 cs[o.at_.toNat].val):=NthN.flat Cell.v_len hat .zero
    have hs1:SplN [Value.int .u64 o.new.val,Value.int .u64 o.new.seq] (o.at_.toNat * 2) (cs.flatMap Cell.v) ((cs.set o.at_.toNat o.new).flatMap Cell.v):=SplN.flat Cell.v_len hat o.new
    have hs3:SetN (Value.int .u64 (IntKind.u64.wrap ((cs[o.at_.toNat].val:Int)+o.new.val))) (o.at_.toNat * 2+0) (cs.flatMap Cell.v) ((cs.set o.at_.toNat ⟨(cs[o.at_.toNat].val+o.new.val) % 18446744073709551616,cs[o.at_.toNat].seq⟩).flatMap Cell.v):=by
      refine SetN.flat Cell.v_len hat ?_
      have e:IntKind.u64.wrap ((cs[o.at_.toNat].val:Int)+o.new.val)=(((cs[o.at_.toNat].val+o.new.val) % 18446744073709551616:Nat):Int):=by
        simp only [IntKind.wrap,IntKind.signed,IntKind.bits];simp
      rw [e]
      exact .zero
    have hst1:NthN (0+1+who.toNat * 1) (memV C cs.length st tv) (.int .i64 st[who.toNat]):=by
      rw [Nat.mul_one];exact NthN.steps hwho C cs.length tv
    have hst2:SetN (.int .i64 (IntKind.i64.wrap (st[who.toNat]+1))) (0+1+who.toNat * 1) (memV C cs.length st tv) (memV C cs.length (st.set who.toNat (IntKind.i64.wrap (st[who.toNat]+1))) tv):=by
      rw [Nat.mul_one];exact SetN.steps hwho C cs.length tv _
    have hst3:NthN (0+9) (memV C cs.length (st.set who.toNat (IntKind.i64.wrap (st[who.toNat]+1))) tv) tv:=NthN.trace (by simp [hst]) _ _ _
    have hst4:∀ tv',SetN tv' (0+9) (memV C cs.length (st.set who.toNat (IntKind.i64.wrap (st[who.toNat]+1))) tv) (memV C cs.length (st.set who.toNat (IntKind.i64.wrap (st[who.toNat]+1))) tv'):=SetN.trace (by simp [hst]) _ _ _
    refine Tri.of_body (vs:=[_,_,_]) Tryz.func87 rfl rfl fun w0 F=>?_
    repeat' (first|refine Ga ?_|(refine Gb ?_;intro b)|(refine Gd ?_;intro g cap rest hcap)|(refine Gc ?_;intro ad cap)|(refine St.draw (id:=4) [(0,0),(1,0),(2,0),(3,1),(4,0),(5,1),(6,0),(7,0)] [] mixed (by kernel_rfl) ?_)|(refine St.draw (id:=10) [(0,0),(1,0),(2,1),(3,0),(4,1),(5,0),(6,0),(7,3)] [7] mixed (by kernel_rfl) ?_)|(refine St.draw (id:=14) [(0,0),(1,0),(2,0),(3,1),(4,0),(5,0),(6,1),(7,0),(8,0),(9,0),(10,3)] [10] mixed (by kernel_rfl) ?_)|(refine St.draw (id:=15) [(0,0),(1,0),(2,0),(3,0),(4,0),(5,1),(6,0),(7,0),(8,0),(9,0),(10,3)] [10] mixed (by kernel_rfl) ?_)|(refine St.draw (id:=16) [(0,0),(1,0),(2,0),(3,0),(4,1),(5,0),(6,1),(7,1),(8,0),(9,2),(10,3),(11,0),(12,0),(13,3)] [10,13] mixed (by kernel_rfl) ?_)| refine Gl hck ?_|(refine Ge ?_ ?_<;>(intro h;try (exfalso;omega)))|fail)
    all_goals (have hst5:=hst4 (.slice ad (tr.length+1) cap);repeat' (first|refine Ga ?_|(refine Gb ?_;intro b)|(refine Gd ?_;intro g cap rest hcap)|(refine Gc ?_;intro ad cap)|(refine St.draw (id:=4) [(0,0),(1,0),(2,0),(3,1),(4,0),(5,1),(6,0),(7,0)] [] mixed (by kernel_rfl) ?_)|(refine St.draw (id:=10) [(0,0),(1,0),(2,1),(3,0),(4,1),(5,0),(6,0),(7,3)] [7] mixed (by kernel_rfl) ?_)|(refine St.draw (id:=14) [(0,0),(1,0),(2,0),(3,1),(4,0),(5,0),(6,1),(7,0),(8,0),(9,0),(10,3)] [10] mixed (by kernel_rfl) ?_)|(refine St.draw (id:=15) [(0,0),(1,0),(2,0),(3,0),(4,0),(5,1),(6,0),(7,0),(8,0),(9,0),(10,3)] [10] mixed (by kernel_rfl) ?_)|(refine St.draw (id:=16) [(0,0),(1,0),(2,0),(3,0),(4,1),(5,0),(6,1),(7,1),(8,0),(9,2),(10,3),(11,0),(12,0),(13,3)] [10,13] mixed (by kernel_rfl) ?_)|(refine Ge ?_ ?_<;>(intro h;try (exfalso;omega)))|fail))
    all_goals have e3:∀ ev:Ev,(tr++[ev]).flatMap Ev.v=tr.flatMap Ev.v++(ev.v++[]):=fun ev=>by rw [List.flatMap_append];rfl
    · have e1:outOf cs[o.at_.toNat] o=⟨cs[o.at_.toNat],true⟩:=by simp [outOf,h]
      have e2:cs.set o.at_.toNat (becomes cs[o.at_.toNat] o)=cs.set o.at_.toNat o.new:=by simp [becomes,h]
      refine St.d1 Tryz.func87 ?_;apply Exists.intro;apply And.intro;(refine Or.inr ⟨h0,hat,hwho, .slice ad (tr.length+1) cap, ?_, ?_⟩);rotate_left;(rw [e1,e2,e3]);(focus exact Ent.go);(rw [e1];rfl)
    · have hk:o.kind=2:=by assumption
      have e1:outOf cs[o.at_.toNat] o=⟨cs[o.at_.toNat],cs[o.at_.toNat].eqB o.old⟩:=by simp [outOf,hk]
      have e2:cs.set o.at_.toNat (becomes cs[o.at_.toNat] o)=cs.set o.at_.toNat o.new:=by unfold becomes;rw [if_neg (by omega),if_pos hk,if_pos (show cs[o.at_.toNat].eqB o.old=true from h)]
      refine St.d1 Tryz.func87 ?_;apply Exists.intro;apply And.intro;(refine Or.inr ⟨h0,hat,hwho, .slice ad (tr.length+1) cap, ?_, ?_⟩);rotate_left;(rw [e1,e2,e3]);(focus exact Ent.go);(rw [e1];rfl)
    · have hk:o.kind=2:=by assumption
      have e1:outOf cs[o.at_.toNat] o=⟨cs[o.at_.toNat],cs[o.at_.toNat].eqB o.old⟩:=by simp [outOf,hk]
      have e2:cs.set o.at_.toNat (becomes cs[o.at_.toNat] o)=cs:=by unfold becomes;rw [if_neg (by omega),if_pos hk,if_neg (by rw [show cs[o.at_.toNat].eqB o.old=false from h];decide),List.set_getElem_self hat]
      refine St.d1 Tryz.func87 ?_;apply Exists.intro;apply And.intro;(refine Or.inr ⟨h0,hat,hwho, .slice ad (tr.length+1) cap, ?_, ?_⟩);rotate_left;(rw [e1,e2,e3]);(focus exact Ent.go);(rw [e1];rfl)
    · have e1:outOf cs[o.at_.toNat] o=⟨cs[o.at_.toNat],true⟩:=by simp [outOf,h]
      have e2:cs.set o.at_.toNat (becomes cs[o.at_.toNat] o)=cs.set o.at_.toNat ⟨(cs[o.at_.toNat].val+o.new.val) % 18446744073709551616,cs[o.at_.toNat].seq⟩:=by simp [becomes,h]
      refine St.d1 Tryz.func87 ?_;apply Exists.intro;apply And.intro;(refine Or.inr ⟨h0,hat,hwho, .slice ad (tr.length+1) cap, ?_, ?_⟩);rotate_left;(rw [e1,e2,e3]);(focus exact Ent.go);(rw [e1];rfl)
    · skip
      have e1:outOf cs[o.at_.toNat] o=⟨cs[o.at_.toNat],true⟩:=by simp [outOf];omega
      have e2:cs.set o.at_.toNat (becomes cs[o.at_.toNat] o)=cs:=by unfold becomes;rw [if_neg (by omega),if_neg (by omega),if_neg (by omega),List.set_getElem_self hat]
      refine St.d1 Tryz.func87 ?_;apply Exists.intro;apply And.intro;(refine Or.inr ⟨h0,hat,hwho, .slice ad (tr.length+1) cap, ?_, ?_⟩);rotate_left;(rw [e1,e2,e3]);(focus exact Ent.go);(rw [e1];rfl)
  · have hck:=check_r M C cs.length st tv who o
    refine Tri.of_body (vs:=[_,_,_]) Tryz.func87 rfl rfl fun w0 F=>?_
    repeat' (first|refine Ga ?_|(refine Gb ?_;intro b)|(refine Gd ?_;intro g cap rest hcap)|(refine Gc ?_;intro ad cap)|(refine St.draw (id:=4) [(0,0),(1,0),(2,0),(3,1),(4,0),(5,1),(6,0),(7,0)] [] mixed (by kernel_rfl) ?_)|(refine St.draw (id:=10) [(0,0),(1,0),(2,1),(3,0),(4,1),(5,0),(6,0),(7,3)] [7] mixed (by kernel_rfl) ?_)|(refine St.draw (id:=14) [(0,0),(1,0),(2,0),(3,1),(4,0),(5,0),(6,1),(7,0),(8,0),(9,0),(10,3)] [10] mixed (by kernel_rfl) ?_)|(refine St.draw (id:=15) [(0,0),(1,0),(2,0),(3,0),(4,0),(5,1),(6,0),(7,0),(8,0),(9,0),(10,3)] [10] mixed (by kernel_rfl) ?_)|(refine St.draw (id:=16) [(0,0),(1,0),(2,0),(3,0),(4,1),(5,0),(6,1),(7,1),(8,0),(9,2),(10,3),(11,0),(12,0),(13,3)] [10,13] mixed (by kernel_rfl) ?_)| refine Gl hck ?_|(refine Ge ?_ ?_<;>(intro h;try (exfalso;omega)))|fail)
    refine St.d1 Tryz.func87 ?_;apply Exists.intro;apply And.intro;(refine Or.inl ⟨h0,rfl,rfl⟩);exact Ent.go
def peekOf (cs:List Cell) (p:Int):Cell:=if 0≤p then cs.getD p.toNat ⟨0,0⟩ else ⟨0,0⟩
theorem peek_r (M C n:Nat) (cs:List Cell) (hn:cs.length=n) (st:List Int) (tv:Value) (p:Int) :
    RTri Tryz.prog 86 #[.pointer (some ⟨M,0,none⟩), .int .i64 p] [bl M 244 (memV C n st tv),bl C 39 (cs.flatMap Cell.v)] (.tuple ⟨[.agg ⟨(peekOf cs p).v⟩, .bool (decide (0≤p∧p<n))]⟩):=by
  apply RTri.of_reads
  intro q hq
  have hM:=RdC.of_sat hq (ReadsC.here RdC.bl)
  have hC:=RdC.of_sat hq (ReadsC.there (ReadsC.here RdC.bl))
  by_cases hp:0≤p∧p<n
  · have hat:p.toNat<cs.length:=by omega
    have hdrop:=DropN.flat Cell.v_len hat
    have e:peekOf cs p=cs[p.toNat]:=by simp [peekOf,hp.1,hat]
    refine Tri.of_body (vs:=[_,_]) Tryz.func86 rfl rfl fun w0 F=>?_
    repeat' (first|refine Ga ?_|(refine Gb ?_;intro b)|(refine Gd ?_;intro g cap rest hcap)|(refine Gc ?_;intro ad cap) |(refine Ge ?_ ?_<;>(intro h;try (exfalso;omega)))|fail)
    all_goals (first|refine St.dn Tryz.func86 ⟨?_,rfl⟩ Ent.go|refine St.fl Tryz.func86 ⟨?_,rfl⟩ Ent.go)
    rw [e,decide_eq_true hp];rfl
  · have e:peekOf cs p=⟨0,0⟩:=by
      unfold peekOf
      split
      · rw [List.getD_eq_getElem?_getD,List.getElem?_eq_none (by omega)];rfl
      · rfl
    refine Tri.of_body (vs:=[_,_]) Tryz.func86 rfl rfl fun w0 F=>?_
    repeat' (first|refine Ga ?_|(refine Gb ?_;intro b)|(refine Gd ?_;intro g cap rest hcap)|(refine Gc ?_;intro ad cap) |(refine Ge ?_ ?_<;>(intro h;try (exfalso;omega)))|fail)
    all_goals (first|refine St.dn Tryz.func86 ⟨?_,rfl⟩ Ent.go|refine St.fl Tryz.func86 ⟨?_,rfl⟩ Ent.go)
    all_goals (rw [e,decide_eq_false hp];rfl)
def setOf (cs:List Cell) (p:Int) (c:Cell):List Cell:=if 0≤p then cs.set p.toNat c else cs
theorem setOf_len (cs:List Cell) (p:Int) (c:Cell):(setOf cs p c).length=cs.length:=by unfold setOf;split<;>simp
theorem set_t (M C n:Nat) (cs:List Cell) (hn:cs.length=n) (st:List Int) (tv:Value) (p:Int) (c:Cell) :
    Tri Tryz.prog 53 #[.pointer (some ⟨M,0,none⟩), .int .i64 p, .agg ⟨c.v⟩] [bl M 244 (memV C n st tv),bl C 39 (cs.flatMap Cell.v)]
      fun v L=>v=.int .i64 (if 0≤p∧p<n then 0 else 31)∧L=[bl M 244 (memV C n st tv),bl C 39 ((setOf cs p c).flatMap Cell.v)]:=by
  by_cases hp:0≤p∧p<n
  · have hat:p.toNat<cs.length:=by omega
    have hs1:SplN [Value.int .u64 c.val,Value.int .u64 c.seq] (p.toNat * 2) (cs.flatMap Cell.v) ((cs.set p.toNat c).flatMap Cell.v):=SplN.flat Cell.v_len hat c
    have hs2:SplN c.v (p.toNat * 2) (cs.flatMap Cell.v) ((cs.set p.toNat c).flatMap Cell.v):=SplN.flat Cell.v_len hat c
    have e:setOf cs p c=cs.set p.toNat c:=if_pos hp.1
    refine Tri.of_body (vs:=[_,_,_]) Tryz.func53 rfl rfl fun w0 F=>?_
    repeat' (first|refine Ga ?_|(refine Gb ?_;intro b)|(refine Gd ?_;intro g cap rest hcap)|(refine Gc ?_;intro ad cap)|(refine St.draw (id:=3) [(0,0),(1,0),(2,0),(3,1),(4,0),(5,1),(6,0),(7,3)] [7] mixed (by kernel_rfl) ?_)|(refine Ge ?_ ?_<;>(intro h;try (exfalso;omega)))|fail)
    refine St.d1 Tryz.func53 ?_;apply Exists.intro;apply And.intro;(refine ⟨?_, ?_⟩);rotate_left;(rw [e]);(focus exact Ent.go);(rw [if_pos hp];rfl)
  · have e:setOf cs p c=cs:=by
      unfold setOf
      split
      · exact List.set_eq_of_length_le (by omega)
      · rfl
    refine Tri.of_body (vs:=[_,_,_]) Tryz.func53 rfl rfl fun w0 F=>?_
    repeat' (first|refine Ga ?_|(refine Gb ?_;intro b)|(refine Gd ?_;intro g cap rest hcap)|(refine Gc ?_;intro ad cap)|(refine St.draw (id:=3) [(0,0),(1,0),(2,0),(3,1),(4,0),(5,1),(6,0),(7,3)] [7] mixed (by kernel_rfl) ?_)|(refine Ge ?_ ?_<;>(intro h;try (exfalso;omega)))|fail)
    all_goals (refine St.d1 Tryz.func53 ?_;apply Exists.intro;apply And.intro;(refine ⟨?_, ?_⟩);rotate_left;(rw [e]);(focus exact Ent.go);(rw [if_neg hp];rfl))
def zeros8:List Int:=[0,0,0,0,0,0,0,0]
theorem new_t (n:Nat) (hn:n≤65536) :
    Tri Tryz.prog 140 #[.int .i64 n] [] fun v L=>∃ M C,v=.tuple ⟨[.pointer (some ⟨M,0,none⟩), .int .i64 0]⟩∧L=[bl M 244 (memV C n zeros8 (.slice none 0 0)),bl C 39 ((List.replicate n (Cell.mk 0 0)).flatMap Cell.v)]:=by
  have e:(List.replicate n (Cell.mk 0 0)).flatMap Cell.v=(List.replicate n (cl (.agg #[.int .u64 0, .int .u64 0]))).flatten:=by
    rw [List.flatMap_def,List.map_replicate];rfl
  have e2:(n:Int).toNat=n:=Int.toNat_natCast n
  refine Tri.of_body (vs:=[_]) Tryz.func140 rfl rfl fun w0 F=>?_
  repeat' (first|refine Ga ?_|(refine Gb ?_;intro b)|(refine Gd ?_;intro g cap rest hcap)|(refine Gc ?_;intro ad cap) |(refine Ge ?_ ?_<;>(intro h;try (exfalso;omega)))|fail)
  rw [e2]
  rename_i C
  refine St.d1 Tryz.func140 ?_;apply Exists.intro;apply And.intro;(refine ⟨b,C,rfl, ?_⟩);(rw [e]);exact Ent.go
end Go.Proofs.YthmbgodcpgkkeaaGreat
end
