/-
  Package lay: the numbers of a map, and what each of its functions answers.
-/
import Derived.Test.YthmbgodcpgkkeaaGreatTy
namespace Go.Proofs.YthmbgodcpgkkeaaGreat
structure Cfg where
  threads:Int
  blocks:Int
  writes:Int
  fuel:Int
  first:Nat
  last:Nat
def Cfg.v (c:Cfg):List Value:=[.int .i64 c.threads, .int .i64 c.blocks, .int .i64 c.writes, .int .i64 c.fuel, .int .u64 c.first, .int .u64 c.last]
def Cfg.limit (c:Cfg):Int:=c.threads * (c.writes+1)
def Cfg.cap (c:Cfg):Int:=c.threads * (c.writes+3)+3 * c.limit+2
def Cfg.stride (c:Cfg):Int:=8+c.cap
def Cfg.right (c:Cfg):Bool:=decide (1≤c.threads∧c.threads≤8∧1≤c.blocks∧c.blocks≤64∧0≤c.writes∧c.writes≤64∧1≤c.fuel∧c.fuel≤1000∧(c.first:Int)≤c.last∧(c.last:Int)≤140737488355328)
structure Small (c:Cfg):Prop where
  t0:1≤c.threads
  t1:c.threads≤8
  b0:1≤c.blocks
  b1:c.blocks≤64
  w0:0≤c.writes
  w1:c.writes≤64
theorem Cfg.small {c:Cfg} (h:c.right=true):Small c:=by
  have h:=of_decide_eq_true h
  exact ⟨by omega,by omega,by omega,by omega,by omega,by omega⟩
theorem Small.limit {c:Cfg} (h:Small c):0≤c.limit∧c.limit≤520:=by
  have h1:=h.t0;have h2:=h.t1;have h3:=h.w0;have h4:=h.w1
  unfold Cfg.limit
  exact ⟨Int.mul_nonneg (by omega) (by omega),Int.le_trans (Int.mul_le_mul h2 (show c.writes+1≤65 by omega) (by omega) (by omega)) (by decide)⟩
theorem Small.tw3 {c:Cfg} (h:Small c):0≤c.threads * (c.writes+3)∧c.threads * (c.writes+3)≤536:=by
  have h1:=h.t0;have h2:=h.t1;have h3:=h.w0;have h4:=h.w1
  exact ⟨Int.mul_nonneg (by omega) (by omega),Int.le_trans (Int.mul_le_mul h2 (show c.writes+3≤67 by omega) (by omega) (by omega)) (by decide)⟩
theorem Small.cap {c:Cfg} (h:Small c):2≤c.cap∧c.cap≤2098:=by
  have h1:=h.limit;have h2:=h.tw3
  unfold Cfg.cap;omega
theorem right_r (c:Cfg):RTri Tryz.prog 104 #[.agg ⟨c.v⟩] [] (.bool c.right):=by
  apply RTri.of_pure
  refine Tri.of_body (vs:=[_]) Tryz.func104 rfl rfl fun w0 F=>?_
  repeat' (first|refine Ga ?_|(refine Gb ?_;intro b)|(refine Gd ?_;intro g cap rest hcap)|(refine Gc ?_;intro ad cap) |(refine Ge ?_ ?_<;>(intro h;try (exfalso;omega)))|fail)
  all_goals (first|refine St.dn Tryz.func104 ⟨?_,rfl⟩ Ent.go|refine St.fl Tryz.func104 ⟨?_,rfl⟩ Ent.go)
  all_goals exact congrArg Value.bool (by first|(simp [Cfg.right];omega)|(rw [Bool.eq_iff_iff];simp [Cfg.right];omega))
theorem limit_r (c:Cfg) (hc:Small c) (fr:List Value):RTri Tryz.prog 75 #[.agg ⟨c.v++fr⟩] [] (.int .i64 c.limit):=by
  have:=hc.t0;have:=hc.t1;have:=hc.w0;have:=hc.w1
  have hl:=hc.limit
  apply RTri.of_pure
  refine Tri.of_body (vs:=[_]) Tryz.func75 rfl rfl fun w0 F=>?_
  repeat' (first|refine Ga ?_|(refine Gb ?_;intro b)|(refine Gd ?_;intro g cap rest hcap)|(refine Gc ?_;intro ad cap) |(refine Ge ?_ ?_<;>(intro h;try (exfalso;omega)))|fail)
  (first|refine St.dn Tryz.func75 ⟨?_,rfl⟩ Ent.go|refine St.fl Tryz.func75 ⟨?_,rfl⟩ Ent.go)
  exact congrArg (Value.int .i64) (wrap_fits (by simp only [fits];unfold Cfg.limit at hl;omega))
theorem cap_r (c:Cfg) (hc:Small c) (fr:List Value) (hfr:(c.v++fr).length=24):RTri Tryz.prog 71 #[.agg ⟨c.v++fr⟩] [] (.int .i64 c.cap):=by
  have:=hc.t0;have:=hc.t1;have:=hc.w0;have:=hc.w1
  have hl:=hc.limit
  have h3:=hc.tw3
  apply RTri.of_pure
  refine Tri.of_body (vs:=[_]) Tryz.func71 rfl rfl fun w0 F=>?_
  repeat' (first|refine Ga ?_|(refine Gb ?_;intro b)|(refine Gd ?_;intro g cap rest hcap)|(refine Gc ?_;intro ad cap)|(refine St.draw (id:=1) [(0,0),(1,0),(2,1),(3,0),(4,0),(5,1),(6,0),(7,0),(8,1),(9,1),(10,0),(11,0),(12,0),(13,0)] [] mixed (by kernel_rfl) ?_)| refine Gl (limit_r c hc fr) ?_|(refine Ge ?_ ?_<;>(intro h;try (exfalso;omega)))|fail)
  (first|refine St.dn Tryz.func71 ⟨?_,rfl⟩ Ent.go|refine St.fl Tryz.func71 ⟨?_,rfl⟩ Ent.go)
  rfl
theorem stride_r (c:Cfg) (hc:Small c) (fr:List Value) (hfr:(c.v++fr).length=24):RTri Tryz.prog 105 #[.agg ⟨c.v++fr⟩] [] (.int .i64 c.stride):=by
  have hl:=hc.cap
  apply RTri.of_pure
  refine Tri.of_body (vs:=[_]) Tryz.func105 rfl rfl fun w0 F=>?_
  repeat' (first|refine Ga ?_|(refine Gb ?_;intro b)|(refine Gd ?_;intro g cap rest hcap)|(refine Gc ?_;intro ad cap)|refine Gl (cap_r c hc fr hfr) ?_|(refine Ge ?_ ?_<;>(intro h;try (exfalso;omega)))|fail)
  (first|refine St.dn Tryz.func105 ⟨?_,rfl⟩ Ent.go|refine St.fl Tryz.func105 ⟨?_,rfl⟩ Ent.go)
  rfl
def Cfg.f7 (c:Cfg):Int:=1+c.threads * c.stride
def Cfg.f10 (c:Cfg):Int:=c.f7+c.threads * 3
def Cfg.f11 (c:Cfg):Int:=c.f10+16
def Cfg.f12 (c:Cfg):Int:=c.f11+c.blocks
def Cfg.f13 (c:Cfg):Int:=c.f12+1
def Cfg.f14 (c:Cfg):Int:=c.f13+c.blocks
def Cfg.f15 (c:Cfg):Int:=c.f14+1
def Cfg.f16 (c:Cfg):Int:=c.f15+c.limit
def Cfg.f17 (c:Cfg):Int:=c.f16+c.blocks * 8
def Cfg.fr (c:Cfg):List Value:=[.int .i64 0, .int .i64 0, .int .i64 0, .int .i64 0, .int .i64 0, .int .i64 0, .int .i64 0, .int .i64 c.f7, .int .i64 0, .int .i64 0, .int .i64 c.f10, .int .i64 c.f11, .int .i64 c.f12, .int .i64 c.f13, .int .i64 c.f14, .int .i64 c.f15, .int .i64 c.f16, .int .i64 c.f17]
def Cfg.m (c:Cfg):List Value:=c.v++c.fr
theorem Small.ts {c:Cfg} (h:Small c):10≤c.threads * c.stride∧c.threads * c.stride≤16848:=by
  have h1:=h.t0;have h2:=h.t1;have h3:=h.cap
  unfold Cfg.stride
  exact ⟨Int.le_trans (show (10:Int)≤1 * (8+c.cap) by omega) (Int.mul_le_mul h1 (Int.le_refl _) (by omega) (by omega)),Int.le_trans (Int.mul_le_mul h2 (show 8+c.cap≤2106 by omega) (by omega) (by omega)) (by decide)⟩
def Cfg.cnt (c:Cfg) (kind:Int):Int×Int :=
  if kind=0∨kind=12∨kind=14 then (1,1) else
  if kind=1∨kind=3∨kind=4∨kind=5∨kind=7∨kind=8∨kind=9 then (c.threads,1) else
  if kind=2 then (c.threads,4) else
  if kind=6 then (c.threads,c.cap) else
  if kind=10 then (16,1) else
  if kind=11∨kind=13 then (c.blocks,1) else
  if kind=15 then (c.limit,1) else
  if kind=16 then (c.blocks,8) else (0,0)
theorem size_r (c:Cfg):RTri Tryz.prog 141 #[.agg ⟨c.m⟩] [] (.int .i64 c.f17):=by
  apply RTri.of_pure
  refine Tri.of_body (vs:=[_]) Tryz.func141 rfl rfl fun w0 F=>?_
  repeat' (first|refine Ga ?_|(refine Gb ?_;intro b)|(refine Gd ?_;intro g cap rest hcap)|(refine Gc ?_;intro ad cap) |(refine Ge ?_ ?_<;>(intro h;try (exfalso;omega)))|fail)
  (first|refine St.dn Tryz.func141 ⟨?_,rfl⟩ Ent.go|refine St.fl Tryz.func141 ⟨?_,rfl⟩ Ent.go)
  rfl
theorem cfg_r (c:Cfg):RTri Tryz.prog 110 #[.agg ⟨c.m⟩] [] (.agg ⟨c.v⟩):=by
  apply RTri.of_pure
  refine Tri.of_body (vs:=[_]) Tryz.func110 rfl rfl fun w0 F=>?_
  repeat' (first|refine Ga ?_|(refine Gb ?_;intro b)|(refine Gd ?_;intro g cap rest hcap)|(refine Gc ?_;intro ad cap) |(refine Ge ?_ ?_<;>(intro h;try (exfalso;omega)))|fail)
  (first|refine St.dn Tryz.func110 ⟨?_,rfl⟩ Ent.go|refine St.fl Tryz.func110 ⟨?_,rfl⟩ Ent.go)
  rfl
theorem counts_r (c:Cfg) (hc:Small c) (kind:Int):RTri Tryz.prog 143 #[.agg ⟨c.m⟩, .int .i64 kind] [] (.tuple ⟨[.int .i64 (c.cnt kind).1, .int .i64 (c.cnt kind).2]⟩):=by
  apply RTri.of_pure
  refine Tri.of_body (vs:=[_,_]) Tryz.func143 rfl rfl fun w0 F=>?_
  repeat' (first|refine Ga ?_|(refine Gb ?_;intro b)|(refine Gd ?_;intro g cap rest hcap)|(refine Gc ?_;intro ad cap)|(refine St.draw (id:=17) [(0,0),(1,0),(2,1),(3,1),(4,1),(5,0),(6,0)] [] mixed (by kernel_rfl) ?_)| refine Gl (cap_r c hc c.fr rfl) ?_|refine Gl (limit_r c hc c.fr) ?_|(refine Ge ?_ ?_<;>(intro h;try (exfalso;omega)))|fail)
  all_goals (first|refine St.dn Tryz.func143 ⟨?_,rfl⟩ Ent.go|refine St.fl Tryz.func143 ⟨?_,rfl⟩ Ent.go)
  all_goals simp [Cfg.cnt, *,resV]
def ownOf (kind:Int):Int:=if kind=1 then 0 else if kind=2 then 1 else if kind=3 then 5 else if kind=4 then 6 else if kind=5 then 7 else 8
theorem own_r (kind:Int):RTri Tryz.prog 142 #[.int .i64 kind] [] (.int .i64 (ownOf kind)):=by
  apply RTri.of_pure
  refine Tri.of_body (vs:=[_]) Tryz.func142 rfl rfl fun w0 F=>?_
  repeat' (first|refine Ga ?_|(refine Gb ?_;intro b)|(refine Gd ?_;intro g cap rest hcap)|(refine Gc ?_;intro ad cap) |(refine Ge ?_ ?_<;>(intro h;try (exfalso;omega)))|fail)
  all_goals (first|refine St.dn Tryz.func142 ⟨?_,rfl⟩ Ent.go|refine St.fl Tryz.func142 ⟨?_,rfl⟩ Ent.go)
  all_goals simp [ownOf, *,resV]
def Cfg.base (c:Cfg) (kind:Int):Int :=
  if kind=0 then 0 else if kind≤6 then 1+ownOf kind else if kind≤9 then c.f7+(kind - 7) else if kind=10 then c.f10 else if kind=11 then c.f11 else if kind=12 then c.f12 else
  if kind=13 then c.f13 else if kind=14 then c.f14 else if kind=15 then c.f15 else c.f16
def Cfg.stp (c:Cfg) (kind:Int):Int:=if 1≤kind∧kind≤6 then c.stride else if 7≤kind∧kind≤9 then 3 else (c.cnt kind).2
def Cfg.at (c:Cfg) (kind i k:Int):Int :=
  if 0≤i∧i<(c.cnt kind).1∧0≤k∧k<(c.cnt kind).2 then c.base kind+i * c.stp kind+k else -1
theorem Cfg.cnt_in {c:Cfg} {kind:Int} (h:0<(c.cnt kind).1):0≤kind∧kind≤16:=by
  unfold Cfg.cnt at h
  refine Decidable.by_contra fun hn=>?_
  repeat rw [if_neg (by omega)] at h
  simp at h
structure Nums (c:Cfg):Prop where
  f7:11≤c.f7∧c.f7≤16849
  f17:c.f17≤18051
theorem Small.nums {c:Cfg} (h:Small c):Nums c:=by
  have h1:=h.ts;have h2:=h.limit;have:=h.t0;have:=h.t1;have:=h.b0;have:=h.b1
  constructor<;>simp only [Cfg.f7,Cfg.f10,Cfg.f11,Cfg.f12,Cfg.f13,Cfg.f14,Cfg.f15,Cfg.f16,Cfg.f17]<;>omega
theorem Small.imul {c:Cfg} (h:Small c) (i:Int) (h0:0≤i) (h1:i<c.threads):0≤i * c.stride∧i * c.stride+c.stride≤c.threads * c.stride:=by
  have h2:=h.cap
  have hs:0≤c.stride:=by unfold Cfg.stride;omega
  refine ⟨Int.mul_nonneg h0 hs, ?_⟩
  have:(i+1) * c.stride≤c.threads * c.stride:=Int.mul_le_mul_of_nonneg_right (by omega) hs
  rw [Int.add_mul,Int.one_mul] at this
  exact this
theorem at0 (c:Cfg) (hc:Small c) (i k:Int):Tri Tryz.prog 79 #[.agg ⟨c.m⟩, .int .i64 0, .int .i64 i, .int .i64 k] [] fun v L=>v=.int .i64 (c.at 0 i k)∧L=[]:=by
  have hn:=hc.nums.f7;have hn2:=hc.nums.f17;have ht:=hc.ts
  have hcap:=hc.cap
  have:=hc.t0;have:=hc.t1;have:=hc.b0;have:=hc.b1;have:=hc.limit
  have hf7:c.f7=1+c.threads * c.stride:=rfl
  have hf10:c.f10=c.f7+c.threads * 3:=rfl
  have hf11:c.f11=c.f10+16:=rfl
  have hf12:c.f12=c.f11+c.blocks:=rfl
  have hf13:c.f13=c.f12+1:=rfl
  have hf14:c.f14=c.f13+c.blocks:=rfl
  have hf15:c.f15=c.f14+1:=rfl
  have hf16:c.f16=c.f15+c.limit:=rfl
  have hf17:c.f17=c.f16+c.blocks * 8:=rfl
  have hstr:c.stride=8+c.cap:=rfl
  have hi:=hc.imul i
  have e1:(c.cnt 0).1=1:=rfl
  have e2:(c.cnt 0).2=1:=rfl
  have e3:ownOf 0=8:=rfl
  have e4:c.base 0=0:=rfl
  have e5:c.stp 0=1:=rfl
  refine Tri.of_body (vs:=[_,_,_,_]) Tryz.func79 rfl rfl fun w0 F=>?_
  repeat' (first|refine Ga ?_|(refine Gb ?_;intro b)|(refine Gd ?_;intro g cap rest hcap)|(refine Gc ?_;intro ad cap)|refine Gl (counts_r c hc 0) ?_|refine Gl (stride_r c hc c.fr rfl) ?_|refine Gl (own_r 0) ?_|(refine Ge ?_ ?_<;>(intro h;try (exfalso;omega)))|fail)
  all_goals (first|refine St.dn Tryz.func79 ⟨?_,rfl⟩ Ent.go|refine St.fl Tryz.func79 ⟨?_,rfl⟩ Ent.go)
  all_goals refine congrArg (Value.int .i64) ?_
  all_goals first|(rw [Cfg.at,if_neg (by omega)];done)|(rw [Cfg.at,if_pos (by omega),e4,e5];omega)
theorem at1 (c:Cfg) (hc:Small c) (i k:Int):Tri Tryz.prog 79 #[.agg ⟨c.m⟩, .int .i64 1, .int .i64 i, .int .i64 k] [] fun v L=>v=.int .i64 (c.at 1 i k)∧L=[]:=by
  have hn:=hc.nums.f7;have hn2:=hc.nums.f17;have ht:=hc.ts
  have hcap:=hc.cap
  have:=hc.t0;have:=hc.t1;have:=hc.b0;have:=hc.b1;have:=hc.limit
  have hf7:c.f7=1+c.threads * c.stride:=rfl
  have hf10:c.f10=c.f7+c.threads * 3:=rfl
  have hf11:c.f11=c.f10+16:=rfl
  have hf12:c.f12=c.f11+c.blocks:=rfl
  have hf13:c.f13=c.f12+1:=rfl
  have hf14:c.f14=c.f13+c.blocks:=rfl
  have hf15:c.f15=c.f14+1:=rfl
  have hf16:c.f16=c.f15+c.limit:=rfl
  have hf17:c.f17=c.f16+c.blocks * 8:=rfl
  have hstr:c.stride=8+c.cap:=rfl
  have hi:=hc.imul i
  have e1:(c.cnt 1).1=c.threads:=rfl
  have e2:(c.cnt 1).2=1:=rfl
  have e3:ownOf 1=0:=rfl
  have e4:c.base 1=1+0:=rfl
  have e5:c.stp 1=c.stride:=rfl
  refine Tri.of_body (vs:=[_,_,_,_]) Tryz.func79 rfl rfl fun w0 F=>?_
  repeat' (first|refine Ga ?_|(refine Gb ?_;intro b)|(refine Gd ?_;intro g cap rest hcap)|(refine Gc ?_;intro ad cap)|refine Gl (counts_r c hc 1) ?_|refine Gl (stride_r c hc c.fr rfl) ?_|refine Gl (own_r 1) ?_|(refine Ge ?_ ?_<;>(intro h;try (exfalso;omega)))|fail)
  all_goals (first|refine St.dn Tryz.func79 ⟨?_,rfl⟩ Ent.go|refine St.fl Tryz.func79 ⟨?_,rfl⟩ Ent.go)
  all_goals refine congrArg (Value.int .i64) ?_
  all_goals first|(rw [Cfg.at,if_neg (by omega)];done)|(rw [Cfg.at,if_pos (by omega),e4,e5];omega)
theorem at2 (c:Cfg) (hc:Small c) (i k:Int):Tri Tryz.prog 79 #[.agg ⟨c.m⟩, .int .i64 2, .int .i64 i, .int .i64 k] [] fun v L=>v=.int .i64 (c.at 2 i k)∧L=[]:=by
  have hn:=hc.nums.f7;have hn2:=hc.nums.f17;have ht:=hc.ts
  have hcap:=hc.cap
  have:=hc.t0;have:=hc.t1;have:=hc.b0;have:=hc.b1;have:=hc.limit
  have hf7:c.f7=1+c.threads * c.stride:=rfl
  have hf10:c.f10=c.f7+c.threads * 3:=rfl
  have hf11:c.f11=c.f10+16:=rfl
  have hf12:c.f12=c.f11+c.blocks:=rfl
  have hf13:c.f13=c.f12+1:=rfl
  have hf14:c.f14=c.f13+c.blocks:=rfl
  have hf15:c.f15=c.f14+1:=rfl
  have hf16:c.f16=c.f15+c.limit:=rfl
  have hf17:c.f17=c.f16+c.blocks * 8:=rfl
  have hstr:c.stride=8+c.cap:=rfl
  have hi:=hc.imul i
  have e1:(c.cnt 2).1=c.threads:=rfl
  have e2:(c.cnt 2).2=4:=rfl
  have e3:ownOf 2=1:=rfl
  have e4:c.base 2=1+1:=rfl
  have e5:c.stp 2=c.stride:=rfl
  refine Tri.of_body (vs:=[_,_,_,_]) Tryz.func79 rfl rfl fun w0 F=>?_
  repeat' (first|refine Ga ?_|(refine Gb ?_;intro b)|(refine Gd ?_;intro g cap rest hcap)|(refine Gc ?_;intro ad cap)|refine Gl (counts_r c hc 2) ?_|refine Gl (stride_r c hc c.fr rfl) ?_|refine Gl (own_r 2) ?_|(refine Ge ?_ ?_<;>(intro h;try (exfalso;omega)))|fail)
  all_goals (first|refine St.dn Tryz.func79 ⟨?_,rfl⟩ Ent.go|refine St.fl Tryz.func79 ⟨?_,rfl⟩ Ent.go)
  all_goals refine congrArg (Value.int .i64) ?_
  all_goals first|(rw [Cfg.at,if_neg (by omega)];done)|(rw [Cfg.at,if_pos (by omega),e4,e5];omega)
theorem at3 (c:Cfg) (hc:Small c) (i k:Int):Tri Tryz.prog 79 #[.agg ⟨c.m⟩, .int .i64 3, .int .i64 i, .int .i64 k] [] fun v L=>v=.int .i64 (c.at 3 i k)∧L=[]:=by
  have hn:=hc.nums.f7;have hn2:=hc.nums.f17;have ht:=hc.ts
  have hcap:=hc.cap
  have:=hc.t0;have:=hc.t1;have:=hc.b0;have:=hc.b1;have:=hc.limit
  have hf7:c.f7=1+c.threads * c.stride:=rfl
  have hf10:c.f10=c.f7+c.threads * 3:=rfl
  have hf11:c.f11=c.f10+16:=rfl
  have hf12:c.f12=c.f11+c.blocks:=rfl
  have hf13:c.f13=c.f12+1:=rfl
  have hf14:c.f14=c.f13+c.blocks:=rfl
  have hf15:c.f15=c.f14+1:=rfl
  have hf16:c.f16=c.f15+c.limit:=rfl
  have hf17:c.f17=c.f16+c.blocks * 8:=rfl
  have hstr:c.stride=8+c.cap:=rfl
  have hi:=hc.imul i
  have e1:(c.cnt 3).1=c.threads:=rfl
  have e2:(c.cnt 3).2=1:=rfl
  have e3:ownOf 3=5:=rfl
  have e4:c.base 3=1+5:=rfl
  have e5:c.stp 3=c.stride:=rfl
  refine Tri.of_body (vs:=[_,_,_,_]) Tryz.func79 rfl rfl fun w0 F=>?_
  repeat' (first|refine Ga ?_|(refine Gb ?_;intro b)|(refine Gd ?_;intro g cap rest hcap)|(refine Gc ?_;intro ad cap)|refine Gl (counts_r c hc 3) ?_|refine Gl (stride_r c hc c.fr rfl) ?_|refine Gl (own_r 3) ?_|(refine Ge ?_ ?_<;>(intro h;try (exfalso;omega)))|fail)
  all_goals (first|refine St.dn Tryz.func79 ⟨?_,rfl⟩ Ent.go|refine St.fl Tryz.func79 ⟨?_,rfl⟩ Ent.go)
  all_goals refine congrArg (Value.int .i64) ?_
  all_goals first|(rw [Cfg.at,if_neg (by omega)];done)|(rw [Cfg.at,if_pos (by omega),e4,e5];omega)
theorem at4 (c:Cfg) (hc:Small c) (i k:Int):Tri Tryz.prog 79 #[.agg ⟨c.m⟩, .int .i64 4, .int .i64 i, .int .i64 k] [] fun v L=>v=.int .i64 (c.at 4 i k)∧L=[]:=by
  have hn:=hc.nums.f7;have hn2:=hc.nums.f17;have ht:=hc.ts
  have hcap:=hc.cap
  have:=hc.t0;have:=hc.t1;have:=hc.b0;have:=hc.b1;have:=hc.limit
  have hf7:c.f7=1+c.threads * c.stride:=rfl
  have hf10:c.f10=c.f7+c.threads * 3:=rfl
  have hf11:c.f11=c.f10+16:=rfl
  have hf12:c.f12=c.f11+c.blocks:=rfl
  have hf13:c.f13=c.f12+1:=rfl
  have hf14:c.f14=c.f13+c.blocks:=rfl
  have hf15:c.f15=c.f14+1:=rfl
  have hf16:c.f16=c.f15+c.limit:=rfl
  have hf17:c.f17=c.f16+c.blocks * 8:=rfl
  have hstr:c.stride=8+c.cap:=rfl
  have hi:=hc.imul i
  have e1:(c.cnt 4).1=c.threads:=rfl
  have e2:(c.cnt 4).2=1:=rfl
  have e3:ownOf 4=6:=rfl
  have e4:c.base 4=1+6:=rfl
  have e5:c.stp 4=c.stride:=rfl
  refine Tri.of_body (vs:=[_,_,_,_]) Tryz.func79 rfl rfl fun w0 F=>?_
  repeat' (first|refine Ga ?_|(refine Gb ?_;intro b)|(refine Gd ?_;intro g cap rest hcap)|(refine Gc ?_;intro ad cap)|refine Gl (counts_r c hc 4) ?_|refine Gl (stride_r c hc c.fr rfl) ?_|refine Gl (own_r 4) ?_|(refine Ge ?_ ?_<;>(intro h;try (exfalso;omega)))|fail)
  all_goals (first|refine St.dn Tryz.func79 ⟨?_,rfl⟩ Ent.go|refine St.fl Tryz.func79 ⟨?_,rfl⟩ Ent.go)
  all_goals refine congrArg (Value.int .i64) ?_
  all_goals first|(rw [Cfg.at,if_neg (by omega)];done)|(rw [Cfg.at,if_pos (by omega),e4,e5];omega)
theorem at5 (c:Cfg) (hc:Small c) (i k:Int):Tri Tryz.prog 79 #[.agg ⟨c.m⟩, .int .i64 5, .int .i64 i, .int .i64 k] [] fun v L=>v=.int .i64 (c.at 5 i k)∧L=[]:=by
  have hn:=hc.nums.f7;have hn2:=hc.nums.f17;have ht:=hc.ts
  have hcap:=hc.cap
  have:=hc.t0;have:=hc.t1;have:=hc.b0;have:=hc.b1;have:=hc.limit
  have hf7:c.f7=1+c.threads * c.stride:=rfl
  have hf10:c.f10=c.f7+c.threads * 3:=rfl
  have hf11:c.f11=c.f10+16:=rfl
  have hf12:c.f12=c.f11+c.blocks:=rfl
  have hf13:c.f13=c.f12+1:=rfl
  have hf14:c.f14=c.f13+c.blocks:=rfl
  have hf15:c.f15=c.f14+1:=rfl
  have hf16:c.f16=c.f15+c.limit:=rfl
  have hf17:c.f17=c.f16+c.blocks * 8:=rfl
  have hstr:c.stride=8+c.cap:=rfl
  have hi:=hc.imul i
  have e1:(c.cnt 5).1=c.threads:=rfl
  have e2:(c.cnt 5).2=1:=rfl
  have e3:ownOf 5=7:=rfl
  have e4:c.base 5=1+7:=rfl
  have e5:c.stp 5=c.stride:=rfl
  refine Tri.of_body (vs:=[_,_,_,_]) Tryz.func79 rfl rfl fun w0 F=>?_
  repeat' (first|refine Ga ?_|(refine Gb ?_;intro b)|(refine Gd ?_;intro g cap rest hcap)|(refine Gc ?_;intro ad cap)|refine Gl (counts_r c hc 5) ?_|refine Gl (stride_r c hc c.fr rfl) ?_|refine Gl (own_r 5) ?_|(refine Ge ?_ ?_<;>(intro h;try (exfalso;omega)))|fail)
  all_goals (first|refine St.dn Tryz.func79 ⟨?_,rfl⟩ Ent.go|refine St.fl Tryz.func79 ⟨?_,rfl⟩ Ent.go)
  all_goals refine congrArg (Value.int .i64) ?_
  all_goals first|(rw [Cfg.at,if_neg (by omega)];done)|(rw [Cfg.at,if_pos (by omega),e4,e5];omega)
theorem at6 (c:Cfg) (hc:Small c) (i k:Int):Tri Tryz.prog 79 #[.agg ⟨c.m⟩, .int .i64 6, .int .i64 i, .int .i64 k] [] fun v L=>v=.int .i64 (c.at 6 i k)∧L=[]:=by
  have hn:=hc.nums.f7;have hn2:=hc.nums.f17;have ht:=hc.ts
  have hcap:=hc.cap
  have:=hc.t0;have:=hc.t1;have:=hc.b0;have:=hc.b1;have:=hc.limit
  have hf7:c.f7=1+c.threads * c.stride:=rfl
  have hf10:c.f10=c.f7+c.threads * 3:=rfl
  have hf11:c.f11=c.f10+16:=rfl
  have hf12:c.f12=c.f11+c.blocks:=rfl
  have hf13:c.f13=c.f12+1:=rfl
  have hf14:c.f14=c.f13+c.blocks:=rfl
  have hf15:c.f15=c.f14+1:=rfl
  have hf16:c.f16=c.f15+c.limit:=rfl
  have hf17:c.f17=c.f16+c.blocks * 8:=rfl
  have hstr:c.stride=8+c.cap:=rfl
  have hi:=hc.imul i
  have e1:(c.cnt 6).1=c.threads:=rfl
  have e2:(c.cnt 6).2=c.cap:=rfl
  have e3:ownOf 6=8:=rfl
  have e4:c.base 6=1+8:=rfl
  have e5:c.stp 6=c.stride:=rfl
  refine Tri.of_body (vs:=[_,_,_,_]) Tryz.func79 rfl rfl fun w0 F=>?_
  repeat' (first|refine Ga ?_|(refine Gb ?_;intro b)|(refine Gd ?_;intro g cap rest hcap)|(refine Gc ?_;intro ad cap)|refine Gl (counts_r c hc 6) ?_|refine Gl (stride_r c hc c.fr rfl) ?_|refine Gl (own_r 6) ?_|(refine Ge ?_ ?_<;>(intro h;try (exfalso;omega)))|fail)
  all_goals (first|refine St.dn Tryz.func79 ⟨?_,rfl⟩ Ent.go|refine St.fl Tryz.func79 ⟨?_,rfl⟩ Ent.go)
  all_goals refine congrArg (Value.int .i64) ?_
  all_goals first|(rw [Cfg.at,if_neg (by omega)];done)|(rw [Cfg.at,if_pos (by omega),e4,e5];omega)
theorem at7 (c:Cfg) (hc:Small c) (i k:Int):Tri Tryz.prog 79 #[.agg ⟨c.m⟩, .int .i64 7, .int .i64 i, .int .i64 k] [] fun v L=>v=.int .i64 (c.at 7 i k)∧L=[]:=by
  have hn:=hc.nums.f7;have hn2:=hc.nums.f17;have ht:=hc.ts
  have hcap:=hc.cap
  have:=hc.t0;have:=hc.t1;have:=hc.b0;have:=hc.b1;have:=hc.limit
  have hf7:c.f7=1+c.threads * c.stride:=rfl
  have hf10:c.f10=c.f7+c.threads * 3:=rfl
  have hf11:c.f11=c.f10+16:=rfl
  have hf12:c.f12=c.f11+c.blocks:=rfl
  have hf13:c.f13=c.f12+1:=rfl
  have hf14:c.f14=c.f13+c.blocks:=rfl
  have hf15:c.f15=c.f14+1:=rfl
  have hf16:c.f16=c.f15+c.limit:=rfl
  have hf17:c.f17=c.f16+c.blocks * 8:=rfl
  have hstr:c.stride=8+c.cap:=rfl
  have hi:=hc.imul i
  have e1:(c.cnt 7).1=c.threads:=rfl
  have e2:(c.cnt 7).2=1:=rfl
  have e3:ownOf 7=8:=rfl
  have e4:c.base 7=c.f7+(7 - 7):=rfl
  have e5:c.stp 7=3:=rfl
  refine Tri.of_body (vs:=[_,_,_,_]) Tryz.func79 rfl rfl fun w0 F=>?_
  repeat' (first|refine Ga ?_|(refine Gb ?_;intro b)|(refine Gd ?_;intro g cap rest hcap)|(refine Gc ?_;intro ad cap)|refine Gl (counts_r c hc 7) ?_|refine Gl (stride_r c hc c.fr rfl) ?_|refine Gl (own_r 7) ?_|(refine Ge ?_ ?_<;>(intro h;try (exfalso;omega)))|fail)
  all_goals (first|refine St.dn Tryz.func79 ⟨?_,rfl⟩ Ent.go|refine St.fl Tryz.func79 ⟨?_,rfl⟩ Ent.go)
  all_goals refine congrArg (Value.int .i64) ?_
  all_goals first|(rw [Cfg.at,if_neg (by omega)];done)|(rw [Cfg.at,if_pos (by omega),e4,e5];omega)
theorem at8 (c:Cfg) (hc:Small c) (i k:Int):Tri Tryz.prog 79 #[.agg ⟨c.m⟩, .int .i64 8, .int .i64 i, .int .i64 k] [] fun v L=>v=.int .i64 (c.at 8 i k)∧L=[]:=by
  have hn:=hc.nums.f7;have hn2:=hc.nums.f17;have ht:=hc.ts
  have hcap:=hc.cap
  have:=hc.t0;have:=hc.t1;have:=hc.b0;have:=hc.b1;have:=hc.limit
  have hf7:c.f7=1+c.threads * c.stride:=rfl
  have hf10:c.f10=c.f7+c.threads * 3:=rfl
  have hf11:c.f11=c.f10+16:=rfl
  have hf12:c.f12=c.f11+c.blocks:=rfl
  have hf13:c.f13=c.f12+1:=rfl
  have hf14:c.f14=c.f13+c.blocks:=rfl
  have hf15:c.f15=c.f14+1:=rfl
  have hf16:c.f16=c.f15+c.limit:=rfl
  have hf17:c.f17=c.f16+c.blocks * 8:=rfl
  have hstr:c.stride=8+c.cap:=rfl
  have hi:=hc.imul i
  have e1:(c.cnt 8).1=c.threads:=rfl
  have e2:(c.cnt 8).2=1:=rfl
  have e3:ownOf 8=8:=rfl
  have e4:c.base 8=c.f7+(8 - 7):=rfl
  have e5:c.stp 8=3:=rfl
  refine Tri.of_body (vs:=[_,_,_,_]) Tryz.func79 rfl rfl fun w0 F=>?_
  repeat' (first|refine Ga ?_|(refine Gb ?_;intro b)|(refine Gd ?_;intro g cap rest hcap)|(refine Gc ?_;intro ad cap)|refine Gl (counts_r c hc 8) ?_|refine Gl (stride_r c hc c.fr rfl) ?_|refine Gl (own_r 8) ?_|(refine Ge ?_ ?_<;>(intro h;try (exfalso;omega)))|fail)
  all_goals (first|refine St.dn Tryz.func79 ⟨?_,rfl⟩ Ent.go|refine St.fl Tryz.func79 ⟨?_,rfl⟩ Ent.go)
  all_goals refine congrArg (Value.int .i64) ?_
  all_goals first|(rw [Cfg.at,if_neg (by omega)];done)|(rw [Cfg.at,if_pos (by omega),e4,e5];omega)
theorem at9 (c:Cfg) (hc:Small c) (i k:Int):Tri Tryz.prog 79 #[.agg ⟨c.m⟩, .int .i64 9, .int .i64 i, .int .i64 k] [] fun v L=>v=.int .i64 (c.at 9 i k)∧L=[]:=by
  have hn:=hc.nums.f7;have hn2:=hc.nums.f17;have ht:=hc.ts
  have hcap:=hc.cap
  have:=hc.t0;have:=hc.t1;have:=hc.b0;have:=hc.b1;have:=hc.limit
  have hf7:c.f7=1+c.threads * c.stride:=rfl
  have hf10:c.f10=c.f7+c.threads * 3:=rfl
  have hf11:c.f11=c.f10+16:=rfl
  have hf12:c.f12=c.f11+c.blocks:=rfl
  have hf13:c.f13=c.f12+1:=rfl
  have hf14:c.f14=c.f13+c.blocks:=rfl
  have hf15:c.f15=c.f14+1:=rfl
  have hf16:c.f16=c.f15+c.limit:=rfl
  have hf17:c.f17=c.f16+c.blocks * 8:=rfl
  have hstr:c.stride=8+c.cap:=rfl
  have hi:=hc.imul i
  have e1:(c.cnt 9).1=c.threads:=rfl
  have e2:(c.cnt 9).2=1:=rfl
  have e3:ownOf 9=8:=rfl
  have e4:c.base 9=c.f7+(9 - 7):=rfl
  have e5:c.stp 9=3:=rfl
  refine Tri.of_body (vs:=[_,_,_,_]) Tryz.func79 rfl rfl fun w0 F=>?_
  repeat' (first|refine Ga ?_|(refine Gb ?_;intro b)|(refine Gd ?_;intro g cap rest hcap)|(refine Gc ?_;intro ad cap)|refine Gl (counts_r c hc 9) ?_|refine Gl (stride_r c hc c.fr rfl) ?_|refine Gl (own_r 9) ?_|(refine Ge ?_ ?_<;>(intro h;try (exfalso;omega)))|fail)
  all_goals (first|refine St.dn Tryz.func79 ⟨?_,rfl⟩ Ent.go|refine St.fl Tryz.func79 ⟨?_,rfl⟩ Ent.go)
  all_goals refine congrArg (Value.int .i64) ?_
  all_goals first|(rw [Cfg.at,if_neg (by omega)];done)|(rw [Cfg.at,if_pos (by omega),e4,e5];omega)
theorem at10 (c:Cfg) (hc:Small c) (i k:Int):Tri Tryz.prog 79 #[.agg ⟨c.m⟩, .int .i64 10, .int .i64 i, .int .i64 k] [] fun v L=>v=.int .i64 (c.at 10 i k)∧L=[]:=by
  have hn:=hc.nums.f7;have hn2:=hc.nums.f17;have ht:=hc.ts
  have hcap:=hc.cap
  have:=hc.t0;have:=hc.t1;have:=hc.b0;have:=hc.b1;have:=hc.limit
  have hf7:c.f7=1+c.threads * c.stride:=rfl
  have hf10:c.f10=c.f7+c.threads * 3:=rfl
  have hf11:c.f11=c.f10+16:=rfl
  have hf12:c.f12=c.f11+c.blocks:=rfl
  have hf13:c.f13=c.f12+1:=rfl
  have hf14:c.f14=c.f13+c.blocks:=rfl
  have hf15:c.f15=c.f14+1:=rfl
  have hf16:c.f16=c.f15+c.limit:=rfl
  have hf17:c.f17=c.f16+c.blocks * 8:=rfl
  have hstr:c.stride=8+c.cap:=rfl
  have hi:=hc.imul i
  have e1:(c.cnt 10).1=16:=rfl
  have e2:(c.cnt 10).2=1:=rfl
  have e3:i * (c.cnt 10).2=i * 1:=by rw [e2]
  have e4:c.base 10=c.f10:=rfl
  have e5:c.stp 10=1:=rfl
  refine Tri.of_body (vs:=[_,_,_,_]) Tryz.func79 rfl rfl fun w0 F=>?_
  repeat' (first|refine Ga ?_|(refine Gb ?_;intro b)|(refine Gd ?_;intro g cap rest hcap)|(refine Gc ?_;intro ad cap)|refine Gl (counts_r c hc 10) ?_|refine Gl (stride_r c hc c.fr rfl) ?_|refine Gl (own_r 10) ?_|(refine Ge ?_ ?_<;>(intro h;try (exfalso;omega)))|fail)
  all_goals (first|refine St.dn Tryz.func79 ⟨?_,rfl⟩ Ent.go|refine St.fl Tryz.func79 ⟨?_,rfl⟩ Ent.go)
  all_goals refine congrArg (Value.int .i64) ?_
  all_goals first|(rw [Cfg.at,if_neg (by omega)];done)|(rw [Cfg.at,if_pos (by omega),e4,e5];omega)
theorem at11 (c:Cfg) (hc:Small c) (i k:Int):Tri Tryz.prog 79 #[.agg ⟨c.m⟩, .int .i64 11, .int .i64 i, .int .i64 k] [] fun v L=>v=.int .i64 (c.at 11 i k)∧L=[]:=by
  have hn:=hc.nums.f7;have hn2:=hc.nums.f17;have ht:=hc.ts
  have hcap:=hc.cap
  have:=hc.t0;have:=hc.t1;have:=hc.b0;have:=hc.b1;have:=hc.limit
  have hf7:c.f7=1+c.threads * c.stride:=rfl
  have hf10:c.f10=c.f7+c.threads * 3:=rfl
  have hf11:c.f11=c.f10+16:=rfl
  have hf12:c.f12=c.f11+c.blocks:=rfl
  have hf13:c.f13=c.f12+1:=rfl
  have hf14:c.f14=c.f13+c.blocks:=rfl
  have hf15:c.f15=c.f14+1:=rfl
  have hf16:c.f16=c.f15+c.limit:=rfl
  have hf17:c.f17=c.f16+c.blocks * 8:=rfl
  have hstr:c.stride=8+c.cap:=rfl
  have hi:=hc.imul i
  have e1:(c.cnt 11).1=c.blocks:=rfl
  have e2:(c.cnt 11).2=1:=rfl
  have e3:i * (c.cnt 11).2=i * 1:=by rw [e2]
  have e4:c.base 11=c.f11:=rfl
  have e5:c.stp 11=1:=rfl
  refine Tri.of_body (vs:=[_,_,_,_]) Tryz.func79 rfl rfl fun w0 F=>?_
  repeat' (first|refine Ga ?_|(refine Gb ?_;intro b)|(refine Gd ?_;intro g cap rest hcap)|(refine Gc ?_;intro ad cap)|refine Gl (counts_r c hc 11) ?_|refine Gl (stride_r c hc c.fr rfl) ?_|refine Gl (own_r 11) ?_|(refine Ge ?_ ?_<;>(intro h;try (exfalso;omega)))|fail)
  all_goals (first|refine St.dn Tryz.func79 ⟨?_,rfl⟩ Ent.go|refine St.fl Tryz.func79 ⟨?_,rfl⟩ Ent.go)
  all_goals refine congrArg (Value.int .i64) ?_
  all_goals first|(rw [Cfg.at,if_neg (by omega)];done)|(rw [Cfg.at,if_pos (by omega),e4,e5];omega)
theorem at12 (c:Cfg) (hc:Small c) (i k:Int):Tri Tryz.prog 79 #[.agg ⟨c.m⟩, .int .i64 12, .int .i64 i, .int .i64 k] [] fun v L=>v=.int .i64 (c.at 12 i k)∧L=[]:=by
  have hn:=hc.nums.f7;have hn2:=hc.nums.f17;have ht:=hc.ts
  have hcap:=hc.cap
  have:=hc.t0;have:=hc.t1;have:=hc.b0;have:=hc.b1;have:=hc.limit
  have hf7:c.f7=1+c.threads * c.stride:=rfl
  have hf10:c.f10=c.f7+c.threads * 3:=rfl
  have hf11:c.f11=c.f10+16:=rfl
  have hf12:c.f12=c.f11+c.blocks:=rfl
  have hf13:c.f13=c.f12+1:=rfl
  have hf14:c.f14=c.f13+c.blocks:=rfl
  have hf15:c.f15=c.f14+1:=rfl
  have hf16:c.f16=c.f15+c.limit:=rfl
  have hf17:c.f17=c.f16+c.blocks * 8:=rfl
  have hstr:c.stride=8+c.cap:=rfl
  have hi:=hc.imul i
  have e1:(c.cnt 12).1=1:=rfl
  have e2:(c.cnt 12).2=1:=rfl
  have e3:i * (c.cnt 12).2=i * 1:=by rw [e2]
  have e4:c.base 12=c.f12:=rfl
  have e5:c.stp 12=1:=rfl
  refine Tri.of_body (vs:=[_,_,_,_]) Tryz.func79 rfl rfl fun w0 F=>?_
  repeat' (first|refine Ga ?_|(refine Gb ?_;intro b)|(refine Gd ?_;intro g cap rest hcap)|(refine Gc ?_;intro ad cap)|refine Gl (counts_r c hc 12) ?_|refine Gl (stride_r c hc c.fr rfl) ?_|refine Gl (own_r 12) ?_|(refine Ge ?_ ?_<;>(intro h;try (exfalso;omega)))|fail)
  all_goals (first|refine St.dn Tryz.func79 ⟨?_,rfl⟩ Ent.go|refine St.fl Tryz.func79 ⟨?_,rfl⟩ Ent.go)
  all_goals refine congrArg (Value.int .i64) ?_
  all_goals first|(rw [Cfg.at,if_neg (by omega)];done)|(rw [Cfg.at,if_pos (by omega),e4,e5];omega)
theorem at13 (c:Cfg) (hc:Small c) (i k:Int):Tri Tryz.prog 79 #[.agg ⟨c.m⟩, .int .i64 13, .int .i64 i, .int .i64 k] [] fun v L=>v=.int .i64 (c.at 13 i k)∧L=[]:=by
  have hn:=hc.nums.f7;have hn2:=hc.nums.f17;have ht:=hc.ts
  have hcap:=hc.cap
  have:=hc.t0;have:=hc.t1;have:=hc.b0;have:=hc.b1;have:=hc.limit
  have hf7:c.f7=1+c.threads * c.stride:=rfl
  have hf10:c.f10=c.f7+c.threads * 3:=rfl
  have hf11:c.f11=c.f10+16:=rfl
  have hf12:c.f12=c.f11+c.blocks:=rfl
  have hf13:c.f13=c.f12+1:=rfl
  have hf14:c.f14=c.f13+c.blocks:=rfl
  have hf15:c.f15=c.f14+1:=rfl
  have hf16:c.f16=c.f15+c.limit:=rfl
  have hf17:c.f17=c.f16+c.blocks * 8:=rfl
  have hstr:c.stride=8+c.cap:=rfl
  have hi:=hc.imul i
  have e1:(c.cnt 13).1=c.blocks:=rfl
  have e2:(c.cnt 13).2=1:=rfl
  have e3:i * (c.cnt 13).2=i * 1:=by rw [e2]
  have e4:c.base 13=c.f13:=rfl
  have e5:c.stp 13=1:=rfl
  refine Tri.of_body (vs:=[_,_,_,_]) Tryz.func79 rfl rfl fun w0 F=>?_
  repeat' (first|refine Ga ?_|(refine Gb ?_;intro b)|(refine Gd ?_;intro g cap rest hcap)|(refine Gc ?_;intro ad cap)|refine Gl (counts_r c hc 13) ?_|refine Gl (stride_r c hc c.fr rfl) ?_|refine Gl (own_r 13) ?_|(refine Ge ?_ ?_<;>(intro h;try (exfalso;omega)))|fail)
  all_goals (first|refine St.dn Tryz.func79 ⟨?_,rfl⟩ Ent.go|refine St.fl Tryz.func79 ⟨?_,rfl⟩ Ent.go)
  all_goals refine congrArg (Value.int .i64) ?_
  all_goals first|(rw [Cfg.at,if_neg (by omega)];done)|(rw [Cfg.at,if_pos (by omega),e4,e5];omega)
theorem at14 (c:Cfg) (hc:Small c) (i k:Int):Tri Tryz.prog 79 #[.agg ⟨c.m⟩, .int .i64 14, .int .i64 i, .int .i64 k] [] fun v L=>v=.int .i64 (c.at 14 i k)∧L=[]:=by
  have hn:=hc.nums.f7;have hn2:=hc.nums.f17;have ht:=hc.ts
  have hcap:=hc.cap
  have:=hc.t0;have:=hc.t1;have:=hc.b0;have:=hc.b1;have:=hc.limit
  have hf7:c.f7=1+c.threads * c.stride:=rfl
  have hf10:c.f10=c.f7+c.threads * 3:=rfl
  have hf11:c.f11=c.f10+16:=rfl
  have hf12:c.f12=c.f11+c.blocks:=rfl
  have hf13:c.f13=c.f12+1:=rfl
  have hf14:c.f14=c.f13+c.blocks:=rfl
  have hf15:c.f15=c.f14+1:=rfl
  have hf16:c.f16=c.f15+c.limit:=rfl
  have hf17:c.f17=c.f16+c.blocks * 8:=rfl
  have hstr:c.stride=8+c.cap:=rfl
  have hi:=hc.imul i
  have e1:(c.cnt 14).1=1:=rfl
  have e2:(c.cnt 14).2=1:=rfl
  have e3:i * (c.cnt 14).2=i * 1:=by rw [e2]
  have e4:c.base 14=c.f14:=rfl
  have e5:c.stp 14=1:=rfl
  refine Tri.of_body (vs:=[_,_,_,_]) Tryz.func79 rfl rfl fun w0 F=>?_
  repeat' (first|refine Ga ?_|(refine Gb ?_;intro b)|(refine Gd ?_;intro g cap rest hcap)|(refine Gc ?_;intro ad cap)|refine Gl (counts_r c hc 14) ?_|refine Gl (stride_r c hc c.fr rfl) ?_|refine Gl (own_r 14) ?_|(refine Ge ?_ ?_<;>(intro h;try (exfalso;omega)))|fail)
  all_goals (first|refine St.dn Tryz.func79 ⟨?_,rfl⟩ Ent.go|refine St.fl Tryz.func79 ⟨?_,rfl⟩ Ent.go)
  all_goals refine congrArg (Value.int .i64) ?_
  all_goals first|(rw [Cfg.at,if_neg (by omega)];done)|(rw [Cfg.at,if_pos (by omega),e4,e5];omega)
theorem at15 (c:Cfg) (hc:Small c) (i k:Int):Tri Tryz.prog 79 #[.agg ⟨c.m⟩, .int .i64 15, .int .i64 i, .int .i64 k] [] fun v L=>v=.int .i64 (c.at 15 i k)∧L=[]:=by
  have hn:=hc.nums.f7;have hn2:=hc.nums.f17;have ht:=hc.ts
  have hcap:=hc.cap
  have:=hc.t0;have:=hc.t1;have:=hc.b0;have:=hc.b1;have:=hc.limit
  have hf7:c.f7=1+c.threads * c.stride:=rfl
  have hf10:c.f10=c.f7+c.threads * 3:=rfl
  have hf11:c.f11=c.f10+16:=rfl
  have hf12:c.f12=c.f11+c.blocks:=rfl
  have hf13:c.f13=c.f12+1:=rfl
  have hf14:c.f14=c.f13+c.blocks:=rfl
  have hf15:c.f15=c.f14+1:=rfl
  have hf16:c.f16=c.f15+c.limit:=rfl
  have hf17:c.f17=c.f16+c.blocks * 8:=rfl
  have hstr:c.stride=8+c.cap:=rfl
  have hi:=hc.imul i
  have e1:(c.cnt 15).1=c.limit:=rfl
  have e2:(c.cnt 15).2=1:=rfl
  have e3:i * (c.cnt 15).2=i * 1:=by rw [e2]
  have e4:c.base 15=c.f15:=rfl
  have e5:c.stp 15=1:=rfl
  refine Tri.of_body (vs:=[_,_,_,_]) Tryz.func79 rfl rfl fun w0 F=>?_
  repeat' (first|refine Ga ?_|(refine Gb ?_;intro b)|(refine Gd ?_;intro g cap rest hcap)|(refine Gc ?_;intro ad cap)|refine Gl (counts_r c hc 15) ?_|refine Gl (stride_r c hc c.fr rfl) ?_|refine Gl (own_r 15) ?_|(refine Ge ?_ ?_<;>(intro h;try (exfalso;omega)))|fail)
  all_goals (first|refine St.dn Tryz.func79 ⟨?_,rfl⟩ Ent.go|refine St.fl Tryz.func79 ⟨?_,rfl⟩ Ent.go)
  all_goals refine congrArg (Value.int .i64) ?_
  all_goals first|(rw [Cfg.at,if_neg (by omega)];done)|(rw [Cfg.at,if_pos (by omega),e4,e5];omega)
theorem at16 (c:Cfg) (hc:Small c) (i k:Int):Tri Tryz.prog 79 #[.agg ⟨c.m⟩, .int .i64 16, .int .i64 i, .int .i64 k] [] fun v L=>v=.int .i64 (c.at 16 i k)∧L=[]:=by
  have hn:=hc.nums.f7;have hn2:=hc.nums.f17;have ht:=hc.ts
  have hcap:=hc.cap
  have:=hc.t0;have:=hc.t1;have:=hc.b0;have:=hc.b1;have:=hc.limit
  have hf7:c.f7=1+c.threads * c.stride:=rfl
  have hf10:c.f10=c.f7+c.threads * 3:=rfl
  have hf11:c.f11=c.f10+16:=rfl
  have hf12:c.f12=c.f11+c.blocks:=rfl
  have hf13:c.f13=c.f12+1:=rfl
  have hf14:c.f14=c.f13+c.blocks:=rfl
  have hf15:c.f15=c.f14+1:=rfl
  have hf16:c.f16=c.f15+c.limit:=rfl
  have hf17:c.f17=c.f16+c.blocks * 8:=rfl
  have hstr:c.stride=8+c.cap:=rfl
  have hi:=hc.imul i
  have e1:(c.cnt 16).1=c.blocks:=rfl
  have e2:(c.cnt 16).2=8:=rfl
  have e3:i * (c.cnt 16).2=i * 8:=by rw [e2]
  have e4:c.base 16=c.f16:=rfl
  have e5:c.stp 16=8:=rfl
  refine Tri.of_body (vs:=[_,_,_,_]) Tryz.func79 rfl rfl fun w0 F=>?_
  repeat' (first|refine Ga ?_|(refine Gb ?_;intro b)|(refine Gd ?_;intro g cap rest hcap)|(refine Gc ?_;intro ad cap)|refine Gl (counts_r c hc 16) ?_|refine Gl (stride_r c hc c.fr rfl) ?_|refine Gl (own_r 16) ?_|(refine Ge ?_ ?_<;>(intro h;try (exfalso;omega)))|fail)
  all_goals (first|refine St.dn Tryz.func79 ⟨?_,rfl⟩ Ent.go|refine St.fl Tryz.func79 ⟨?_,rfl⟩ Ent.go)
  all_goals refine congrArg (Value.int .i64) ?_
  all_goals first|(rw [Cfg.at,if_neg (by omega)];done)|(rw [Cfg.at,if_pos (by omega),e4,e5];omega)
theorem at_r (c:Cfg) (hc:Small c) (kind i k:Int):RTri Tryz.prog 79 #[.agg ⟨c.m⟩, .int .i64 kind, .int .i64 i, .int .i64 k] [] (.int .i64 (c.at kind i k)):=by
  apply RTri.of_pure
  by_cases hk:0≤kind∧kind≤16
  · have h17:kind=0∨kind=1∨kind=2∨kind=3∨kind=4∨kind=5∨kind=6∨kind=7∨kind=8∨kind=9∨kind=10∨kind=11∨kind=12∨kind=13∨kind=14∨kind=15∨kind=16:=by omega
    rcases h17 with rfl|rfl|rfl|rfl|rfl|rfl|rfl|rfl|rfl|rfl|rfl|rfl|rfl|rfl|rfl|rfl|rfl
    · exact at0 c hc i k
    · exact at1 c hc i k
    · exact at2 c hc i k
    · exact at3 c hc i k
    · exact at4 c hc i k
    · exact at5 c hc i k
    · exact at6 c hc i k
    · exact at7 c hc i k
    · exact at8 c hc i k
    · exact at9 c hc i k
    · exact at10 c hc i k
    · exact at11 c hc i k
    · exact at12 c hc i k
    · exact at13 c hc i k
    · exact at14 c hc i k
    · exact at15 c hc i k
    · exact at16 c hc i k
  · have e1:¬ 0<(c.cnt kind).1:=fun h=>hk (Cfg.cnt_in h)
    refine Tri.of_body (vs:=[_,_,_,_]) Tryz.func79 rfl rfl fun w0 F=>?_
    repeat' (first|refine Ga ?_|(refine Gb ?_;intro b)|(refine Gd ?_;intro g cap rest hcap)|(refine Gc ?_;intro ad cap)|refine Gl (counts_r c hc kind) ?_|(refine Ge ?_ ?_<;>(intro h;try (exfalso;omega)))|fail)
    all_goals (first|refine St.dn Tryz.func79 ⟨?_,rfl⟩ Ent.go|refine St.fl Tryz.func79 ⟨?_,rfl⟩ Ent.go)
    all_goals refine congrArg (Value.int .i64) ?_
    all_goals (rw [Cfg.at,if_neg (by omega)])
end Go.Proofs.YthmbgodcpgkkeaaGreat
