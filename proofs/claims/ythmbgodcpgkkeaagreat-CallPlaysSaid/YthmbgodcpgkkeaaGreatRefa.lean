/-
  Package tumblerref07: the document's numbers are the program's.
-/
import Derived.Test.YthmbgodcpgkkeaaGreatIns
set_option maxRecDepth 100000
namespace Go.Proofs.YthmbgodcpgkkeaaGreat
theorem Small.tw {c:Cfg}(h:Small c):0≤c.threads * c.writes∧c.threads * c.writes≤512∧c.threads * c.writes+c.threads=c.limit:=by
 have h1:=h.t0;have h2:=h.t1;have h3:=h.w0;have h4:=h.w1;refine ⟨Int.mul_nonneg (by omega) (by omega),Int.le_trans (Int.mul_le_mul h2 h4 (by omega) (by omega)) (by decide), ?_⟩;unfold Cfg.limit;rw [Int.mul_add,Int.mul_one]
theorem rlimit_r (c:Cfg)(hc:Small c):RTri Tryz.prog 109 #[.agg ⟨c.v⟩] [] (.int .i64 c.limit):=by
 have:=hc.t0;have:=hc.t1;have:=hc.w0;have:=hc.w1;have hl:=hc.tw;apply RTri.of_pure
 refine TB (vs:=[_]) Tryz.func109 fun w0 F=>?_
 repeat' (first|refine Ga ?_|(refine Gb ?_;intro b)|fail)
 refine St.dn Tryz.func109 ⟨?_,rfl⟩ Ent.go;exact congrArg (Value.int .i64) hl.2.2
theorem rcap_r (c:Cfg)(hc:Small c):RTri Tryz.prog 125 #[.agg ⟨c.v⟩] [] (.int .i64 c.cap):=by
 have:=hc.t0;have:=hc.t1;have:=hc.w0;have:=hc.w1;have hl:=hc.limit;have h3:=hc.tw3;apply RTri.of_pure
 refine TB (vs:=[_]) Tryz.func125 fun w0 F=>?_
 repeat' (first|refine Ga ?_|(refine Gb ?_;intro b)|(refine Dr 1 [(0,0),(1,1),(2,0),(3,1),(4,0),(5,0),(6,1),(7,1),(8,0),(9,0),(10,0),(11,0)] [] ?_)|refine Gl (rlimit_r c hc) ?_|fail)
 refine St.dn Tryz.func125 ⟨?_,rfl⟩ Ent.go;rfl
theorem rstride_r (c:Cfg)(hc:Small c):RTri Tryz.prog 189 #[.agg ⟨c.v⟩] [] (.int .i64 c.stride):=by
 have hl:=hc.cap;apply RTri.of_pure
 refine TB (vs:=[_]) Tryz.func189 fun w0 F=>?_
 repeat' (first|refine Ga ?_|(refine Gb ?_;intro b)|refine Gl (rcap_r c hc) ?_|fail)
 refine St.dn Tryz.func189 ⟨?_,rfl⟩ Ent.go;exact congrArg (Value.int .i64) (show c.cap+8=8+c.cap by omega)
def Cfg.cntR (c:Cfg)(kind:Int):Int :=
 if kind=0∨kind=12∨kind=14 then 1 else if 1≤kind∧kind≤9 then c.threads else if kind=10 then 16 else
 if kind=11∨kind=13∨kind=16 then c.blocks else if kind=15 then c.limit else 0
theorem rcount_r (c:Cfg)(hc:Small c)(kind:Int):RTri Tryz.prog 187 #[.agg ⟨c.v⟩, .int .i64 kind] [] (.int .i64 (c.cntR kind)):=by
 apply RTri.of_pure
 refine TB (vs:=[_,_]) Tryz.func187 fun w0 F=>?_
 repeat' (first|refine Ga ?_|(refine Gb ?_;intro b)|refine Gl (rlimit_r c hc) ?_|(refine Ge ?_ ?_<;>intro h<;>try omega)|fail)
 all_goals refine St.dn Tryz.func187 ⟨?_,rfl⟩ Ent.go
 all_goals refine congrArg (Value.int .i64) ?_
 all_goals unfold Cfg.cntR
 all_goals (repeat (first|rw [if_pos (by omega)]|rw [if_neg (by omega)]))
def Cfg.eachR (c:Cfg)(kind:Int):Int:=if kind=2 then 4 else if kind=6 then c.cap else if kind=16 then 8 else 1
theorem reach_r (c:Cfg)(hc:Small c)(kind:Int):RTri Tryz.prog 188 #[.agg ⟨c.v⟩, .int .i64 kind] [] (.int .i64 (c.eachR kind)):=by
 apply RTri.of_pure
 refine TB (vs:=[_,_]) Tryz.func188 fun w0 F=>?_
 repeat' (first|refine Ga ?_|(refine Gb ?_;intro b)|refine Gl (rcap_r c hc) ?_|(refine Ge ?_ ?_<;>intro h<;>try omega)|fail)
 all_goals refine St.dn Tryz.func188 ⟨?_,rfl⟩ Ent.go
 all_goals refine congrArg (Value.int .i64) ?_
 all_goals unfold Cfg.eachR
 all_goals (repeat (first|rw [if_pos (by omega)]|rw [if_neg (by omega)]))
def Cfg.frm (c:Cfg):Nat→Int
 | 0=>0|1=>1|2=>2|3=>6|4=>7|5=>8|6=>9|7=>c.f7|8=>c.f7+1|9=>c.f7+2|10=>c.f10|11=>c.f11|12=>c.f12|13=>c.f13|14=>c.f14|15=>c.f15|16=>c.f16|_=>c.f17
theorem rfrom_0 (c:Cfg):RTri Tryz.prog 133 #[.agg ⟨c.v⟩, .int .i64 0] [] (.int .i64 (c.frm 0)):=by
 apply RTri.of_pure
 refine TB (vs:=[_,_]) Tryz.func133 fun w0 F=>?_
 repeat' (first|refine Ga ?_|(refine Gb ?_;intro b)|fail)
 refine St.dn Tryz.func133 ⟨?_,rfl⟩ Ent.go;rfl
theorem rfrom_1 (c:Cfg):RTri Tryz.prog 133 #[.agg ⟨c.v⟩, .int .i64 1] [] (.int .i64 (c.frm 1)):=by
 apply RTri.of_pure
 refine TB (vs:=[_,_]) Tryz.func133 fun w0 F=>?_
 repeat' (first|refine Ga ?_|(refine Gb ?_;intro b)|fail)
 refine St.dn Tryz.func133 ⟨?_,rfl⟩ Ent.go;rfl
theorem rfrom_2 (c:Cfg)(hc:Small c):RTri Tryz.prog 133 #[.agg ⟨c.v⟩, .int .i64 2] [] (.int .i64 (c.frm 2)):=by
 have hn:=hc.nums.f7;have hn2:=hc.nums.f17;have ht:=hc.ts;have hcap:=hc.cap;have:=hc.t0;have:=hc.t1;have:=hc.b0;have:=hc.b1;have:=hc.limit;obtain ⟨hf7,hf10,hf11,hf12,hf13,hf14,hf15,hf16,hf17,hstr⟩:=c.froms;have hcnt:=rcount_r c hc 1;rw [show c.cntR 1=c.threads from rfl] at hcnt;have heach:=reach_r c hc 1;rw [show c.eachR 1=1 from rfl] at heach;have hstride:=rstride_r c hc
 have hfrom:RTri Tryz.prog 133 #[.agg ⟨c.v⟩, .int .i64 1] [] (.int .i64 1):=by first|exact rfrom_1 c|exact rfrom_1 c hc
 apply RTri.of_pure
 refine TB (vs:=[_,_]) Tryz.func133 fun w0 F=>?_
 repeat' (first|refine Ga ?_|(refine Gb ?_;intro b)|(refine Dr 4 [(0,1),(1,0),(2,0),(3,1),(4,1),(5,0),(6,0),(7,1),(8,0),(9,0)] [] ?_)|refine Gl heach ?_|refine Gl hfrom ?_|fail)
 refine St.dn Tryz.func133 ⟨?_,rfl⟩ Ent.go;refine congrArg (Value.int .i64) ?_
 first|rfl|(show _=2;omega)
theorem rfrom_3 (c:Cfg)(hc:Small c):RTri Tryz.prog 133 #[.agg ⟨c.v⟩, .int .i64 3] [] (.int .i64 (c.frm 3)):=by
 have hn:=hc.nums.f7;have hn2:=hc.nums.f17;have ht:=hc.ts;have hcap:=hc.cap;have:=hc.t0;have:=hc.t1;have:=hc.b0;have:=hc.b1;have:=hc.limit;obtain ⟨hf7,hf10,hf11,hf12,hf13,hf14,hf15,hf16,hf17,hstr⟩:=c.froms;have hcnt:=rcount_r c hc 2;rw [show c.cntR 2=c.threads from rfl] at hcnt;have heach:=reach_r c hc 2;rw [show c.eachR 2=4 from rfl] at heach;have hstride:=rstride_r c hc
 have hfrom:RTri Tryz.prog 133 #[.agg ⟨c.v⟩, .int .i64 2] [] (.int .i64 2):=by first|exact rfrom_2 c|exact rfrom_2 c hc
 apply RTri.of_pure
 refine TB (vs:=[_,_]) Tryz.func133 fun w0 F=>?_
 repeat' (first|refine Ga ?_|(refine Gb ?_;intro b)|(refine Dr 4 [(0,1),(1,0),(2,0),(3,1),(4,1),(5,0),(6,0),(7,1),(8,0),(9,0)] [] ?_)|refine Gl heach ?_|refine Gl hfrom ?_|fail)
 refine St.dn Tryz.func133 ⟨?_,rfl⟩ Ent.go;refine congrArg (Value.int .i64) ?_
 first|rfl|(show _=6;omega)
theorem rfrom_4 (c:Cfg)(hc:Small c):RTri Tryz.prog 133 #[.agg ⟨c.v⟩, .int .i64 4] [] (.int .i64 (c.frm 4)):=by
 have hn:=hc.nums.f7;have hn2:=hc.nums.f17;have ht:=hc.ts;have hcap:=hc.cap;have:=hc.t0;have:=hc.t1;have:=hc.b0;have:=hc.b1;have:=hc.limit;obtain ⟨hf7,hf10,hf11,hf12,hf13,hf14,hf15,hf16,hf17,hstr⟩:=c.froms;have hcnt:=rcount_r c hc 3;rw [show c.cntR 3=c.threads from rfl] at hcnt;have heach:=reach_r c hc 3;rw [show c.eachR 3=1 from rfl] at heach;have hstride:=rstride_r c hc
 have hfrom:RTri Tryz.prog 133 #[.agg ⟨c.v⟩, .int .i64 3] [] (.int .i64 6):=by first|exact rfrom_3 c|exact rfrom_3 c hc
 apply RTri.of_pure
 refine TB (vs:=[_,_]) Tryz.func133 fun w0 F=>?_
 repeat' (first|refine Ga ?_|(refine Gb ?_;intro b)|(refine Dr 4 [(0,1),(1,0),(2,0),(3,1),(4,1),(5,0),(6,0),(7,1),(8,0),(9,0)] [] ?_)|refine Gl heach ?_|refine Gl hfrom ?_|fail)
 refine St.dn Tryz.func133 ⟨?_,rfl⟩ Ent.go;refine congrArg (Value.int .i64) ?_
 first|rfl|(show _=7;omega)
theorem rfrom_5 (c:Cfg)(hc:Small c):RTri Tryz.prog 133 #[.agg ⟨c.v⟩, .int .i64 5] [] (.int .i64 (c.frm 5)):=by
 have hn:=hc.nums.f7;have hn2:=hc.nums.f17;have ht:=hc.ts;have hcap:=hc.cap;have:=hc.t0;have:=hc.t1;have:=hc.b0;have:=hc.b1;have:=hc.limit;obtain ⟨hf7,hf10,hf11,hf12,hf13,hf14,hf15,hf16,hf17,hstr⟩:=c.froms;have hcnt:=rcount_r c hc 4;rw [show c.cntR 4=c.threads from rfl] at hcnt;have heach:=reach_r c hc 4;rw [show c.eachR 4=1 from rfl] at heach;have hstride:=rstride_r c hc
 have hfrom:RTri Tryz.prog 133 #[.agg ⟨c.v⟩, .int .i64 4] [] (.int .i64 7):=by first|exact rfrom_4 c|exact rfrom_4 c hc
 apply RTri.of_pure
 refine TB (vs:=[_,_]) Tryz.func133 fun w0 F=>?_
 repeat' (first|refine Ga ?_|(refine Gb ?_;intro b)|(refine Dr 4 [(0,1),(1,0),(2,0),(3,1),(4,1),(5,0),(6,0),(7,1),(8,0),(9,0)] [] ?_)|refine Gl heach ?_|refine Gl hfrom ?_|fail)
 refine St.dn Tryz.func133 ⟨?_,rfl⟩ Ent.go;refine congrArg (Value.int .i64) ?_
 first|rfl|(show _=8;omega)
theorem rfrom_6 (c:Cfg)(hc:Small c):RTri Tryz.prog 133 #[.agg ⟨c.v⟩, .int .i64 6] [] (.int .i64 (c.frm 6)):=by
 have hn:=hc.nums.f7;have hn2:=hc.nums.f17;have ht:=hc.ts;have hcap:=hc.cap;have:=hc.t0;have:=hc.t1;have:=hc.b0;have:=hc.b1;have:=hc.limit;obtain ⟨hf7,hf10,hf11,hf12,hf13,hf14,hf15,hf16,hf17,hstr⟩:=c.froms;have hcnt:=rcount_r c hc 5;rw [show c.cntR 5=c.threads from rfl] at hcnt;have heach:=reach_r c hc 5;rw [show c.eachR 5=1 from rfl] at heach;have hstride:=rstride_r c hc
 have hfrom:RTri Tryz.prog 133 #[.agg ⟨c.v⟩, .int .i64 5] [] (.int .i64 8):=by first|exact rfrom_5 c|exact rfrom_5 c hc
 apply RTri.of_pure
 refine TB (vs:=[_,_]) Tryz.func133 fun w0 F=>?_
 repeat' (first|refine Ga ?_|(refine Gb ?_;intro b)|(refine Dr 4 [(0,1),(1,0),(2,0),(3,1),(4,1),(5,0),(6,0),(7,1),(8,0),(9,0)] [] ?_)|refine Gl heach ?_|refine Gl hfrom ?_|fail)
 refine St.dn Tryz.func133 ⟨?_,rfl⟩ Ent.go;refine congrArg (Value.int .i64) ?_
 first|rfl|(show _=9;omega)
theorem rfrom_7 (c:Cfg)(hc:Small c):RTri Tryz.prog 133 #[.agg ⟨c.v⟩, .int .i64 7] [] (.int .i64 (c.frm 7)):=by
 have hn:=hc.nums.f7;have hn2:=hc.nums.f17;have ht:=hc.ts;have hcap:=hc.cap;have:=hc.t0;have:=hc.t1;have:=hc.b0;have:=hc.b1;have:=hc.limit;obtain ⟨hf7,hf10,hf11,hf12,hf13,hf14,hf15,hf16,hf17,hstr⟩:=c.froms;have hcnt:=rcount_r c hc 6;rw [show c.cntR 6=c.threads from rfl] at hcnt;have heach:=reach_r c hc 6;rw [show c.eachR 6=c.cap from rfl] at heach;have hstride:=rstride_r c hc
 have hfrom:RTri Tryz.prog 133 #[.agg ⟨c.v⟩, .int .i64 6] [] (.int .i64 9):=by first|exact rfrom_6 c|exact rfrom_6 c hc
 apply RTri.of_pure
 refine TB (vs:=[_,_]) Tryz.func133 fun w0 F=>?_
 repeat' (first|refine Ga ?_|(refine Gb ?_;intro b)|(refine Dr 6 [(0,0),(1,1),(2,1),(3,1),(4,0),(5,0),(6,0)] [] ?_)|refine Gl hstride ?_|fail)
 refine St.dn Tryz.func133 ⟨?_,rfl⟩ Ent.go;refine congrArg (Value.int .i64) ?_
 first|rfl|(show _=c.f7;omega)
theorem rfrom_8 (c:Cfg)(hc:Small c):RTri Tryz.prog 133 #[.agg ⟨c.v⟩, .int .i64 8] [] (.int .i64 (c.frm 8)):=by
 have hn:=hc.nums.f7;have hn2:=hc.nums.f17;have ht:=hc.ts;have hcap:=hc.cap;have:=hc.t0;have:=hc.t1;have:=hc.b0;have:=hc.b1;have:=hc.limit;obtain ⟨hf7,hf10,hf11,hf12,hf13,hf14,hf15,hf16,hf17,hstr⟩:=c.froms;have hcnt:=rcount_r c hc 7;rw [show c.cntR 7=c.threads from rfl] at hcnt;have heach:=reach_r c hc 7;rw [show c.eachR 7=1 from rfl] at heach;have hstride:=rstride_r c hc
 have hfrom:RTri Tryz.prog 133 #[.agg ⟨c.v⟩, .int .i64 7] [] (.int .i64 c.f7):=by first|exact rfrom_7 c|exact rfrom_7 c hc
 apply RTri.of_pure
 refine TB (vs:=[_,_]) Tryz.func133 fun w0 F=>?_
 repeat' (first|refine Ga ?_|(refine Gb ?_;intro b)|refine Gl hfrom ?_|fail)
 refine St.dn Tryz.func133 ⟨?_,rfl⟩ Ent.go;refine congrArg (Value.int .i64) ?_
 first|rfl|(show _=c.f7+1;omega)
theorem rfrom_9 (c:Cfg)(hc:Small c):RTri Tryz.prog 133 #[.agg ⟨c.v⟩, .int .i64 9] [] (.int .i64 (c.frm 9)):=by
 have hn:=hc.nums.f7;have hn2:=hc.nums.f17;have ht:=hc.ts;have hcap:=hc.cap;have:=hc.t0;have:=hc.t1;have:=hc.b0;have:=hc.b1;have:=hc.limit;obtain ⟨hf7,hf10,hf11,hf12,hf13,hf14,hf15,hf16,hf17,hstr⟩:=c.froms;have hcnt:=rcount_r c hc 7;rw [show c.cntR 7=c.threads from rfl] at hcnt;have heach:=reach_r c hc 7;rw [show c.eachR 7=1 from rfl] at heach;have hstride:=rstride_r c hc
 have hfrom:RTri Tryz.prog 133 #[.agg ⟨c.v⟩, .int .i64 7] [] (.int .i64 c.f7):=by first|exact rfrom_7 c|exact rfrom_7 c hc
 apply RTri.of_pure
 refine TB (vs:=[_,_]) Tryz.func133 fun w0 F=>?_
 repeat' (first|refine Ga ?_|(refine Gb ?_;intro b)|refine Gl hfrom ?_|fail)
 refine St.dn Tryz.func133 ⟨?_,rfl⟩ Ent.go;refine congrArg (Value.int .i64) ?_
 first|rfl|(show _=c.f7+2;omega)
theorem rfrom_10 (c:Cfg)(hc:Small c):RTri Tryz.prog 133 #[.agg ⟨c.v⟩, .int .i64 10] [] (.int .i64 (c.frm 10)):=by
 have hn:=hc.nums.f7;have hn2:=hc.nums.f17;have ht:=hc.ts;have hcap:=hc.cap;have:=hc.t0;have:=hc.t1;have:=hc.b0;have:=hc.b1;have:=hc.limit;obtain ⟨hf7,hf10,hf11,hf12,hf13,hf14,hf15,hf16,hf17,hstr⟩:=c.froms;have hcnt:=rcount_r c hc 7;rw [show c.cntR 7=c.threads from rfl] at hcnt;have heach:=reach_r c hc 7;rw [show c.eachR 7=1 from rfl] at heach;have hstride:=rstride_r c hc
 have hfrom:RTri Tryz.prog 133 #[.agg ⟨c.v⟩, .int .i64 7] [] (.int .i64 c.f7):=by first|exact rfrom_7 c|exact rfrom_7 c hc
 apply RTri.of_pure
 refine TB (vs:=[_,_]) Tryz.func133 fun w0 F=>?_
 repeat' (first|refine Ga ?_|(refine Gb ?_;intro b)|(refine Dr 10 [(0,1),(1,1),(2,0),(3,1),(4,0),(5,0),(6,0)] [] ?_)|refine Gl hfrom ?_|fail)
 refine St.dn Tryz.func133 ⟨?_,rfl⟩ Ent.go;refine congrArg (Value.int .i64) ?_
 first|rfl|(show _=c.f10;omega)
theorem rfrom_11 (c:Cfg)(hc:Small c):RTri Tryz.prog 133 #[.agg ⟨c.v⟩, .int .i64 11] [] (.int .i64 (c.frm 11)):=by
 have hn:=hc.nums.f7;have hn2:=hc.nums.f17;have ht:=hc.ts;have hcap:=hc.cap;have:=hc.t0;have:=hc.t1;have:=hc.b0;have:=hc.b1;have:=hc.limit;obtain ⟨hf7,hf10,hf11,hf12,hf13,hf14,hf15,hf16,hf17,hstr⟩:=c.froms;have hcnt:=rcount_r c hc 10;rw [show c.cntR 10=16 from rfl] at hcnt;have heach:=reach_r c hc 10;rw [show c.eachR 10=1 from rfl] at heach;have hstride:=rstride_r c hc
 have hfrom:RTri Tryz.prog 133 #[.agg ⟨c.v⟩, .int .i64 10] [] (.int .i64 c.f10):=by first|exact rfrom_10 c|exact rfrom_10 c hc
 apply RTri.of_pure
 refine TB (vs:=[_,_]) Tryz.func133 fun w0 F=>?_
 repeat' (first|refine Ga ?_|(refine Gb ?_;intro b)|(refine Dr 11 [(0,1),(1,0),(2,0),(3,1),(4,1),(5,0),(6,0),(7,1),(8,1),(9,0),(10,0),(11,1),(12,0),(13,0),(14,0)] [] ?_)|refine Gl hcnt ?_|refine Gl heach ?_|refine Gl hfrom ?_|fail)
 refine St.dn Tryz.func133 ⟨?_,rfl⟩ Ent.go;refine congrArg (Value.int .i64) ?_
 first|rfl|(show _=c.f11;omega)
theorem rfrom_12 (c:Cfg)(hc:Small c):RTri Tryz.prog 133 #[.agg ⟨c.v⟩, .int .i64 12] [] (.int .i64 (c.frm 12)):=by
 have hn:=hc.nums.f7;have hn2:=hc.nums.f17;have ht:=hc.ts;have hcap:=hc.cap;have:=hc.t0;have:=hc.t1;have:=hc.b0;have:=hc.b1;have:=hc.limit;obtain ⟨hf7,hf10,hf11,hf12,hf13,hf14,hf15,hf16,hf17,hstr⟩:=c.froms;have hcnt:=rcount_r c hc 11;rw [show c.cntR 11=c.blocks from rfl] at hcnt;have heach:=reach_r c hc 11;rw [show c.eachR 11=1 from rfl] at heach;have hstride:=rstride_r c hc
 have hfrom:RTri Tryz.prog 133 #[.agg ⟨c.v⟩, .int .i64 11] [] (.int .i64 c.f11):=by first|exact rfrom_11 c|exact rfrom_11 c hc
 apply RTri.of_pure
 refine TB (vs:=[_,_]) Tryz.func133 fun w0 F=>?_
 repeat' (first|refine Ga ?_|(refine Gb ?_;intro b)|(refine Dr 11 [(0,1),(1,0),(2,0),(3,1),(4,1),(5,0),(6,0),(7,1),(8,1),(9,0),(10,0),(11,1),(12,0),(13,0),(14,0)] [] ?_)|refine Gl hcnt ?_|refine Gl heach ?_|refine Gl hfrom ?_|fail)
 refine St.dn Tryz.func133 ⟨?_,rfl⟩ Ent.go;refine congrArg (Value.int .i64) ?_
 first|rfl|(show _=c.f12;omega)
theorem rfrom_13 (c:Cfg)(hc:Small c):RTri Tryz.prog 133 #[.agg ⟨c.v⟩, .int .i64 13] [] (.int .i64 (c.frm 13)):=by
 have hn:=hc.nums.f7;have hn2:=hc.nums.f17;have ht:=hc.ts;have hcap:=hc.cap;have:=hc.t0;have:=hc.t1;have:=hc.b0;have:=hc.b1;have:=hc.limit;obtain ⟨hf7,hf10,hf11,hf12,hf13,hf14,hf15,hf16,hf17,hstr⟩:=c.froms;have hcnt:=rcount_r c hc 12;rw [show c.cntR 12=1 from rfl] at hcnt;have heach:=reach_r c hc 12;rw [show c.eachR 12=1 from rfl] at heach;have hstride:=rstride_r c hc
 have hfrom:RTri Tryz.prog 133 #[.agg ⟨c.v⟩, .int .i64 12] [] (.int .i64 c.f12):=by first|exact rfrom_12 c|exact rfrom_12 c hc
 apply RTri.of_pure
 refine TB (vs:=[_,_]) Tryz.func133 fun w0 F=>?_
 repeat' (first|refine Ga ?_|(refine Gb ?_;intro b)|(refine Dr 11 [(0,1),(1,0),(2,0),(3,1),(4,1),(5,0),(6,0),(7,1),(8,1),(9,0),(10,0),(11,1),(12,0),(13,0),(14,0)] [] ?_)|refine Gl hcnt ?_|refine Gl heach ?_|refine Gl hfrom ?_|fail)
 refine St.dn Tryz.func133 ⟨?_,rfl⟩ Ent.go;refine congrArg (Value.int .i64) ?_
 first|rfl|(show _=c.f13;omega)
theorem rfrom_14 (c:Cfg)(hc:Small c):RTri Tryz.prog 133 #[.agg ⟨c.v⟩, .int .i64 14] [] (.int .i64 (c.frm 14)):=by
 have hn:=hc.nums.f7;have hn2:=hc.nums.f17;have ht:=hc.ts;have hcap:=hc.cap;have:=hc.t0;have:=hc.t1;have:=hc.b0;have:=hc.b1;have:=hc.limit;obtain ⟨hf7,hf10,hf11,hf12,hf13,hf14,hf15,hf16,hf17,hstr⟩:=c.froms;have hcnt:=rcount_r c hc 13;rw [show c.cntR 13=c.blocks from rfl] at hcnt;have heach:=reach_r c hc 13;rw [show c.eachR 13=1 from rfl] at heach;have hstride:=rstride_r c hc
 have hfrom:RTri Tryz.prog 133 #[.agg ⟨c.v⟩, .int .i64 13] [] (.int .i64 c.f13):=by first|exact rfrom_13 c|exact rfrom_13 c hc
 apply RTri.of_pure
 refine TB (vs:=[_,_]) Tryz.func133 fun w0 F=>?_
 repeat' (first|refine Ga ?_|(refine Gb ?_;intro b)|(refine Dr 11 [(0,1),(1,0),(2,0),(3,1),(4,1),(5,0),(6,0),(7,1),(8,1),(9,0),(10,0),(11,1),(12,0),(13,0),(14,0)] [] ?_)|refine Gl hcnt ?_|refine Gl heach ?_|refine Gl hfrom ?_|fail)
 refine St.dn Tryz.func133 ⟨?_,rfl⟩ Ent.go;refine congrArg (Value.int .i64) ?_
 first|rfl|(show _=c.f14;omega)
theorem rfrom_15 (c:Cfg)(hc:Small c):RTri Tryz.prog 133 #[.agg ⟨c.v⟩, .int .i64 15] [] (.int .i64 (c.frm 15)):=by
 have hn:=hc.nums.f7;have hn2:=hc.nums.f17;have ht:=hc.ts;have hcap:=hc.cap;have:=hc.t0;have:=hc.t1;have:=hc.b0;have:=hc.b1;have:=hc.limit;obtain ⟨hf7,hf10,hf11,hf12,hf13,hf14,hf15,hf16,hf17,hstr⟩:=c.froms;have hcnt:=rcount_r c hc 14;rw [show c.cntR 14=1 from rfl] at hcnt;have heach:=reach_r c hc 14;rw [show c.eachR 14=1 from rfl] at heach;have hstride:=rstride_r c hc
 have hfrom:RTri Tryz.prog 133 #[.agg ⟨c.v⟩, .int .i64 14] [] (.int .i64 c.f14):=by first|exact rfrom_14 c|exact rfrom_14 c hc
 apply RTri.of_pure
 refine TB (vs:=[_,_]) Tryz.func133 fun w0 F=>?_
 repeat' (first|refine Ga ?_|(refine Gb ?_;intro b)|(refine Dr 11 [(0,1),(1,0),(2,0),(3,1),(4,1),(5,0),(6,0),(7,1),(8,1),(9,0),(10,0),(11,1),(12,0),(13,0),(14,0)] [] ?_)|refine Gl hcnt ?_|refine Gl heach ?_|refine Gl hfrom ?_|fail)
 refine St.dn Tryz.func133 ⟨?_,rfl⟩ Ent.go;refine congrArg (Value.int .i64) ?_
 first|rfl|(show _=c.f15;omega)
theorem rfrom_16 (c:Cfg)(hc:Small c):RTri Tryz.prog 133 #[.agg ⟨c.v⟩, .int .i64 16] [] (.int .i64 (c.frm 16)):=by
 have hn:=hc.nums.f7;have hn2:=hc.nums.f17;have ht:=hc.ts;have hcap:=hc.cap;have:=hc.t0;have:=hc.t1;have:=hc.b0;have:=hc.b1;have:=hc.limit;obtain ⟨hf7,hf10,hf11,hf12,hf13,hf14,hf15,hf16,hf17,hstr⟩:=c.froms;have hcnt:=rcount_r c hc 15;rw [show c.cntR 15=c.limit from rfl] at hcnt;have heach:=reach_r c hc 15;rw [show c.eachR 15=1 from rfl] at heach;have hstride:=rstride_r c hc
 have hfrom:RTri Tryz.prog 133 #[.agg ⟨c.v⟩, .int .i64 15] [] (.int .i64 c.f15):=by first|exact rfrom_15 c|exact rfrom_15 c hc
 apply RTri.of_pure
 refine TB (vs:=[_,_]) Tryz.func133 fun w0 F=>?_
 repeat' (first|refine Ga ?_|(refine Gb ?_;intro b)|(refine Dr 11 [(0,1),(1,0),(2,0),(3,1),(4,1),(5,0),(6,0),(7,1),(8,1),(9,0),(10,0),(11,1),(12,0),(13,0),(14,0)] [] ?_)|refine Gl hcnt ?_|refine Gl heach ?_|refine Gl hfrom ?_|fail)
 refine St.dn Tryz.func133 ⟨?_,rfl⟩ Ent.go;refine congrArg (Value.int .i64) ?_
 first|rfl|(show _=c.f16;omega)
theorem rfrom_17 (c:Cfg)(hc:Small c):RTri Tryz.prog 133 #[.agg ⟨c.v⟩, .int .i64 17] [] (.int .i64 (c.frm 17)):=by
 have hn:=hc.nums.f7;have hn2:=hc.nums.f17;have ht:=hc.ts;have hcap:=hc.cap;have:=hc.t0;have:=hc.t1;have:=hc.b0;have:=hc.b1;have:=hc.limit;obtain ⟨hf7,hf10,hf11,hf12,hf13,hf14,hf15,hf16,hf17,hstr⟩:=c.froms;have hcnt:=rcount_r c hc 16;rw [show c.cntR 16=c.blocks from rfl] at hcnt;have heach:=reach_r c hc 16;rw [show c.eachR 16=8 from rfl] at heach;have hstride:=rstride_r c hc
 have hfrom:RTri Tryz.prog 133 #[.agg ⟨c.v⟩, .int .i64 16] [] (.int .i64 c.f16):=by first|exact rfrom_16 c|exact rfrom_16 c hc
 apply RTri.of_pure
 refine TB (vs:=[_,_]) Tryz.func133 fun w0 F=>?_
 repeat' (first|refine Ga ?_|(refine Gb ?_;intro b)|(refine Dr 11 [(0,1),(1,0),(2,0),(3,1),(4,1),(5,0),(6,0),(7,1),(8,1),(9,0),(10,0),(11,1),(12,0),(13,0),(14,0)] [] ?_)|refine Gl hcnt ?_|refine Gl heach ?_|refine Gl hfrom ?_|fail)
 refine St.dn Tryz.func133 ⟨?_,rfl⟩ Ent.go;refine congrArg (Value.int .i64) ?_
 first|rfl|(show _=c.f17;omega)
theorem rsize_r (c:Cfg)(hc:Small c):RTri Tryz.prog 240 #[.agg ⟨c.v⟩] [] (.int .i64 c.f17):=by
 apply RTri.of_pure
 refine TB (vs:=[_]) Tryz.func240 fun w0 F=>?_
 repeat' (first|refine Ga ?_|(refine Gb ?_;intro b)|refine Gl (rfrom_17 c hc) ?_|fail)
 refine St.dn Tryz.func240 ⟨?_,rfl⟩ Ent.go;rfl
end Go.Proofs.YthmbgodcpgkkeaaGreat
