/-
  Package tumblerref07: where a thing stands is where the program has it.
-/
import Derived.Test.YthmbgodcpgkkeaaGreatRefa
set_option maxRecDepth 100000
namespace Go.Proofs.YthmbgodcpgkkeaaGreat
theorem rat_0 (c:Cfg)(hc:Small c)(i k:Int):Tri Tryz.prog 107 #[.agg ⟨c.v⟩, .int .i64 0, .int .i64 i, .int .i64 k] [] fun v L=>v=.int .i64 (c.at 0 i k)∧L=[]:=by
 have hn:=hc.nums.f7;have hn2:=hc.nums.f17;have ht:=hc.ts;have hcap:=hc.cap;have:=hc.t0;have:=hc.t1;have:=hc.b0;have:=hc.b1;have:=hc.limit;obtain ⟨hf7,hf10,hf11,hf12,hf13,hf14,hf15,hf16,hf17,hstr⟩:=c.froms;have hi:=hc.imul i;have e1:(c.cnt 0).1=1:=rfl;have e2:(c.cnt 0).2=1:=rfl
 have e4:c.base 0=0:=by first|rfl|(show c.f7+(0 - 7)=_;omega)
 have e5:c.stp 0=1:=rfl;have hcnt:=rcount_r c hc 0;rw [show c.cntR 0=1 from rfl] at hcnt;have heach:=reach_r c hc 0;rw [show c.eachR 0=1 from rfl] at heach;have hstride:=rstride_r c hc;have hfrom:RTri Tryz.prog 133 #[.agg ⟨c.v⟩, .int .i64 0] [] (.int .i64 (0)):=rfrom_0 c
 refine TB (vs:=[_,_,_,_]) Tryz.func107 fun w0 F=>?_
 repeat' (first|refine Ga ?_|(refine Gb ?_;intro b)|refine Gl hcnt ?_|refine Gl heach ?_|refine Gl hfrom ?_|(refine Ge ?_ ?_<;>intro h<;>try omega)|fail)
 all_goals refine St.dn Tryz.func107 ⟨?_,rfl⟩ Ent.go
 all_goals refine congrArg (Value.int .i64) ?_
 all_goals first|(rw [Cfg.at,if_neg (by omega)];done)|(rw [Cfg.at,if_pos (by omega),e4,e5]<;>omega)
theorem rat_1 (c:Cfg)(hc:Small c)(i k:Int):Tri Tryz.prog 107 #[.agg ⟨c.v⟩, .int .i64 1, .int .i64 i, .int .i64 k] [] fun v L=>v=.int .i64 (c.at 1 i k)∧L=[]:=by
 have hn:=hc.nums.f7;have hn2:=hc.nums.f17;have ht:=hc.ts;have hcap:=hc.cap;have:=hc.t0;have:=hc.t1;have:=hc.b0;have:=hc.b1;have:=hc.limit;obtain ⟨hf7,hf10,hf11,hf12,hf13,hf14,hf15,hf16,hf17,hstr⟩:=c.froms;have hi:=hc.imul i;have e1:(c.cnt 1).1=c.threads:=rfl;have e2:(c.cnt 1).2=1:=rfl
 have e4:c.base 1=1:=by first|rfl|(show c.f7+(1 - 7)=_;omega)
 have e5:c.stp 1=c.stride:=rfl;have hcnt:=rcount_r c hc 1;rw [show c.cntR 1=c.threads from rfl] at hcnt;have heach:=reach_r c hc 1;rw [show c.eachR 1=1 from rfl] at heach;have hstride:=rstride_r c hc;have hfrom:RTri Tryz.prog 133 #[.agg ⟨c.v⟩, .int .i64 1] [] (.int .i64 (1)):=rfrom_1 c
 refine TB (vs:=[_,_,_,_]) Tryz.func107 fun w0 F=>?_
 repeat' (first|refine Ga ?_|(refine Gb ?_;intro b)|refine Gl hcnt ?_|refine Gl heach ?_|refine Gl hstride ?_|refine Gl hfrom ?_|(refine Ge ?_ ?_<;>intro h<;>try omega)|fail)
 all_goals refine St.dn Tryz.func107 ⟨?_,rfl⟩ Ent.go
 all_goals refine congrArg (Value.int .i64) ?_
 all_goals first|(rw [Cfg.at,if_neg (by omega)];done)|(rw [Cfg.at,if_pos (by omega),e4,e5]<;>omega)
theorem rat_2 (c:Cfg)(hc:Small c)(i k:Int):Tri Tryz.prog 107 #[.agg ⟨c.v⟩, .int .i64 2, .int .i64 i, .int .i64 k] [] fun v L=>v=.int .i64 (c.at 2 i k)∧L=[]:=by
 have hn:=hc.nums.f7;have hn2:=hc.nums.f17;have ht:=hc.ts;have hcap:=hc.cap;have:=hc.t0;have:=hc.t1;have:=hc.b0;have:=hc.b1;have:=hc.limit;obtain ⟨hf7,hf10,hf11,hf12,hf13,hf14,hf15,hf16,hf17,hstr⟩:=c.froms;have hi:=hc.imul i;have e1:(c.cnt 2).1=c.threads:=rfl;have e2:(c.cnt 2).2=4:=rfl
 have e4:c.base 2=2:=by first|rfl|(show c.f7+(2 - 7)=_;omega)
 have e5:c.stp 2=c.stride:=rfl;have hcnt:=rcount_r c hc 2;rw [show c.cntR 2=c.threads from rfl] at hcnt;have heach:=reach_r c hc 2;rw [show c.eachR 2=4 from rfl] at heach;have hstride:=rstride_r c hc;have hfrom:RTri Tryz.prog 133 #[.agg ⟨c.v⟩, .int .i64 2] [] (.int .i64 (2)):=rfrom_2 c hc
 refine TB (vs:=[_,_,_,_]) Tryz.func107 fun w0 F=>?_
 repeat' (first|refine Ga ?_|(refine Gb ?_;intro b)|refine Gl hcnt ?_|refine Gl heach ?_|refine Gl hstride ?_|refine Gl hfrom ?_|(refine Ge ?_ ?_<;>intro h<;>try omega)|fail)
 all_goals refine St.dn Tryz.func107 ⟨?_,rfl⟩ Ent.go
 all_goals refine congrArg (Value.int .i64) ?_
 all_goals first|(rw [Cfg.at,if_neg (by omega)];done)|(rw [Cfg.at,if_pos (by omega),e4,e5]<;>omega)
theorem rat_3 (c:Cfg)(hc:Small c)(i k:Int):Tri Tryz.prog 107 #[.agg ⟨c.v⟩, .int .i64 3, .int .i64 i, .int .i64 k] [] fun v L=>v=.int .i64 (c.at 3 i k)∧L=[]:=by
 have hn:=hc.nums.f7;have hn2:=hc.nums.f17;have ht:=hc.ts;have hcap:=hc.cap;have:=hc.t0;have:=hc.t1;have:=hc.b0;have:=hc.b1;have:=hc.limit;obtain ⟨hf7,hf10,hf11,hf12,hf13,hf14,hf15,hf16,hf17,hstr⟩:=c.froms;have hi:=hc.imul i;have e1:(c.cnt 3).1=c.threads:=rfl;have e2:(c.cnt 3).2=1:=rfl
 have e4:c.base 3=6:=by first|rfl|(show c.f7+(3 - 7)=_;omega)
 have e5:c.stp 3=c.stride:=rfl;have hcnt:=rcount_r c hc 3;rw [show c.cntR 3=c.threads from rfl] at hcnt;have heach:=reach_r c hc 3;rw [show c.eachR 3=1 from rfl] at heach;have hstride:=rstride_r c hc;have hfrom:RTri Tryz.prog 133 #[.agg ⟨c.v⟩, .int .i64 3] [] (.int .i64 (6)):=rfrom_3 c hc
 refine TB (vs:=[_,_,_,_]) Tryz.func107 fun w0 F=>?_
 repeat' (first|refine Ga ?_|(refine Gb ?_;intro b)|refine Gl hcnt ?_|refine Gl heach ?_|refine Gl hstride ?_|refine Gl hfrom ?_|(refine Ge ?_ ?_<;>intro h<;>try omega)|fail)
 all_goals refine St.dn Tryz.func107 ⟨?_,rfl⟩ Ent.go
 all_goals refine congrArg (Value.int .i64) ?_
 all_goals first|(rw [Cfg.at,if_neg (by omega)];done)|(rw [Cfg.at,if_pos (by omega),e4,e5]<;>omega)
theorem rat_4 (c:Cfg)(hc:Small c)(i k:Int):Tri Tryz.prog 107 #[.agg ⟨c.v⟩, .int .i64 4, .int .i64 i, .int .i64 k] [] fun v L=>v=.int .i64 (c.at 4 i k)∧L=[]:=by
 have hn:=hc.nums.f7;have hn2:=hc.nums.f17;have ht:=hc.ts;have hcap:=hc.cap;have:=hc.t0;have:=hc.t1;have:=hc.b0;have:=hc.b1;have:=hc.limit;obtain ⟨hf7,hf10,hf11,hf12,hf13,hf14,hf15,hf16,hf17,hstr⟩:=c.froms;have hi:=hc.imul i;have e1:(c.cnt 4).1=c.threads:=rfl;have e2:(c.cnt 4).2=1:=rfl
 have e4:c.base 4=7:=by first|rfl|(show c.f7+(4 - 7)=_;omega)
 have e5:c.stp 4=c.stride:=rfl;have hcnt:=rcount_r c hc 4;rw [show c.cntR 4=c.threads from rfl] at hcnt;have heach:=reach_r c hc 4;rw [show c.eachR 4=1 from rfl] at heach;have hstride:=rstride_r c hc;have hfrom:RTri Tryz.prog 133 #[.agg ⟨c.v⟩, .int .i64 4] [] (.int .i64 (7)):=rfrom_4 c hc
 refine TB (vs:=[_,_,_,_]) Tryz.func107 fun w0 F=>?_
 repeat' (first|refine Ga ?_|(refine Gb ?_;intro b)|refine Gl hcnt ?_|refine Gl heach ?_|refine Gl hstride ?_|refine Gl hfrom ?_|(refine Ge ?_ ?_<;>intro h<;>try omega)|fail)
 all_goals refine St.dn Tryz.func107 ⟨?_,rfl⟩ Ent.go
 all_goals refine congrArg (Value.int .i64) ?_
 all_goals first|(rw [Cfg.at,if_neg (by omega)];done)|(rw [Cfg.at,if_pos (by omega),e4,e5]<;>omega)
theorem rat_5 (c:Cfg)(hc:Small c)(i k:Int):Tri Tryz.prog 107 #[.agg ⟨c.v⟩, .int .i64 5, .int .i64 i, .int .i64 k] [] fun v L=>v=.int .i64 (c.at 5 i k)∧L=[]:=by
 have hn:=hc.nums.f7;have hn2:=hc.nums.f17;have ht:=hc.ts;have hcap:=hc.cap;have:=hc.t0;have:=hc.t1;have:=hc.b0;have:=hc.b1;have:=hc.limit;obtain ⟨hf7,hf10,hf11,hf12,hf13,hf14,hf15,hf16,hf17,hstr⟩:=c.froms;have hi:=hc.imul i;have e1:(c.cnt 5).1=c.threads:=rfl;have e2:(c.cnt 5).2=1:=rfl
 have e4:c.base 5=8:=by first|rfl|(show c.f7+(5 - 7)=_;omega)
 have e5:c.stp 5=c.stride:=rfl;have hcnt:=rcount_r c hc 5;rw [show c.cntR 5=c.threads from rfl] at hcnt;have heach:=reach_r c hc 5;rw [show c.eachR 5=1 from rfl] at heach;have hstride:=rstride_r c hc;have hfrom:RTri Tryz.prog 133 #[.agg ⟨c.v⟩, .int .i64 5] [] (.int .i64 (8)):=rfrom_5 c hc
 refine TB (vs:=[_,_,_,_]) Tryz.func107 fun w0 F=>?_
 repeat' (first|refine Ga ?_|(refine Gb ?_;intro b)|refine Gl hcnt ?_|refine Gl heach ?_|refine Gl hstride ?_|refine Gl hfrom ?_|(refine Ge ?_ ?_<;>intro h<;>try omega)|fail)
 all_goals refine St.dn Tryz.func107 ⟨?_,rfl⟩ Ent.go
 all_goals refine congrArg (Value.int .i64) ?_
 all_goals first|(rw [Cfg.at,if_neg (by omega)];done)|(rw [Cfg.at,if_pos (by omega),e4,e5]<;>omega)
theorem rat_6 (c:Cfg)(hc:Small c)(i k:Int):Tri Tryz.prog 107 #[.agg ⟨c.v⟩, .int .i64 6, .int .i64 i, .int .i64 k] [] fun v L=>v=.int .i64 (c.at 6 i k)∧L=[]:=by
 have hn:=hc.nums.f7;have hn2:=hc.nums.f17;have ht:=hc.ts;have hcap:=hc.cap;have:=hc.t0;have:=hc.t1;have:=hc.b0;have:=hc.b1;have:=hc.limit;obtain ⟨hf7,hf10,hf11,hf12,hf13,hf14,hf15,hf16,hf17,hstr⟩:=c.froms;have hi:=hc.imul i;have e1:(c.cnt 6).1=c.threads:=rfl;have e2:(c.cnt 6).2=c.cap:=rfl
 have e4:c.base 6=9:=by first|rfl|(show c.f7+(6 - 7)=_;omega)
 have e5:c.stp 6=c.stride:=rfl;have hcnt:=rcount_r c hc 6;rw [show c.cntR 6=c.threads from rfl] at hcnt;have heach:=reach_r c hc 6;rw [show c.eachR 6=c.cap from rfl] at heach;have hstride:=rstride_r c hc;have hfrom:RTri Tryz.prog 133 #[.agg ⟨c.v⟩, .int .i64 6] [] (.int .i64 (9)):=rfrom_6 c hc
 refine TB (vs:=[_,_,_,_]) Tryz.func107 fun w0 F=>?_
 repeat' (first|refine Ga ?_|(refine Gb ?_;intro b)|refine Gl hcnt ?_|refine Gl heach ?_|refine Gl hstride ?_|refine Gl hfrom ?_|(refine Ge ?_ ?_<;>intro h<;>try omega)|fail)
 all_goals refine St.dn Tryz.func107 ⟨?_,rfl⟩ Ent.go
 all_goals refine congrArg (Value.int .i64) ?_
 all_goals first|(rw [Cfg.at,if_neg (by omega)];done)|(rw [Cfg.at,if_pos (by omega),e4,e5]<;>omega)
theorem rat_7 (c:Cfg)(hc:Small c)(i k:Int):Tri Tryz.prog 107 #[.agg ⟨c.v⟩, .int .i64 7, .int .i64 i, .int .i64 k] [] fun v L=>v=.int .i64 (c.at 7 i k)∧L=[]:=by
 have hn:=hc.nums.f7;have hn2:=hc.nums.f17;have ht:=hc.ts;have hcap:=hc.cap;have:=hc.t0;have:=hc.t1;have:=hc.b0;have:=hc.b1;have:=hc.limit;obtain ⟨hf7,hf10,hf11,hf12,hf13,hf14,hf15,hf16,hf17,hstr⟩:=c.froms;have hi:=hc.imul i;have e1:(c.cnt 7).1=c.threads:=rfl;have e2:(c.cnt 7).2=1:=rfl
 have e4:c.base 7=c.f7:=by first|rfl|(show c.f7+(7 - 7)=_;omega)
 have e5:c.stp 7=3:=rfl;have hcnt:=rcount_r c hc 7;rw [show c.cntR 7=c.threads from rfl] at hcnt;have heach:=reach_r c hc 7;rw [show c.eachR 7=1 from rfl] at heach;have hstride:=rstride_r c hc;have hfrom:RTri Tryz.prog 133 #[.agg ⟨c.v⟩, .int .i64 7] [] (.int .i64 (c.f7)):=rfrom_7 c hc
 refine TB (vs:=[_,_,_,_]) Tryz.func107 fun w0 F=>?_
 repeat' (first|refine Ga ?_|(refine Gb ?_;intro b)|refine Gl hcnt ?_|refine Gl heach ?_|refine Gl hfrom ?_|(refine Ge ?_ ?_<;>intro h<;>try omega)|fail)
 all_goals refine St.dn Tryz.func107 ⟨?_,rfl⟩ Ent.go
 all_goals refine congrArg (Value.int .i64) ?_
 all_goals first|(rw [Cfg.at,if_neg (by omega)];done)|(rw [Cfg.at,if_pos (by omega),e4,e5]<;>omega)
theorem rat_8 (c:Cfg)(hc:Small c)(i k:Int):Tri Tryz.prog 107 #[.agg ⟨c.v⟩, .int .i64 8, .int .i64 i, .int .i64 k] [] fun v L=>v=.int .i64 (c.at 8 i k)∧L=[]:=by
 have hn:=hc.nums.f7;have hn2:=hc.nums.f17;have ht:=hc.ts;have hcap:=hc.cap;have:=hc.t0;have:=hc.t1;have:=hc.b0;have:=hc.b1;have:=hc.limit;obtain ⟨hf7,hf10,hf11,hf12,hf13,hf14,hf15,hf16,hf17,hstr⟩:=c.froms;have hi:=hc.imul i;have e1:(c.cnt 8).1=c.threads:=rfl;have e2:(c.cnt 8).2=1:=rfl
 have e4:c.base 8=c.f7+1:=by first|rfl|(show c.f7+(8 - 7)=_;omega)
 have e5:c.stp 8=3:=rfl;have hcnt:=rcount_r c hc 8;rw [show c.cntR 8=c.threads from rfl] at hcnt;have heach:=reach_r c hc 8;rw [show c.eachR 8=1 from rfl] at heach;have hstride:=rstride_r c hc;have hfrom:RTri Tryz.prog 133 #[.agg ⟨c.v⟩, .int .i64 8] [] (.int .i64 (c.f7+1)):=rfrom_8 c hc
 refine TB (vs:=[_,_,_,_]) Tryz.func107 fun w0 F=>?_
 repeat' (first|refine Ga ?_|(refine Gb ?_;intro b)|refine Gl hcnt ?_|refine Gl heach ?_|refine Gl hfrom ?_|(refine Ge ?_ ?_<;>intro h<;>try omega)|fail)
 all_goals refine St.dn Tryz.func107 ⟨?_,rfl⟩ Ent.go
 all_goals refine congrArg (Value.int .i64) ?_
 all_goals first|(rw [Cfg.at,if_neg (by omega)];done)|(rw [Cfg.at,if_pos (by omega),e4,e5]<;>omega)
theorem rat_9 (c:Cfg)(hc:Small c)(i k:Int):Tri Tryz.prog 107 #[.agg ⟨c.v⟩, .int .i64 9, .int .i64 i, .int .i64 k] [] fun v L=>v=.int .i64 (c.at 9 i k)∧L=[]:=by
 have hn:=hc.nums.f7;have hn2:=hc.nums.f17;have ht:=hc.ts;have hcap:=hc.cap;have:=hc.t0;have:=hc.t1;have:=hc.b0;have:=hc.b1;have:=hc.limit;obtain ⟨hf7,hf10,hf11,hf12,hf13,hf14,hf15,hf16,hf17,hstr⟩:=c.froms;have hi:=hc.imul i;have e1:(c.cnt 9).1=c.threads:=rfl;have e2:(c.cnt 9).2=1:=rfl
 have e4:c.base 9=c.f7+2:=by first|rfl|(show c.f7+(9 - 7)=_;omega)
 have e5:c.stp 9=3:=rfl;have hcnt:=rcount_r c hc 9;rw [show c.cntR 9=c.threads from rfl] at hcnt;have heach:=reach_r c hc 9;rw [show c.eachR 9=1 from rfl] at heach;have hstride:=rstride_r c hc;have hfrom:RTri Tryz.prog 133 #[.agg ⟨c.v⟩, .int .i64 9] [] (.int .i64 (c.f7+2)):=rfrom_9 c hc
 refine TB (vs:=[_,_,_,_]) Tryz.func107 fun w0 F=>?_
 repeat' (first|refine Ga ?_|(refine Gb ?_;intro b)|refine Gl hcnt ?_|refine Gl heach ?_|refine Gl hfrom ?_|(refine Ge ?_ ?_<;>intro h<;>try omega)|fail)
 all_goals refine St.dn Tryz.func107 ⟨?_,rfl⟩ Ent.go
 all_goals refine congrArg (Value.int .i64) ?_
 all_goals first|(rw [Cfg.at,if_neg (by omega)];done)|(rw [Cfg.at,if_pos (by omega),e4,e5]<;>omega)
theorem rat_10 (c:Cfg)(hc:Small c)(i k:Int):Tri Tryz.prog 107 #[.agg ⟨c.v⟩, .int .i64 10, .int .i64 i, .int .i64 k] [] fun v L=>v=.int .i64 (c.at 10 i k)∧L=[]:=by
 have hn:=hc.nums.f7;have hn2:=hc.nums.f17;have ht:=hc.ts;have hcap:=hc.cap;have:=hc.t0;have:=hc.t1;have:=hc.b0;have:=hc.b1;have:=hc.limit;obtain ⟨hf7,hf10,hf11,hf12,hf13,hf14,hf15,hf16,hf17,hstr⟩:=c.froms;have hi:=hc.imul i;have e1:(c.cnt 10).1=16:=rfl;have e2:(c.cnt 10).2=1:=rfl
 have e4:c.base 10=c.f10:=by first|rfl|(show c.f7+(10 - 7)=_;omega)
 have e5:c.stp 10=1:=rfl;have hcnt:=rcount_r c hc 10;rw [show c.cntR 10=16 from rfl] at hcnt;have heach:=reach_r c hc 10;rw [show c.eachR 10=1 from rfl] at heach;have hstride:=rstride_r c hc;have hfrom:RTri Tryz.prog 133 #[.agg ⟨c.v⟩, .int .i64 10] [] (.int .i64 (c.f10)):=rfrom_10 c hc
 refine TB (vs:=[_,_,_,_]) Tryz.func107 fun w0 F=>?_
 repeat' (first|refine Ga ?_|(refine Gb ?_;intro b)|refine Gl hcnt ?_|refine Gl heach ?_|refine Gl hfrom ?_|(refine Ge ?_ ?_<;>intro h<;>try omega)|fail)
 all_goals refine St.dn Tryz.func107 ⟨?_,rfl⟩ Ent.go
 all_goals refine congrArg (Value.int .i64) ?_
 all_goals first|(rw [Cfg.at,if_neg (by omega)];done)|(rw [Cfg.at,if_pos (by omega),e4,e5]<;>omega)
theorem rat_11 (c:Cfg)(hc:Small c)(i k:Int):Tri Tryz.prog 107 #[.agg ⟨c.v⟩, .int .i64 11, .int .i64 i, .int .i64 k] [] fun v L=>v=.int .i64 (c.at 11 i k)∧L=[]:=by
 have hn:=hc.nums.f7;have hn2:=hc.nums.f17;have ht:=hc.ts;have hcap:=hc.cap;have:=hc.t0;have:=hc.t1;have:=hc.b0;have:=hc.b1;have:=hc.limit;obtain ⟨hf7,hf10,hf11,hf12,hf13,hf14,hf15,hf16,hf17,hstr⟩:=c.froms;have hi:=hc.imul i;have e1:(c.cnt 11).1=c.blocks:=rfl;have e2:(c.cnt 11).2=1:=rfl
 have e4:c.base 11=c.f11:=by first|rfl|(show c.f7+(11 - 7)=_;omega)
 have e5:c.stp 11=1:=rfl;have hcnt:=rcount_r c hc 11;rw [show c.cntR 11=c.blocks from rfl] at hcnt;have heach:=reach_r c hc 11;rw [show c.eachR 11=1 from rfl] at heach;have hstride:=rstride_r c hc;have hfrom:RTri Tryz.prog 133 #[.agg ⟨c.v⟩, .int .i64 11] [] (.int .i64 (c.f11)):=rfrom_11 c hc
 refine TB (vs:=[_,_,_,_]) Tryz.func107 fun w0 F=>?_
 repeat' (first|refine Ga ?_|(refine Gb ?_;intro b)|refine Gl hcnt ?_|refine Gl heach ?_|refine Gl hfrom ?_|(refine Ge ?_ ?_<;>intro h<;>try omega)|fail)
 all_goals refine St.dn Tryz.func107 ⟨?_,rfl⟩ Ent.go
 all_goals refine congrArg (Value.int .i64) ?_
 all_goals first|(rw [Cfg.at,if_neg (by omega)];done)|(rw [Cfg.at,if_pos (by omega),e4,e5]<;>omega)
theorem rat_12 (c:Cfg)(hc:Small c)(i k:Int):Tri Tryz.prog 107 #[.agg ⟨c.v⟩, .int .i64 12, .int .i64 i, .int .i64 k] [] fun v L=>v=.int .i64 (c.at 12 i k)∧L=[]:=by
 have hn:=hc.nums.f7;have hn2:=hc.nums.f17;have ht:=hc.ts;have hcap:=hc.cap;have:=hc.t0;have:=hc.t1;have:=hc.b0;have:=hc.b1;have:=hc.limit;obtain ⟨hf7,hf10,hf11,hf12,hf13,hf14,hf15,hf16,hf17,hstr⟩:=c.froms;have hi:=hc.imul i;have e1:(c.cnt 12).1=1:=rfl;have e2:(c.cnt 12).2=1:=rfl
 have e4:c.base 12=c.f12:=by first|rfl|(show c.f7+(12 - 7)=_;omega)
 have e5:c.stp 12=1:=rfl;have hcnt:=rcount_r c hc 12;rw [show c.cntR 12=1 from rfl] at hcnt;have heach:=reach_r c hc 12;rw [show c.eachR 12=1 from rfl] at heach;have hstride:=rstride_r c hc;have hfrom:RTri Tryz.prog 133 #[.agg ⟨c.v⟩, .int .i64 12] [] (.int .i64 (c.f12)):=rfrom_12 c hc
 refine TB (vs:=[_,_,_,_]) Tryz.func107 fun w0 F=>?_
 repeat' (first|refine Ga ?_|(refine Gb ?_;intro b)|refine Gl hcnt ?_|refine Gl heach ?_|refine Gl hfrom ?_|(refine Ge ?_ ?_<;>intro h<;>try omega)|fail)
 all_goals refine St.dn Tryz.func107 ⟨?_,rfl⟩ Ent.go
 all_goals refine congrArg (Value.int .i64) ?_
 all_goals first|(rw [Cfg.at,if_neg (by omega)];done)|(rw [Cfg.at,if_pos (by omega),e4,e5]<;>omega)
theorem rat_13 (c:Cfg)(hc:Small c)(i k:Int):Tri Tryz.prog 107 #[.agg ⟨c.v⟩, .int .i64 13, .int .i64 i, .int .i64 k] [] fun v L=>v=.int .i64 (c.at 13 i k)∧L=[]:=by
 have hn:=hc.nums.f7;have hn2:=hc.nums.f17;have ht:=hc.ts;have hcap:=hc.cap;have:=hc.t0;have:=hc.t1;have:=hc.b0;have:=hc.b1;have:=hc.limit;obtain ⟨hf7,hf10,hf11,hf12,hf13,hf14,hf15,hf16,hf17,hstr⟩:=c.froms;have hi:=hc.imul i;have e1:(c.cnt 13).1=c.blocks:=rfl;have e2:(c.cnt 13).2=1:=rfl
 have e4:c.base 13=c.f13:=by first|rfl|(show c.f7+(13 - 7)=_;omega)
 have e5:c.stp 13=1:=rfl;have hcnt:=rcount_r c hc 13;rw [show c.cntR 13=c.blocks from rfl] at hcnt;have heach:=reach_r c hc 13;rw [show c.eachR 13=1 from rfl] at heach;have hstride:=rstride_r c hc;have hfrom:RTri Tryz.prog 133 #[.agg ⟨c.v⟩, .int .i64 13] [] (.int .i64 (c.f13)):=rfrom_13 c hc
 refine TB (vs:=[_,_,_,_]) Tryz.func107 fun w0 F=>?_
 repeat' (first|refine Ga ?_|(refine Gb ?_;intro b)|refine Gl hcnt ?_|refine Gl heach ?_|refine Gl hfrom ?_|(refine Ge ?_ ?_<;>intro h<;>try omega)|fail)
 all_goals refine St.dn Tryz.func107 ⟨?_,rfl⟩ Ent.go
 all_goals refine congrArg (Value.int .i64) ?_
 all_goals first|(rw [Cfg.at,if_neg (by omega)];done)|(rw [Cfg.at,if_pos (by omega),e4,e5]<;>omega)
theorem rat_14 (c:Cfg)(hc:Small c)(i k:Int):Tri Tryz.prog 107 #[.agg ⟨c.v⟩, .int .i64 14, .int .i64 i, .int .i64 k] [] fun v L=>v=.int .i64 (c.at 14 i k)∧L=[]:=by
 have hn:=hc.nums.f7;have hn2:=hc.nums.f17;have ht:=hc.ts;have hcap:=hc.cap;have:=hc.t0;have:=hc.t1;have:=hc.b0;have:=hc.b1;have:=hc.limit;obtain ⟨hf7,hf10,hf11,hf12,hf13,hf14,hf15,hf16,hf17,hstr⟩:=c.froms;have hi:=hc.imul i;have e1:(c.cnt 14).1=1:=rfl;have e2:(c.cnt 14).2=1:=rfl
 have e4:c.base 14=c.f14:=by first|rfl|(show c.f7+(14 - 7)=_;omega)
 have e5:c.stp 14=1:=rfl;have hcnt:=rcount_r c hc 14;rw [show c.cntR 14=1 from rfl] at hcnt;have heach:=reach_r c hc 14;rw [show c.eachR 14=1 from rfl] at heach;have hstride:=rstride_r c hc;have hfrom:RTri Tryz.prog 133 #[.agg ⟨c.v⟩, .int .i64 14] [] (.int .i64 (c.f14)):=rfrom_14 c hc
 refine TB (vs:=[_,_,_,_]) Tryz.func107 fun w0 F=>?_
 repeat' (first|refine Ga ?_|(refine Gb ?_;intro b)|refine Gl hcnt ?_|refine Gl heach ?_|refine Gl hfrom ?_|(refine Ge ?_ ?_<;>intro h<;>try omega)|fail)
 all_goals refine St.dn Tryz.func107 ⟨?_,rfl⟩ Ent.go
 all_goals refine congrArg (Value.int .i64) ?_
 all_goals first|(rw [Cfg.at,if_neg (by omega)];done)|(rw [Cfg.at,if_pos (by omega),e4,e5]<;>omega)
theorem rat_15 (c:Cfg)(hc:Small c)(i k:Int):Tri Tryz.prog 107 #[.agg ⟨c.v⟩, .int .i64 15, .int .i64 i, .int .i64 k] [] fun v L=>v=.int .i64 (c.at 15 i k)∧L=[]:=by
 have hn:=hc.nums.f7;have hn2:=hc.nums.f17;have ht:=hc.ts;have hcap:=hc.cap;have:=hc.t0;have:=hc.t1;have:=hc.b0;have:=hc.b1;have:=hc.limit;obtain ⟨hf7,hf10,hf11,hf12,hf13,hf14,hf15,hf16,hf17,hstr⟩:=c.froms;have hi:=hc.imul i;have e1:(c.cnt 15).1=c.limit:=rfl;have e2:(c.cnt 15).2=1:=rfl
 have e4:c.base 15=c.f15:=by first|rfl|(show c.f7+(15 - 7)=_;omega)
 have e5:c.stp 15=1:=rfl;have hcnt:=rcount_r c hc 15;rw [show c.cntR 15=c.limit from rfl] at hcnt;have heach:=reach_r c hc 15;rw [show c.eachR 15=1 from rfl] at heach;have hstride:=rstride_r c hc;have hfrom:RTri Tryz.prog 133 #[.agg ⟨c.v⟩, .int .i64 15] [] (.int .i64 (c.f15)):=rfrom_15 c hc
 refine TB (vs:=[_,_,_,_]) Tryz.func107 fun w0 F=>?_
 repeat' (first|refine Ga ?_|(refine Gb ?_;intro b)|refine Gl hcnt ?_|refine Gl heach ?_|refine Gl hfrom ?_|(refine Ge ?_ ?_<;>intro h<;>try omega)|fail)
 all_goals refine St.dn Tryz.func107 ⟨?_,rfl⟩ Ent.go
 all_goals refine congrArg (Value.int .i64) ?_
 all_goals first|(rw [Cfg.at,if_neg (by omega)];done)|(rw [Cfg.at,if_pos (by omega),e4,e5]<;>omega)
theorem rat_16 (c:Cfg)(hc:Small c)(i k:Int):Tri Tryz.prog 107 #[.agg ⟨c.v⟩, .int .i64 16, .int .i64 i, .int .i64 k] [] fun v L=>v=.int .i64 (c.at 16 i k)∧L=[]:=by
 have hn:=hc.nums.f7;have hn2:=hc.nums.f17;have ht:=hc.ts;have hcap:=hc.cap;have:=hc.t0;have:=hc.t1;have:=hc.b0;have:=hc.b1;have:=hc.limit;obtain ⟨hf7,hf10,hf11,hf12,hf13,hf14,hf15,hf16,hf17,hstr⟩:=c.froms;have hi:=hc.imul i;have e1:(c.cnt 16).1=c.blocks:=rfl;have e2:(c.cnt 16).2=8:=rfl
 have e4:c.base 16=c.f16:=by first|rfl|(show c.f7+(16 - 7)=_;omega)
 have e5:c.stp 16=8:=rfl;have hcnt:=rcount_r c hc 16;rw [show c.cntR 16=c.blocks from rfl] at hcnt;have heach:=reach_r c hc 16;rw [show c.eachR 16=8 from rfl] at heach;have hstride:=rstride_r c hc;have hfrom:RTri Tryz.prog 133 #[.agg ⟨c.v⟩, .int .i64 16] [] (.int .i64 (c.f16)):=rfrom_16 c hc
 refine TB (vs:=[_,_,_,_]) Tryz.func107 fun w0 F=>?_
 repeat' (first|refine Ga ?_|(refine Gb ?_;intro b)|refine Gl hcnt ?_|refine Gl heach ?_|refine Gl hfrom ?_|(refine Ge ?_ ?_<;>intro h<;>try omega)|fail)
 all_goals refine St.dn Tryz.func107 ⟨?_,rfl⟩ Ent.go
 all_goals refine congrArg (Value.int .i64) ?_
 all_goals first|(rw [Cfg.at,if_neg (by omega)];done)|(rw [Cfg.at,if_pos (by omega),e4,e5]<;>omega)
theorem rat_r (c:Cfg)(hc:Small c)(kind i k:Int):RTri Tryz.prog 107 #[.agg ⟨c.v⟩, .int .i64 kind, .int .i64 i, .int .i64 k] [] (.int .i64 (c.at kind i k)):=by
 apply RTri.of_pure
 by_cases hk:0≤kind∧kind≤16
 ·have h17:kind=0∨kind=1∨kind=2∨kind=3∨kind=4∨kind=5∨kind=6∨kind=7∨kind=8∨kind=9∨kind=10∨kind=11∨kind=12∨kind=13∨kind=14∨kind=15∨kind=16:=by omega
  rcases h17 with rfl|rfl|rfl|rfl|rfl|rfl|rfl|rfl|rfl|rfl|rfl|rfl|rfl|rfl|rfl|rfl|rfl
  ·exact rat_0 c hc i k
  ·exact rat_1 c hc i k
  ·exact rat_2 c hc i k
  ·exact rat_3 c hc i k
  ·exact rat_4 c hc i k
  ·exact rat_5 c hc i k
  ·exact rat_6 c hc i k
  ·exact rat_7 c hc i k
  ·exact rat_8 c hc i k
  ·exact rat_9 c hc i k
  ·exact rat_10 c hc i k
  ·exact rat_11 c hc i k
  ·exact rat_12 c hc i k
  ·exact rat_13 c hc i k
  ·exact rat_14 c hc i k
  ·exact rat_15 c hc i k
  ·exact rat_16 c hc i k
 ·have e1:¬ 0<(c.cnt kind).1:=fun h=>hk (Cfg.cnt_in h)
  refine TB (vs:=[_,_,_,_]) Tryz.func107 fun w0 F=>?_
  repeat' (first|refine Ga ?_|(refine Gb ?_;intro b)|(refine Ge ?_ ?_<;>intro h<;>try omega)|fail)
  all_goals refine St.dn Tryz.func107 ⟨?_,rfl⟩ Ent.go
  all_goals refine congrArg (Value.int .i64) ?_
  all_goals (rw [Cfg.at,if_neg (by omega)])
end Go.Proofs.YthmbgodcpgkkeaaGreat
