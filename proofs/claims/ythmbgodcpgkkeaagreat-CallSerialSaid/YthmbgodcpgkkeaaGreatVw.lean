/-
  Package view.
-/
import Derived.Test.YthmbgodcpgkkeaaGreatWs
import Derived.Test.YthmbgodcpgkkeaaGreatIns
namespace Go.Proofs.YthmbgodcpgkkeaaGreat
structure Vw where
  who:Int
  seq:Nat
  held:Int
  step:Int
  block:Int
  at_:Int
  val:Nat
  s:Int
def viewV (c:Cfg) (v:Vw):List Value:=c.m++[.int .i64 v.who, .int .u64 (v.seq:Int), .int .i64 v.held, .int .i64 v.step, .int .i64 v.block, .int .i64 v.at_, .int .u64 (v.val:Int), .int .i64 v.s]
theorem take_v (c:Cfg) (v:Vw):TakeN 24 (viewV c v) c.m:=TakeN.app c.m _
def Vw.new (who:Int) (seq:Nat):Vw:=⟨who,seq,-1,0,0,0,0,1⟩
set_option maxRecDepth 100000 in
theorem vnew_t (c:Cfg) (who:Int) (seq:Nat):Tri Tryz.prog 22 #[.agg ⟨c.m⟩, .int .i64 who, .int .u64 (seq:Int)] [] fun r L=>∃ V,r=.pointer (some ⟨V,0,none⟩)∧L=[bl V 215 (viewV c (Vw.new who seq))]:=by
  refine Tri.of_body (vs:=[_,_,_]) Tryz.func22 rfl rfl fun w0 F=>?_
  repeat' (first|refine Ga ?_|(refine Gb ?_;intro b)|(refine Gd ?_;intro g cap rest hcap)|(refine Gc ?_;intro ad cap) |(refine Ge ?_ ?_<;>(intro h;try (exfalso;omega)))|fail)
  refine St.d1 Tryz.func22 ⟨_,⟨_,rfl,rfl⟩, ?_⟩
  exact Ent.go
def Vw.beg (v:Vw) (ok:Bool):Vw:=if v.s=2 then v else { v with val:=0,step:=0,s:=if ok then 0 else 3 }
def Vw.begB (v:Vw) (ok:Bool):Bool:=if v.s=2 then false else ok
set_option maxRecDepth 100000 in
theorem vbegin_t (c:Cfg) (V:Nat) (v:Vw) (ok:Bool):Tri Tryz.prog 267 #[.pointer (some ⟨V,0,none⟩), .bool ok] [bl V 215 (viewV c v)] fun r L=>r=.bool (v.begB ok)∧L=[bl V 215 (viewV c (v.beg ok))]:=by
  unfold Vw.beg Vw.begB
  by_cases hs:v.s=2
  · rw [if_pos hs,if_pos hs]
    refine Tri.of_body (vs:=[_,_]) Tryz.func267 rfl rfl fun w0 F=>?_
    repeat' (first|refine Ga ?_|(refine Gb ?_;intro b)|(refine Gd ?_;intro g cap rest hcap)|(refine Gc ?_;intro ad cap) |(refine Ge ?_ ?_<;>(intro h;try (exfalso;omega)))|fail)
    refine St.d1 Tryz.func267 ⟨_,⟨rfl,rfl⟩, ?_⟩
    exact Ent.go
  · rw [if_neg hs,if_neg hs]
    cases ok with
    | true =>
      refine Tri.of_body (vs:=[_,_]) Tryz.func267 rfl rfl fun w0 F=>?_
      repeat' (first|refine Ga ?_|(refine Gb ?_;intro b)|(refine Gd ?_;intro g cap rest hcap)|(refine Gc ?_;intro ad cap) |(refine Ge ?_ ?_<;>(intro h;try (exfalso;omega)))|fail)
      refine St.d1 Tryz.func267 ⟨_,⟨rfl,rfl⟩, ?_⟩
      exact Ent.go
    | false =>
      refine Tri.of_body (vs:=[_,_]) Tryz.func267 rfl rfl fun w0 F=>?_
      repeat' (first|refine Ga ?_|(refine Gb ?_;intro b)|(refine Gd ?_;intro g cap rest hcap)|(refine Gc ?_;intro ad cap) |(refine Ge ?_ ?_<;>(intro h;try (exfalso;omega)))|fail)
      refine St.d1 Tryz.func267 ⟨_,⟨rfl,rfl⟩, ?_⟩
      exact Ent.go
def Vw.lives (v:Vw):Vw:=if v.at_ = -1 then { v with held:=v.block,step:=0,s:=1 } else { v with held:=v.block,step:=3 }
set_option maxRecDepth 100000 in
theorem vlives_t (c:Cfg) (V:Nat) (v:Vw):Tri Tryz.prog 265 #[.pointer (some ⟨V,0,none⟩)] [bl V 215 (viewV c v)] fun r L=>r=.tuple ⟨[]⟩∧L=[bl V 215 (viewV c v.lives)]:=by
  unfold Vw.lives
  by_cases hs:v.at_ = -1
  · rw [if_pos hs]
    refine Tri.of_body (vs:=[_]) Tryz.func265 rfl rfl fun w0 F=>?_
    repeat' (first|refine Ga ?_|(refine Gb ?_;intro b)|(refine Gd ?_;intro g cap rest hcap)|(refine Gc ?_;intro ad cap) |(refine Ge ?_ ?_<;>(intro h;try (exfalso;omega)))|fail)
    refine St.f1 Tryz.func265 ⟨_,⟨rfl,rfl⟩, ?_⟩
    exact Ent.go
  · rw [if_neg hs]
    refine Tri.of_body (vs:=[_]) Tryz.func265 rfl rfl fun w0 F=>?_
    repeat' (first|refine Ga ?_|(refine Gb ?_;intro b)|(refine Gd ?_;intro g cap rest hcap)|(refine Gc ?_;intro ad cap) |(refine Ge ?_ ?_<;>(intro h;try (exfalso;omega)))|fail)
    refine St.f1 Tryz.func265 ⟨_,⟨rfl,rfl⟩, ?_⟩
    exact Ent.go
def Vw.touch (v:Vw) (b a:Int):Vw:=if v.held=b then Vw.lives { v with block:=b,at_:=a,step:=1 } else { v with block:=b,at_:=a,step:=1 }
set_option maxRecDepth 100000 in
theorem vtouch_t (c:Cfg) (V:Nat) (v:Vw) (b a:Int):Tri Tryz.prog 311 #[.pointer (some ⟨V,0,none⟩), .int .i64 b, .int .i64 a] [bl V 215 (viewV c v)] fun r L=>r=.tuple ⟨[]⟩∧L=[bl V 215 (viewV c (v.touch b a))]:=by
  unfold Vw.touch
  have hl:=vlives_t c V { v with block:=b,at_:=a,step:=1 }
  by_cases hs:v.held=b
  · rw [if_pos hs]
    refine Tri.of_body (vs:=[_,_,_]) Tryz.func311 rfl rfl fun w0 F=>?_
    repeat' (first|refine Ga ?_|(refine Gb ?_;intro b)|(refine Gd ?_;intro g cap rest hcap)|(refine Gc ?_;intro ad cap) |(refine Gt hl ?_;rintro _ _ ⟨rfl,rfl⟩)|(refine Ge ?_ ?_<;>(intro h;try (exfalso;omega)))|fail)
    refine St.f1 Tryz.func311 ⟨_,⟨rfl,rfl⟩, ?_⟩
    exact Ent.go
  · rw [if_neg hs]
    refine Tri.of_body (vs:=[_,_,_]) Tryz.func311 rfl rfl fun w0 F=>?_
    repeat' (first|refine Ga ?_|(refine Gb ?_;intro b)|(refine Gd ?_;intro g cap rest hcap)|(refine Gc ?_;intro ad cap) |(refine Ge ?_ ?_<;>(intro h;try (exfalso;omega)))|fail)
    refine St.f1 Tryz.func311 ⟨_,⟨rfl,rfl⟩, ?_⟩
    exact Ent.go
def Vw.cell (c:Cfg) (v:Vw) (a:Int):Vw:=if v.begB (decide (7≤(c.what a).1) && decide ((c.what a).1<16)) then { v.beg (decide (7≤(c.what a).1) && decide ((c.what a).1<16)) with at_:=a,step:=3 } else v.beg (decide (7≤(c.what a).1) && decide ((c.what a).1<16))
set_option maxRecDepth 100000 in
theorem vcell_t (c:Cfg) (hc:Small c) (V:Nat) (v:Vw) (a:Int):Tri Tryz.prog 205 #[.pointer (some ⟨V,0,none⟩), .int .i64 a] [bl V 215 (viewV c v)] fun r L=>r=.tuple ⟨[]⟩∧L=[bl V 215 (viewV c (v.cell c a))]:=by
  have hw:=what_r c hc a
  unfold Vw.cell
  generalize c.what a=k at *
  obtain ⟨k,ki,kk⟩:=k
  dsimp only at *
  have hbool:∀ (b:Bool),(b=true∧v.begB b=true)∨v.begB b=false:=fun b=>by
    unfold Vw.begB;split
    · exact .inr rfl
    · cases b
      · exact .inr rfl
      · exact .inl ⟨rfl,rfl⟩
  by_cases h7:7≤k
  · have hb:=vbegin_t c V v (decide (k<16))
    rw [decide_eq_true h7,Bool.true_and]
    cases hg:v.begB (decide (k<16)) with
    | true =>
      rw [hg] at hb
      rw [if_pos rfl]
      refine Tri.of_body (vs:=[_,_]) Tryz.func205 rfl rfl fun w0 F=>?_
      repeat' (first|refine Ga ?_|(refine Gb ?_;intro b)|(refine Gd ?_;intro g cap rest hcap)|(refine Gc ?_;intro ad cap)|refine Gl hw ?_|(refine Gt hb ?_;rintro _ _ ⟨rfl,rfl⟩)|(refine Ge ?_ ?_<;>(intro h;try (exfalso;omega)))|fail)
      refine St.f1 Tryz.func205 ⟨_,⟨rfl,rfl⟩, ?_⟩
      exact Ent.go
    | false =>
      rw [hg] at hb
      rw [if_neg (by decide)]
      refine Tri.of_body (vs:=[_,_]) Tryz.func205 rfl rfl fun w0 F=>?_
      repeat' (first|refine Ga ?_|(refine Gb ?_;intro b)|(refine Gd ?_;intro g cap rest hcap)|(refine Gc ?_;intro ad cap)|refine Gl hw ?_|(refine Gt hb ?_;rintro _ _ ⟨rfl,rfl⟩)|(refine Ge ?_ ?_<;>(intro h;try (exfalso;omega)))|fail)
      refine St.f1 Tryz.func205 ⟨_,⟨rfl,rfl⟩, ?_⟩
      exact Ent.go
  · have hb:=vbegin_t c V v false
    rw [decide_eq_false h7,Bool.false_and]
    have hg:v.begB false=false:=by unfold Vw.begB;split<;>rfl
    rw [hg] at hb⊢
    rw [if_neg (by decide)]
    refine Tri.of_body (vs:=[_,_]) Tryz.func205 rfl rfl fun w0 F=>?_
    repeat' (first|refine Ga ?_|(refine Gb ?_;intro b)|(refine Gd ?_;intro g cap rest hcap)|(refine Gc ?_;intro ad cap)|refine Gl hw ?_|(refine Gt hb ?_;rintro _ _ ⟨rfl,rfl⟩)|(refine Ge ?_ ?_<;>(intro h;try (exfalso;omega)))|fail)
    refine St.f1 Tryz.func205 ⟨_,⟨rfl,rfl⟩, ?_⟩
    exact Ent.go
def Vw.word (c:Cfg) (v:Vw) (b w:Int):Vw:=if v.begB (c.at 16 b w != -1) then (v.beg (c.at 16 b w != -1)).touch b (c.at 16 b w) else v.beg (c.at 16 b w != -1)
def Vw.live (c:Cfg) (v:Vw) (b:Int):Vw:=if v.begB (c.at 11 b 0 != -1) then (v.beg (c.at 11 b 0 != -1)).touch b (-1) else v.beg (c.at 11 b 0 != -1)
set_option maxRecDepth 100000 in
theorem vword_t (c:Cfg) (hc:Small c) (V:Nat) (v:Vw) (b w:Int):Tri Tryz.prog 285 #[.pointer (some ⟨V,0,none⟩), .int .i64 b, .int .i64 w] [bl V 215 (viewV c v)] fun r L=>r=.tuple ⟨[]⟩∧L=[bl V 215 (viewV c (v.word c b w))]:=by
  have hw:=at_r c hc 16 b w
  unfold Vw.word
  generalize c.at 16 b w=a at *
  have hb:=vbegin_t c V v (a != -1)
  have ht:=vtouch_t c V (v.beg (a != -1)) b a
  cases hg:v.begB (a != -1) with
  | true =>
    rw [hg] at hb
    rw [if_pos rfl]
    refine Tri.of_body (vs:=[_,_,_]) Tryz.func285 rfl rfl fun w0 F=>?_
    repeat' (first|refine Ga ?_|(refine Gb ?_;intro b)|(refine Gd ?_;intro g cap rest hcap)|(refine Gc ?_;intro ad cap)|refine Gl hw ?_|(refine Gt hb ?_;rintro _ _ ⟨rfl,rfl⟩)|(refine Gt ht ?_;rintro _ _ ⟨rfl,rfl⟩)|(refine Ge ?_ ?_<;>(intro h;try (exfalso;omega)))|fail)
    refine St.f1 Tryz.func285 ⟨_,⟨rfl,rfl⟩, ?_⟩
    exact Ent.go
  | false =>
    rw [hg] at hb
    rw [if_neg (by decide)]
    refine Tri.of_body (vs:=[_,_,_]) Tryz.func285 rfl rfl fun w0 F=>?_
    repeat' (first|refine Ga ?_|(refine Gb ?_;intro b)|(refine Gd ?_;intro g cap rest hcap)|(refine Gc ?_;intro ad cap)|refine Gl hw ?_|(refine Gt hb ?_;rintro _ _ ⟨rfl,rfl⟩)|(refine Ge ?_ ?_<;>(intro h;try (exfalso;omega)))|fail)
    refine St.f1 Tryz.func285 ⟨_,⟨rfl,rfl⟩, ?_⟩
    exact Ent.go
set_option maxRecDepth 100000 in
theorem vlive_t (c:Cfg) (hc:Small c) (V:Nat) (v:Vw) (b:Int):Tri Tryz.prog 286 #[.pointer (some ⟨V,0,none⟩), .int .i64 b] [bl V 215 (viewV c v)] fun r L=>r=.tuple ⟨[]⟩∧L=[bl V 215 (viewV c (v.live c b))]:=by
  have hw:=at_r c hc 11 b 0
  unfold Vw.live
  generalize c.at 11 b 0=a at *
  have hb:=vbegin_t c V v (a != -1)
  have ht:=vtouch_t c V (v.beg (a != -1)) b (-1)
  cases hg:v.begB (a != -1) with
  | true =>
    rw [hg] at hb
    rw [if_pos rfl]
    refine Tri.of_body (vs:=[_,_]) Tryz.func286 rfl rfl fun w0 F=>?_
    repeat' (first|refine Ga ?_|(refine Gb ?_;intro b)|(refine Gd ?_;intro g cap rest hcap)|(refine Gc ?_;intro ad cap)|refine Gl hw ?_|(refine Gt hb ?_;rintro _ _ ⟨rfl,rfl⟩)|(refine Gt ht ?_;rintro _ _ ⟨rfl,rfl⟩)|(refine Ge ?_ ?_<;>(intro h;try (exfalso;omega)))|fail)
    refine St.f1 Tryz.func286 ⟨_,⟨rfl,rfl⟩, ?_⟩
    exact Ent.go
  | false =>
    rw [hg] at hb
    rw [if_neg (by decide)]
    refine Tri.of_body (vs:=[_,_]) Tryz.func286 rfl rfl fun w0 F=>?_
    repeat' (first|refine Ga ?_|(refine Gb ?_;intro b)|(refine Gd ?_;intro g cap rest hcap)|(refine Gc ?_;intro ad cap)|refine Gl hw ?_|(refine Gt hb ?_;rintro _ _ ⟨rfl,rfl⟩)|(refine Ge ?_ ?_<;>(intro h;try (exfalso;omega)))|fail)
    refine St.f1 Tryz.func286 ⟨_,⟨rfl,rfl⟩, ?_⟩
    exact Ent.go
def mop (k a:Int) (n:Nat):MOp:=⟨k,a,⟨0,0⟩,⟨n,0⟩⟩
def Vw.ask (c:Cfg) (v:Vw):MOp×Bool :=
  if v.step=1 then (mop 1 (c.at 3 v.who 0) (v.block+1).toNat,true) else if v.step=2 then (mop 0 (c.at 11 v.block 0) 0,true) else if v.step=3 then (mop 0 v.at_ 0,true) else (mop 0 0 0,false)
set_option maxRecDepth 100000 in
theorem vask_r (c:Cfg) (hc:Small c) (V:Nat) (v:Vw) (hb:0≤v.block∧v.block≤1000000):RTri Tryz.prog 120 #[.pointer (some ⟨V,0,none⟩)] [bl V 215 (viewV c v)] (.tuple ⟨[.agg ⟨(v.ask c).1.v⟩, .bool (v.ask c).2]⟩):=by
  apply RTri.of_reads
  intro q hq
  have hV:=RdC.of_sat hq (ReadsC.here RdC.bl)
  have htk:=take_v c v
  have h1:=at_r c hc 3 v.who 0
  have h2:=at_r c hc 11 v.block 0
  have he:((v.block+1).toNat:Int)=v.block+1:=by omega
  unfold Vw.ask
  refine Tri.of_body (vs:=[_]) Tryz.func120 rfl rfl fun w0 F=>?_
  repeat' (first|refine Ga ?_|(refine Gb ?_;intro b)|(refine Gd ?_;intro g cap rest hcap)|(refine Gc ?_;intro ad cap)|(refine St.draw (id:=3) [(0,0),(1,0),(2,0),(3,1),(4,0),(5,0),(6,0),(7,1),(8,1),(9,0),(10,0),(11,0),(12,1),(13,0),(14,0),(15,0),(16,0),(17,3),(18,0)] [17] mixed (by kernel_rfl) ?_)|(refine St.draw (id:=5) [(0,0),(1,0),(2,0),(3,1),(4,0),(5,0),(6,0),(7,1),(8,1),(9,0),(10,3),(11,0)] [10] mixed (by kernel_rfl) ?_)| refine Gl h1 ?_|refine Gl h2 ?_|(refine Ge ?_ ?_<;>(intro h;try (exfalso;omega)))|fail)
  all_goals (first|refine St.dn Tryz.func120 ⟨?_,rfl⟩ Ent.go|refine St.fl Tryz.func120 ⟨?_,rfl⟩ Ent.go)
  all_goals (repeat (first|rw [if_pos (by assumption)]|rw [if_neg (by assumption)]))
  all_goals first|rfl|(unfold mop MOp.v;dsimp only;rw [he];rfl)
def Vw.loaded (v:Vw) (c:Cell):Vw :=
  if v.seq<c.seq then { v with step:=0,s:=2 } else if v.step=3 then { v with step:=0,val:=c.val,s:=1 } else if c.val≠1 then { v with step:=0,s:=3 } else Vw.lives { v with step:=0 }
set_option maxRecDepth 100000 in
theorem vloaded_t (c:Cfg) (V:Nat) (v:Vw) (cl:Cell):Tri Tryz.prog 201 #[.pointer (some ⟨V,0,none⟩), .agg ⟨cl.v⟩] [bl V 215 (viewV c v)] fun r L=>r=.tuple ⟨[]⟩∧L=[bl V 215 (viewV c (v.loaded cl))]:=by
  have hl:=vlives_t c V { v with step:=0 }
  unfold Vw.loaded
  by_cases h1:v.seq<cl.seq
  · rw [if_pos h1]
    refine Tri.of_body (vs:=[_,_]) Tryz.func201 rfl rfl fun w0 F=>?_
    repeat' (first|refine Ga ?_|(refine Gb ?_;intro b)|(refine Gd ?_;intro g cap rest hcap)|(refine Gc ?_;intro ad cap)|(refine St.draw (id:=4) [(0,0),(1,1),(2,0),(3,0),(4,0),(5,1),(6,0),(7,0)] [] mixed (by kernel_rfl) ?_)|(refine Gt hl ?_;rintro _ _ ⟨rfl,rfl⟩)|(refine Ge ?_ ?_<;>(intro h;try (exfalso;omega)))|fail)
    refine St.f1 Tryz.func201 ⟨_,⟨rfl,rfl⟩, ?_⟩
    exact Ent.go
  · rw [if_neg h1]
    by_cases h2:v.step=3
    · rw [if_pos h2]
      refine Tri.of_body (vs:=[_,_]) Tryz.func201 rfl rfl fun w0 F=>?_
      repeat' (first|refine Ga ?_|(refine Gb ?_;intro b)|(refine Gd ?_;intro g cap rest hcap)|(refine Gc ?_;intro ad cap)|(refine St.draw (id:=4) [(0,0),(1,1),(2,0),(3,0),(4,0),(5,1),(6,0),(7,0)] [] mixed (by kernel_rfl) ?_)|(refine Gt hl ?_;rintro _ _ ⟨rfl,rfl⟩)|(refine Ge ?_ ?_<;>(intro h;try (exfalso;omega)))|fail)
      refine St.f1 Tryz.func201 ⟨_,⟨rfl,rfl⟩, ?_⟩
      exact Ent.go
    · rw [if_neg h2]
      by_cases h3:cl.val≠1
      · rw [if_pos h3]
        refine Tri.of_body (vs:=[_,_]) Tryz.func201 rfl rfl fun w0 F=>?_
        repeat' (first|refine Ga ?_|(refine Gb ?_;intro b)|(refine Gd ?_;intro g cap rest hcap)|(refine Gc ?_;intro ad cap)|(refine St.draw (id:=4) [(0,0),(1,1),(2,0),(3,0),(4,0),(5,1),(6,0),(7,0)] [] mixed (by kernel_rfl) ?_)|(refine Gt hl ?_;rintro _ _ ⟨rfl,rfl⟩)|(refine Ge ?_ ?_<;>(intro h;try (exfalso;omega)))|fail)
        refine St.f1 Tryz.func201 ⟨_,⟨rfl,rfl⟩, ?_⟩
        exact Ent.go
      · rw [if_neg h3]
        refine Tri.of_body (vs:=[_,_]) Tryz.func201 rfl rfl fun w0 F=>?_
        repeat' (first|refine Ga ?_|(refine Gb ?_;intro b)|(refine Gd ?_;intro g cap rest hcap)|(refine Gc ?_;intro ad cap)|(refine St.draw (id:=4) [(0,0),(1,1),(2,0),(3,0),(4,0),(5,1),(6,0),(7,0)] [] mixed (by kernel_rfl) ?_)|(refine Gt hl ?_;rintro _ _ ⟨rfl,rfl⟩)|(refine Ge ?_ ?_<;>(intro h;try (exfalso;omega)))|fail)
        refine St.f1 Tryz.func201 ⟨_,⟨rfl,rfl⟩, ?_⟩
        exact Ent.go
def Vw.tell (v:Vw) (o:Out):Vw:=if v.step=1 then { v with held := -1,step:=2 } else if v.step=2∨v.step=3 then v.loaded o.was else v
set_option maxRecDepth 100000 in
theorem vtell_t (c:Cfg) (V:Nat) (v:Vw) (o:Out):Tri Tryz.prog 122 #[.pointer (some ⟨V,0,none⟩), .agg ⟨o.v⟩] [bl V 215 (viewV c v)] fun r L=>r=.tuple ⟨[]⟩∧L=[bl V 215 (viewV c (v.tell o))]:=by
  have hl:=vloaded_t c V v o.was
  unfold Vw.tell
  by_cases h1:v.step=1
  · rw [if_pos h1]
    refine Tri.of_body (vs:=[_,_]) Tryz.func122 rfl rfl fun w0 F=>?_
    repeat' (first|refine Ga ?_|(refine Gb ?_;intro b)|(refine Gd ?_;intro g cap rest hcap)|(refine Gc ?_;intro ad cap) |(refine Gt hl ?_;rintro _ _ ⟨rfl,rfl⟩)|(refine Ge ?_ ?_<;>(intro h;try (exfalso;omega)))|fail)
    refine St.f1 Tryz.func122 ⟨_,⟨rfl,rfl⟩, ?_⟩
    exact Ent.go
  · rw [if_neg h1]
    by_cases h2:v.step=2∨v.step=3
    · rw [if_pos h2]
      refine Tri.of_body (vs:=[_,_]) Tryz.func122 rfl rfl fun w0 F=>?_
      repeat' (first|refine Ga ?_|(refine Gb ?_;intro b)|(refine Gd ?_;intro g cap rest hcap)|(refine Gc ?_;intro ad cap) |(refine Gt hl ?_;rintro _ _ ⟨rfl,rfl⟩)|(refine Ge ?_ ?_<;>(intro h;try (exfalso;omega)))|fail)
      all_goals (refine St.f1 Tryz.func122 ⟨_,⟨rfl,rfl⟩, ?_⟩;exact Ent.go)
    · rw [if_neg h2]
      refine Tri.of_body (vs:=[_,_]) Tryz.func122 rfl rfl fun w0 F=>?_
      repeat' (first|refine Ga ?_|(refine Gb ?_;intro b)|(refine Gd ?_;intro g cap rest hcap)|(refine Gc ?_;intro ad cap) |(refine Gt hl ?_;rintro _ _ ⟨rfl,rfl⟩)|(refine Ge ?_ ?_<;>(intro h;try (exfalso;omega)))|fail)
      refine St.f1 Tryz.func122 ⟨_,⟨rfl,rfl⟩, ?_⟩
      exact Ent.go
set_option maxRecDepth 100000 in
theorem vend_r (c:Cfg) (V:Nat) (v:Vw):RTri Tryz.prog 194 #[.pointer (some ⟨V,0,none⟩)] [bl V 215 (viewV c v)] (.tuple ⟨[.int .u64 (v.val:Int), .int .i64 v.s]⟩):=by
  apply RTri.of_reads
  intro q hq
  have hV:=RdC.of_sat hq (ReadsC.here RdC.bl)
  refine Tri.of_body (vs:=[_]) Tryz.func194 rfl rfl fun w0 F=>?_
  repeat' (first|refine Ga ?_|(refine Gb ?_;intro b)|(refine Gd ?_;intro g cap rest hcap)|(refine Gc ?_;intro ad cap)|(refine St.draw (id:=1) [(0,0),(1,0),(2,0),(3,1),(4,0),(5,0),(6,0),(7,1),(8,0),(9,0)] [] mixed (by kernel_rfl) ?_)|(refine Ge ?_ ?_<;>(intro h;try (exfalso;omega)))|fail)
  (first|refine St.dn Tryz.func194 ⟨?_,rfl⟩ Ent.go|refine St.fl Tryz.func194 ⟨?_,rfl⟩ Ent.go)
  rfl
end Go.Proofs.YthmbgodcpgkkeaaGreat
