/-
  Package pool: New, Ask, Tell, Mark, Back, Top. Package pool: release, Take, Give, Settle. Package pool: Settle. Package pool, over sealed memory.
-/
import Derived.Test.YthmbgodcpgkkeaaGreatVw
namespace Go.Proofs.YthmbgodcpgkkeaaGreat
theorem mget_mput {β:Type} (m:List (Int×β)) (k k':Int) (x:β):mget (mput m k x) k'=if k'=k then some x else mget m k':=by
  induction m with
  | nil =>
    simp only [mput,mget]
    by_cases h:k=k'
    · subst h;simp
    · rw [if_neg h,if_neg (fun e=>h e.symm)]
  | cons p m ih =>
    obtain ⟨a,y⟩:=p
    by_cases hak:a=k
    · subst hak
      simp only [mput,if_true,mget]
      by_cases h:a=k'
      · subst h;simp
      · rw [if_neg h,if_neg h,if_neg (fun e=>h e.symm)]
    · simp only [mput,hak,if_false,mget,ih]
      by_cases h:a=k'
      · subst h;simp [hak]
      · rw [if_neg h,if_neg h]
instance:MapTy Tryz.prog 208 Int Int (Value.int .u64) (Value.int .i64) 0:=MapTy.int Tryz.underlying208 Tryz.underlying22 (inferInstance:Zer Tryz.prog 3 (.int .i64 0)).h
def cnt (names:List Nat) (k:Int):Int:=(names.countP (fun (x:Nat)=>decide ((x:Int)=k)):Nat)
theorem cnt_snoc (names:List Nat) (x:Nat) (k:Int):cnt (names++[x]) k=if k=(x:Int) then cnt names (x:Int)+1 else cnt names k:=by
  unfold cnt
  rw [List.countP_append,List.countP_singleton]
  by_cases h:k=(x:Int)
  · subst h;simp
  · rw [if_neg h,if_neg (by simpa using fun e=>h e.symm)];simp
theorem cnt_le (names:List Nat) (k:Int):0≤cnt names k∧cnt names k≤names.length:=by
  unfold cnt
  have:names.countP (fun (x:Nat)=>decide ((x:Int)=k))≤names.length:=List.countP_le_length
  omega
structure Po where
  seq:Nat
  next:Int
  names:List Nat
  wt:Int
  wl:Int
  nt:Int
  nl:Int
  limbo:List Nat
  s:Int
structure PoX (names:List Nat) where
  N:Nat
  lad:Option Addr
  lcap:Nat
  m:List (Int×Int)
  hm:∀ k,(mget m k).getD 0=cnt names k
def poolV (c:Cfg) (N:Nat) (p:Po) (lv:Value):List Value:=c.m++[.int .u64 (p.seq:Int), .int .i64 p.next, .map (some N), .int .i64 p.wt, .int .i64 p.wl, .int .i64 p.nt, .int .i64 p.nl,lv, .int .i64 p.s]
theorem take_p (c:Cfg) (N:Nat) (p:Po) (lv:Value):TakeN 24 (poolV c N p lv) c.m:=TakeN.app c.m _
def plL (Pb:Nat) (c:Cfg) (p:Po) (x:PoX p.names):List HProp:=[bl Pb 210 (poolV c x.N p (.slice x.lad p.limbo.length x.lcap)),Mp x.N (Value.int .u64) (Value.int .i64) x.m,Row (.slice x.lad p.limbo.length x.lcap) 22 1 p.limbo.length (u64s p.limbo)]
def PlE (Pb:Nat) (c:Cfg) (p:Po):HProp:=ex (plL Pb c p)
def Po.new (seq:Nat):Po:=⟨seq,0,[],0,0,0,0,[],0⟩
set_option maxRecDepth 100000 in
theorem pnew_tE (c:Cfg) (seq:Nat):Tri Tryz.prog 19 #[.agg ⟨c.m⟩, .int .u64 (seq:Int)] [] fun r L=>∃ Pb,r=.pointer (some ⟨Pb,0,none⟩)∧L=[PlE Pb c (Po.new seq)]:=by
  refine Tri.of_body (vs:=[_,_]) Tryz.func19 rfl rfl fun w0 F=>?_
  repeat' (first|refine Ga ?_|(refine Gb ?_;intro b)|(refine Gd ?_;intro g cap rest hcap)|(refine Gc ?_;intro ad cap) |(refine Ge ?_ ?_<;>(intro h;try (exfalso;omega)))|fail)
  rename_i N
  refine St.d1 Tryz.func19 ⟨_,⟨_,rfl,rfl⟩, ?_⟩
  refine Ent.trans ?_ (Ent.ex_in (Ls:=plL _ c (Po.new seq)) ⟨N,none,0,[],fun k=>rfl⟩)
  refine Ent.trans (Ent.row_nil 22 1) ?_
  exact Ent.go
set_option maxRecDepth 100000 in
theorem pStatus_rE (Pb:Nat) (c:Cfg) (p:Po):RTri Tryz.prog 203 #[.pointer (some ⟨Pb,0,none⟩)] [PlE Pb c p] (.int .i64 p.s):=by
  refine RTri.of_exact fun W0 hs=>?_
  obtain ⟨x,hs⟩:=sat_ex hs
  have hW:=RdC.exact hs (ReadsC.here RdC.bl)
  refine Tri.of_body (vs:=[_]) Tryz.func203 rfl rfl fun w0 F=>?_
  repeat' (first|refine Ga ?_|(refine Gb ?_;intro b)|(refine Gd ?_;intro g cap rest hcap)|(refine Gc ?_;intro ad cap) |(refine Ge ?_ ?_<;>(intro h;try (exfalso;omega)))|fail)
  (first|refine St.dn Tryz.func203 ⟨?_,rfl⟩ Ent.go|refine St.fl Tryz.func203 ⟨?_,rfl⟩ Ent.go)
  rfl
set_option maxRecDepth 100000 in
theorem pMark_rE (Pb:Nat) (c:Cfg) (p:Po):RTri Tryz.prog 34 #[.pointer (some ⟨Pb,0,none⟩)] [PlE Pb c p] (.agg ⟨[.int .i64 p.nt, .int .i64 p.nl]⟩):=by
  refine RTri.of_exact fun W0 hs=>?_
  obtain ⟨x,hs⟩:=sat_ex hs
  have hW:=RdC.exact hs (ReadsC.here RdC.bl)
  refine Tri.of_body (vs:=[_]) Tryz.func34 rfl rfl fun w0 F=>?_
  repeat' (first|refine Ga ?_|(refine Gb ?_;intro b)|(refine Gd ?_;intro g cap rest hcap)|(refine Gc ?_;intro ad cap) |(refine Ge ?_ ?_<;>(intro h;try (exfalso;omega)))|fail)
  (first|refine St.dn Tryz.func34 ⟨?_,rfl⟩ Ent.go|refine St.fl Tryz.func34 ⟨?_,rfl⟩ Ent.go)
  rfl
set_option maxRecDepth 100000 in
theorem pback_tE (Pb:Nat) (c:Cfg) (p:Po) (t l:Int):Tri Tryz.prog 192 #[.pointer (some ⟨Pb,0,none⟩), .agg ⟨[.int .i64 t, .int .i64 l]⟩] [PlE Pb c p] fun r L=>r=.tuple ⟨[]⟩∧L=[PlE Pb c { p with nt:=t,nl:=l }]:=by
  refine Tri.ex_out fun x=>?_
  refine Tri.of_body (vs:=[_,_]) Tryz.func192 rfl rfl fun w0 F=>?_
  repeat' (first|refine Ga ?_|(refine Gb ?_;intro b)|(refine Gd ?_;intro g cap rest hcap)|(refine Gc ?_;intro ad cap) |(refine Ge ?_ ?_<;>(intro h;try (exfalso;omega)))|fail)
  refine St.f1 Tryz.func192 ⟨_,⟨rfl,rfl⟩, ?_⟩
  exact Ent.trans Ent.go (Ent.ex_in (Ls:=plL Pb c { p with nt:=t,nl:=l }) x)
def Po.top (c:Cfg) (p:Po):Int×Bool:=if p.nt=0 then (-1,false) else (c.at 13 (p.nt - 1) 0,true)
set_option maxRecDepth 100000 in
theorem ptop_rE (Pb:Nat) (c:Cfg) (hc:Small c) (p:Po) (ht:0≤p.nt∧p.nt≤1000000):RTri Tryz.prog 287 #[.pointer (some ⟨Pb,0,none⟩)] [PlE Pb c p] (.tuple ⟨[.int .i64 (p.top c).1, .bool (p.top c).2]⟩):=by
  refine RTri.of_exact fun W0 hs=>?_
  obtain ⟨x,hs⟩:=sat_ex hs
  have hW:=RdC.exact hs (ReadsC.here RdC.bl)
  have htk:=take_p c x.N p (.slice x.lad p.limbo.length x.lcap)
  have ha:=at_r c hc 13 (p.nt - 1) 0
  unfold Po.top
  refine Tri.of_body (vs:=[_]) Tryz.func287 rfl rfl fun w0 F=>?_
  repeat' (first|refine Ga ?_|(refine Gb ?_;intro b)|(refine Gd ?_;intro g cap rest hcap)|(refine Gc ?_;intro ad cap)|(refine St.draw (id:=3) [(0,0),(1,0),(2,0),(3,1),(4,0),(5,0),(6,0),(7,0),(8,1),(9,0),(10,1),(11,0),(12,0)] [] mixed (by kernel_rfl) ?_)| refine Gl ha ?_|(refine Ge ?_ ?_<;>(intro h;try (exfalso;omega)))|fail)
  all_goals (first|refine St.dn Tryz.func287 ⟨?_,rfl⟩ Ent.go|refine St.fl Tryz.func287 ⟨?_,rfl⟩ Ent.go)
  all_goals (first|rw [if_pos (by assumption)]|rw [if_neg (by assumption)])
  all_goals rfl
def Po.ask (c:Cfg) (p:Po):MOp×Bool :=
  if p.s≠0 then (mop 0 0 0,false) else if p.next<c.threads then (mop 0 (c.at 3 p.next 0) 0,true) else if p.next=c.threads then (mop 0 (c.at 12 0 0) 0,true) else
  if p.next=c.threads+1 then (mop 0 (c.at 14 0 0) 0,true) else (mop 0 (c.at 15 (p.next - c.threads - 2) 0) 0,true)
set_option maxRecDepth 100000 in
theorem pask_rE (Pb:Nat) (c:Cfg) (hc:Small c) (p:Po) (hn:0≤p.next∧p.next≤1000000):RTri Tryz.prog 130 #[.pointer (some ⟨Pb,0,none⟩)] [PlE Pb c p] (.tuple ⟨[.agg ⟨(p.ask c).1.v⟩, .bool (p.ask c).2]⟩):=by
  refine RTri.of_exact fun W0 hs=>?_
  obtain ⟨x,hs⟩:=sat_ex hs
  have hW:=RdC.exact hs (ReadsC.here RdC.bl)
  have htk:=take_p c x.N p (.slice x.lad p.limbo.length x.lcap)
  have hcf:=cfg_r c
  have h1:=at_r c hc 3 p.next 0
  have h2:=at_r c hc 12 0 0
  have h3:=at_r c hc 14 0 0
  have h4:=at_r c hc 15 (p.next - c.threads - 2) 0
  have:=hc.t0;have:=hc.t1
  unfold Po.ask
  refine Tri.of_body (vs:=[_]) Tryz.func130 rfl rfl fun w0 F=>?_
  repeat' (first|refine Ga ?_|(refine Gb ?_;intro b)|(refine Gd ?_;intro g cap rest hcap)|(refine Gc ?_;intro ad cap)|(refine St.draw (id:=5) [(0,0),(1,0),(2,0),(3,1),(4,0),(5,0),(6,0),(7,1),(8,1),(9,0),(10,3),(11,0)] [10] mixed (by kernel_rfl) ?_)|(refine St.draw (id:=10) [(0,0),(1,0),(2,0),(3,1),(4,0),(5,0),(6,0),(7,1),(8,0),(9,0),(10,0),(11,1),(12,0),(13,3),(14,0)] [13] mixed (by kernel_rfl) ?_)| refine Gl hcf ?_|refine Gl h1 ?_|refine Gl h2 ?_|refine Gl h3 ?_|refine Gl h4 ?_|(refine Ge ?_ ?_<;>(intro h;try (exfalso;omega)))|fail)
  all_goals (first|refine St.dn Tryz.func130 ⟨?_,rfl⟩ Ent.go|refine St.fl Tryz.func130 ⟨?_,rfl⟩ Ent.go)
  all_goals (repeat (first|rw [if_pos (by omega)]|rw [if_neg (by omega)]))
  all_goals rfl
def Po.fin (c:Cfg) (p:Po):Po:=if c.threads+1<p.next∧(p.limbo.length:Int)=p.wl then { p with nt:=p.wt,nl:=p.wl,s:=1 } else p
def minI (a b:Int):Int:=if b<a then b else a
def Po.tell (c:Cfg) (p:Po) (o:Out):Po :=
  if p.s≠0 then p else if p.next<c.threads then Po.fin c { p with names:=p.names++[o.was.val],next:=p.next+1 } else if p.seq<o.was.seq then { p with s:=2 } else
  if p.next=c.threads then Po.fin c { p with wt:=minI o.was.val c.blocks,next:=p.next+1 } else if p.next=c.threads+1 then Po.fin c { p with wl:=minI o.was.val c.limit,next:=p.next+1 } else
  Po.fin c { p with limbo:=p.limbo++[o.was.val],next:=p.next+1 }
theorem u64s_snoc (l:List Nat) (x:Nat):u64s (l++[x])=u64s l++[.int .u64 (x:Int)]:=by simp [u64s]
set_option maxRecDepth 100000 in
theorem ptell_tE (Pb:Nat) (c:Cfg) (hc:Small c) (p:Po) (o:Out) (hn:0≤p.next∧p.next≤1000000) (hna:p.names.length≤1000000) (hli:p.limbo.length≤1000000):Tri Tryz.prog 20 #[.pointer (some ⟨Pb,0,none⟩), .agg ⟨o.v⟩] [PlE Pb c p] fun r L=>r=.tuple ⟨[]⟩∧L=[PlE Pb c (p.tell c o)]:=by
  refine Tri.ex_out fun x=>?_
  have htk:=take_p c x.N p (.slice x.lad p.limbo.length x.lcap)
  have hcf:=cfg_r c
  have hlm:=limit_r c hc c.fr
  have hcn:=x.hm (o.was.val:Int)
  have hcl:=cnt_le p.names (o.was.val:Int)
  have hnew:∀ k,(mget (mput x.m o.was.val ((mget x.m o.was.val).getD 0+1)) k).getD 0=cnt (p.names++[o.was.val]) k:=by
    intro k
    rw [mget_mput,cnt_snoc]
    split
    · rw [Option.getD_some,hcn]
    · exact x.hm k
  have:=hc.t0;have:=hc.t1;have:=hc.b0;have:=hc.b1;have:=hc.limit
  refine Tri.of_body (vs:=[_,_]) Tryz.func20 rfl rfl fun w0 F=>?_
  repeat' (first|refine Ga ?_|(refine Gb ?_;intro b)|(refine Gd ?_;intro g cap rest hcap)|(refine Gc ?_;intro ad cap)|(refine St.draw (id:=6) [(0,0),(1,0),(2,0),(3,1),(4,0),(5,1),(6,1),(7,0),(8,3)] [8] mixed (by kernel_rfl) ?_)|(refine St.draw (id:=7) [(0,0),(1,1),(2,0),(3,0),(4,0),(5,1),(6,0),(7,0)] [] mixed (by kernel_rfl) ?_)|(refine St.draw (id:=10) [(0,0),(1,0),(2,1),(3,0),(4,0),(5,0),(6,1),(7,1),(8,0),(9,0),(10,0),(11,0),(12,0),(13,0),(14,0),(15,3)] [15] mixed (by kernel_rfl) ?_)|(refine St.draw (id:=12) [(0,0),(1,0),(2,1),(3,0),(4,0),(5,0),(6,1),(7,1),(8,0),(9,0),(10,0),(11,0),(12,0),(13,0),(14,3)] [14] mixed (by kernel_rfl) ?_)|(refine St.draw (id:=3) [(0,0),(1,0),(2,0),(3,0),(4,1),(5,0),(6,1),(7,2),(8,3),(9,0),(10,0),(11,3)] [8,11] mixed (by kernel_rfl) ?_)|(refine St.draw (id:=14) [(0,0),(1,0),(2,0),(3,1),(4,0),(5,0),(6,0),(7,0),(8,0),(9,0),(10,0),(11,1),(12,0),(13,0),(14,0),(15,0),(16,0),(17,1),(18,0),(19,0)] [] mixed (by kernel_rfl) ?_)| refine Gl hcf ?_|refine Gl hlm ?_|(refine Ge ?_ ?_<;>(intro h;try (exfalso;omega)))|fail)
  · have e:p.tell c o=p:=by
      unfold Po.tell Po.fin;dsimp only
      repeat (first|rw [if_pos (by omega)]|rw [if_neg (by omega)])
    rw [e]
    refine St.d1 Tryz.func20 ⟨_,⟨rfl,rfl⟩, ?_⟩
    exact Ent.trans Ent.go (Ent.ex_in (Ls:=plL Pb c p) x)
  · have e:p.tell c o={ p with names:=p.names++[o.was.val],next:=p.next+1 }:=by
      unfold Po.tell Po.fin;dsimp only
      repeat (first|rw [if_pos (by omega)]|rw [if_neg (by omega)])
    rw [e]
    refine St.f1 Tryz.func20 ⟨_,⟨rfl,rfl⟩, ?_⟩
    exact Ent.trans Ent.go (Ent.ex_in (Ls:=plL Pb c { p with names:=p.names++[o.was.val],next:=p.next+1 }) ⟨x.N,x.lad,x.lcap,mput x.m o.was.val ((mget x.m o.was.val).getD 0+1),hnew⟩)
  · have e:p.tell c o={ p with s:=2 }:=by
      unfold Po.tell Po.fin;dsimp only
      repeat (first|rw [if_pos (by omega)]|rw [if_neg (by omega)])
    rw [e]
    refine St.d1 Tryz.func20 ⟨_,⟨rfl,rfl⟩, ?_⟩
    exact Ent.trans Ent.go (Ent.ex_in (Ls:=plL Pb c { p with s:=2 }) x)
  · have e:p.tell c o={ p with wt:=minI o.was.val c.blocks,next:=p.next+1 }:=by
      unfold Po.tell Po.fin;dsimp only
      repeat (first|rw [if_pos (by omega)]|rw [if_neg (by omega)])
    rw [e]
    refine St.f1 Tryz.func20 ⟨_,⟨rfl,rfl⟩, ?_⟩
    exact Ent.trans Ent.go (Ent.ex_in (Ls:=plL Pb c { p with wt:=minI o.was.val c.blocks,next:=p.next+1 }) x)
  · have e:p.tell c o={ p with wl:=minI o.was.val c.limit,next:=p.next+1,nt:=p.wt,nl:=minI o.was.val c.limit,s:=1 }:=by
      unfold Po.tell Po.fin;dsimp only
      rw [if_neg (by omega),if_neg (by omega),if_neg (by omega),if_neg (by omega),if_pos (by omega),if_pos ⟨by omega,h⟩]
    rw [e]
    refine St.f1 Tryz.func20 ⟨_,⟨rfl,rfl⟩, ?_⟩
    exact Ent.trans Ent.go (Ent.ex_in (Ls:=plL Pb c { p with wl:=minI o.was.val c.limit,next:=p.next+1,nt:=p.wt,nl:=minI o.was.val c.limit,s:=1 }) x)
  · have e:p.tell c o={ p with wl:=minI o.was.val c.limit,next:=p.next+1 }:=by
      unfold Po.tell Po.fin;dsimp only
      rw [if_neg (by omega),if_neg (by omega),if_neg (by omega),if_neg (by omega),if_pos (by omega),if_neg (fun hh=>h hh.2)]
    rw [e]
    refine St.f1 Tryz.func20 ⟨_,⟨rfl,rfl⟩, ?_⟩
    exact Ent.trans Ent.go (Ent.ex_in (Ls:=plL Pb c { p with wl:=minI o.was.val c.limit,next:=p.next+1 }) x)
  · have e:p.tell c o={ p with limbo:=p.limbo++[o.was.val],next:=p.next+1,nt:=p.wt,nl:=p.wl,s:=1 }:=by
      unfold Po.tell Po.fin;dsimp only
      rw [List.length_append]
      rw [if_neg (by omega),if_neg (by omega),if_neg (by omega),if_neg (by omega),if_neg (by omega),if_pos ⟨by omega,h⟩]
    rw [e]
    refine St.f1 Tryz.func20 ⟨_,⟨rfl,rfl⟩, ?_⟩
    refine Ent.trans ?_ (Ent.ex_in (Ls:=plL Pb c { p with limbo:=p.limbo++[o.was.val],next:=p.next+1,nt:=p.wt,nl:=p.wl,s:=1 }) ⟨x.N,ad,cap,x.m,x.hm⟩)
    unfold plL;dsimp only
    rw [List.length_append,u64s_snoc]
    exact Ent.go
  · have e:p.tell c o={ p with limbo:=p.limbo++[o.was.val],next:=p.next+1 }:=by
      unfold Po.tell Po.fin;dsimp only
      rw [List.length_append]
      rw [if_neg (by omega),if_neg (by omega),if_neg (by omega),if_neg (by omega),if_neg (by omega),if_neg (fun hh=>h hh.2)]
    rw [e]
    refine St.f1 Tryz.func20 ⟨_,⟨rfl,rfl⟩, ?_⟩
    refine Ent.trans ?_ (Ent.ex_in (Ls:=plL Pb c { p with limbo:=p.limbo++[o.was.val],next:=p.next+1 }) ⟨x.N,ad,cap,x.m,x.hm⟩)
    unfold plL;dsimp only
    rw [List.length_append,u64s_snoc]
    exact Ent.go
end Go.Proofs.YthmbgodcpgkkeaaGreat
namespace Go.Proofs.YthmbgodcpgkkeaaGreat
theorem putP_len (room:Nat) (puts:List (Int×Nat)) (a:Int) (v:Nat):puts.length≤(putP room puts a v).length∧(putP room puts a v).length≤puts.length+1:=by
  unfold putP
  split
  · omega
  · rw [List.length_append];simp
def relP (c:Cfg) (room:Nat) (nt:Int) (puts:List (Int×Nat)) (b:Nat):Int×List (Int×Nat) :=
  if nt<c.blocks then (nt+1,putP room (putP room puts (c.at 11 b 0) 0) (c.at 13 nt 0) b) else (nt,putP room puts (c.at 11 b 0) 0)
set_option maxRecDepth 100000 in
theorem prelease_b (Pb W room N:Nat) (lv:Value) (c:Cfg) (hc:Small c) (p:Po) (puts:List (Int×Nat)) (b:Nat) (hb:b≤1000000) (ht:0≤p.nt) (hlen:puts.length+2≤1000000000) :
    Tri Tryz.prog 111 #[.pointer (some ⟨Pb,0,none⟩), .pointer (some ⟨W,0,none⟩), .int .i64 (b:Int)] [bl Pb 210 (poolV c N p lv),Ws W room puts]
      fun r L=>r=.tuple ⟨[]⟩∧L=[bl Pb 210 (poolV c N { p with nt:=(relP c room p.nt puts b).1 } lv),Ws W room (relP c room p.nt puts b).2]:=by
  have htk:=take_p c N p lv
  have hcf:=cfg_r c
  have h11:=at_r c hc 11 b 0
  have h13:=at_r c hc 13 p.nt 0
  have hl:=putP_len room puts (c.at 11 b 0) 0
  have hp1:=wput_t W room puts (c.at 11 b 0) 0 (by omega)
  have hp2:=wput_t W room (putP room puts (c.at 11 b 0) 0) (c.at 13 p.nt 0) b (by omega)
  have:=hc.b0;have:=hc.b1
  unfold relP
  by_cases hnt:p.nt<c.blocks
  · rw [if_pos hnt]
    dsimp only
    refine Tri.of_body (vs:=[_,_,_]) Tryz.func111 rfl rfl fun w0 F=>?_
    repeat' (first|refine Ga ?_|(refine Gb ?_;intro b)|(refine Gd ?_;intro g cap rest hcap)|(refine Gc ?_;intro ad cap)|(refine St.draw (id:=1) [(0,0),(1,0),(2,0),(3,0),(4,1),(5,0),(6,0),(7,0),(8,1),(9,1),(10,0),(11,0)] [] mixed (by kernel_rfl) ?_)|(refine St.draw (id:=2) [(0,0),(1,0),(2,0),(3,0),(4,1),(5,0),(6,0),(7,0),(8,0),(9,1),(10,1),(11,0),(12,0),(13,3)] [13] mixed (by kernel_rfl) ?_)| refine Gl hcf ?_|refine Gl h11 ?_|refine Gl h13 ?_|(refine Gt hp1 ?_;rintro _ _ ⟨rfl,rfl⟩)|(refine Gt hp2 ?_;rintro _ _ ⟨rfl,rfl⟩)|(refine Ge ?_ ?_<;>(intro h;try (exfalso;omega)))|fail)
    refine St.f1 Tryz.func111 ⟨_,⟨rfl,rfl⟩, ?_⟩
    exact Ent.go
  · rw [if_neg hnt]
    dsimp only
    refine Tri.of_body (vs:=[_,_,_]) Tryz.func111 rfl rfl fun w0 F=>?_
    repeat' (first|refine Ga ?_|(refine Gb ?_;intro b)|(refine Gd ?_;intro g cap rest hcap)|(refine Gc ?_;intro ad cap)|(refine St.draw (id:=1) [(0,0),(1,0),(2,0),(3,0),(4,1),(5,0),(6,0),(7,0),(8,1),(9,1),(10,0),(11,0)] [] mixed (by kernel_rfl) ?_)|(refine St.draw (id:=2) [(0,0),(1,0),(2,0),(3,0),(4,1),(5,0),(6,0),(7,0),(8,0),(9,1),(10,1),(11,0),(12,0),(13,3)] [13] mixed (by kernel_rfl) ?_)| refine Gl hcf ?_|refine Gl h11 ?_|refine Gl h13 ?_|(refine Gt hp1 ?_;rintro _ _ ⟨rfl,rfl⟩)|(refine Ge ?_ ?_<;>(intro h;try (exfalso;omega)))|fail)
    refine St.f1 Tryz.func111 ⟨_,⟨rfl,rfl⟩, ?_⟩
    exact Ent.go
def takeN (c:Cfg) (room:Nat) (puts:List (Int×Nat)) (b:Nat):Nat→List (Int×Nat)
  | 0=>putP room puts (c.at 11 b 0) 1
  | k+1=>putP room (takeN c room puts b k) (c.at 16 b k) 0
theorem takeN_len (c:Cfg) (room:Nat) (puts:List (Int×Nat)) (b:Nat):∀ k,puts.length≤(takeN c room puts b k).length∧(takeN c room puts b k).length≤puts.length+k+1
  | 0=>putP_len ..
  | k+1=>by
    have:=takeN_len c room puts b k
    have:=putP_len room (takeN c room puts b k) (c.at 16 b k) 0
    simp only [takeN];omega
def takeP (c:Cfg) (room:Nat) (nt:Int) (puts:List (Int×Nat)) (b:Nat):Int×List (Int×Nat):=if nt=0∨c.at 11 b 0 = -1 then (nt,puts) else (nt - 1,takeN c room puts b 8)
set_option maxRecDepth 100000 in
theorem ptake_tE (Pb W room:Nat) (c:Cfg) (hc:Small c) (p:Po) (puts:List (Int×Nat)) (b:Nat) (hlen:puts.length+9≤1000000000) (ht:0≤p.nt∧p.nt≤1000000) :
    Tri Tryz.prog 288 #[.pointer (some ⟨Pb,0,none⟩), .pointer (some ⟨W,0,none⟩), .int .i64 (b:Int)] [PlE Pb c p,Ws W room puts]
      fun r L=>r=.tuple ⟨[]⟩∧L=[PlE Pb c { p with nt:=(takeP c room p.nt puts b).1 },Ws W room (takeP c room p.nt puts b).2]:=by
  refine Tri.ex_out fun x=>?_
  have htk:=take_p c x.N p (.slice x.lad p.limbo.length x.lcap)
  have htk2:=take_p c x.N { p with nt:=p.nt - 1 } (.slice x.lad p.limbo.length x.lcap)
  have h11:=at_r c hc 11 b 0
  have hp1:=wput_t W room puts (c.at 11 b 0) 1 (by omega)
  unfold takeP
  by_cases hno:p.nt=0∨c.at 11 b 0 = -1
  · rw [if_pos hno]
    refine Tri.of_body (vs:=[_,_,_]) Tryz.func288 rfl rfl fun w0 F=>?_
    repeat' (first|refine Ga ?_|(refine Gb ?_;intro b)|(refine Gd ?_;intro g cap rest hcap)|(refine Gc ?_;intro ad cap)|refine Gl h11 ?_|(refine Ge ?_ ?_<;>(intro h;try (exfalso;omega)))|fail)
    all_goals
      refine St.d1 Tryz.func288 ⟨_,⟨rfl,rfl⟩, ?_⟩
      exact Ent.trans Ent.go (Ent.ex_in (Ls:=plL Pb c { p with nt:=p.nt }) x)
  · rw [if_neg hno]
    dsimp only
    refine Tri.of_body (vs:=[_,_,_]) Tryz.func288 rfl rfl fun w0 F=>?_
    repeat' (first|refine Ga ?_|(refine Gb ?_;intro b)|(refine Gd ?_;intro g cap rest hcap)|(refine Gc ?_;intro ad cap)|refine Gl h11 ?_|(refine Gt hp1 ?_;rintro _ _ ⟨rfl,rfl⟩)|(refine Ge ?_ ?_<;>(intro h;try (exfalso;omega)))|fail)
    refine St.loopX (Lr:=?Lr) (ι:={ k:Nat // k≤8 }) (fun k=>8 - k.1) (fun k=>[(39, .int .i64 (k.1:Int))]) (fun k=>[Ws W room (takeN c room puts b k.1)]) ⟨0,Nat.zero_le _⟩ ?hE ?hL ?round
    case hE=>exact Sub.go
    case hL=>exact Ent.go
    case round =>
      rintro ⟨k,hk⟩ IH;dsimp only at hk⊢
      by_cases hlt:k<8
      · have hk1:k+1≤8:=hlt
        have hk2:8 - (k+1)<8 - k:=by omega
        have hkl:=takeN_len c room puts b k
        have h16:=at_r c hc 16 b k
        have hp2:=wput_t W room (takeN c room puts b k) (c.at 16 b k) 0 (by omega)
        repeat' (first|refine Ga ?_|(refine Gb ?_;intro b)|(refine Gd ?_;intro g cap rest hcap)|(refine Gc ?_;intro ad cap)|refine Gl h16 ?_|(refine Gt hp2 ?_;rintro _ _ ⟨rfl,rfl⟩)|(refine Ge ?_ ?_<;>(intro h;try (exfalso;omega)))|fail)
        refine IH ⟨k+1,hk1⟩ hk2 ?_ ?_
        · exact Sub.go
        · exact Ent.go
      · obtain rfl:k=8:=by omega
        clear IH
        repeat' (first|refine Ga ?_|(refine Gb ?_;intro b)|(refine Gd ?_;intro g cap rest hcap)|(refine Gc ?_;intro ad cap) |(refine Ge ?_ ?_<;>(intro h;try (exfalso;omega)))|fail)
        refine St.f1 Tryz.func288 ⟨_,⟨rfl,rfl⟩, ?_⟩
        exact Ent.trans Ent.go (Ent.ex_in (Ls:=plL Pb c { p with nt:=p.nt - 1 }) x)
def giveP (c:Cfg) (room:Nat) (nl:Int) (puts:List (Int×Nat)) (b:Nat):Int×List (Int×Nat) :=
  if c.limit≤nl∨c.at 11 b 0 = -1 then (nl,puts) else (nl+1,putP room (putP room puts (c.at 11 b 0) 2) (c.at 15 nl 0) b)
set_option maxRecDepth 100000 in
theorem pgive_tE (Pb W room:Nat) (c:Cfg) (hc:Small c) (p:Po) (puts:List (Int×Nat)) (b:Nat) (hlen:puts.length+2≤1000000000) (ht:0≤p.nl) :
    Tri Tryz.prog 252 #[.pointer (some ⟨Pb,0,none⟩), .pointer (some ⟨W,0,none⟩), .int .i64 (b:Int)] [PlE Pb c p,Ws W room puts]
      fun r L=>r=.tuple ⟨[]⟩∧L=[PlE Pb c { p with nl:=(giveP c room p.nl puts b).1 },Ws W room (giveP c room p.nl puts b).2]:=by
  refine Tri.ex_out fun x=>?_
  have htk:=take_p c x.N p (.slice x.lad p.limbo.length x.lcap)
  have hlm:=limit_r c hc c.fr
  have h11:=at_r c hc 11 b 0
  have h15:=at_r c hc 15 p.nl 0
  have hl:=putP_len room puts (c.at 11 b 0) 2
  have hp1:=wput_t W room puts (c.at 11 b 0) 2 (by omega)
  have hp2:=wput_t W room (putP room puts (c.at 11 b 0) 2) (c.at 15 p.nl 0) b (by omega)
  have:=hc.limit
  unfold giveP
  by_cases hno:c.limit≤p.nl∨c.at 11 b 0 = -1
  · rw [if_pos hno]
    refine Tri.of_body (vs:=[_,_,_]) Tryz.func252 rfl rfl fun w0 F=>?_
    repeat' (first|refine Ga ?_|(refine Gb ?_;intro b)|(refine Gd ?_;intro g cap rest hcap)|(refine Gc ?_;intro ad cap)|(refine St.draw (id:=0) [(0,0),(1,0),(2,0),(3,0),(4,1),(5,0),(6,0),(7,0),(8,1),(9,1),(10,0),(11,0),(12,0),(13,0),(14,0),(15,1),(16,0),(17,1),(18,0),(19,0)] [] mixed (by kernel_rfl) ?_)|(refine St.draw (id:=2) [(0,0),(1,0),(2,0),(3,0),(4,1),(5,0),(6,0),(7,0),(8,0),(9,1),(10,1),(11,0),(12,0),(13,3)] [13] mixed (by kernel_rfl) ?_)| refine Gl h11 ?_|refine Gl hlm ?_|(refine Ge ?_ ?_<;>(intro h;try (exfalso;omega)))|fail)
    all_goals
      refine St.d1 Tryz.func252 ⟨_,⟨rfl,rfl⟩, ?_⟩
      exact Ent.trans Ent.go (Ent.ex_in (Ls:=plL Pb c { p with nl:=p.nl }) x)
  · rw [if_neg hno]
    have hb63:(b:Int)≤9223372036854775807:=by
      have:(b:Int)<c.blocks:=by
        refine Decidable.by_contra fun h=>hno (.inr ?_)
        unfold Cfg.at
        rw [if_neg]
        rintro ⟨_,h2,_⟩
        exact h h2
      have:=hc.b1
      omega
    refine Tri.of_body (vs:=[_,_,_]) Tryz.func252 rfl rfl fun w0 F=>?_
    repeat' (first|refine Ga ?_|(refine Gb ?_;intro b)|(refine Gd ?_;intro g cap rest hcap)|(refine Gc ?_;intro ad cap)|(refine St.draw (id:=0) [(0,0),(1,0),(2,0),(3,0),(4,1),(5,0),(6,0),(7,0),(8,1),(9,1),(10,0),(11,0),(12,0),(13,0),(14,0),(15,1),(16,0),(17,1),(18,0),(19,0)] [] mixed (by kernel_rfl) ?_)|(refine St.draw (id:=2) [(0,0),(1,0),(2,0),(3,0),(4,1),(5,0),(6,0),(7,0),(8,0),(9,1),(10,1),(11,0),(12,0),(13,3)] [13] mixed (by kernel_rfl) ?_)| refine Gl h11 ?_|refine Gl hlm ?_|refine Gl h15 ?_|(refine Gt hp1 ?_;rintro _ _ ⟨rfl,rfl⟩)|(refine Gt hp2 ?_;rintro _ _ ⟨rfl,rfl⟩)|(refine Ge ?_ ?_<;>(intro h;try (exfalso;omega)))|fail)
    refine St.f1 Tryz.func252 ⟨_,⟨rfl,rfl⟩, ?_⟩
    exact Ent.trans Ent.go (Ent.ex_in (Ls:=plL Pb c { p with nl:=p.nl+1 }) x)
structure SetS where
  kept:Nat
  nt:Int
  puts:List (Int×Nat)
def setStep (c:Cfg) (room:Nat) (names:List Nat) (k:Nat) (b:Nat) (s:SetS):SetS :=
  if c.blocks≤(b:Int) then s else if cnt names ((b:Int)+1)=0 then ⟨s.kept,(relP c room s.nt s.puts b).1,(relP c room s.nt s.puts b).2⟩ else
  ⟨s.kept+1,s.nt,if s.kept≠k then putP room s.puts (c.at 15 s.kept 0) b else s.puts⟩
def setGo (c:Cfg) (room:Nat) (names:List Nat):Nat→List Nat→SetS→SetS
  | _,[],s=>s
  | k,b::l,s=>setGo c room names (k+1) l (setStep c room names k b s)
theorem relP_len (c:Cfg) (room:Nat) (nt:Int) (puts:List (Int×Nat)) (b:Nat):puts.length≤(relP c room nt puts b).2.length∧(relP c room nt puts b).2.length≤puts.length+2:=by
  have h1:=putP_len room puts (c.at 11 b 0) 0
  have h2:=putP_len room (putP room puts (c.at 11 b 0) 0) (c.at 13 nt 0) b
  unfold relP
  split
  · dsimp only;omega
  · dsimp only;omega
theorem setStep_len (c:Cfg) (room:Nat) (names:List Nat) (k b:Nat) (s:SetS):s.puts.length≤(setStep c room names k b s).puts.length∧(setStep c room names k b s).puts.length≤s.puts.length+2∧(setStep c room names k b s).kept≤s.kept+1:=by
  unfold setStep
  split
  · omega
  · split
    · have:=relP_len c room s.nt s.puts b
      dsimp only;omega
    · have:=putP_len room s.puts (c.at 15 s.kept 0) b
      dsimp only
      split<;>omega
end Go.Proofs.YthmbgodcpgkkeaaGreat
namespace Go.Proofs.YthmbgodcpgkkeaaGreat
structure SetI (c:Cfg) (room:Nat) (p:Po) (puts:List (Int×Nat)) where
  k:Nat
  s:SetS
  hk:k≤p.limbo.length
  go:setGo c room p.names 0 p.limbo ⟨0,p.nt,puts⟩=setGo c room p.names k (p.limbo.drop k) s
  nt:0≤s.nt
  kept:s.kept≤k
  len:s.puts.length≤puts.length+2 * k
theorem relP_nt (c:Cfg) (room:Nat) (nt:Int) (puts:List (Int×Nat)) (b:Nat) (h:0≤nt):0≤(relP c room nt puts b).1:=by
  unfold relP;split<;>(dsimp only;omega)
theorem setStep_nt (c:Cfg) (room:Nat) (names:List Nat) (k b:Nat) (s:SetS) (h:0≤s.nt):0≤(setStep c room names k b s).nt:=by
  unfold setStep
  split
  · exact h
  · split
    · exact relP_nt c room s.nt s.puts b h
    · exact h
def SetI.next {c:Cfg} {room:Nat} {p:Po} {puts:List (Int×Nat)} (i:SetI c room p puts) (hlt:i.k<p.limbo.length) (s':SetS) (hs:setStep c room p.names i.k p.limbo[i.k] i.s=s'):SetI c room p puts where
  k:=i.k+1
  s:=s'
  hk:=hlt
  go:=by rw [i.go,List.drop_eq_getElem_cons hlt,setGo,hs]
  nt:=by rw [←hs];exact setStep_nt _ _ _ _ _ _ i.nt
  kept:=by have:=setStep_len c room p.names i.k p.limbo[i.k] i.s;have:=i.kept;rw [←hs];omega
  len:=by have:=setStep_len c room p.names i.k p.limbo[i.k] i.s;have:=i.len;rw [←hs];omega
def Po.settled (c:Cfg) (room:Nat) (p:Po) (puts:List (Int×Nat)):Po:={ p with nt:=(setGo c room p.names 0 p.limbo ⟨0,p.nt,puts⟩).nt,nl:=((setGo c room p.names 0 p.limbo ⟨0,p.nt,puts⟩).kept:Int),limbo:=[] }
set_option maxHeartbeats 1000000 in
set_option maxRecDepth 100000 in
theorem psettle_tE (Pb W room:Nat) (c:Cfg) (hc:Small c) (p:Po) (puts:List (Int×Nat)) (hnt:0≤p.nt) (hll:p.limbo.length≤1000000) (hlen:puts.length+2 * p.limbo.length≤1000000000) :
    Tri Tryz.prog 23 #[.pointer (some ⟨Pb,0,none⟩), .pointer (some ⟨W,0,none⟩)] [PlE Pb c p,Ws W room puts]
      fun r L=>r=.tuple ⟨[]⟩∧L=[PlE Pb c (p.settled c room puts),Ws W room (setGo c room p.names 0 p.limbo ⟨0,p.nt,puts⟩).puts]:=by
  refine Tri.ex_out ?_
  rintro ⟨N,lad,lcap,m,hm⟩
  unfold plL
  dsimp only
  have hcf:=cfg_r c
  have:=hc.b0;have:=hc.b1
  refine Tri.of_body (vs:=[_,_]) Tryz.func23 rfl rfl fun w0 F=>?_
  repeat' (first|refine Ga ?_|(refine Gb ?_;intro b)|(refine Gd ?_;intro g cap rest hcap)|(refine Gc ?_;intro ad cap) |(refine Ge ?_ ?_<;>(intro h;try (exfalso;omega)))|fail)
  refine St.loopX (Lr:=?Lr) (ι:=SetI c room p puts) (fun i=>p.limbo.length - i.k)
    (fun i=>[(4, .int .i64 (i.s.kept:Int)),(12, .int .i64 (i.k:Int))])
    (fun i=>[bl Pb 210 (poolV c N { p with nt:=i.s.nt } (.slice lad p.limbo.length lcap)),Row (.slice lad p.limbo.length lcap) 22 1 p.limbo.length (u64s p.limbo),Ws W room i.s.puts])
    ⟨0,⟨0,p.nt,puts⟩,Nat.zero_le _,rfl,hnt,Nat.le_refl _,by show puts.length≤puts.length+2 * 0;omega⟩ ?hE ?hL ?round
  case hE=>exact Sub.go
  case hL=>exact Ent.go
  case round =>
    rintro i IH
    have hk:=i.hk
    have hkept:=i.kept
    have hntk:=i.nt
    have hlk:=i.len
    by_cases hlt:i.k<p.limbo.length
    · have IH':=fun s' hs E' L'=>IH (i.next hlt s' hs) (E':=E') (L':=L') (by show _ - (i.k+1)<_ - i.k;omega)
      clear IH
      dsimp only [SetI.next] at IH'
      refine St.conv ?_ (Sub.refl _) (Ent.of_take (.there .here))
      refine St.rowF (by omega) fun g lcp rest hv hrf=>?_
      injection hv with hv1 hv2 hv3
      subst hv1 hv3
      have hback:∀ X:List HProp,Ent (bl g 22 (u64s p.limbo++rest)::X) (Row (.slice (some ⟨g,0,none⟩) p.limbo.length lcap) 22 1 p.limbo.length (u64s p.limbo)::X):=fun X=>Ent.rowF hrf
      have hnb:NthN ((i.k:Int).toNat * 1) (u64s p.limbo++rest) (.int .u64 (p.limbo[i.k]:Int)):=by
        have:=(NthN.u64s (l:=p.limbo) (i:=i.k) hlt).app_left rest
        rw [List.getD_eq_getElem?_getD,List.getElem?_eq_getElem hlt] at this
        rw [Nat.mul_one];exact this
      have htk:=take_p c N { p with nt:=i.s.nt } (.slice (some ⟨g,0,none⟩) p.limbo.length lcap)
      generalize hbb:p.limbo[i.k]=b at *
      by_cases h1:c.blocks≤(b:Int)
      · have hst:setStep c room p.names i.k b i.s=i.s:=if_pos h1
        repeat' (first|refine Ga ?_|(refine Gb ?_;intro b)|(refine Gd ?_;intro g cap rest hcap)|(refine Gc ?_;intro ad cap)|refine Gl hcf ?_|(refine Ge ?_ ?_<;>(intro h;try (exfalso;omega)))|fail)
        refine IH' _ hst _ _ ?_ ?_
        · exact Sub.go
        · exact Ent.trans (Ent.of_take (p:=bl g 22 (u64s p.limbo++rest)) Take.go) (Ent.trans (hback _) Ent.go)
      · have hmk:=hm ((b:Int)+1)
        have hb6:b≤1000000:=by omega
        by_cases h2:cnt p.names ((b:Int)+1)=0
        · have hst:setStep c room p.names i.k b i.s=⟨i.s.kept,(relP c room i.s.nt i.s.puts b).1,(relP c room i.s.nt i.s.puts b).2⟩:=(if_neg h1).trans (if_pos h2)
          have hrl:=prelease_b Pb W room N (.slice (some ⟨g,0,none⟩) p.limbo.length lcap) c hc { p with nt:=i.s.nt } i.s.puts b hb6 hntk (by omega)
          dsimp only at hrl
          have IH2:=IH' _ hst
          dsimp only at IH2
          rw [←hmk] at h2
          repeat' (first|refine Ga ?_|(refine Gb ?_;intro b)|(refine Gd ?_;intro g cap rest hcap)|(refine Gc ?_;intro ad cap)|refine Gl hcf ?_|(refine Gt hrl ?_;rintro _ _ ⟨rfl,rfl⟩)|(refine Ge ?_ ?_<;>(intro h;try (exfalso;omega)))|fail)
          refine IH2 _ _ ?_ ?_
          · exact Sub.go
          · exact Ent.trans (Ent.of_take (p:=bl g 22 (u64s p.limbo++rest)) Take.go) (Ent.trans (hback _) Ent.go)
        · have h15:=at_r c hc 15 i.s.kept 0
          have hp:=wput_t W room i.s.puts (c.at 15 i.s.kept 0) b (by omega)
          by_cases h3:i.s.kept≠i.k
          · have hst:setStep c room p.names i.k b i.s=⟨i.s.kept+1,i.s.nt,putP room i.s.puts (c.at 15 i.s.kept 0) b⟩:=by unfold setStep;rw [if_neg h1,if_neg h2,if_pos h3]
            have IH2:=IH' _ hst
            dsimp only at IH2
            rw [←hmk] at h2
            repeat' (first|refine Ga ?_|(refine Gb ?_;intro b)|(refine Gd ?_;intro g cap rest hcap)|(refine Gc ?_;intro ad cap)|refine Gl hcf ?_|refine Gl h15 ?_|(refine Gt hp ?_;rintro _ _ ⟨rfl,rfl⟩)|(refine Ge ?_ ?_<;>(intro h;try (exfalso;omega)))|fail)
            refine IH2 _ _ ?_ ?_
            · exact Sub.go
            · exact Ent.trans (Ent.of_take (p:=bl g 22 (u64s p.limbo++rest)) Take.go) (Ent.trans (hback _) Ent.go)
          · have hst:setStep c room p.names i.k b i.s=⟨i.s.kept+1,i.s.nt,i.s.puts⟩:=by unfold setStep;rw [if_neg h1,if_neg h2,if_neg h3]
            have IH2:=IH' _ hst
            dsimp only at IH2
            rw [←hmk] at h2
            repeat' (first|refine Ga ?_|(refine Gb ?_;intro b)|(refine Gd ?_;intro g cap rest hcap)|(refine Gc ?_;intro ad cap)|refine Gl hcf ?_|refine Gl h15 ?_|(refine Ge ?_ ?_<;>(intro h;try (exfalso;omega)))|fail)
            refine IH2 _ _ ?_ ?_
            · exact Sub.go
            · exact Ent.trans (Ent.of_take (p:=bl g 22 (u64s p.limbo++rest)) Take.go) (Ent.trans (hback _) Ent.go)
    · have hgo:=i.go
      rw [List.drop_of_length_le (by omega),setGo] at hgo
      clear IH
      repeat' (first|refine Ga ?_|(refine Gb ?_;intro b)|(refine Gd ?_;intro g cap rest hcap)|(refine Gc ?_;intro ad cap) |(refine Ge ?_ ?_<;>(intro h;try (exfalso;omega)))|fail)
      refine St.f1 Tryz.func23 ⟨_,⟨rfl,rfl⟩, ?_⟩
      unfold Po.settled
      rw [hgo]
      refine Ent.trans ?_ (Ent.ex_in (Ls:=plL Pb c { p with nt:=i.s.nt,nl:=(i.s.kept:Int),limbo:=[] }) ⟨N,none,0,m,hm⟩)
      refine Ent.trans (Ent.row_nil 22 1) ?_
      exact Ent.go
end Go.Proofs.YthmbgodcpgkkeaaGreat
namespace Go.Proofs.YthmbgodcpgkkeaaGreat
def Pl (Pb:Nat) (c:Cfg) (p:Po):HProp:=PlE Pb c p
theorem pnew_t (c:Cfg) (seq:Nat):Tri Tryz.prog 19 #[.agg ⟨c.m⟩, .int .u64 (seq:Int)] [] fun r L=>∃ Pb,r=.pointer (some ⟨Pb,0,none⟩)∧L=[Pl Pb c (Po.new seq)]:=pnew_tE c seq
theorem pback_t (Pb:Nat) (c:Cfg) (p:Po) (t l:Int):Tri Tryz.prog 192 #[.pointer (some ⟨Pb,0,none⟩), .agg ⟨[.int .i64 t, .int .i64 l]⟩] [Pl Pb c p] fun r L=>r=.tuple ⟨[]⟩∧L=[Pl Pb c { p with nt:=t,nl:=l }]:=pback_tE Pb c p t l
theorem ptop_r (Pb:Nat) (c:Cfg) (hc:Small c) (p:Po) (ht:0≤p.nt∧p.nt≤1000000):RTri Tryz.prog 287 #[.pointer (some ⟨Pb,0,none⟩)] [Pl Pb c p] (.tuple ⟨[.int .i64 (p.top c).1, .bool (p.top c).2]⟩):=ptop_rE Pb c hc p ht
theorem pask_r (Pb:Nat) (c:Cfg) (hc:Small c) (p:Po) (hn:0≤p.next∧p.next≤1000000):RTri Tryz.prog 130 #[.pointer (some ⟨Pb,0,none⟩)] [Pl Pb c p] (.tuple ⟨[.agg ⟨(p.ask c).1.v⟩, .bool (p.ask c).2]⟩):=pask_rE Pb c hc p hn
theorem ptell_t (Pb:Nat) (c:Cfg) (hc:Small c) (p:Po) (o:Out) (hn:0≤p.next∧p.next≤1000000) (hna:p.names.length≤1000000) (hli:p.limbo.length≤1000000):Tri Tryz.prog 20 #[.pointer (some ⟨Pb,0,none⟩), .agg ⟨o.v⟩] [Pl Pb c p] fun r L=>r=.tuple ⟨[]⟩∧L=[Pl Pb c (p.tell c o)]:=ptell_tE Pb c hc p o hn hna hli
theorem ptake_t (Pb W room:Nat) (c:Cfg) (hc:Small c) (p:Po) (puts:List (Int×Nat)) (b:Nat) (hlen:puts.length+9≤1000000000) (ht:0≤p.nt∧p.nt≤1000000) :
    Tri Tryz.prog 288 #[.pointer (some ⟨Pb,0,none⟩), .pointer (some ⟨W,0,none⟩), .int .i64 (b:Int)] [Pl Pb c p,Ws W room puts]
      fun r L=>r=.tuple ⟨[]⟩∧L=[Pl Pb c { p with nt:=(takeP c room p.nt puts b).1 },Ws W room (takeP c room p.nt puts b).2]:=ptake_tE Pb W room c hc p puts b hlen ht
theorem pgive_t (Pb W room:Nat) (c:Cfg) (hc:Small c) (p:Po) (puts:List (Int×Nat)) (b:Nat) (hlen:puts.length+2≤1000000000) (ht:0≤p.nl) :
    Tri Tryz.prog 252 #[.pointer (some ⟨Pb,0,none⟩), .pointer (some ⟨W,0,none⟩), .int .i64 (b:Int)] [Pl Pb c p,Ws W room puts]
      fun r L=>r=.tuple ⟨[]⟩∧L=[Pl Pb c { p with nl:=(giveP c room p.nl puts b).1 },Ws W room (giveP c room p.nl puts b).2]:=pgive_tE Pb W room c hc p puts b hlen ht
theorem psettle_t (Pb W room:Nat) (c:Cfg) (hc:Small c) (p:Po) (puts:List (Int×Nat)) (hnt:0≤p.nt) (hll:p.limbo.length≤1000000) (hlen:puts.length+2 * p.limbo.length≤1000000000) :
    Tri Tryz.prog 23 #[.pointer (some ⟨Pb,0,none⟩), .pointer (some ⟨W,0,none⟩)] [Pl Pb c p,Ws W room puts]
      fun r L=>r=.tuple ⟨[]⟩∧L=[Pl Pb c (p.settled c room puts),Ws W room (setGo c room p.names 0 p.limbo ⟨0,p.nt,puts⟩).puts]:=psettle_tE Pb W room c hc p puts hnt hll hlen
theorem pStatus_r (Pb:Nat) (c:Cfg) (p:Po):RTri Tryz.prog 203 #[.pointer (some ⟨Pb,0,none⟩)] [Pl Pb c p] (.int .i64 p.s):=pStatus_rE Pb c p
theorem pMark_r (Pb:Nat) (c:Cfg) (p:Po):RTri Tryz.prog 34 #[.pointer (some ⟨Pb,0,none⟩)] [Pl Pb c p] (.agg ⟨[.int .i64 p.nt, .int .i64 p.nl]⟩):=pMark_rE Pb c p
attribute [irreducible] Pl
end Go.Proofs.YthmbgodcpgkkeaaGreat
