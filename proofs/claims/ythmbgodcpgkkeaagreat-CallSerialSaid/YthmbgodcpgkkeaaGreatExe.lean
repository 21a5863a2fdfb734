/-
  Package exec: fetch, fresh, root, touch. Package exec: step.
-/
import Derived.Test.YthmbgodcpgkkeaaGreatExc
section
namespace Go.Proofs.YthmbgodcpgkkeaaGreat
def xmL (X V Pb W room:Nat) (c:Cfg) (cv:Value) (m:Xm):List HProp:=[XeE X c cv V Pb W m.x m.news,bl V 215 (viewV c m.v),Pl Pb c m.p,Ws W room m.puts]
def xmO (X V Pb W room:Nat) (c:Cfg) (cv:Value) (m:Xm) (nad:Option Addr) (ncap:Nat):List HProp:=[bl X 221 (exV c cv V Pb W (.slice nad m.news.length ncap) m.x),Row (.slice nad m.news.length ncap) 22 1 m.news.length (u64s m.news),bl V 215 (viewV c m.v),Pl Pb c m.p,Ws W room m.puts]
theorem xmO_in {X V Pb W room:Nat} {c:Cfg} {cv:Value} {m:Xm} {nad:Option Addr} {ncap:Nat} {F:List HProp}:Ent (xmO X V Pb W room c cv m nad ncap++F) (xmL X V Pb W room c cv m++F):=Ent.ex_in (Ls:=xeL X c cv V Pb W m.x m.news) (nad,ncap)
def xmQ (X V Pb W room:Nat) (c:Cfg) (cv:Value) (m':Xm) (r:Value) (L:List HProp):Prop:=r=.tuple ⟨[]⟩∧L=xmL X V Pb W room c cv m'
theorem xgoOn_o (X V Pb W room:Nat) (c:Cfg) (hc:Small c) (cv:Value) (m:Xm) (hm:Xok m) (val:Nat) (nad:Option Addr) (ncap:Nat) :
    Tri Tryz.prog 195 #[.pointer (some ⟨X,0,none⟩), .int .u64 (val:Int)] [bl X 221 (exV c cv V Pb W (.slice nad m.news.length ncap) m.x),Row (.slice nad m.news.length ncap) 22 1 m.news.length (u64s m.news),Pl Pb c m.p,Ws W room m.puts]
      fun r L=>r=.tuple ⟨[]⟩∧L=[XeE X c cv V Pb W (m.goOn c room val).x (m.goOn c room val).news,Pl Pb c (m.goOn c room val).p,Ws W room (m.goOn c room val).puts] :=
  (xgoOn_t X V Pb W room c hc cv m hm val).ent (Ent.ex_in (Ls:=xeL X c cv V Pb W m.x m.news) (nad,ncap))
theorem Xm.taken_v (c:Cfg) (room:Nat) (m:Xm) (b:Nat):(m.taken c room b).v=m.v:=by unfold Xm.taken Xm.fail;split<;>rfl
theorem Xm.pay_v (c:Cfg) (m:Xm):(m.pay c).1.v=m.v:=by unfold Xm.pay Xm.fail;split<;>rfl
theorem Xm.goOn_v (c:Cfg) (room:Nat) (m:Xm) (val:Nat):(m.goOn c room val).v=m.v:=by
  unfold Xm.goOn
  repeat' split
  all_goals first|rfl|exact Xm.taken_v ..|exact Xm.pay_v ..
def Xm.fetch (c:Cfg) (room:Nat) (m:Xm) (a:Int):Xm:=match mget (allP m.puts) a with
  | some val=>m.goOn c room val
  | none=>{ m with v:=m.v.cell c a,x:={ m.x with waits:=true } }
set_option maxHeartbeats 1000000 in
set_option maxRecDepth 100000 in
theorem xfetch_o (X V Pb W room:Nat) (c:Cfg) (hc:Small c) (cv:Value) (m:Xm) (hm:Xok m) (a:Int) (nad:Option Addr) (ncap:Nat) :
    Tri Tryz.prog 283 #[.pointer (some ⟨X,0,none⟩), .int .i64 a] (xmO X V Pb W room c cv m nad ncap) (xmQ X V Pb W room c cv (m.fetch c room a)):=by
  have hget:=wget_r W room m.puts a
  unfold Xm.fetch
  cases hg:mget (allP m.puts) a with
  | some val =>
    rw [hg] at hget
    have hgo:=xgoOn_o X V Pb W room c hc cv m hm val nad ncap
    have hv:=m.goOn_v c room val
    dsimp only
    refine Tri.of_body (vs:=[_,_]) Tryz.func283 rfl rfl fun w0 F=>?_
    repeat' (first|refine Ga ?_|(refine Gb ?_;intro b)|(refine Gd ?_;intro g cap rest hcap)|(refine Gc ?_;intro ad cap)|refine Gl hget ?_|(refine Gt hgo ?_;rintro _ _ ⟨rfl,rfl⟩)|(refine Ge ?_ ?_<;>(intro h;try (exfalso;omega)))|fail)
    refine St.d1 Tryz.func283 ⟨_,⟨rfl,rfl⟩, ?_⟩
    unfold xmL
    rw [hv]
    exact Ent.go
  | none =>
    rw [hg] at hget
    have hce:=vcell_t c hc V m.v a
    dsimp only
    refine Tri.of_body (vs:=[_,_]) Tryz.func283 rfl rfl fun w0 F=>?_
    repeat' (first|refine Ga ?_|(refine Gb ?_;intro b)|(refine Gd ?_;intro g cap rest hcap)|(refine Gc ?_;intro ad cap)|refine Gl hget ?_|(refine Gt hce ?_;rintro _ _ ⟨rfl,rfl⟩)|(refine Ge ?_ ?_<;>(intro h;try (exfalso;omega)))|fail)
    refine St.f1 Tryz.func283 ⟨_,⟨rfl,rfl⟩, ?_⟩
    refine Ent.trans ?_ (xmO_in (nad:=nad) (ncap:=ncap))
    exact Ent.go
def Xm.fresh (c:Cfg) (room:Nat) (m:Xm):Xm:=if (m.pay c).2 then (if ((m.pay c).1.p.top c).2 then (m.pay c).1.fetch c room ((m.pay c).1.p.top c).1 else (m.pay c).1.fail 43 0) else (m.pay c).1
theorem Xok.pay {c:Cfg} {m:Xm} (hm:Xok m) (hw:m.x.writes≤999000) (h:(m.pay c).2=true):Xok (m.pay c).1:=by
  rw [Xm.pay_t h]
  have:=costs_le m.x.i.op
  have h0:=hm.w0
  exact ⟨hm.mark,hm.len,by dsimp only;omega,by dsimp only;omega,hm.nt0,hm.nt1,hm.nl0,hm.nl1,hm.news,hm.regs,hm.args,hm.i⟩
set_option maxHeartbeats 1000000 in
set_option maxRecDepth 100000 in
theorem xfresh_o (X V Pb W room:Nat) (c:Cfg) (hc:Small c) (cv:Value) (m:Xm) (hm:Xok m) (hw:m.x.writes≤999000) (nad:Option Addr) (ncap:Nat) :
    Tri Tryz.prog 248 #[.pointer (some ⟨X,0,none⟩)] (xmO X V Pb W room c cv m nad ncap) (xmQ X V Pb W room c cv (m.fresh c room)):=by
  have hlen:=hm.len
  have hpay:=xpay_t X V Pb W room c hc cv (.slice nad m.news.length ncap) m hm.mark (by omega) ⟨hm.w0,hm.w1⟩
  have hpn:=m.pay_news c
  have hpv:=m.pay_v c
  unfold Xm.fresh
  cases hp:(m.pay c).2 with
  | false =>
    rw [hp] at hpay
    rw [if_neg (by decide)]
    refine Tri.of_body (vs:=[_]) Tryz.func248 rfl rfl fun w0 F=>?_
    repeat' (first|refine Ga ?_|(refine Gb ?_;intro b)|(refine Gd ?_;intro g cap rest hcap)|(refine Gc ?_;intro ad cap) |(refine Gt hpay ?_;rintro _ _ ⟨rfl,rfl⟩)|(refine Ge ?_ ?_<;>(intro h;try (exfalso;omega)))|fail)
    refine St.d1 Tryz.func248 ⟨_,⟨rfl,rfl⟩, ?_⟩
    refine Ent.trans ?_ (xmO_in (nad:=nad) (ncap:=ncap))
    unfold xmO
    rw [hpn,hpv]
    exact Ent.go
  | true =>
    rw [hp] at hpay
    rw [if_pos rfl]
    have hok:=hm.pay hw hp
    clear hpn hpv
    rw [Xm.pay_t hp] at hpay hok⊢
    dsimp only at hpay
    have htop:=ptop_r Pb c hc m.p ⟨hm.nt0,hm.nt1⟩
    cases ht:(m.p.top c).2 with
    | false =>
      rw [ht] at htop
      rw [if_neg (by decide)]
      have hf:=xfail_t X V Pb W room c cv (.slice nad m.news.length ncap) { m.x with writes:=m.x.writes+costs m.x.i.op } m.p m.puts 43 0 hm.mark (by omega)
      refine Tri.of_body (vs:=[_]) Tryz.func248 rfl rfl fun w0 F=>?_
      repeat' (first|refine Ga ?_|(refine Gb ?_;intro b)|(refine Gd ?_;intro g cap rest hcap)|(refine Gc ?_;intro ad cap)|refine Gl htop ?_|(refine Gt hpay ?_;rintro _ _ ⟨rfl,rfl⟩)|(refine Gt hf ?_;rintro _ _ ⟨rfl,rfl⟩)|(refine Ge ?_ ?_<;>(intro h;try (exfalso;omega)))|fail)
      refine St.d1 Tryz.func248 ⟨_,⟨rfl,rfl⟩, ?_⟩
      refine Ent.trans ?_ (xmO_in (nad:=nad) (ncap:=ncap))
      exact Ent.go
    | true =>
      rw [ht] at htop
      rw [if_pos rfl]
      have hf:=xfetch_o X V Pb W room c hc cv { m with x:={ m.x with writes:=m.x.writes+costs m.x.i.op } } hok (m.p.top c).1 nad ncap
      unfold xmQ at hf
      refine Tri.of_body (vs:=[_]) Tryz.func248 rfl rfl fun w0 F=>?_
      repeat' (first|refine Ga ?_|(refine Gb ?_;intro b)|(refine Gd ?_;intro g cap rest hcap)|(refine Gc ?_;intro ad cap)|refine Gl htop ?_|(refine Gt hpay ?_;rintro _ _ ⟨rfl,rfl⟩)|(refine Gt hf ?_;rintro _ _ ⟨rfl,rfl⟩)|(refine Ge ?_ ?_<;>(intro h;try (exfalso;omega)))|fail)
      refine St.f1 Tryz.func248 ⟨_,⟨rfl,rfl⟩, ?_⟩
      exact Ent.go
def Xm.root (c:Cfg) (room:Nat) (m:Xm):Xm :=
  if 16≤m.x.reg m.x.i.b then m.fail 44 0 else
  if m.x.i.op=10 then (if (m.pay c).2 then { (m.pay c).1 with puts:=putP room (m.pay c).1.puts (c.at 10 (m.x.reg m.x.i.b) 0) (m.x.reg m.x.i.a) } else (m.pay c).1) else m.fetch c room (c.at 10 (m.x.reg m.x.i.b) 0)
set_option maxHeartbeats 1000000 in
set_option maxRecDepth 100000 in
theorem xroot_o (X V Pb W room:Nat) (c:Cfg) (hc:Small c) (cv:Value) (m:Xm) (hm:Xok m) (nad:Option Addr) (ncap:Nat) :
    Tri Tryz.prog 246 #[.pointer (some ⟨X,0,none⟩)] (xmO X V Pb W room c cv m nad ncap) (xmQ X V Pb W room c cv (m.root c room)):=by
  have hlen:=hm.len
  have hpay:=xpay_t X V Pb W room c hc cv (.slice nad m.news.length ncap) m hm.mark (by omega) ⟨hm.w0,hm.w1⟩
  have hpn:=m.pay_news c
  have hpv:=m.pay_v c
  have htk:=take_x c cv V Pb W (.slice nad m.news.length ncap) m.x
  have ha0:=hm.i.a0;have ha1:=hm.i.a1;have hb0:=hm.i.b0;have hb1:=hm.i.b1
  have hrb:NthN _ _ (Value.int .u64 ((m.x.reg m.x.i.b:Nat):Int)):=ex_reg c cv V Pb W (.slice nad m.news.length ncap) m.x hb0 hb1
  have hat:=at_r c hc 10 (m.x.reg m.x.i.b) 0
  unfold Xm.root
  by_cases h1:16≤m.x.reg m.x.i.b
  · rw [if_pos h1]
    have hf:=xfail_t X V Pb W room c cv (.slice nad m.news.length ncap) m.x m.p m.puts 44 0 hm.mark (by omega)
    refine Tri.of_body (vs:=[_]) Tryz.func246 rfl rfl fun w0 F=>?_
    repeat' (first|refine Ga ?_|(refine Gb ?_;intro b)|(refine Gd ?_;intro g cap rest hcap)|(refine Gc ?_;intro ad cap)|(refine St.draw (id:=0) [(0,0),(1,0),(2,0),(3,0),(4,0),(5,1),(6,0),(7,0),(8,0),(9,1),(10,0)] [] mixed (by kernel_rfl) ?_)|(refine St.draw (id:=6) [(0,0),(1,0),(2,0),(3,1),(4,0),(5,0),(6,0),(7,0),(8,0),(9,0),(10,1),(11,0),(12,0),(13,0),(14,1),(15,3)] [15] mixed (by kernel_rfl) ?_)|(refine Gt hf ?_;rintro _ _ ⟨rfl,rfl⟩)|(refine Ge ?_ ?_<;>(intro h;try (exfalso;omega)))|fail)
    refine St.d1 Tryz.func246 ⟨_,⟨rfl,rfl⟩, ?_⟩
    refine Ent.trans ?_ (xmO_in (nad:=nad) (ncap:=ncap))
    exact Ent.go
  · rw [if_neg h1]
    by_cases h2:m.x.i.op=10
    · rw [if_pos h2]
      cases hp:(m.pay c).2 with
      | false =>
        rw [hp] at hpay
        rw [if_neg (by decide)]
        refine Tri.of_body (vs:=[_]) Tryz.func246 rfl rfl fun w0 F=>?_
        repeat' (first|refine Ga ?_|(refine Gb ?_;intro b)|(refine Gd ?_;intro g cap rest hcap)|(refine Gc ?_;intro ad cap)|(refine St.draw (id:=0) [(0,0),(1,0),(2,0),(3,0),(4,0),(5,1),(6,0),(7,0),(8,0),(9,1),(10,0)] [] mixed (by kernel_rfl) ?_)|(refine St.draw (id:=6) [(0,0),(1,0),(2,0),(3,1),(4,0),(5,0),(6,0),(7,0),(8,0),(9,0),(10,1),(11,0),(12,0),(13,0),(14,1),(15,3)] [15] mixed (by kernel_rfl) ?_)| refine Gl hat ?_|(refine Gt hpay ?_;rintro _ _ ⟨rfl,rfl⟩)|(refine Ge ?_ ?_<;>(intro h;try (exfalso;omega)))|fail)
        refine St.d1 Tryz.func246 ⟨_,⟨rfl,rfl⟩, ?_⟩
        refine Ent.trans ?_ (xmO_in (nad:=nad) (ncap:=ncap))
        unfold xmO
        rw [hpn,hpv]
        exact Ent.go
      | true =>
        rw [hp] at hpay
        rw [if_pos rfl]
        clear hpn hpv
        rw [Xm.pay_t hp] at hpay⊢
        dsimp only at hpay
        have hra:NthN _ _ (Value.int .u64 ((m.x.reg m.x.i.a:Nat):Int)):=ex_reg c cv V Pb W (.slice nad m.news.length ncap) { m.x with writes:=m.x.writes+costs m.x.i.op } ha0 ha1
        have hput:=wput_t W room m.puts (c.at 10 (m.x.reg m.x.i.b) 0) (m.x.reg m.x.i.a) (by omega)
        refine Tri.of_body (vs:=[_]) Tryz.func246 rfl rfl fun w0 F=>?_
        repeat' (first|refine Ga ?_|(refine Gb ?_;intro b)|(refine Gd ?_;intro g cap rest hcap)|(refine Gc ?_;intro ad cap)|(refine St.draw (id:=0) [(0,0),(1,0),(2,0),(3,0),(4,0),(5,1),(6,0),(7,0),(8,0),(9,1),(10,0)] [] mixed (by kernel_rfl) ?_)|(refine St.draw (id:=6) [(0,0),(1,0),(2,0),(3,1),(4,0),(5,0),(6,0),(7,0),(8,0),(9,0),(10,1),(11,0),(12,0),(13,0),(14,1),(15,3)] [15] mixed (by kernel_rfl) ?_)| refine Gl hat ?_|(refine Gt hpay ?_;rintro _ _ ⟨rfl,rfl⟩)|(refine Gt hput ?_;rintro _ _ ⟨rfl,rfl⟩)|(refine Ge ?_ ?_<;>(intro h;try (exfalso;omega)))|fail)
        refine St.d1 Tryz.func246 ⟨_,⟨rfl,rfl⟩, ?_⟩
        refine Ent.trans ?_ (xmO_in (nad:=nad) (ncap:=ncap))
        exact Ent.go
    · rw [if_neg h2]
      have hf:=xfetch_o X V Pb W room c hc cv m hm (c.at 10 (m.x.reg m.x.i.b) 0) nad ncap
      unfold xmQ at hf
      refine Tri.of_body (vs:=[_]) Tryz.func246 rfl rfl fun w0 F=>?_
      repeat' (first|refine Ga ?_|(refine Gb ?_;intro b)|(refine Gd ?_;intro g cap rest hcap)|(refine Gc ?_;intro ad cap)|(refine St.draw (id:=0) [(0,0),(1,0),(2,0),(3,0),(4,0),(5,1),(6,0),(7,0),(8,0),(9,1),(10,0)] [] mixed (by kernel_rfl) ?_)|(refine St.draw (id:=6) [(0,0),(1,0),(2,0),(3,1),(4,0),(5,0),(6,0),(7,0),(8,0),(9,0),(10,1),(11,0),(12,0),(13,0),(14,1),(15,3)] [15] mixed (by kernel_rfl) ?_)| refine Gl hat ?_|(refine Gt hf ?_;rintro _ _ ⟨rfl,rfl⟩)|(refine Ge ?_ ?_<;>(intro h;try (exfalso;omega)))|fail)
      refine St.f1 Tryz.func246 ⟨_,⟨rfl,rfl⟩, ?_⟩
      exact Ent.go
def Xm.touch (c:Cfg) (room:Nat) (m:Xm):Xm :=
  if (m.x.block c).2.2=false∨((mget (allP m.puts) (c.at 11 (m.x.block c).1 0)).isSome=true∧(mget (allP m.puts) (c.at 11 (m.x.block c).1 0)).getD 0≠1) then m.fail 44 0 else
  if readsB m.x.i.op then (match mget (allP m.puts) (c.at 16 (m.x.block c).1 (m.x.block c).2.1) with
    | some val=>m.goOn c room val
    | none=>{ m with v:=m.v.word c (m.x.block c).1 (m.x.block c).2.1,x:={ m.x with waits:=true } }) else
  if (mget (allP m.puts) (c.at 11 (m.x.block c).1 0)).isSome then m.goOn c room 0 else { m with v:=m.v.live c (m.x.block c).1,x:={ m.x with waits:=true } }
set_option maxHeartbeats 1000000 in
set_option maxRecDepth 100000 in
theorem xtouch_o (X V Pb W room:Nat) (c:Cfg) (hc:Small c) (cv:Value) (m:Xm) (hm:Xok m) (nad:Option Addr) (ncap:Nat) :
    Tri Tryz.prog 247 #[.pointer (some ⟨X,0,none⟩)] (xmO X V Pb W room c cv m nad ncap) (xmQ X V Pb W room c cv (m.touch c room)):=by
  have hlen:=hm.len
  have htk:=take_x c cv V Pb W (.slice nad m.news.length ncap) m.x
  have hbl:=xblock_r X V Pb W c hc cv (.slice nad m.news.length ncap) m.x hm.i
  have h11:=at_r c hc 11 (m.x.block c).1 0
  have h16:=at_r c hc 16 (m.x.block c).1 (m.x.block c).2.1
  have hg1:=wget_r W room m.puts (c.at 11 (m.x.block c).1 0)
  have hg2:=wget_r W room m.puts (c.at 16 (m.x.block c).1 (m.x.block c).2.1)
  have hrd:=xreads_r m.x.i.op
  have hwd:=vword_t c hc V m.v (m.x.block c).1 (m.x.block c).2.1
  have hlv:=vlive_t c hc V m.v (m.x.block c).1
  have hf:=xfail_t X V Pb W room c cv (.slice nad m.news.length ncap) m.x m.p m.puts 44 0 hm.mark (by omega)
  have hgo0:=xgoOn_o X V Pb W room c hc cv m hm 0 nad ncap
  have hgo:=fun val=>xgoOn_o X V Pb W room c hc cv m hm val nad ncap
  have hgv:=m.goOn_v c room
  unfold Xm.touch
  generalize m.x.block c=bw at *
  obtain ⟨b,w,ok⟩:=bw
  dsimp only at *
  cases ok with
  | false =>
    rw [if_pos (.inl rfl)]
    refine Tri.of_body (vs:=[_]) Tryz.func247 rfl rfl fun w0 F=>?_
    repeat' (first|refine Ga ?_|(refine Gb ?_;intro b)|(refine Gd ?_;intro g cap rest hcap)|(refine Gc ?_;intro ad cap)|(refine St.draw (id:=1) [(0,0),(1,0),(2,0),(3,1),(4,0),(5,0),(6,0),(7,1),(8,0),(9,1),(10,1),(11,0),(12,0),(13,0),(14,0),(15,0)] [] mixed (by kernel_rfl) ?_)|(refine St.draw (id:=5) [(0,0),(1,0),(2,0),(3,1),(4,0),(5,0),(6,0),(7,1),(8,0),(9,0),(10,1),(11,1),(12,0),(13,0),(14,0),(15,0),(16,0)] [] mixed (by kernel_rfl) ?_)| refine Gl hbl ?_|refine Gl h11 ?_|refine Gl hg1 ?_|(refine Gt hf ?_;rintro _ _ ⟨rfl,rfl⟩)|(refine Ge ?_ ?_<;>(intro h;try (exfalso;omega)))|fail)
    refine St.d1 Tryz.func247 ⟨_,⟨rfl,rfl⟩, ?_⟩
    refine Ent.trans ?_ (xmO_in (nad:=nad) (ncap:=ncap))
    exact Ent.go
  | true =>
    cases hk:mget (allP m.puts) (c.at 11 b 0) with
    | none =>
      rw [hk] at hg1
      rw [if_neg (by simp)]
      cases hr:readsB m.x.i.op with
      | true =>
        rw [hr] at hrd
        rw [if_pos rfl]
        cases hg:mget (allP m.puts) (c.at 16 b w) with
        | some val =>
          rw [hg] at hg2
          have hgo:=hgo val
          dsimp only
          refine Tri.of_body (vs:=[_]) Tryz.func247 rfl rfl fun w0 F=>?_
          repeat' (first|refine Ga ?_|(refine Gb ?_;intro b)|(refine Gd ?_;intro g cap rest hcap)|(refine Gc ?_;intro ad cap)|(refine St.draw (id:=1) [(0,0),(1,0),(2,0),(3,1),(4,0),(5,0),(6,0),(7,1),(8,0),(9,1),(10,1),(11,0),(12,0),(13,0),(14,0),(15,0)] [] mixed (by kernel_rfl) ?_)|(refine St.draw (id:=5) [(0,0),(1,0),(2,0),(3,1),(4,0),(5,0),(6,0),(7,1),(8,0),(9,0),(10,1),(11,1),(12,0),(13,0),(14,0),(15,0),(16,0)] [] mixed (by kernel_rfl) ?_)| refine Gl hbl ?_|refine Gl h11 ?_|refine Gl hg1 ?_|refine Gl hrd ?_|refine Gl h16 ?_|refine Gl hg2 ?_|(refine Gt hgo ?_;rintro _ _ ⟨rfl,rfl⟩)|(refine Ge ?_ ?_<;>(intro h;try (exfalso;omega)))|fail)
          refine St.d1 Tryz.func247 ⟨_,⟨rfl,rfl⟩, ?_⟩
          unfold xmL
          rw [hgv]
          exact Ent.go
        | none =>
          rw [hg] at hg2
          dsimp only
          refine Tri.of_body (vs:=[_]) Tryz.func247 rfl rfl fun w0 F=>?_
          repeat' (first|refine Ga ?_|(refine Gb ?_;intro b)|(refine Gd ?_;intro g cap rest hcap)|(refine Gc ?_;intro ad cap)|(refine St.draw (id:=1) [(0,0),(1,0),(2,0),(3,1),(4,0),(5,0),(6,0),(7,1),(8,0),(9,1),(10,1),(11,0),(12,0),(13,0),(14,0),(15,0)] [] mixed (by kernel_rfl) ?_)|(refine St.draw (id:=5) [(0,0),(1,0),(2,0),(3,1),(4,0),(5,0),(6,0),(7,1),(8,0),(9,0),(10,1),(11,1),(12,0),(13,0),(14,0),(15,0),(16,0)] [] mixed (by kernel_rfl) ?_)| refine Gl hbl ?_|refine Gl h11 ?_|refine Gl hg1 ?_|refine Gl hrd ?_|refine Gl h16 ?_|refine Gl hg2 ?_|(refine Gt hwd ?_;rintro _ _ ⟨rfl,rfl⟩)|(refine Ge ?_ ?_<;>(intro h;try (exfalso;omega)))|fail)
          refine St.d1 Tryz.func247 ⟨_,⟨rfl,rfl⟩, ?_⟩
          refine Ent.trans ?_ (xmO_in (nad:=nad) (ncap:=ncap))
          exact Ent.go
      | false =>
        rw [hr] at hrd
        rw [if_neg (by decide)]
        rw [if_neg (by decide)]
        refine Tri.of_body (vs:=[_]) Tryz.func247 rfl rfl fun w0 F=>?_
        repeat' (first|refine Ga ?_|(refine Gb ?_;intro b)|(refine Gd ?_;intro g cap rest hcap)|(refine Gc ?_;intro ad cap)|(refine St.draw (id:=1) [(0,0),(1,0),(2,0),(3,1),(4,0),(5,0),(6,0),(7,1),(8,0),(9,1),(10,1),(11,0),(12,0),(13,0),(14,0),(15,0)] [] mixed (by kernel_rfl) ?_)|(refine St.draw (id:=5) [(0,0),(1,0),(2,0),(3,1),(4,0),(5,0),(6,0),(7,1),(8,0),(9,0),(10,1),(11,1),(12,0),(13,0),(14,0),(15,0),(16,0)] [] mixed (by kernel_rfl) ?_)| refine Gl hbl ?_|refine Gl h11 ?_|refine Gl hg1 ?_|refine Gl hrd ?_|(refine Gt hlv ?_;rintro _ _ ⟨rfl,rfl⟩)|(refine Ge ?_ ?_<;>(intro h;try (exfalso;omega)))|fail)
        refine St.f1 Tryz.func247 ⟨_,⟨rfl,rfl⟩, ?_⟩
        refine Ent.trans ?_ (xmO_in (nad:=nad) (ncap:=ncap))
        exact Ent.go
    | some life =>
      rw [hk] at hg1
      by_cases hl1:life=1
      · subst hl1
        rw [if_neg (by simp)]
        cases hr:readsB m.x.i.op with
        | true =>
          rw [hr] at hrd
          rw [if_pos rfl]
          cases hg:mget (allP m.puts) (c.at 16 b w) with
          | some val =>
            rw [hg] at hg2
            have hgo:=hgo val
            dsimp only
            refine Tri.of_body (vs:=[_]) Tryz.func247 rfl rfl fun w0 F=>?_
            repeat' (first|refine Ga ?_|(refine Gb ?_;intro b)|(refine Gd ?_;intro g cap rest hcap)|(refine Gc ?_;intro ad cap)|(refine St.draw (id:=1) [(0,0),(1,0),(2,0),(3,1),(4,0),(5,0),(6,0),(7,1),(8,0),(9,1),(10,1),(11,0),(12,0),(13,0),(14,0),(15,0)] [] mixed (by kernel_rfl) ?_)|(refine St.draw (id:=5) [(0,0),(1,0),(2,0),(3,1),(4,0),(5,0),(6,0),(7,1),(8,0),(9,0),(10,1),(11,1),(12,0),(13,0),(14,0),(15,0),(16,0)] [] mixed (by kernel_rfl) ?_)| refine Gl hbl ?_|refine Gl h11 ?_|refine Gl hg1 ?_|refine Gl hrd ?_|refine Gl h16 ?_|refine Gl hg2 ?_|(refine Gt hgo ?_;rintro _ _ ⟨rfl,rfl⟩)|(refine Ge ?_ ?_<;>(intro h;try (exfalso;omega)))|fail)
            refine St.d1 Tryz.func247 ⟨_,⟨rfl,rfl⟩, ?_⟩
            unfold xmL
            rw [hgv]
            exact Ent.go
          | none =>
            rw [hg] at hg2
            dsimp only
            refine Tri.of_body (vs:=[_]) Tryz.func247 rfl rfl fun w0 F=>?_
            repeat' (first|refine Ga ?_|(refine Gb ?_;intro b)|(refine Gd ?_;intro g cap rest hcap)|(refine Gc ?_;intro ad cap)|(refine St.draw (id:=1) [(0,0),(1,0),(2,0),(3,1),(4,0),(5,0),(6,0),(7,1),(8,0),(9,1),(10,1),(11,0),(12,0),(13,0),(14,0),(15,0)] [] mixed (by kernel_rfl) ?_)|(refine St.draw (id:=5) [(0,0),(1,0),(2,0),(3,1),(4,0),(5,0),(6,0),(7,1),(8,0),(9,0),(10,1),(11,1),(12,0),(13,0),(14,0),(15,0),(16,0)] [] mixed (by kernel_rfl) ?_)| refine Gl hbl ?_|refine Gl h11 ?_|refine Gl hg1 ?_|refine Gl hrd ?_|refine Gl h16 ?_|refine Gl hg2 ?_|(refine Gt hwd ?_;rintro _ _ ⟨rfl,rfl⟩)|(refine Ge ?_ ?_<;>(intro h;try (exfalso;omega)))|fail)
            refine St.d1 Tryz.func247 ⟨_,⟨rfl,rfl⟩, ?_⟩
            refine Ent.trans ?_ (xmO_in (nad:=nad) (ncap:=ncap))
            exact Ent.go
        | false =>
          rw [hr] at hrd
          rw [if_neg (by decide)]
          rw [if_pos (by rfl)]
          refine Tri.of_body (vs:=[_]) Tryz.func247 rfl rfl fun w0 F=>?_
          repeat' (first|refine Ga ?_|(refine Gb ?_;intro b)|(refine Gd ?_;intro g cap rest hcap)|(refine Gc ?_;intro ad cap)|(refine St.draw (id:=1) [(0,0),(1,0),(2,0),(3,1),(4,0),(5,0),(6,0),(7,1),(8,0),(9,1),(10,1),(11,0),(12,0),(13,0),(14,0),(15,0)] [] mixed (by kernel_rfl) ?_)|(refine St.draw (id:=5) [(0,0),(1,0),(2,0),(3,1),(4,0),(5,0),(6,0),(7,1),(8,0),(9,0),(10,1),(11,1),(12,0),(13,0),(14,0),(15,0),(16,0)] [] mixed (by kernel_rfl) ?_)| refine Gl hbl ?_|refine Gl h11 ?_|refine Gl hg1 ?_|refine Gl hrd ?_|(refine Gt hgo0 ?_;rintro _ _ ⟨rfl,rfl⟩)|(refine Ge ?_ ?_<;>(intro h;try (exfalso;omega)))|fail)
          refine St.d1 Tryz.func247 ⟨_,⟨rfl,rfl⟩, ?_⟩
          unfold xmL
          rw [hgv]
          exact Ent.go
      · rw [Option.getD_some,Option.isSome_some] at hg1
        have hl2:¬ ((life:Nat):Int)=1:=by omega
        rw [if_pos (.inr ⟨rfl,hl1⟩)]
        refine Tri.of_body (vs:=[_]) Tryz.func247 rfl rfl fun w0 F=>?_
        repeat' (first|refine Ga ?_|(refine Gb ?_;intro b)|(refine Gd ?_;intro g cap rest hcap)|(refine Gc ?_;intro ad cap)|(refine St.draw (id:=1) [(0,0),(1,0),(2,0),(3,1),(4,0),(5,0),(6,0),(7,1),(8,0),(9,1),(10,1),(11,0),(12,0),(13,0),(14,0),(15,0)] [] mixed (by kernel_rfl) ?_)|(refine St.draw (id:=5) [(0,0),(1,0),(2,0),(3,1),(4,0),(5,0),(6,0),(7,1),(8,0),(9,0),(10,1),(11,1),(12,0),(13,0),(14,0),(15,0),(16,0)] [] mixed (by kernel_rfl) ?_)| refine Gl hbl ?_|refine Gl h11 ?_|refine Gl hg1 ?_|(refine Gt hf ?_;rintro _ _ ⟨rfl,rfl⟩)|(refine Ge ?_ ?_<;>(intro h;try (exfalso;omega)))|fail)
        refine St.d1 Tryz.func247 ⟨_,⟨rfl,rfl⟩, ?_⟩
        refine Ent.trans ?_ (xmO_in (nad:=nad) (ncap:=ncap))
        exact Ent.go
end Go.Proofs.YthmbgodcpgkkeaaGreat
end
section
namespace Go.Proofs.YthmbgodcpgkkeaaGreat
structure InsAt (n k:Nat) (i:Ins):Prop where
  ok:InsOk i
  op0:0≤i.op
  op1:i.op≤21
  go:i.op=17∨i.op=18→i.imm<n
  back:i.op=19→i.imm<n
  arg:i.op=8→i.imm<4
  next:i.op≠20→i.op≠21→k+1<n
theorem fieldOk_in {n:Int} {u:Bool} (h:fieldOk n u=true):0≤n∧n<16:=by
  unfold fieldOk at h
  simp only [Bool.or_eq_true,beq_iff_eq,Bool.and_eq_true,decide_eq_true_eq] at h
  omega
theorem plain_in {i:Ins} (h:i.plain=true):InsOk i∧0≤i.op∧i.op≤21:=by
  unfold Ins.plain at h
  simp only [Bool.and_eq_true,decide_eq_true_eq] at h
  obtain ⟨h0,ha,hb,hc,_⟩:=h
  have:=fieldOk_in ha;have:=fieldOk_in hb;have:=fieldOk_in hc
  exact ⟨⟨by omega,by omega,by omega,by omega,by omega,by omega⟩,h0.1,h0.2⟩
theorem faultGo_none {n:Nat}:∀ {l:List Ins} {k j:Nat} (hj:j<l.length),faultGo n k l=none→oneOf n (k+j) l[j]=0
  | [],k,j,hj,h=>by simp at hj
  | i::l,k,0,hj,h=>by
    unfold faultGo at h
    split at h
    · rename_i h0;simpa using h0
    · cases h
  | i::l,k,j+1,hj,h=>by
    unfold faultGo at h
    split at h
    · have:=faultGo_none (j:=j) (by simpa using hj) h
      rw [show k+(j+1)=k+1+j by omega]
      simpa using this
    · cases h
theorem right_at {code:List Ins} (h:rightB code=true):0<code.length∧code.length≤256∧∀ k (hk:k<code.length),InsAt code.length k code[k]:=by
  unfold rightB faultOf at h
  by_cases h0:code.length=0
  · rw [if_pos h0] at h;simp at h
  rw [if_neg h0] at h
  by_cases h1:256<code.length
  · rw [if_pos h1] at h;simp at h
  rw [if_neg h1] at h
  cases hg:faultGo code.length 0 code with
  | some x =>
    rw [hg] at h
    dsimp only at h
    exfalso
    have key:∀ {l:List Ins} {k:Nat} {x:Int×Int},faultGo code.length k l=some x→x.2≠0:=by
      intro l
      induction l with
      | nil=>intro k x hx;simp [faultGo] at hx
      | cons i l ih =>
        intro k x hx
        unfold faultGo at hx
        split at hx
        · exact ih hx
        · rename_i hne;injection hx with hx;subst hx;exact hne
    exact key hg (by simpa using h)
  | none =>
    rw [hg] at h
    dsimp only at h
    have hends:endsB code=true:=by
      cases he:endsB code with
      | true=>rfl
      | false=>rw [he] at h;simp at h
    refine ⟨by omega,by omega,fun k hk=>?_⟩
    have h2:=faultGo_none hk hg
    rw [Nat.zero_add] at h2
    have hpl:code[k].plain=true:=by
      cases hb:code[k].plain with
      | true=>rfl
      | false=>unfold oneOf at h2;rw [if_pos hb] at h2;cases h2
    obtain ⟨hok,hop0,hop1⟩:=plain_in hpl
    unfold oneOf at h2
    rw [if_neg (by rw [hpl];decide)] at h2
    have hlast:code[k].op≠20→code[k].op≠21→k+1<code.length:=by
      intro a b
      refine Decidable.by_contra fun hno=>?_
      have hk1:k=code.length - 1:=by omega
      subst hk1
      unfold endsB at hends
      rw [List.getLast?_eq_getElem?,List.getElem?_eq_getElem hk] at hends
      simp only [Bool.or_eq_true,beq_iff_eq] at hends
      omega
    refine ⟨hok,hop0,hop1,fun h17=>?_,fun h19=>?_,fun h8=>?_,hlast⟩
    · repeat' split at h2
      all_goals omega
    · repeat' split at h2
      all_goals omega
    · repeat' split at h2
      all_goals omega
def ins0:Ins:=⟨0,0,0,0,0⟩
def Xm.begun (m:Xm) (i:Ins):Xm:={ m with x:={ m.x with steps:=m.x.steps+1,i:=i,pc:=m.x.pc+1 } }
def Xm.jump (m:Xm) (n:Nat):Xm:={ m with x:={ m.x with pc:=(n:Int) } }
def Xm.does (c:Cfg) (room:Nat) (m:Xm):Xm :=
  if m.x.i.op=17 then m.jump m.x.i.imm else
  if m.x.i.op=18∨m.x.i.op=19 then (if (((m.x.reg m.x.i.a:Nat):Int) == 0)=(m.x.i.op == 18) then m.jump m.x.i.imm else m) else
  if m.x.i.op=20 then { m with x:={ m.x with s:=1,rc:=0,rv:=m.x.reg m.x.i.a } } else
  if m.x.i.op=21 then m.fail 40 m.x.i.imm else
  if m.x.i.op=9∨m.x.i.op=10 then m.root c room else
  if m.x.i.op=11∨m.x.i.op=12∨m.x.i.op=13∨m.x.i.op=14∨m.x.i.op=16 then m.touch c room else
  if m.x.i.op=15 then m.fresh c room else { m with x:={ m.x with regs:=m.x.regs.set m.x.i.a.toNat (reckon m.x.i m.x.regs m.x.args) } }
def Xm.step (c:Cfg) (room:Nat) (code:List Ins) (m:Xm):Xm:=if c.fuel≤m.x.steps then m.fail 41 0 else (m.begun (code.getD m.x.pc.toNat ins0)).does c room
set_option maxHeartbeats 2000000 in
set_option maxRecDepth 100000 in
theorem xstep_o (X V Pb W room:Nat) (c:Cfg) (hc:Small c) (cv:Value) (q:HProp) (code:List Ins) (hcode:rightB code=true) (hv:InsR q cv code) (m:Xm) (hm:Xok m) (hw:m.x.writes≤999000) (k:Nat) (hpc:m.x.pc=(k:Int)) (hk:k<code.length) (hst:0≤m.x.steps∧m.x.steps≤1000000) (nad:Option Addr) (ncap:Nat) :
    Tri Tryz.prog 193 #[.pointer (some ⟨X,0,none⟩)] (xmO X V Pb W room c cv m nad ncap++[q]) fun r L=>r=.tuple ⟨[]⟩∧L=xmL X V Pb W room c cv (m.step c room code)++[q]:=by
  have hlen:=hm.len
  have hcf:=cfg_r c
  have htk:=take_x c cv V Pb W (.slice nad m.news.length ncap) m.x
  obtain ⟨hc0,hc1,hat⟩:=right_at hcode
  have hat:=hat k hk
  have hgd:code.getD m.x.pc.toNat ins0=code[k]:=by rw [hpc,List.getD_eq_getElem?_getD];simp [hk]
  obtain ⟨ad,cap,rfl,hr⟩:=hv
  obtain ⟨ib,io,il,il1,rfl,hrd,hdr,htk5⟩:=InsR.at hr k hk
  rw [←hpc] at hdr
  unfold Xm.step
  by_cases hfu:c.fuel≤m.x.steps
  · rw [if_pos hfu]
    have hf:=xfail_t X V Pb W room c (.slice (some ⟨ib,io,none⟩) code.length cap) (.slice nad m.news.length ncap) m.x m.p m.puts 41 0 hm.mark (by omega)
    refine Tri.of_body (vs:=[_]) Tryz.func193 rfl rfl fun w0 F=>?_
    repeat' (first|refine Ga ?_|(refine Gb ?_;intro b)|(refine Gd ?_;intro g cap rest hcap)|(refine Gc ?_;intro ad cap)|(refine St.draw (id:=0) [(0,0),(1,0),(2,0),(3,1),(4,0),(5,0),(6,0),(7,1),(8,1),(9,0),(10,0)] [] mixed (by kernel_rfl) ?_)|(refine St.draw (id:=3) [(0,0),(1,0),(2,0),(3,1),(4,0),(5,0),(6,0),(7,1),(8,0),(9,1),(10,2),(11,3)] [11] mixed (by kernel_rfl) ?_)|(refine St.draw (id:=12) [(0,0),(1,0),(2,1),(3,0),(4,0),(5,0),(6,1),(7,0),(8,0),(9,1),(10,0),(11,0)] [] mixed (by kernel_rfl) ?_)|(refine St.draw (id:=15) [(0,0),(1,0),(2,0),(3,0),(4,1),(5,0),(6,0),(7,0),(8,1),(9,0),(10,0),(11,0),(12,3),(13,0),(14,0),(15,3)] [12,15] mixed (by kernel_rfl) ?_)|(refine St.draw (id:=7) [(0,0),(1,0),(2,1),(3,1),(4,0),(5,0),(6,0),(7,1),(8,0),(9,0),(10,0),(11,1),(12,1),(13,0),(14,0),(15,0),(16,3)] [16] mixed (by kernel_rfl) ?_)| refine Gl hcf ?_|(refine Gt hf ?_;rintro _ _ ⟨rfl,rfl⟩)|(refine Ge ?_ ?_<;>(intro h;try (exfalso;omega)))|fail)
    refine St.d1 Tryz.func193 ⟨_,⟨rfl,rfl⟩, ?_⟩
    refine Ent.trans ?_ (xmO_in (nad:=nad) (ncap:=ncap))
    exact Ent.go
  · rw [if_neg hfu,hgd]
    generalize code[k]=i at *
    have hm1:Xok (m.begun i):=⟨hm.mark,hm.len,hm.w0,hm.w1,hm.nt0,hm.nt1,hm.nl0,hm.nl1,hm.news,hm.regs,hm.args,hat.ok⟩
    have ha0:=hat.ok.a0;have ha1:=hat.ok.a1
    have hra:NthN _ _ (Value.int .u64 (((m.begun i).x.reg i.a:Nat):Int)):=ex_reg c (.slice (some ⟨ib,io,none⟩) code.length cap) V Pb W (.slice nad m.news.length ncap) (m.begun i).x ha0 ha1
    unfold Xm.does
    by_cases h17:(m.begun i).x.i.op=17
    · rw [if_pos h17]
      have h17':i.op=17:=h17
      have him:=hat.go (.inl h17)
      refine Tri.of_body (vs:=[_]) Tryz.func193 rfl rfl fun w0 F=>?_
      repeat' (first|refine Ga ?_|(refine Gb ?_;intro b)|(refine Gd ?_;intro g cap rest hcap)|(refine Gc ?_;intro ad cap)|(refine St.draw (id:=0) [(0,0),(1,0),(2,0),(3,1),(4,0),(5,0),(6,0),(7,1),(8,1),(9,0),(10,0)] [] mixed (by kernel_rfl) ?_)|(refine St.draw (id:=3) [(0,0),(1,0),(2,0),(3,1),(4,0),(5,0),(6,0),(7,1),(8,0),(9,1),(10,2),(11,3)] [11] mixed (by kernel_rfl) ?_)|(refine St.draw (id:=12) [(0,0),(1,0),(2,1),(3,0),(4,0),(5,0),(6,1),(7,0),(8,0),(9,1),(10,0),(11,0)] [] mixed (by kernel_rfl) ?_)|(refine St.draw (id:=15) [(0,0),(1,0),(2,0),(3,0),(4,1),(5,0),(6,0),(7,0),(8,1),(9,0),(10,0),(11,0),(12,3),(13,0),(14,0),(15,3)] [12,15] mixed (by kernel_rfl) ?_)|(refine St.draw (id:=7) [(0,0),(1,0),(2,1),(3,1),(4,0),(5,0),(6,0),(7,1),(8,0),(9,0),(10,0),(11,1),(12,1),(13,0),(14,0),(15,0),(16,3)] [16] mixed (by kernel_rfl) ?_)| refine Gl hcf ?_|(refine Ge ?_ ?_<;>(intro h;try (exfalso;omega)))|fail)
      refine St.f1 Tryz.func193 ⟨_,⟨rfl,rfl⟩, ?_⟩
      refine Ent.trans ?_ (xmO_in (nad:=nad) (ncap:=ncap))
      exact Ent.go
    · rw [if_neg h17]
      have h17':¬ i.op=17:=h17
      by_cases h18:(m.begun i).x.i.op=18∨(m.begun i).x.i.op=19
      · rw [if_pos h18]
        have h18':i.op=18∨i.op=19:=h18
        have him:i.imm<code.length:=h18'.elim (fun h=>hat.go (.inr h)) hat.back
        by_cases hj:((((m.begun i).x.reg (m.begun i).x.i.a:Nat):Int) == 0)=((m.begun i).x.i.op == 18)
        · rw [if_pos hj]
          have hj':((((m.begun i).x.reg i.a:Nat):Int) == 0)=(i.op == 18):=hj
          refine Tri.of_body (vs:=[_]) Tryz.func193 rfl rfl fun w0 F=>?_
          repeat' (first|refine Ga ?_|(refine Gb ?_;intro b)|(refine Gd ?_;intro g cap rest hcap)|(refine Gc ?_;intro ad cap)|(refine St.draw (id:=0) [(0,0),(1,0),(2,0),(3,1),(4,0),(5,0),(6,0),(7,1),(8,1),(9,0),(10,0)] [] mixed (by kernel_rfl) ?_)|(refine St.draw (id:=3) [(0,0),(1,0),(2,0),(3,1),(4,0),(5,0),(6,0),(7,1),(8,0),(9,1),(10,2),(11,3)] [11] mixed (by kernel_rfl) ?_)|(refine St.draw (id:=12) [(0,0),(1,0),(2,1),(3,0),(4,0),(5,0),(6,1),(7,0),(8,0),(9,1),(10,0),(11,0)] [] mixed (by kernel_rfl) ?_)|(refine St.draw (id:=15) [(0,0),(1,0),(2,0),(3,0),(4,1),(5,0),(6,0),(7,0),(8,1),(9,0),(10,0),(11,0),(12,3),(13,0),(14,0),(15,3)] [12,15] mixed (by kernel_rfl) ?_)|(refine St.draw (id:=7) [(0,0),(1,0),(2,1),(3,1),(4,0),(5,0),(6,0),(7,1),(8,0),(9,0),(10,0),(11,1),(12,1),(13,0),(14,0),(15,0),(16,3)] [16] mixed (by kernel_rfl) ?_)| refine Gl hcf ?_|(refine Ge ?_ ?_<;>(intro h;try (exfalso;omega)))|fail)
          all_goals first|exact absurd hj' (by assumption)|(refine St.f1 Tryz.func193 ⟨_,⟨rfl,rfl⟩, ?_⟩;refine Ent.trans ?_ (xmO_in (nad:=nad) (ncap:=ncap));exact Ent.go)
        · rw [if_neg hj]
          have hj':¬ ((((m.begun i).x.reg i.a:Nat):Int) == 0)=(i.op == 18):=hj
          refine Tri.of_body (vs:=[_]) Tryz.func193 rfl rfl fun w0 F=>?_
          repeat' (first|refine Ga ?_|(refine Gb ?_;intro b)|(refine Gd ?_;intro g cap rest hcap)|(refine Gc ?_;intro ad cap)|(refine St.draw (id:=0) [(0,0),(1,0),(2,0),(3,1),(4,0),(5,0),(6,0),(7,1),(8,1),(9,0),(10,0)] [] mixed (by kernel_rfl) ?_)|(refine St.draw (id:=3) [(0,0),(1,0),(2,0),(3,1),(4,0),(5,0),(6,0),(7,1),(8,0),(9,1),(10,2),(11,3)] [11] mixed (by kernel_rfl) ?_)|(refine St.draw (id:=12) [(0,0),(1,0),(2,1),(3,0),(4,0),(5,0),(6,1),(7,0),(8,0),(9,1),(10,0),(11,0)] [] mixed (by kernel_rfl) ?_)|(refine St.draw (id:=15) [(0,0),(1,0),(2,0),(3,0),(4,1),(5,0),(6,0),(7,0),(8,1),(9,0),(10,0),(11,0),(12,3),(13,0),(14,0),(15,3)] [12,15] mixed (by kernel_rfl) ?_)|(refine St.draw (id:=7) [(0,0),(1,0),(2,1),(3,1),(4,0),(5,0),(6,0),(7,1),(8,0),(9,0),(10,0),(11,1),(12,1),(13,0),(14,0),(15,0),(16,3)] [16] mixed (by kernel_rfl) ?_)| refine Gl hcf ?_|(refine Ge ?_ ?_<;>(intro h;try (exfalso;omega)))|fail)
          all_goals first|exact absurd (by assumption) hj'|(refine St.f1 Tryz.func193 ⟨_,⟨rfl,rfl⟩, ?_⟩;refine Ent.trans ?_ (xmO_in (nad:=nad) (ncap:=ncap));exact Ent.go)
      · rw [if_neg h18]
        have h18':¬ (i.op=18∨i.op=19):=h18
        by_cases h20:(m.begun i).x.i.op=20
        · rw [if_pos h20]
          have h20':i.op=20:=h20
          refine Tri.of_body (vs:=[_]) Tryz.func193 rfl rfl fun w0 F=>?_
          repeat' (first|refine Ga ?_|(refine Gb ?_;intro b)|(refine Gd ?_;intro g cap rest hcap)|(refine Gc ?_;intro ad cap)|(refine St.draw (id:=0) [(0,0),(1,0),(2,0),(3,1),(4,0),(5,0),(6,0),(7,1),(8,1),(9,0),(10,0)] [] mixed (by kernel_rfl) ?_)|(refine St.draw (id:=3) [(0,0),(1,0),(2,0),(3,1),(4,0),(5,0),(6,0),(7,1),(8,0),(9,1),(10,2),(11,3)] [11] mixed (by kernel_rfl) ?_)|(refine St.draw (id:=12) [(0,0),(1,0),(2,1),(3,0),(4,0),(5,0),(6,1),(7,0),(8,0),(9,1),(10,0),(11,0)] [] mixed (by kernel_rfl) ?_)|(refine St.draw (id:=15) [(0,0),(1,0),(2,0),(3,0),(4,1),(5,0),(6,0),(7,0),(8,1),(9,0),(10,0),(11,0),(12,3),(13,0),(14,0),(15,3)] [12,15] mixed (by kernel_rfl) ?_)|(refine St.draw (id:=7) [(0,0),(1,0),(2,1),(3,1),(4,0),(5,0),(6,0),(7,1),(8,0),(9,0),(10,0),(11,1),(12,1),(13,0),(14,0),(15,0),(16,3)] [16] mixed (by kernel_rfl) ?_)| refine Gl hcf ?_|(refine Ge ?_ ?_<;>(intro h;try (exfalso;omega)))|fail)
          refine St.f1 Tryz.func193 ⟨_,⟨rfl,rfl⟩, ?_⟩
          refine Ent.trans ?_ (xmO_in (nad:=nad) (ncap:=ncap))
          exact Ent.go
        · rw [if_neg h20]
          have h20':¬ i.op=20:=h20
          by_cases h21:(m.begun i).x.i.op=21
          · rw [if_pos h21]
            have h21':i.op=21:=h21
            have hf:=xfail_t X V Pb W room c (.slice (some ⟨ib,io,none⟩) code.length cap) (.slice nad m.news.length ncap) (m.begun i).x m.p m.puts 40 i.imm hm.mark (by omega)
            refine Tri.of_body (vs:=[_]) Tryz.func193 rfl rfl fun w0 F=>?_
            repeat' (first|refine Ga ?_|(refine Gb ?_;intro b)|(refine Gd ?_;intro g cap rest hcap)|(refine Gc ?_;intro ad cap)|(refine St.draw (id:=0) [(0,0),(1,0),(2,0),(3,1),(4,0),(5,0),(6,0),(7,1),(8,1),(9,0),(10,0)] [] mixed (by kernel_rfl) ?_)|(refine St.draw (id:=3) [(0,0),(1,0),(2,0),(3,1),(4,0),(5,0),(6,0),(7,1),(8,0),(9,1),(10,2),(11,3)] [11] mixed (by kernel_rfl) ?_)|(refine St.draw (id:=12) [(0,0),(1,0),(2,1),(3,0),(4,0),(5,0),(6,1),(7,0),(8,0),(9,1),(10,0),(11,0)] [] mixed (by kernel_rfl) ?_)|(refine St.draw (id:=15) [(0,0),(1,0),(2,0),(3,0),(4,1),(5,0),(6,0),(7,0),(8,1),(9,0),(10,0),(11,0),(12,3),(13,0),(14,0),(15,3)] [12,15] mixed (by kernel_rfl) ?_)|(refine St.draw (id:=7) [(0,0),(1,0),(2,1),(3,1),(4,0),(5,0),(6,0),(7,1),(8,0),(9,0),(10,0),(11,1),(12,1),(13,0),(14,0),(15,0),(16,3)] [16] mixed (by kernel_rfl) ?_)| refine Gl hcf ?_|(refine Gt hf ?_;rintro _ _ ⟨rfl,rfl⟩)|(refine Ge ?_ ?_<;>(intro h;try (exfalso;omega)))|fail)
            refine St.f1 Tryz.func193 ⟨_,⟨rfl,rfl⟩, ?_⟩
            refine Ent.trans ?_ (xmO_in (nad:=nad) (ncap:=ncap))
            exact Ent.go
          · rw [if_neg h21]
            have h21':¬ i.op=21:=h21
            by_cases h9:(m.begun i).x.i.op=9∨(m.begun i).x.i.op=10
            · rw [if_pos h9]
              have h9':i.op=9∨i.op=10:=h9
              have hro:=xroot_o X V Pb W room c hc (.slice (some ⟨ib,io,none⟩) code.length cap) (m.begun i) hm1 nad ncap
              unfold xmQ at hro
              refine Tri.of_body (vs:=[_]) Tryz.func193 rfl rfl fun w0 F=>?_
              repeat' (first|refine Ga ?_|(refine Gb ?_;intro b)|(refine Gd ?_;intro g cap rest hcap)|(refine Gc ?_;intro ad cap)|(refine St.draw (id:=0) [(0,0),(1,0),(2,0),(3,1),(4,0),(5,0),(6,0),(7,1),(8,1),(9,0),(10,0)] [] mixed (by kernel_rfl) ?_)|(refine St.draw (id:=3) [(0,0),(1,0),(2,0),(3,1),(4,0),(5,0),(6,0),(7,1),(8,0),(9,1),(10,2),(11,3)] [11] mixed (by kernel_rfl) ?_)|(refine St.draw (id:=12) [(0,0),(1,0),(2,1),(3,0),(4,0),(5,0),(6,1),(7,0),(8,0),(9,1),(10,0),(11,0)] [] mixed (by kernel_rfl) ?_)|(refine St.draw (id:=15) [(0,0),(1,0),(2,0),(3,0),(4,1),(5,0),(6,0),(7,0),(8,1),(9,0),(10,0),(11,0),(12,3),(13,0),(14,0),(15,3)] [12,15] mixed (by kernel_rfl) ?_)|(refine St.draw (id:=7) [(0,0),(1,0),(2,1),(3,1),(4,0),(5,0),(6,0),(7,1),(8,0),(9,0),(10,0),(11,1),(12,1),(13,0),(14,0),(15,0),(16,3)] [16] mixed (by kernel_rfl) ?_)| refine Gl hcf ?_|(refine Gt hro ?_;rintro _ _ ⟨rfl,rfl⟩)|(refine Ge ?_ ?_<;>(intro h;try (exfalso;omega)))|fail)
              all_goals (refine St.f1 Tryz.func193 ⟨_,⟨rfl,rfl⟩, ?_⟩;exact Ent.go)
            · rw [if_neg h9]
              have h9':¬ (i.op=9∨i.op=10):=h9
              by_cases h11:(m.begun i).x.i.op=11∨(m.begun i).x.i.op=12∨(m.begun i).x.i.op=13∨(m.begun i).x.i.op=14∨(m.begun i).x.i.op=16
              · rw [if_pos h11]
                have h11':i.op=11∨i.op=12∨i.op=13∨i.op=14∨i.op=16:=h11
                have hto:=xtouch_o X V Pb W room c hc (.slice (some ⟨ib,io,none⟩) code.length cap) (m.begun i) hm1 nad ncap
                unfold xmQ at hto
                refine Tri.of_body (vs:=[_]) Tryz.func193 rfl rfl fun w0 F=>?_
                repeat' (first|refine Ga ?_|(refine Gb ?_;intro b)|(refine Gd ?_;intro g cap rest hcap)|(refine Gc ?_;intro ad cap)|(refine St.draw (id:=0) [(0,0),(1,0),(2,0),(3,1),(4,0),(5,0),(6,0),(7,1),(8,1),(9,0),(10,0)] [] mixed (by kernel_rfl) ?_)|(refine St.draw (id:=3) [(0,0),(1,0),(2,0),(3,1),(4,0),(5,0),(6,0),(7,1),(8,0),(9,1),(10,2),(11,3)] [11] mixed (by kernel_rfl) ?_)|(refine St.draw (id:=12) [(0,0),(1,0),(2,1),(3,0),(4,0),(5,0),(6,1),(7,0),(8,0),(9,1),(10,0),(11,0)] [] mixed (by kernel_rfl) ?_)|(refine St.draw (id:=15) [(0,0),(1,0),(2,0),(3,0),(4,1),(5,0),(6,0),(7,0),(8,1),(9,0),(10,0),(11,0),(12,3),(13,0),(14,0),(15,3)] [12,15] mixed (by kernel_rfl) ?_)|(refine St.draw (id:=7) [(0,0),(1,0),(2,1),(3,1),(4,0),(5,0),(6,0),(7,1),(8,0),(9,0),(10,0),(11,1),(12,1),(13,0),(14,0),(15,0),(16,3)] [16] mixed (by kernel_rfl) ?_)| refine Gl hcf ?_|(refine Gt hto ?_;rintro _ _ ⟨rfl,rfl⟩)|(refine Ge ?_ ?_<;>(intro h;try (exfalso;omega)))|fail)
                all_goals (refine St.f1 Tryz.func193 ⟨_,⟨rfl,rfl⟩, ?_⟩;exact Ent.go)
              · rw [if_neg h11]
                have h11':¬ (i.op=11∨i.op=12∨i.op=13∨i.op=14∨i.op=16):=h11
                by_cases h15:(m.begun i).x.i.op=15
                · rw [if_pos h15]
                  have h15':i.op=15:=h15
                  have hfr:=xfresh_o X V Pb W room c hc (.slice (some ⟨ib,io,none⟩) code.length cap) (m.begun i) hm1 hw nad ncap
                  unfold xmQ at hfr
                  refine Tri.of_body (vs:=[_]) Tryz.func193 rfl rfl fun w0 F=>?_
                  repeat' (first|refine Ga ?_|(refine Gb ?_;intro b)|(refine Gd ?_;intro g cap rest hcap)|(refine Gc ?_;intro ad cap)|(refine St.draw (id:=0) [(0,0),(1,0),(2,0),(3,1),(4,0),(5,0),(6,0),(7,1),(8,1),(9,0),(10,0)] [] mixed (by kernel_rfl) ?_)|(refine St.draw (id:=3) [(0,0),(1,0),(2,0),(3,1),(4,0),(5,0),(6,0),(7,1),(8,0),(9,1),(10,2),(11,3)] [11] mixed (by kernel_rfl) ?_)|(refine St.draw (id:=12) [(0,0),(1,0),(2,1),(3,0),(4,0),(5,0),(6,1),(7,0),(8,0),(9,1),(10,0),(11,0)] [] mixed (by kernel_rfl) ?_)|(refine St.draw (id:=15) [(0,0),(1,0),(2,0),(3,0),(4,1),(5,0),(6,0),(7,0),(8,1),(9,0),(10,0),(11,0),(12,3),(13,0),(14,0),(15,3)] [12,15] mixed (by kernel_rfl) ?_)|(refine St.draw (id:=7) [(0,0),(1,0),(2,1),(3,1),(4,0),(5,0),(6,0),(7,1),(8,0),(9,0),(10,0),(11,1),(12,1),(13,0),(14,0),(15,0),(16,3)] [16] mixed (by kernel_rfl) ?_)| refine Gl hcf ?_|(refine Gt hfr ?_;rintro _ _ ⟨rfl,rfl⟩)|(refine Ge ?_ ?_<;>(intro h;try (exfalso;omega)))|fail)
                  refine St.f1 Tryz.func193 ⟨_,⟨rfl,rfl⟩, ?_⟩
                  exact Ent.go
                · rw [if_neg h15]
                  have h15':¬ i.op=15:=h15
                  have hrk:=reckon_r i m.x.regs m.x.args ⟨hat.ok.b0,hat.ok.b1,hat.ok.c0,hat.ok.c1,hm.regs,hm.args,by have:=hat.arg;omega⟩
                  rw [←g16_eq hm.regs,←g4_eq hm.args] at hrk
                  have hsr:=ex_setreg c (.slice (some ⟨ib,io,none⟩) code.length cap) V Pb W (.slice nad m.news.length ncap) (m.begun i).x hm.regs ha0 ha1 (reckon i m.x.regs m.x.args)
                  refine Tri.of_body (vs:=[_]) Tryz.func193 rfl rfl fun w0 F=>?_
                  repeat' (first|refine Ga ?_|(refine Gb ?_;intro b)|(refine Gd ?_;intro g cap rest hcap)|(refine Gc ?_;intro ad cap)|(refine St.draw (id:=0) [(0,0),(1,0),(2,0),(3,1),(4,0),(5,0),(6,0),(7,1),(8,1),(9,0),(10,0)] [] mixed (by kernel_rfl) ?_)|(refine St.draw (id:=3) [(0,0),(1,0),(2,0),(3,1),(4,0),(5,0),(6,0),(7,1),(8,0),(9,1),(10,2),(11,3)] [11] mixed (by kernel_rfl) ?_)|(refine St.draw (id:=12) [(0,0),(1,0),(2,1),(3,0),(4,0),(5,0),(6,1),(7,0),(8,0),(9,1),(10,0),(11,0)] [] mixed (by kernel_rfl) ?_)|(refine St.draw (id:=15) [(0,0),(1,0),(2,0),(3,0),(4,1),(5,0),(6,0),(7,0),(8,1),(9,0),(10,0),(11,0),(12,3),(13,0),(14,0),(15,3)] [12,15] mixed (by kernel_rfl) ?_)|(refine St.draw (id:=7) [(0,0),(1,0),(2,1),(3,1),(4,0),(5,0),(6,0),(7,1),(8,0),(9,0),(10,0),(11,1),(12,1),(13,0),(14,0),(15,0),(16,3)] [16] mixed (by kernel_rfl) ?_)| refine Gl hcf ?_|refine Gl hrk ?_|(refine Ge ?_ ?_<;>(intro h;try (exfalso;omega)))|fail)
                  refine St.f1 Tryz.func193 ⟨_,⟨rfl,rfl⟩, ?_⟩
                  refine Ent.trans ?_ (xmO_in (nad:=nad) (ncap:=ncap))
                  exact Ent.go
end Go.Proofs.YthmbgodcpgkkeaaGreat
end
