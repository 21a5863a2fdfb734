/-
  What a program adds to a set: no more entries than it counted words, none of a thread's own cells. Package build: a transaction that is made: its numbers, in plain terms.
-/
import Derived.Test.YthmbgodcpgkkeaaGreatExi
import Derived.Test.YthmbgodcpgkkeaaGreatExc
namespace Go.Proofs.YthmbgodcpgkkeaaGreat
def Kex (c:Cfg) (k:Int):Prop:=¬ (0≤k∧k<c.f10)
def PA (c:Cfg) (P0:List (Int×Nat)) (n:Nat) (puts:List (Int×Nat)):Prop:=∃ l,puts=P0++l∧l.length≤n∧∀ x∈l,Kex c x.1
theorem PA.le {c:Cfg} {P0 puts:List (Int×Nat)} {n n':Nat} (h:PA c P0 n puts) (hn:n≤n'):PA c P0 n' puts:=by
  obtain ⟨l,h1,h2,h3⟩:=h
  exact ⟨l,h1,by omega,h3⟩
theorem PA.nil (c:Cfg) (P0:List (Int×Nat)) (n:Nat):PA c P0 n P0:=⟨[],by simp,by simp,by simp⟩
theorem PA.put {c:Cfg} {P0 puts:List (Int×Nat)} {n:Nat} (h:PA c P0 n puts) (room:Nat) {a:Int} (ha:Kex c a) (v:Nat):PA c P0 (n+1) (putP room puts a v):=by
  unfold putP
  split
  · exact h.le (by omega)
  · obtain ⟨l,rfl,h2,h3⟩:=h
    refine ⟨l++[(a,v)],by simp,by simp;omega,fun x hx=>?_⟩
    rcases List.mem_append.1 hx with hx|hx
    · exact h3 x hx
    · obtain rfl:=List.mem_singleton.1 hx;exact ha
theorem kex_at {c:Cfg} (hc:Small c) (kind i k:Int) (hk:10≤kind):Kex c (c.at kind i k):=by
  have:=hc.nums.f7;have:=hc.limit;have:=hc.b0
  obtain ⟨hf7,hf10,hf11,hf12,hf13,hf14,hf15,hf16,hf17,hstr⟩:=c.froms
  unfold Kex Cfg.at
  split
  · rename_i h
    obtain ⟨h1,h2,h3,h4⟩:=h
    have hin:=Cfg.cnt_in (c:=c) (kind:=kind) (by omega)
    have hb:c.f10≤c.base kind:=by
      have h7:kind=10∨kind=11∨kind=12∨kind=13∨kind=14∨kind=15∨kind=16:=by omega
      clear h1 h2 h3 h4 hin
      rcases h7 with rfl|rfl|rfl|rfl|rfl|rfl|rfl
      · have e:c.base 10=c.f10:=rfl
        rw [e];omega
      · have e:c.base 11=c.f11:=rfl
        rw [e];omega
      · have e:c.base 12=c.f12:=rfl
        rw [e];omega
      · have e:c.base 13=c.f13:=rfl
        rw [e];omega
      · have e:c.base 14=c.f14:=rfl
        rw [e];omega
      · have e:c.base 15=c.f15:=rfl
        rw [e];omega
      · have e:c.base 16=c.f16:=rfl
        rw [e];omega
    have hs:0≤i * c.stp kind:=by
      refine Int.mul_nonneg h1 ?_
      unfold Cfg.stp
      rw [if_neg (by omega),if_neg (by omega)]
      omega
    omega
  · omega
theorem PA.takeN {c:Cfg} (hc:Small c) {P0 puts:List (Int×Nat)} {n:Nat} (h:PA c P0 n puts) (room b:Nat):∀ k,PA c P0 (n+k+1) (takeN c room puts b k)
  | 0=>h.put room (kex_at hc 11 b 0 (by decide)) 1
  | k+1=>(PA.takeN hc h room b k).put room (kex_at hc 16 b k (by decide)) 0
theorem PA.take {c:Cfg} (hc:Small c) {P0 puts:List (Int×Nat)} {n:Nat} (h:PA c P0 n puts) (room b:Nat) (nt:Int):PA c P0 (n+9) (takeP c room nt puts b).2:=by
  have h9:=PA.takeN hc h room b 8
  unfold takeP
  generalize Go.Proofs.YthmbgodcpgkkeaaGreat.takeN c room puts b 8=T at h9⊢
  split
  · exact h.le (by omega)
  · exact h9
theorem PA.give {c:Cfg} (hc:Small c) {P0 puts:List (Int×Nat)} {n:Nat} (h:PA c P0 n puts) (room b:Nat) (nl:Int):PA c P0 (n+2) (giveP c room nl puts b).2:=by
  unfold giveP
  split
  · exact h.le (by omega)
  · exact (h.put room (kex_at hc 11 b 0 (by decide)) 2).put room (kex_at hc 15 nl 0 (by decide)) b
theorem PA.rel {c:Cfg} (hc:Small c) {P0 puts:List (Int×Nat)} {n:Nat} (h:PA c P0 n puts) (room b:Nat) (nt:Int):PA c P0 (n+2) (relP c room nt puts b).2:=by
  unfold relP
  split
  · exact (h.put room (kex_at hc 11 b 0 (by decide)) 0).put room (kex_at hc 13 nt 0 (by decide)) b
  · exact (h.put room (kex_at hc 11 b 0 (by decide)) 0).le (by omega)
theorem PA.setStep {c:Cfg} (hc:Small c) {P0:List (Int×Nat)} {n:Nat} {s:SetS} (h:PA c P0 n s.puts) (room:Nat) (names:List Nat) (k b:Nat):PA c P0 (n+2) (setStep c room names k b s).puts:=by
  unfold Go.Proofs.YthmbgodcpgkkeaaGreat.setStep
  split
  · exact h.le (by omega)
  · split
    · exact h.rel hc room b s.nt
    · dsimp only
      split
      · exact (h.put room (kex_at hc 15 s.kept 0 (by decide)) b).le (by omega)
      · exact h.le (by omega)
theorem PA.setGo {c:Cfg} (hc:Small c) (room:Nat) (names:List Nat) {P0:List (Int×Nat)}:∀ (l:List Nat) (k n:Nat) (s:SetS),PA c P0 n s.puts→PA c P0 (n+2 * l.length) (setGo c room names k l s).puts
  | [],k,n,s,h=>h
  | b::l,k,n,s,h=>by
    have:=PA.setGo hc room names l (k+1) (n+2) (Go.Proofs.YthmbgodcpgkkeaaGreat.setStep c room names k b s) (h.setStep hc room names k b)
    rw [Go.Proofs.YthmbgodcpgkkeaaGreat.setGo]
    exact this.le (by rw [List.length_cons];omega)
def Vgo (v:Vw):Prop:=v.s=0→v.step=1∨v.step=2∨v.step=3
theorem Vgo.lives' (v:Vw):Vgo v.lives:=by
  unfold Vw.lives Vgo
  split
  · intro h1;cases h1
  · intro _;exact .inr (.inr rfl)
theorem Vgo.touch (v:Vw) (b a:Int):Vgo (v.touch b a):=by
  unfold Vw.touch
  split
  · exact Vgo.lives' _
  · intro _;exact .inl rfl
theorem Vgo.beg (v:Vw) (h:Vgo v):Vgo (v.beg false):=by
  unfold Vw.beg Vgo
  split
  · exact h
  · intro h1;cases h1
theorem begB_cases (v:Vw) (ok:Bool):v.begB ok=true∨(v.begB ok=false∧(v.s=2∨ok=false)):=by
  unfold Vw.begB
  split
  · exact .inr ⟨rfl, .inl (by assumption)⟩
  · cases ok
    · exact .inr ⟨rfl, .inr rfl⟩
    · exact .inl rfl
theorem Vgo.beg' (v:Vw) (ok:Bool) (h:Vgo v) (hb:v.begB ok=false):Vgo (v.beg ok):=by
  rcases begB_cases v ok with h1|⟨_,h1|h1⟩
  · rw [h1] at hb;cases hb
  · unfold Vw.beg;rw [if_pos h1];exact h
  · rw [h1];exact h.beg v
theorem Vgo.cell (c:Cfg) (v:Vw) (a:Int) (h:Vgo v):Vgo (v.cell c a):=by
  unfold Vw.cell
  split
  · intro _;exact .inr (.inr rfl)
  · rename_i hb;exact h.beg' v _ (by simpa using hb)
theorem Vgo.word (c:Cfg) (v:Vw) (b w:Int) (h:Vgo v):Vgo (v.word c b w):=by
  unfold Vw.word
  split
  · exact Vgo.touch _ _ _
  · rename_i hb;exact h.beg' v _ (by simpa using hb)
theorem Vgo.live (c:Cfg) (v:Vw) (b:Int) (h:Vgo v):Vgo (v.live c b):=by
  unfold Vw.live
  split
  · exact Vgo.touch _ _ _
  · rename_i hb;exact h.beg' v _ (by simpa using hb)
theorem Vgo.tell (v:Vw) (o:Out) (h:Vgo v):Vgo (v.tell o):=by
  unfold Vw.tell
  split
  · intro _;exact .inr (.inl rfl)
  · split
    · unfold Vw.loaded
      split
      · intro h1;cases h1
      · split
        · intro h1;cases h1
        · split
          · intro h1;cases h1
          · exact Vgo.lives' _
    · exact h
theorem Vgo.new (who:Int) (seq:Nat):Vgo (Vw.new who seq):=fun h=>by cases h
theorem Vgo.ask {c:Cfg} {v:Vw} (h:Vgo v) (hs:v.s=0):(v.ask c).2=true:=by
  unfold Vw.ask
  rcases h hs with h|h|h
  · rw [if_pos h]
  · rw [if_neg (by omega),if_pos h]
  · rw [if_neg (by omega),if_neg (by omega),if_pos h]
def pend (m:Xm):Nat:=if m.x.waits=true∧m.x.i.op=15 then 9 else 0
structure Xw (c:Cfg) (P0:List (Int×Nat)) (m:Xm):Prop where
  w0:0≤m.x.writes
  mark:m.x.mark=P0.length
  adds:PA c P0 (m.x.writes.toNat - pend m) m.puts
  paid:pend m≤m.x.writes.toNat
  rc:0≤m.x.rc∧m.x.rc≤100
  vgo:Vgo m.v
  sx:m.x.s=0∨m.x.s=1∨m.x.s=2
theorem PA.take_mark {c:Cfg} {P0 puts:List (Int×Nat)} {n:Nat} (h:PA c P0 n puts):puts.take P0.length=P0:=by
  obtain ⟨l,rfl,_,_⟩:=h
  exact List.take_left
section
variable {c:Cfg} {P0:List (Int×Nat)} {m:Xm}
theorem Xw.of {n:Nat} (w0:0≤m.x.writes) (hm:m.x.mark=P0.length) (ha:PA c P0 n m.puts) (hn:n+pend m≤m.x.writes.toNat) (rc:0≤m.x.rc∧m.x.rc≤100) (vgo:Vgo m.v) (sx:m.x.s=0∨m.x.s=1∨m.x.s=2):Xw c P0 m :=
  ⟨w0,hm,ha.le (by omega),by omega,rc,vgo,sx⟩
theorem Xw.fail {n:Nat} (w0:0≤m.x.writes) (hm:m.x.mark=P0.length) (ha:PA c P0 n m.puts) (hp:pend m≤m.x.writes.toNat) (vgo:Vgo m.v) {e:Int} (he:0≤e∧e≤100) (v:Nat):Xw c P0 (m.fail e v):=by
  refine ⟨w0,hm, ?_,hp,he,vgo, .inr (.inl rfl)⟩
  show PA c P0 _ (m.puts.take m.x.mark)
  rw [hm,ha.take_mark]
  exact PA.nil _ _ _
structure Xk (c:Cfg) (P0:List (Int×Nat)) (n:Nat) (m:Xm):Prop where
  w0:0≤m.x.writes
  mark:m.x.mark=P0.length
  adds:PA c P0 n m.puts
  le:n≤m.x.writes.toNat
  rc:0≤m.x.rc∧m.x.rc≤100
  vgo:Vgo m.v
  waits:m.x.waits=false
  sx:m.x.s=0∨m.x.s=1∨m.x.s=2
theorem pend_f (h:m.x.waits=false):pend m=0:=by unfold pend;rw [if_neg];rw [h];simp
theorem Xk.xw {n:Nat} (h:Xk c P0 n m):Xw c P0 m:=Xw.of h.w0 h.mark h.adds (by rw [pend_f h.waits];exact h.le) h.rc h.vgo h.sx
theorem Xk.fail {n:Nat} (h:Xk c P0 n m) {e:Int} (he:0≤e∧e≤100) (v:Nat):Xw c P0 (m.fail e v):=Xw.fail h.w0 h.mark h.adds (by rw [pend_f h.waits];omega) h.vgo he v
theorem Xk.pay {n:Nat} (h:Xk c P0 n m) (hp:(m.pay c).2=true):Xk c P0 n (m.pay c).1∧(m.pay c).1.x.writes=m.x.writes+costs m.x.i.op∧(m.pay c).1.x.i=m.x.i:=by
  have:=costs_le m.x.i.op
  have h0:=h.w0;have h1:=h.le
  rw [Xm.pay_t hp]
  exact ⟨⟨by dsimp only;omega,h.mark,h.adds,by dsimp only;omega,h.rc,h.vgo,h.waits,h.sx⟩,rfl,rfl⟩
theorem Xk.pay_f {n:Nat} (h:Xk c P0 n m) (hp:¬ (m.pay c).2=true):Xw c P0 (m.pay c).1:=by
  rw [Xm.pay_f (by simpa using hp)];exact h.fail (by decide) 0
theorem Xk.taken (hc:Small c) {n:Nat} (h:Xk c P0 n m) (hn:n+9≤m.x.writes.toNat) (room b:Nat):Xw c P0 (m.taken c room b):=by
  unfold Xm.taken
  split
  · exact h.fail (by decide) 0
  · exact Xw.of (n:=n+9) h.w0 h.mark (h.adds.take hc room b m.p.nt) (by rw [pend_f];exact hn;exact h.waits) h.rc h.vgo h.sx
theorem Xk.goOn (hc:Small c) {n:Nat} (h:Xk c P0 n m) (hn:m.x.i.op=15→n+9≤m.x.writes.toNat) (room val:Nat):Xw c P0 (m.goOn c room val):=by
  have h0:=h.w0;have h1:=h.le
  unfold Xm.goOn
  split
  · exact Xk.xw (n:=n) ⟨h.w0,h.mark,h.adds,h.le,h.rc,h.vgo,h.waits,h.sx⟩
  split
  · rename_i h15;exact h.taken hc (hn h15) room val
  split
  · rename_i ho
    split
    · rename_i hp
      obtain ⟨hk,hw,_⟩:=h.pay hp
      have hco:costs m.x.i.op=1:=by unfold costs;rw [if_pos (by omega)]
      exact Xk.xw (n:=n+1) ⟨hk.w0,hk.mark,hk.adds.put room (kex_at hc 16 _ _ (by decide)) _,by dsimp only;omega,hk.rc,hk.vgo,hk.waits,hk.sx⟩
    · rename_i hp;exact h.pay_f hp
  split
  · rename_i ho
    split
    · rename_i hp
      obtain ⟨hk,hw,_⟩:=h.pay hp
      have hco:costs m.x.i.op=2:=by unfold costs;rw [if_neg (by omega),if_pos ho]
      exact Xk.xw (n:=n+2) ⟨hk.w0,hk.mark,hk.adds.give hc room _ _,by dsimp only;omega,hk.rc,hk.vgo,hk.waits,hk.sx⟩
    · rename_i hp;exact h.pay_f hp
  · exact h.xw
theorem Xk.wait {n:Nat} (h:Xk c P0 n m) (hn:m.x.i.op=15→n+9≤m.x.writes.toNat) {v:Vw} (hv:Vgo v):Xw c P0 { m with v:=v,x:={ m.x with waits:=true } }:=by
  refine Xw.of h.w0 h.mark h.adds ?_ h.rc hv h.sx
  unfold pend
  have:=h.le
  by_cases h15:m.x.i.op=15
  · rw [if_pos ⟨rfl,h15⟩];exact hn h15
  · rw [if_neg (fun e=>h15 e.2)];dsimp only;omega
theorem Xk.fetch (hc:Small c) {n:Nat} (h:Xk c P0 n m) (hn:m.x.i.op=15→n+9≤m.x.writes.toNat) (room:Nat) (a:Int):Xw c P0 (m.fetch c room a):=by
  unfold Xm.fetch
  split
  · exact h.goOn hc hn room _
  · exact h.wait hn (h.vgo.cell c m.v a)
theorem Xk.fresh (hc:Small c) {n:Nat} (h:Xk c P0 n m) (h15:m.x.i.op=15) (room:Nat):Xw c P0 (m.fresh c room):=by
  have h0:=h.w0;have h1:=h.le
  unfold Xm.fresh
  split
  · rename_i hp
    obtain ⟨hk,hw,hi⟩:=h.pay hp
    have hco:costs m.x.i.op=9:=by unfold costs;rw [if_neg (by omega),if_neg (by omega),if_pos h15]
    split
    · exact hk.fetch hc (fun _=>by omega) room _
    · exact hk.fail (by decide) 0
  · rename_i hp;exact h.pay_f hp
theorem Xk.root (hc:Small c) {n:Nat} (h:Xk c P0 n m) (ho:m.x.i.op=9∨m.x.i.op=10) (room:Nat):Xw c P0 (m.root c room):=by
  have h0:=h.w0;have h1:=h.le
  unfold Xm.root
  split
  · exact h.fail (by decide) 0
  split
  · rename_i h10
    split
    · rename_i hp
      obtain ⟨hk,hw,_⟩:=h.pay hp
      have hco:costs m.x.i.op=1:=by unfold costs;rw [if_pos (by omega)]
      exact Xk.xw (n:=n+1) ⟨hk.w0,hk.mark,hk.adds.put room (kex_at hc 10 _ _ (by decide)) _,by dsimp only;omega,hk.rc,hk.vgo,hk.waits,hk.sx⟩
    · rename_i hp;exact h.pay_f hp
  · exact h.fetch hc (fun e=>by omega) room _
theorem Xk.touch (hc:Small c) {n:Nat} (h:Xk c P0 n m) (ho:m.x.i.op≠15) (room:Nat):Xw c P0 (m.touch c room):=by
  unfold Xm.touch
  split
  · exact h.fail (by decide) 0
  split
  · split
    · exact h.goOn hc (fun e=>absurd e ho) room _
    · exact h.wait (fun e=>absurd e ho) (h.vgo.word c m.v _ _)
  split
  · exact h.goOn hc (fun e=>absurd e ho) room _
  · exact h.wait (fun e=>absurd e ho) (h.vgo.live c m.v _)
theorem Xk.does (hc:Small c) {n:Nat} (h:Xk c P0 n m) (room:Nat):Xw c P0 (m.does c room):=by
  have hsame:∀ x:Xs,x.writes=m.x.writes→x.mark=m.x.mark→(0≤x.rc∧x.rc≤100)→x.waits=m.x.waits→(x.s=0∨x.s=1∨x.s=2)→Xw c P0 { m with x:=x }:=fun x e1 e2 e3 e4 e5 =>
    Xk.xw (n:=n) ⟨by dsimp only;rw [e1];exact h.w0,e2.trans h.mark,h.adds,by dsimp only;rw [e1];exact h.le,e3,h.vgo,e4.trans h.waits,e5⟩
  unfold Xm.does Xm.jump
  split
  · exact hsame _ rfl rfl h.rc rfl h.sx
  split
  · split
    · exact hsame _ rfl rfl h.rc rfl h.sx
    · exact h.xw
  split
  · exact hsame _ rfl rfl ⟨Int.le_refl 0,(by decide:(0:Int)≤100)⟩ rfl (.inr (.inl rfl))
  split
  · exact h.fail (by decide) _
  split
  · rename_i ho;exact h.root hc ho room
  split
  · exact h.touch hc (by omega) room
  split
  · rename_i ho;exact h.fresh hc ho room
  · exact hsame _ rfl rfl h.rc rfl h.sx
theorem Xw.once (hc:Small c) (h:Xw c P0 m) (room:Nat) (code:List Ins):Xw c P0 (m.once c room code):=by
  have h0:=h.w0;have hp:=h.paid
  unfold Xm.once
  split
  · rename_i hw
    have hk:Xk c P0 m.x.writes.toNat m:=⟨h.w0,h.mark,h.adds.le (by omega),Nat.le_refl _,h.rc,h.vgo,hw,h.sx⟩
    unfold Xm.step
    split
    · exact hk.fail (by decide) 0
    · exact Xk.does hc (m:=m.begun (code.getD m.x.pc.toNat ins0)) ⟨hk.w0,hk.mark,hk.adds,hk.le,hk.rc,hk.vgo,hk.waits,hk.sx⟩ room
  split
  · exact ⟨h.w0,h.mark,h.adds,h.paid,h.rc,h.vgo, .inr (.inr rfl)⟩
  split
  · exact Xw.fail h.w0 h.mark h.adds h.paid h.vgo (by decide) 0
  · rename_i hw _ _
    refine Xk.goOn hc (n:=m.x.writes.toNat - pend m) ?_ (fun h15=>?_) room _
    · exact ⟨h.w0,h.mark,h.adds,(by show m.x.writes.toNat - pend m≤m.x.writes.toNat;omega),h.rc,h.vgo,rfl,h.sx⟩
    · have:pend m=9:=by unfold pend;rw [if_pos ⟨by simpa using hw,h15⟩]
      show m.x.writes.toNat - pend m+9≤m.x.writes.toNat
      omega
theorem Xw.init (v:Vw) (p:Po) (args:List Nat) (hv:Vgo v):Xw c P0 (Xm.init v p P0 args) :=
  ⟨Int.le_refl _,rfl,PA.nil _ _ _,Nat.zero_le _,⟨Int.le_refl 0,(by decide:(0:Int)≤100)⟩,hv, .inl rfl⟩
theorem Xw.tells (h:Xw c P0 m) (o:Out):Xw c P0 { m with v:=m.v.tell o }:=⟨h.w0,h.mark,h.adds,h.paid,h.rc,h.vgo.tell m.v o,h.sx⟩
variable {code:List Ins} {nt0 nl0:Int} {n:Nat}
def Xi (c:Cfg) (code:List Ins) (P0:List (Int×Nat)) (nt0 nl0:Int) (n:Nat) (m:Xm):Prop:=Xinv c code P0 nt0 nl0 n m∧Xw c P0 m
theorem xi_run (hS:Start c P0 nt0 nl0) (room:Nat) (hr:rightB code=true) (n:Nat):RunInv c room code (Xi c code P0 nt0 nl0 n) where
  ok:=fun m h=>(run_inv' hS room hr n).ok m h.1
  next:=fun m h hs=>⟨(run_inv' hS room hr n).next m h.1 hs,h.2.once hS.small room code⟩
  less:=fun m h hs=>(run_inv' hS room hr n).less m h.1 hs
structure Xr (c:Cfg) (code:List Ins) (P0:List (Int×Nat)) (nt0 nl0:Int) (n:Nat) (m:Xm):Prop where
  go:rightB code=true∧Xi c code P0 nt0 nl0 n m∧m.stops∨(m.x.s=1∧m.x.rc=30∧m.puts=P0∧m.p.nt=nt0∧m.p.nl=nl0∧m.news=[]∧Vgo m.v∧0≤m.v.block∧m.v.block≤1000)
theorem Xr.start (hS:Start c P0 nt0 nl0) (hf:0≤c.fuel) (room:Nat) (v:Vw) (p:Po) (hnt:p.nt=nt0) (hnl:p.nl=nl0) (args:List Nat) (ha:args.length=4) (hvb:0≤v.block∧v.block≤1000) (hv:Vgo v) :
    Xr c code P0 nt0 nl0 0 (Xm.start c room code v p P0 args):=by
  unfold Xm.start
  cases hr:rightB code with
  | true =>
    rw [if_pos rfl]
    have h:=run_inv (xi_run hS room hr 0) _ _ ⟨Xinv.init hr hS hf v p hnt hnl args ha hvb,Xw.init v p args hv⟩ (Nat.le_refl _)
    exact ⟨.inl ⟨hr,h.1,h.2⟩⟩
  | false =>
    rw [if_neg (by decide)]
    refine ⟨.inr ⟨rfl,rfl, ?_,hnt,hnl,rfl,hv,hvb⟩⟩
    show P0.take P0.length=P0
    exact List.take_length
theorem Xr.tell (hS:Start c P0 nt0 nl0) (room:Nat) (h:Xr c code P0 nt0 nl0 n m) (hs:m.x.s=0) (o:Out):rightB code=true∧Xi c code P0 nt0 nl0 (n+1) { m with v:=m.v.tell o }∧Xr c code P0 nt0 nl0 (n+1) (m.tell c room code o):=by
  rcases h.go with ⟨hr,hx,hst⟩|⟨h1,_⟩
  · have hv:m.x.waits=true∧m.v.s=0:=hst.elim (fun e=>absurd hs e) id
    have h2:Xi c code P0 nt0 nl0 (n+1) { m with v:=m.v.tell o }:=⟨hx.1.tell hst hs (hx.2.vgo.ask hv.2) o,hx.2.tells o⟩
    refine ⟨hr,h2, ?_⟩
    unfold Xm.tell
    rw [if_pos hs]
    have h3:=run_inv (xi_run hS room hr (n+1)) _ _ h2 (Nat.le_refl _)
    exact ⟨.inl ⟨hr,h3.1,h3.2⟩⟩
  · omega
theorem Xr.num (hS:Start c P0 nt0 nl0) (h:Xr c code P0 nt0 nl0 n m):(0≤m.x.rc∧m.x.rc≤100)∧(0≤m.p.nt∧m.p.nt≤1000)∧(0≤m.p.nl∧m.p.nl≤1000)∧(0≤m.v.block∧m.v.block≤1000)∧Vgo m.v∧m.news.length≤1000∧PA c P0 c.writes.toNat m.puts∧(m.x.s=0∨m.x.s=1∨m.x.s=2)∧(m.x.s=0→rightB code=true):=by
  have hn1:=hS.nt;have hn2:=hS.nl;have hf:=hS.f1
  rcases h.go with ⟨hr,hx,_⟩|⟨hs,h1,h2,h3,h4,h5,h6,h7⟩
  · have h1:=hx.1.news;have h2:=hx.1.s0;have h3:=hx.1.s1;have h4:=hx.1.w
    exact ⟨hx.2.rc,hx.1.nt,hx.1.nl,hx.1.vb,hx.2.vgo,by omega,hx.2.adds.le (by omega),hx.2.sx,fun _=>hr⟩
  · rw [h1,h2,h3,h4,h5]
    exact ⟨by decide,hn1,hn2,h7,h6,by simp,PA.nil _ _ _, .inr (.inl hs),fun e=>by omega⟩
end
end Go.Proofs.YthmbgodcpgkkeaaGreat
namespace Go.Proofs.YthmbgodcpgkkeaaGreat
set_option maxRecDepth 100000
def endP (c:Cfg) (room:Nat) (p:Po) (puts:List (Int×Nat)):List (Int×Nat) :=
  if p.nl=p.wl then (if p.nt=p.wt then puts else putP room puts (c.at 12 0 0) p.nt.toNat) else putP room (if p.nt=p.wt then puts else putP room puts (c.at 12 0 0) p.nt.toNat) (c.at 14 0 0) p.nl.toNat
theorem pend_tE (Pb W room:Nat) (c:Cfg) (hc:Small c) (p:Po) (puts:List (Int×Nat)) (hnt:0≤p.nt∧p.nt≤1000000) (hnl:0≤p.nl∧p.nl≤1000000) (hlen:puts.length+2≤1000000000) :
    Tri Tryz.prog 76 #[.pointer (some ⟨Pb,0,none⟩), .pointer (some ⟨W,0,none⟩)] [PlE Pb c p,Ws W room puts]
      fun r L=>r=.tuple ⟨[]⟩∧L=[PlE Pb c p,Ws W room (endP c room p puts)]:=by
  refine Tri.ex_out fun x=>?_
  have htk:=take_p c x.N p (.slice x.lad p.limbo.length x.lcap)
  have hat:=fun k=>at_r c hc k 0 0
  have e1:(p.nt.toNat:Int)=p.nt:=by omega
  have e2:(p.nl.toNat:Int)=p.nl:=by omega
  unfold endP
  have h1:=wput_t W room puts (c.at 12 0 0) p.nt.toNat (by omega)
  rw [e1] at h1
  have hl:=putP_len room puts (c.at 12 0 0) p.nt.toNat
  by_cases ht:p.nt=p.wt
  · rw [if_pos ht]
    by_cases hn:p.nl=p.wl
    · rw [if_pos hn]
      refine Tri.of_body (vs:=[_,_]) Tryz.func76 rfl rfl fun w0 F=>?_
      repeat' (first|refine Ga ?_|(refine Gb ?_;intro b)|(refine Gd ?_;intro g cap rest hcap)|(refine Gc ?_;intro ad cap)|(refine St.draw (id:=0) [(0,0),(1,0),(2,0),(3,0),(4,1),(5,0),(6,0),(7,0),(8,0),(9,1),(10,0)] [] mixed (by kernel_rfl) ?_)|(refine St.draw (id:=1) [(0,0),(1,0),(2,0),(3,0),(4,1),(5,1),(6,0),(7,0),(8,0),(9,0),(10,1),(11,0),(12,3)] [12] mixed (by kernel_rfl) ?_)|(refine St.draw (id:=2) [(0,0),(1,0),(2,0),(3,0),(4,1),(5,0),(6,0),(7,0),(8,0),(9,1),(10,0)] [] mixed (by kernel_rfl) ?_)|(refine St.draw (id:=3) [(0,0),(1,0),(2,0),(3,0),(4,1),(5,1),(6,0),(7,0),(8,0),(9,0),(10,1),(11,0),(12,3)] [12] mixed (by kernel_rfl) ?_)|(refine Ge ?_ ?_<;>(intro h;try (exfalso;omega)))|fail)
      refine St.f1 Tryz.func76 ⟨_,⟨rfl,rfl⟩, ?_⟩
      exact Ent.trans Ent.go (Ent.ex_in (Ls:=plL Pb c p) x)
    · rw [if_neg hn]
      have h2:=wput_t W room puts (c.at 14 0 0) p.nl.toNat (by omega)
      rw [e2] at h2
      refine Tri.of_body (vs:=[_,_]) Tryz.func76 rfl rfl fun w0 F=>?_
      repeat' (first|refine Ga ?_|(refine Gb ?_;intro b)|(refine Gd ?_;intro g cap rest hcap)|(refine Gc ?_;intro ad cap)|(refine St.draw (id:=0) [(0,0),(1,0),(2,0),(3,0),(4,1),(5,0),(6,0),(7,0),(8,0),(9,1),(10,0)] [] mixed (by kernel_rfl) ?_)|(refine St.draw (id:=1) [(0,0),(1,0),(2,0),(3,0),(4,1),(5,1),(6,0),(7,0),(8,0),(9,0),(10,1),(11,0),(12,3)] [12] mixed (by kernel_rfl) ?_)|(refine St.draw (id:=2) [(0,0),(1,0),(2,0),(3,0),(4,1),(5,0),(6,0),(7,0),(8,0),(9,1),(10,0)] [] mixed (by kernel_rfl) ?_)|(refine St.draw (id:=3) [(0,0),(1,0),(2,0),(3,0),(4,1),(5,1),(6,0),(7,0),(8,0),(9,0),(10,1),(11,0),(12,3)] [12] mixed (by kernel_rfl) ?_)| refine Gl (hat _) ?_|(refine Gt h2 ?_;rintro _ _ ⟨rfl,rfl⟩)|(refine Ge ?_ ?_<;>(intro h;try (exfalso;omega)))|fail)
      refine St.f1 Tryz.func76 ⟨_,⟨rfl,rfl⟩, ?_⟩
      exact Ent.trans Ent.go (Ent.ex_in (Ls:=plL Pb c p) x)
  · rw [if_neg ht]
    by_cases hn:p.nl=p.wl
    · rw [if_pos hn]
      refine Tri.of_body (vs:=[_,_]) Tryz.func76 rfl rfl fun w0 F=>?_
      repeat' (first|refine Ga ?_|(refine Gb ?_;intro b)|(refine Gd ?_;intro g cap rest hcap)|(refine Gc ?_;intro ad cap)|(refine St.draw (id:=0) [(0,0),(1,0),(2,0),(3,0),(4,1),(5,0),(6,0),(7,0),(8,0),(9,1),(10,0)] [] mixed (by kernel_rfl) ?_)|(refine St.draw (id:=1) [(0,0),(1,0),(2,0),(3,0),(4,1),(5,1),(6,0),(7,0),(8,0),(9,0),(10,1),(11,0),(12,3)] [12] mixed (by kernel_rfl) ?_)|(refine St.draw (id:=2) [(0,0),(1,0),(2,0),(3,0),(4,1),(5,0),(6,0),(7,0),(8,0),(9,1),(10,0)] [] mixed (by kernel_rfl) ?_)|(refine St.draw (id:=3) [(0,0),(1,0),(2,0),(3,0),(4,1),(5,1),(6,0),(7,0),(8,0),(9,0),(10,1),(11,0),(12,3)] [12] mixed (by kernel_rfl) ?_)| refine Gl (hat _) ?_|(refine Gt h1 ?_;rintro _ _ ⟨rfl,rfl⟩)|(refine Ge ?_ ?_<;>(intro h;try (exfalso;omega)))|fail)
      refine St.f1 Tryz.func76 ⟨_,⟨rfl,rfl⟩, ?_⟩
      exact Ent.trans Ent.go (Ent.ex_in (Ls:=plL Pb c p) x)
    · rw [if_neg hn]
      have h2:=wput_t W room (putP room puts (c.at 12 0 0) p.nt.toNat) (c.at 14 0 0) p.nl.toNat (by omega)
      rw [e2] at h2
      refine Tri.of_body (vs:=[_,_]) Tryz.func76 rfl rfl fun w0 F=>?_
      repeat' (first|refine Ga ?_|(refine Gb ?_;intro b)|(refine Gd ?_;intro g cap rest hcap)|(refine Gc ?_;intro ad cap)|(refine St.draw (id:=0) [(0,0),(1,0),(2,0),(3,0),(4,1),(5,0),(6,0),(7,0),(8,0),(9,1),(10,0)] [] mixed (by kernel_rfl) ?_)|(refine St.draw (id:=1) [(0,0),(1,0),(2,0),(3,0),(4,1),(5,1),(6,0),(7,0),(8,0),(9,0),(10,1),(11,0),(12,3)] [12] mixed (by kernel_rfl) ?_)|(refine St.draw (id:=2) [(0,0),(1,0),(2,0),(3,0),(4,1),(5,0),(6,0),(7,0),(8,0),(9,1),(10,0)] [] mixed (by kernel_rfl) ?_)|(refine St.draw (id:=3) [(0,0),(1,0),(2,0),(3,0),(4,1),(5,1),(6,0),(7,0),(8,0),(9,0),(10,1),(11,0),(12,3)] [12] mixed (by kernel_rfl) ?_)| refine Gl (hat _) ?_|(refine Gt h1 ?_;rintro _ _ ⟨rfl,rfl⟩)|(refine Gt h2 ?_;rintro _ _ ⟨rfl,rfl⟩)|(refine Ge ?_ ?_<;>(intro h;try (exfalso;omega)))|fail)
      refine St.f1 Tryz.func76 ⟨_,⟨rfl,rfl⟩, ?_⟩
      exact Ent.trans Ent.go (Ent.ex_in (Ls:=plL Pb c p) x)
structure BRow where
  who:Int
  tag:Nat
  rc:Int
  rv:Nat
  news:List Nat
structure Bs where
  next:Int
  u:Int
  ann:Cell
  args:List Nat
  given:Int
  s:Int
structure Bm where
  b:Bs
  e:Xm
  rows:List BRow
abbrev Progs:=List (List Ins)
def progOf (progs:Progs) (n:Nat):List Ins:=progs.getD n []
def Bm.pass (c:Cfg) (room:Nat) (m:Bm):Bm :=
  if m.b.u+1=c.threads then { m with b:={ m.b with u:=m.b.u+1,next:=1,s:=1 },e:={ m.e with puts:=endP c room m.e.p m.e.puts } } else { m with b:={ m.b with u:=m.b.u+1,next:=1 } }
def Bm.told (c:Cfg) (room:Nat) (m:Bm):Bm :=
  { m with rows:=m.rows++[⟨m.b.u,m.b.ann.seq,m.e.x.rc,m.e.x.rv,m.e.news⟩],e:={ m.e with puts:=putP room (putP room (putP room m.e.puts (c.at 8 m.b.u 0) m.e.x.rc.toNat) (c.at 9 m.b.u 0) m.e.x.rv) (c.at 7 m.b.u 0) m.b.ann.seq } }
def Bm.ran (c:Cfg) (room:Nat) (m:Bm):Bm :=
  if m.e.x.s=2 then { m with b:={ m.b with s:=2 } } else if m.e.x.s=1 then (m.told c room).pass c room else m
def Bm.begin (c:Cfg) (room:Nat) (progs:Progs) (m:Bm):Bm :=
  Bm.ran c room { m with b:={ m.b with next:=4 },e:=Xm.start c room (progOf progs m.b.ann.val) m.e.v m.e.p m.e.puts m.b.args }
def Bm.tag (c:Cfg) (room:Nat) (m:Bm):Bm :=
  if m.e.v.s=2 then { m with b:={ m.b with s:=2 } } else if m.e.v.val=m.b.ann.seq then m.pass c room else { m with b:={ m.b with given:=0,next:=3 } }
def Bm.announce (c:Cfg) (room:Nat) (m:Bm):Bm :=
  if m.b.ann.seq=0 then m.pass c room else { m with b:={ m.b with next:=2 },e:={ m.e with v:=m.e.v.cell c (c.at 7 m.b.u 0) } }
def Bm.pooled (c:Cfg) (room:Nat) (m:Bm):Bm :=
  if m.e.p.s=2 then { m with b:={ m.b with s:=2 } } else
  if m.e.p.s=1 then { m with b:={ m.b with next:=1 },e:={ m.e with p:=m.e.p.settled c room m.e.puts,puts:=(setGo c room m.e.p.names 0 m.e.p.limbo ⟨0,m.e.p.nt,m.e.puts⟩).puts } } else m
def Bm.tell (c:Cfg) (room:Nat) (progs:Progs) (m:Bm) (o:Out):Bm :=
  if m.b.s≠0 then m else
  if m.b.next=0 then Bm.pooled c room { m with e:={ m.e with p:=m.e.p.tell c o } } else
  if m.b.next=1 then Bm.announce c room { m with b:={ m.b with ann:=o.was } } else
  if m.b.next=2 then Bm.tag c room { m with e:={ m.e with v:=m.e.v.tell o } } else
  if m.b.next=3 then (if m.b.given+1=4 then Bm.begin c room progs { m with b:={ m.b with args:=m.b.args.set m.b.given.toNat o.was.val,given:=m.b.given+1 } } else { m with b:={ m.b with args:=m.b.args.set m.b.given.toNat o.was.val,given:=m.b.given+1 } }) else
  Bm.ran c room { m with e:=m.e.tell c room (progOf progs m.b.ann.val) o }
def Bm.ask (c:Cfg) (m:Bm):MOp×Bool :=
  if m.b.s≠0 then (mop 0 0 0,false) else
  if m.b.next=0 then m.e.p.ask c else
  if m.b.next=1 then (mop 0 (c.at 1 m.b.u 0) 0,true) else
  if m.b.next=2 then m.e.v.ask c else
  if m.b.next=3 then (mop 0 (c.at 2 m.b.u m.b.given) 0,true) else m.e.ask c
def Bm.new (who:Int) (seq:Nat):Bm:=⟨⟨0,0,⟨0,0⟩,[0,0,0,0],0,0⟩,⟨⟨[0,0,0,0],0,0,0,regs0,0,0,0,false,ins0,0,0,0⟩,Vw.new who seq,Po.new seq,[],[]⟩,[]⟩
def bdV (c:Cfg) (pv:Value) (V Pb W:Nat) (xv rv:Value) (b:Bs):List Value :=
  c.m++(pv::.pointer (some ⟨V,0,none⟩)::.pointer (some ⟨Pb,0,none⟩)::.pointer (some ⟨W,0,none⟩)::xv::.int .i64 b.next::.int .i64 b.u::.int .u64 (b.ann.val:Int)::.int .u64 (b.ann.seq:Int) ::
    (g4 b.args++[.int .i64 b.given,rv, .int .i64 b.s]))
theorem take_b (c:Cfg) (pv:Value) (V Pb W:Nat) (xv rv:Value) (b:Bs):TakeN 24 (bdV c pv V Pb W xv rv b) c.m:=TakeN.app c.m _
abbrev RowH:=BRow×Option Addr×Nat
def rowV (r:RowH):List Value:=[.int .i64 r.1.who, .int .u64 (r.1.tag:Int), .int .i64 r.1.rc, .int .u64 (r.1.rv:Int), .slice r.2.1 r.1.news.length r.2.2]
def rowP (r:RowH):HProp:=Row (.slice r.2.1 r.1.news.length r.2.2) 22 1 r.1.news.length (u64s r.1.news)
end Go.Proofs.YthmbgodcpgkkeaaGreat
