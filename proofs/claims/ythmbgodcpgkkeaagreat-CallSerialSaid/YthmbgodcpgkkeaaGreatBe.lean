/-
  A transaction that is made, in plain terms: there is room for all, and each answer's code and value stand ahead of its tag. Package build: pass, announce, tag, pooled. Package build: ran.
-/
import Derived.Test.YthmbgodcpgkkeaaGreatBa
section
namespace Go.Proofs.YthmbgodcpgkkeaaGreat
theorem putP_in {room:Nat} {P:List (Int×Nat)} (h:P.length<room) (a:Int) (v:Nat):putP room P a v=P++[(a,v)]:=by
  unfold putP
  rw [if_neg]
  rintro ⟨_,h1⟩
  have:=allP_len P
  omega
theorem mput_keys_pre (m:List (Int×Nat)) (a:Int) (x:Nat):m.map (·.1) <+: (mput m a x).map (·.1):=by
  cases h:mget m a with
  | some y=>rw [mput_keys m a x y h];exact List.prefix_refl _
  | none=>rw [mput_new m a x h,List.map_append];exact List.prefix_append _ _
theorem keysP_snoc_pre (P:List (Int×Nat)) (a:Int) (v:Nat):keysP P <+: keysP (P++[(a,v)]):=by
  unfold keysP;rw [allP_snoc];exact mput_keys_pre _ _ _
theorem keysP_pre:∀ (l P:List (Int×Nat)),keysP P <+: keysP (P++l)
  | [],P=>by rw [List.append_nil];exact List.prefix_refl _
  | (a,v)::l,P=>by
    have:=keysP_pre l (P++[(a,v)])
    rw [List.append_assoc] at this
    exact (keysP_snoc_pre P a v).trans this
theorem mput_mem {m:List (Int×Nat)} {a:Int} {x:Nat} {k:Int} (h:k∈(mput m a x).map (·.1)):k∈m.map (·.1)∨k=a:=by
  cases hg:mget m a with
  | some y=>rw [mput_keys m a x y hg] at h;exact .inl h
  | none=>rw [mput_new m a x hg,List.map_append] at h;simpa using h
theorem foldl_mput_mem:∀ (ps m:List (Int×Nat)) (k:Int),k∈(ps.foldl (fun m p=>mput m p.1 p.2) m).map (·.1)→k∈m.map (·.1)∨∃ x∈ps,x.1=k
  | [],m,k,h=>.inl h
  | p::ps,m,k,h=>by
    rcases foldl_mput_mem ps _ k h with h|⟨x,hx,he⟩
    · rcases mput_mem h with h|h
      · exact .inl h
      · exact .inr ⟨p,by simp,h.symm⟩
    · exact .inr ⟨x,by simp [hx],he⟩
theorem keysP_mem {P:List (Int×Nat)} {k:Int} (h:k∈keysP P):∃ x∈P,x.1=k:=by
  rcases foldl_mput_mem P [] k h with h|h
  · simp at h
  · exact h
theorem keysP_new {P:List (Int×Nat)} {a:Int} (h:a∉keysP P) (v:Nat):keysP (P++[(a,v)])=keysP P++[a]:=by
  have hg:mget (allP P) a=none:=by
    cases hq:mget (allP P) a with
    | none=>rfl
    | some y =>
      exfalso
      apply h
      have:∀ {m:List (Int×Nat)},mget m a=some y→a∈m.map (·.1):=fun {m}=>by
        induction m with
        | nil=>intro h;cases h
        | cons p m ih =>
          intro h
          unfold mget at h
          split at h
          · simp [*]
          · simp [ih h]
      exact this hq
  unfold keysP
  rw [allP_snoc,mput_new _ _ _ hg,List.map_append];rfl
def KbU (c:Cfg) (u k:Int):Prop:=c.f7≤k→k<c.f10→k<c.f7+3 * u
theorem Cfg.at789 {c:Cfg} {u j:Int} (h0:0≤u) (h1:u<c.threads) (hj:j=0∨j=1∨j=2):c.at (7+j) u 0=c.f7+3 * u+j:=by
  unfold Cfg.at
  have e1:c.cnt (7+j)=(c.threads,1):=by unfold Cfg.cnt;rw [if_neg (by omega),if_pos (by omega)]
  have e2:c.base (7+j)=c.f7+j:=by unfold Cfg.base;rw [if_neg (by omega),if_neg (by omega),if_pos (by omega)];omega
  have e3:c.stp (7+j)=3:=by unfold Cfg.stp;rw [if_neg (by omega),if_pos (by omega)]
  rw [e1,e2,e3,if_pos ⟨h0,h1,by decide,(by decide:(0:Int)<1)⟩]
  omega
structure Bq (c:Cfg) (u:Int) (rows:List BRow) (P:List (Int×Nat)):Prop where
  len:(P.length:Int)≤2 * c.limit+u * (c.writes+3)
  keys:∀ x∈P,KbU c u x.1
  rows:∀ r∈rows,(0≤r.who∧r.who<u)∧[c.at 8 r.who 0,c.at 7 r.who 0].Sublist (keysP P)∧[c.at 9 r.who 0,c.at 7 r.who 0].Sublist (keysP P)
structure Bz (c:Cfg) (rows:List BRow) (P:List (Int×Nat)):Prop where
  len:(P.length:Int)≤c.cap
  rows:∀ r∈rows,(0≤r.who∧r.who<c.threads)∧[c.at 8 r.who 0,c.at 7 r.who 0].Sublist (keysP P)∧[c.at 9 r.who 0,c.at 7 r.who 0].Sublist (keysP P)
section
variable {c:Cfg} {u:Int} {rows:List BRow} {P:List (Int×Nat)}
theorem Small.uw (hc:Small c) (hu0:0≤u) (hu:u≤c.threads):0≤u * (c.writes+3)∧u * (c.writes+3)≤c.threads * (c.writes+3)∧(u+1) * (c.writes+3)=u * (c.writes+3)+c.writes+3:=by
  have:=hc.w0
  refine ⟨Int.mul_nonneg hu0 (by omega),Int.mul_le_mul_of_nonneg_right hu (by omega), ?_⟩
  rw [Int.add_mul,Int.one_mul];omega
theorem Bq.next (hc:Small c) (hu0:0≤u) (hu:u<c.threads) (h:Bq c u rows P):Bq c (u+1) rows P:=by
  have:=hc.uw hu0 (by omega);have:=hc.w0;have:=h.len
  exact ⟨by omega,fun x hx h1 h2=>by have:=h.keys x hx h1 h2;omega,fun r hr=>⟨⟨(h.rows r hr).1.1,by have:=(h.rows r hr).1.2;omega⟩,(h.rows r hr).2⟩⟩
theorem Bq.told (hc:Small c) (hu0:0≤u) (hu:u<c.threads) {P0:List (Int×Nat)} (h:Bq c u rows P0) (ha:PA c P0 c.writes.toNat P) (r:BRow) (hr:r.who=u) (a b d:Nat) :
    Bq c (u+1) (rows++[r]) (putP c.cap.toNat (putP c.cap.toNat (putP c.cap.toNat P (c.at 8 u 0) a) (c.at 9 u 0) b) (c.at 7 u 0) d):=by
  have hw:=hc.uw hu0 (by omega);have:=hc.w0;have hl:=h.len;have:=hc.limit
  have e8:c.at 8 u 0=c.f7+3 * u+1:=Cfg.at789 (j:=1) hu0 hu (by omega)
  have e9:c.at 9 u 0=c.f7+3 * u+2:=Cfg.at789 (j:=2) hu0 hu (by omega)
  have e7:c.at 7 u 0=c.f7+3 * u+0:=Cfg.at789 (j:=0) hu0 hu (by omega)
  have hcap:c.cap=c.threads * (c.writes+3)+3 * c.limit+2:=rfl
  have hf10:c.f10=c.f7+c.threads * 3:=rfl
  obtain ⟨l,rfl,hll,hlk⟩:=ha
  have hlen:(P0++l).length=P0.length+l.length:=List.length_append
  have hkk:∀ k∈keysP (P0++l),c.f7≤k→k<c.f10→k<c.f7+3 * u:=fun k hk h1 h2=>by
    obtain ⟨x,hx,rfl⟩:=keysP_mem hk
    rcases List.mem_append.1 hx with hx|hx
    · exact h.keys x hx h1 h2
    · exact absurd ⟨by have:=hc.nums.f7;omega,h2⟩ (hlk x hx)
  have hpre:=keysP_pre l P0
  have hall:∀ x∈P0++l,KbU c u x.1:=fun x hx h1 h2=>by
    rcases List.mem_append.1 hx with hx|hx
    · exact h.keys x hx h1 h2
    · exact absurd ⟨by have:=hc.nums.f7;omega,h2⟩ (hlk x hx)
  generalize P0++l=P at *
  have hu1:=(hc.uw (u:=u+1) (by omega) (by omega)).2.1
  have q1:=putP_in (P:=P) (room:=c.cap.toNat) (by omega) (c.at 8 u 0) a
  have q2:=putP_in (P:=P++[(c.at 8 u 0,a)]) (room:=c.cap.toNat) (by rw [List.length_append,List.length_singleton];omega) (c.at 9 u 0) b
  have q3:=putP_in (P:=P++[(c.at 8 u 0,a)]++[(c.at 9 u 0,b)]) (room:=c.cap.toNat) (by rw [List.length_append,List.length_append,List.length_singleton,List.length_singleton];omega) (c.at 7 u 0) d
  rw [q1,q2,q3]
  have n8:c.at 8 u 0∉keysP P:=fun hm=>by have:=hkk _ hm (by omega) (by omega);omega
  have k8:=keysP_new n8 a
  have n9:c.at 9 u 0∉keysP (P++[(c.at 8 u 0,a)]):=by
    rw [k8];intro hm
    rcases List.mem_append.1 hm with hm|hm
    · have:=hkk _ hm (by omega) (by omega);omega
    · have:=List.mem_singleton.1 hm;omega
  have k9:=keysP_new n9 b
  rw [k8] at k9
  have n7:c.at 7 u 0∉keysP (P++[(c.at 8 u 0,a)]++[(c.at 9 u 0,b)]):=by
    rw [k9];intro hm
    rcases List.mem_append.1 hm with hm|hm
    · rcases List.mem_append.1 hm with hm|hm
      · have:=hkk _ hm (by omega) (by omega);omega
      · have:=List.mem_singleton.1 hm;omega
    · have:=List.mem_singleton.1 hm;omega
  have k7:=keysP_new n7 d
  rw [k9] at k7
  have hsub:(keysP P0).Sublist (keysP (P++[(c.at 8 u 0,a)]++[(c.at 9 u 0,b)]++[(c.at 7 u 0,d)])):=by
    rw [k7,List.append_assoc,List.append_assoc]
    exact (hpre.trans (List.prefix_append _ _)).sublist
  refine ⟨?_, ?_, ?_⟩
  · rw [List.length_append,List.length_append,List.length_append,hlen];simp;omega
  · intro x hx h1 h2
    simp only [List.mem_append,List.mem_singleton] at hx
    rcases hx with ((hx|rfl)|rfl)|rfl
    · have:=hall x hx h1 h2;omega
    · dsimp only;omega
    · dsimp only;omega
    · dsimp only;omega
  · intro x hx
    rcases List.mem_append.1 hx with hx|hx
    · obtain ⟨h1,h2,h3⟩:=h.rows x hx
      exact ⟨by omega,h2.trans hsub,h3.trans hsub⟩
    · obtain rfl:=List.mem_singleton.1 hx
      rw [hr,k7]
      refine ⟨by omega, ?_, ?_⟩
      · rw [List.append_assoc,List.append_assoc]
        refine List.Sublist.trans ?_ (List.sublist_append_right _ _)
        simp
      · rw [List.append_assoc,List.append_assoc]
        refine List.Sublist.trans ?_ (List.sublist_append_right _ _)
        simp
theorem Bq.ends (hc:Small c) (h:Bq c c.threads rows P) (p:Po):Bz c rows (endP c c.cap.toNat p P):=by
  have hl:=h.len;have:=hc.limit
  have hcap:c.cap=c.threads * (c.writes+3)+3 * c.limit+2:=rfl
  have hput:∀ (Q:List (Int×Nat)) (a:Int) (v:Nat),(Q.length:Int)+1≤c.cap→Bz c rows Q→Bz c rows (putP c.cap.toNat Q a v):=fun Q a v hq hb=>by
    rw [putP_in (by omega)]
    have hs:=(keysP_snoc_pre Q a v).sublist
    exact ⟨by rw [List.length_append];simp;omega,fun r hr=>⟨(hb.rows r hr).1,(hb.rows r hr).2.1.trans hs,(hb.rows r hr).2.2.trans hs⟩⟩
  have h0:Bz c rows P:=⟨by omega,fun r hr=>h.rows r hr⟩
  unfold endP
  have h1:=hput P (c.at 12 0 0) p.nt.toNat (by omega) h0
  split
  · split
    · exact h0
    · exact h1
  · split
    · exact hput P _ _ (by omega) h0
    · refine hput _ _ _ ?_ h1
      have:=putP_len c.cap.toNat P (c.at 12 0 0) p.nt.toNat
      omega
end
structure PoI (c:Cfg) (p:Po):Prop where
  next:0≤p.next∧p.next≤1000
  names:(p.names.length:Int)≤c.threads∧(p.next≤c.threads→(p.names.length:Int)=p.next)
  limbo:(p.limbo.length:Int)≤c.limit
  early:p.s=0→p.next≤c.threads+1→p.limbo=[]
  late:p.s=0→c.threads+2≤p.next→(p.limbo.length:Int)<p.wl∧p.next=c.threads+2+p.limbo.length
  wt:0≤p.wt∧p.wt≤64
  wl:0≤p.wl∧p.wl≤c.limit
  nt:0≤p.nt∧p.nt≤64
  nl:0≤p.nl∧p.nl≤520
theorem PoI.new {c:Cfg} (hc:Small c) (seq:Nat):PoI c (Po.new seq):=by
  have:=hc.t0;have:=hc.limit
  refine ⟨(by decide:(0:Int)≤0∧(0:Int)≤1000),⟨(by show (0:Int)≤c.threads;omega),fun _=>rfl⟩,this.1,fun _ _=>rfl,fun _ h=>?_,(by decide:(0:Int)≤0∧(0:Int)≤64),⟨Int.le_refl 0,this.1⟩,(by decide:(0:Int)≤0∧(0:Int)≤64),(by decide:(0:Int)≤0∧(0:Int)≤520)⟩
  have:(Po.new seq).next=0:=rfl
  omega
theorem PoI.tell {c:Cfg} (hc:Small c) {p:Po} (h:PoI c p) (o:Out):PoI c (p.tell c o):=by
  have h1:=h.next;have h2:=h.names;have h3:=h.limbo;have h4:=hc.limit;have h5:=hc.b0;have h6:=hc.b1;have ht:=hc.t0;have ht1:=hc.t1
  have hwl:=h.wl;have hwt:=h.wt
  unfold Po.tell
  split
  · exact h
  rename_i hs
  have hs0:p.s=0:=by omega
  split
  · rename_i hlt
    have hl:=h.early hs0 (by omega)
    unfold Po.fin
    rw [if_neg (by dsimp only;omega)]
    exact ⟨by dsimp only;omega,by dsimp only;rw [List.length_append];simp;omega,h3,fun _ _=>hl,fun _ hn=>by dsimp only at hn;omega,h.wt,h.wl,h.nt,h.nl⟩
  rename_i hnt
  split
  · exact ⟨h1,h2,h3,fun e=>(by cases e),fun e=>(by cases e),h.wt,h.wl,h.nt,h.nl⟩
  split
  · rename_i he
    have hl:=h.early hs0 (by omega)
    have hm:=minI_le (a:=(o.was.val:Int)) (b:=c.blocks) (n:=64) (by omega) (by omega) (by omega)
    unfold Po.fin
    rw [if_neg (by dsimp only;omega)]
    exact ⟨by dsimp only;omega,⟨h2.1,fun e=>by dsimp only at e;omega⟩,h3,fun _ _=>hl,fun _ hn=>by dsimp only at hn;omega,hm,h.wl,h.nt,h.nl⟩
  split
  · rename_i he
    have hl:=h.early hs0 (by omega)
    have hm:=minI_le (a:=(o.was.val:Int)) (b:=c.limit) (n:=c.limit) (by omega) (by omega) (Int.le_refl _)
    unfold Po.fin
    dsimp only
    rw [hl]
    split
    · exact ⟨by dsimp only;omega,⟨h2.1,fun e=>by dsimp only at e;omega⟩,h4.1,fun e=>(by cases e),fun e=>(by cases e),h.wt,hm,h.wt,⟨hm.1,by dsimp only;omega⟩⟩
    · rename_i hf
      refine ⟨by dsimp only;omega,⟨h2.1,fun e=>by dsimp only at e;omega⟩,h4.1,fun _ hn=>by dsimp only at hn;omega,fun _ hn=>?_,h.wt,hm,h.nt,h.nl⟩
      dsimp only [List.length_nil] at hf hn⊢
      omega
  · rename_i he1 he2
    obtain ⟨hl1,hl2⟩:=h.late hs0 (by omega)
    unfold Po.fin
    dsimp only
    rw [List.length_append,List.length_singleton]
    split
    · rename_i hf
      exact ⟨by dsimp only;omega,⟨h2.1,fun e=>by dsimp only at e;omega⟩,by dsimp only;rw [List.length_append,List.length_singleton];omega,fun e=>(by cases e),fun e=>(by cases e),h.wt,h.wl,h.wt,⟨hwl.1,by dsimp only;omega⟩⟩
    · rename_i hf
      refine ⟨by dsimp only;omega,⟨h2.1,fun e=>by dsimp only at e;omega⟩,by dsimp only;rw [List.length_append,List.length_singleton];omega,fun _ hn=>by dsimp only at hn;omega,fun _ hn=>?_,h.wt,h.wl,h.nt,h.nl⟩
      dsimp only
      rw [List.length_append,List.length_singleton]
      omega
end Go.Proofs.YthmbgodcpgkkeaaGreat
end
section
namespace Go.Proofs.YthmbgodcpgkkeaaGreat
set_option maxRecDepth 100000
theorem pend_t (Pb W room:Nat) (c:Cfg) (hc:Small c) (p:Po) (puts:List (Int×Nat)) (hnt:0≤p.nt∧p.nt≤1000000) (hnl:0≤p.nl∧p.nl≤1000000) (hlen:puts.length+2≤1000000000) :
    Tri Tryz.prog 76 #[.pointer (some ⟨Pb,0,none⟩), .pointer (some ⟨W,0,none⟩)] [Pl Pb c p,Ws W room puts]
      fun r L=>r=.tuple ⟨[]⟩∧L=[Pl Pb c p,Ws W room (endP c room p puts)]:=by
  unfold Pl;exact pend_tE Pb W room c hc p puts hnt hnl hlen
structure Bn (m:Bm):Prop where
  u:0≤m.b.u∧m.b.u≤1000
  nt:0≤m.e.p.nt∧m.e.p.nt≤1000000
  nl:0≤m.e.p.nl∧m.e.p.nl≤1000000
  len:m.e.puts.length≤900000000
theorem bpass_t (B V Pb W room:Nat) (c:Cfg) (hc:Small c) (pv xv rv:Value) (m:Bm) (hn:Bn m) :
    Tri Tryz.prog 204 #[.pointer (some ⟨B,0,none⟩)] [bl B 228 (bdV c pv V Pb W xv rv m.b),Pl Pb c m.e.p,Ws W room m.e.puts]
      fun r L=>r=.tuple ⟨[]⟩∧L=[bl B 228 (bdV c pv V Pb W xv rv (m.pass c room).b),Pl Pb c m.e.p,Ws W room (m.pass c room).e.puts]:=by
  have he:=pend_t Pb W room c hc m.e.p m.e.puts hn.nt hn.nl (by have:=hn.len;omega)
  have hcf:=cfg_r c
  have htk:=fun b=>take_b c pv V Pb W xv rv b
  have hu:=hn.u
  have htk1:=htk { m.b with u:=m.b.u+1,next:=1 }
  unfold Bm.pass
  by_cases hs:m.b.u+1=c.threads
  · rw [if_pos hs]
    dsimp only
    refine Tri.of_body (vs:=[_]) Tryz.func204 rfl rfl fun w0 F=>?_
    repeat' (first|refine Ga ?_|(refine Gb ?_;intro b)|(refine Gd ?_;intro g cap rest hcap)|(refine Gc ?_;intro ad cap)|(refine St.draw (id:=2) [(0,0),(1,0),(2,0),(3,1),(4,0),(5,0),(6,0),(7,1),(8,1),(9,0),(10,0)] [] mixed (by kernel_rfl) ?_)|(refine St.draw (id:=3) [(0,0),(1,0),(2,0),(3,1),(4,0),(5,0),(6,0),(7,1),(8,3)] [8] mixed (by kernel_rfl) ?_)| refine Gl hcf ?_|(refine Gt he ?_;rintro _ _ ⟨rfl,rfl⟩)|(refine Ge ?_ ?_<;>(intro h;try (exfalso;omega)))|fail)
    refine St.f1 Tryz.func204 ⟨_,⟨rfl,rfl⟩,Ent.go⟩
  · rw [if_neg hs]
    dsimp only
    refine Tri.of_body (vs:=[_]) Tryz.func204 rfl rfl fun w0 F=>?_
    repeat' (first|refine Ga ?_|(refine Gb ?_;intro b)|(refine Gd ?_;intro g cap rest hcap)|(refine Gc ?_;intro ad cap)|(refine St.draw (id:=2) [(0,0),(1,0),(2,0),(3,1),(4,0),(5,0),(6,0),(7,1),(8,1),(9,0),(10,0)] [] mixed (by kernel_rfl) ?_)|(refine St.draw (id:=3) [(0,0),(1,0),(2,0),(3,1),(4,0),(5,0),(6,0),(7,1),(8,3)] [8] mixed (by kernel_rfl) ?_)| refine Gl hcf ?_|(refine Ge ?_ ?_<;>(intro h;try (exfalso;omega)))|fail)
    refine St.f1 Tryz.func204 ⟨_,⟨rfl,rfl⟩,Ent.go⟩
def bdO (B V Pb W room:Nat) (c:Cfg) (pv xv rv:Value) (m:Bm):List HProp:=[bl B 228 (bdV c pv V Pb W xv rv m.b),bl V 215 (viewV c m.e.v),Pl Pb c m.e.p,Ws W room m.e.puts]
theorem Bm.pass_e (c:Cfg) (room:Nat) (m:Bm):(m.pass c room).e.v=m.e.v∧(m.pass c room).e.p=m.e.p∧(m.pass c room).e.x=m.e.x∧(m.pass c room).e.news=m.e.news∧(m.pass c room).rows=m.rows:=by
  unfold Bm.pass;split<;>exact ⟨rfl,rfl,rfl,rfl,rfl⟩
theorem bannounce_t (B V Pb W room:Nat) (c:Cfg) (hc:Small c) (pv xv rv:Value) (m:Bm) (hn:Bn m) :
    Tri Tryz.prog 136 #[.pointer (some ⟨B,0,none⟩)] (bdO B V Pb W room c pv xv rv m) fun r L=>r=.tuple ⟨[]⟩∧L=bdO B V Pb W room c pv xv rv (m.announce c room):=by
  have hp:=bpass_t B V Pb W room c hc pv xv rv m hn
  have hat:=at_r c hc 7 m.b.u 0
  have hv:=vcell_t c hc V m.e.v (c.at 7 m.b.u 0)
  have htk:=take_b c pv V Pb W xv rv m.b
  unfold Bm.announce bdO
  by_cases hs:m.b.ann.seq=0
  · rw [if_pos hs]
    obtain ⟨e1,e2,_⟩:=m.pass_e c room
    rw [e1,e2]
    have hs':((m.b.ann.seq:Nat):Int)=0:=by omega
    refine Tri.of_body (vs:=[_]) Tryz.func136 rfl rfl fun w0 F=>?_
    repeat' (first|refine Ga ?_|(refine Gb ?_;intro b)|(refine Gd ?_;intro g cap rest hcap)|(refine Gc ?_;intro ad cap)|(refine St.draw (id:=2) [(0,0),(1,0),(2,0),(3,1),(4,0),(5,0),(6,0),(7,1),(8,0),(9,0),(10,0),(11,1),(12,1),(13,3)] [13] mixed (by kernel_rfl) ?_)|(refine Gt hp ?_;rintro _ _ ⟨rfl,rfl⟩)|(refine Ge ?_ ?_<;>(intro h;try (exfalso;omega)))|fail)
    refine St.d1 Tryz.func136 ⟨_,⟨rfl,rfl⟩,Ent.go⟩
  · rw [if_neg hs]
    dsimp only
    have hs':¬ ((m.b.ann.seq:Nat):Int)=0:=by omega
    refine Tri.of_body (vs:=[_]) Tryz.func136 rfl rfl fun w0 F=>?_
    repeat' (first|refine Ga ?_|(refine Gb ?_;intro b)|(refine Gd ?_;intro g cap rest hcap)|(refine Gc ?_;intro ad cap)|(refine St.draw (id:=2) [(0,0),(1,0),(2,0),(3,1),(4,0),(5,0),(6,0),(7,1),(8,0),(9,0),(10,0),(11,1),(12,1),(13,3)] [13] mixed (by kernel_rfl) ?_)| refine Gl hat ?_|(refine Gt hv ?_;rintro _ _ ⟨rfl,rfl⟩)|(refine Ge ?_ ?_<;>(intro h;try (exfalso;omega)))|fail)
    refine St.f1 Tryz.func136 ⟨_,⟨rfl,rfl⟩,Ent.go⟩
theorem btag_t (B V Pb W room:Nat) (c:Cfg) (hc:Small c) (pv xv rv:Value) (m:Bm) (hn:Bn m) :
    Tri Tryz.prog 137 #[.pointer (some ⟨B,0,none⟩)] (bdO B V Pb W room c pv xv rv m) fun r L=>r=.tuple ⟨[]⟩∧L=bdO B V Pb W room c pv xv rv (m.tag c room):=by
  have hp:=bpass_t B V Pb W room c hc pv xv rv m hn
  have hv:=vend_r c V m.e.v
  unfold Bm.tag bdO
  by_cases h2:m.e.v.s=2
  · rw [if_pos h2]
    refine Tri.of_body (vs:=[_]) Tryz.func137 rfl rfl fun w0 F=>?_
    repeat' (first|refine Ga ?_|(refine Gb ?_;intro b)|(refine Gd ?_;intro g cap rest hcap)|(refine Gc ?_;intro ad cap)|refine Gl hv ?_|(refine Ge ?_ ?_<;>(intro h;try (exfalso;omega)))|fail)
    refine St.f1 Tryz.func137 ⟨_,⟨rfl,rfl⟩,Ent.go⟩
  · rw [if_neg h2]
    by_cases hs:m.e.v.val=m.b.ann.seq
    · rw [if_pos hs]
      obtain ⟨e1,e2,_⟩:=m.pass_e c room
      rw [e1,e2]
      have hs':((m.e.v.val:Nat):Int)=(m.b.ann.seq:Nat):=by omega
      refine Tri.of_body (vs:=[_]) Tryz.func137 rfl rfl fun w0 F=>?_
      repeat' (first|refine Ga ?_|(refine Gb ?_;intro b)|(refine Gd ?_;intro g cap rest hcap)|(refine Gc ?_;intro ad cap)|refine Gl hv ?_|(refine Gt hp ?_;rintro _ _ ⟨rfl,rfl⟩)|(refine Ge ?_ ?_<;>(intro h;try (exfalso;omega)))|fail)
      refine St.f1 Tryz.func137 ⟨_,⟨rfl,rfl⟩,Ent.go⟩
    · rw [if_neg hs]
      have hs':¬ ((m.e.v.val:Nat):Int)=(m.b.ann.seq:Nat):=by omega
      refine Tri.of_body (vs:=[_]) Tryz.func137 rfl rfl fun w0 F=>?_
      repeat' (first|refine Ga ?_|(refine Gb ?_;intro b)|(refine Gd ?_;intro g cap rest hcap)|(refine Gc ?_;intro ad cap)|refine Gl hv ?_|(refine Ge ?_ ?_<;>(intro h;try (exfalso;omega)))|fail)
      refine St.f1 Tryz.func137 ⟨_,⟨rfl,rfl⟩,Ent.go⟩
theorem bpooled_t (B V Pb W room:Nat) (c:Cfg) (hc:Small c) (pv xv rv:Value) (m:Bm) (hn:Bn m) (hll:m.e.p.limbo.length≤1000000) :
    Tri Tryz.prog 135 #[.pointer (some ⟨B,0,none⟩)] (bdO B V Pb W room c pv xv rv m) fun r L=>r=.tuple ⟨[]⟩∧L=bdO B V Pb W room c pv xv rv (m.pooled c room):=by
  have hst:=pStatus_r Pb c m.e.p
  have hse:=psettle_t Pb W room c hc m.e.p m.e.puts hn.nt.1 hll (by have:=hn.len;omega)
  unfold Bm.pooled bdO
  by_cases h2:m.e.p.s=2
  · rw [if_pos h2]
    rw [h2] at hst
    refine Tri.of_body (vs:=[_]) Tryz.func135 rfl rfl fun w0 F=>?_
    repeat' (first|refine Ga ?_|(refine Gb ?_;intro b)|(refine Gd ?_;intro g cap rest hcap)|(refine Gc ?_;intro ad cap)|(refine St.draw (id:=4) [(0,0),(1,0),(2,0),(3,1),(4,0),(5,0),(6,0),(7,1),(8,3)] [8] mixed (by kernel_rfl) ?_)| refine Gl hst ?_|(refine Ge ?_ ?_<;>(intro h;try (exfalso;omega)))|fail)
    refine St.f1 Tryz.func135 ⟨_,⟨rfl,rfl⟩,Ent.go⟩
  · rw [if_neg h2]
    by_cases h1:m.e.p.s=1
    · rw [if_pos h1]
      rw [h1] at hst
      refine Tri.of_body (vs:=[_]) Tryz.func135 rfl rfl fun w0 F=>?_
      repeat' (first|refine Ga ?_|(refine Gb ?_;intro b)|(refine Gd ?_;intro g cap rest hcap)|(refine Gc ?_;intro ad cap)|(refine St.draw (id:=4) [(0,0),(1,0),(2,0),(3,1),(4,0),(5,0),(6,0),(7,1),(8,3)] [8] mixed (by kernel_rfl) ?_)| refine Gl hst ?_|(refine Gt hse ?_;rintro _ _ ⟨rfl,rfl⟩)|(refine Ge ?_ ?_<;>(intro h;try (exfalso;omega)))|fail)
      refine St.f1 Tryz.func135 ⟨_,⟨rfl,rfl⟩,Ent.go⟩
    · rw [if_neg h1]
      refine Tri.of_body (vs:=[_]) Tryz.func135 rfl rfl fun w0 F=>?_
      repeat' (first|refine Ga ?_|(refine Gb ?_;intro b)|(refine Gd ?_;intro g cap rest hcap)|(refine Gc ?_;intro ad cap)|(refine St.draw (id:=4) [(0,0),(1,0),(2,0),(3,1),(4,0),(5,0),(6,0),(7,1),(8,3)] [8] mixed (by kernel_rfl) ?_)| refine Gl hst ?_|(refine Ge ?_ ?_<;>(intro h;try (exfalso;omega)))|fail)
      refine St.f1 Tryz.func135 ⟨_,⟨rfl,rfl⟩,Ent.go⟩
end Go.Proofs.YthmbgodcpgkkeaaGreat
end
section
namespace Go.Proofs.YthmbgodcpgkkeaaGreat
set_option maxRecDepth 100000
theorem rowV_len (r:RowH):(rowV r).length=5:=rfl
def ranQ (B V Pb W X room:Nat) (c:Cfg) (cv pv xv:Value) (m m':Bm) (r:Value) (L:List HProp):Prop:=∃ (rs:List RowH) (rad:Option Addr) (rcap:Nat),rs.map (·.1)=m'.rows∧r=.tuple ⟨[]⟩∧
  L=[bl B 228 (bdV c pv V Pb W xv (.slice rad m'.rows.length rcap) m'.b),Pl Pb c m'.e.p,Ws W room m'.e.puts,Xe X c cv V Pb W m.e.x m.e.news,Row (.slice rad m'.rows.length rcap) 128 5 m'.rows.length (rs.flatMap rowV),star (rs.map rowP)]
set_option maxHeartbeats 1000000 in
theorem bran_t (B V Pb W X room:Nat) (c:Cfg) (hc:Small c) (cv pv:Value) (m:Bm) (hn:Bn m) (rs:List RowH) (hrs:rs.map (·.1)=m.rows) (rad:Option Addr) (rcap:Nat) (hl8:m.e.puts.length≤800000000) (hrl:m.rows.length≤1000) (hnews:m.e.news.length≤1000) (hrc:0≤m.e.x.rc∧m.e.x.rc≤1000) :
    Tri Tryz.prog 139 #[.pointer (some ⟨B,0,none⟩)] [bl B 228 (bdV c pv V Pb W (.pointer (some ⟨X,0,none⟩)) (.slice rad m.rows.length rcap) m.b),Pl Pb c m.e.p,Ws W room m.e.puts,Xe X c cv V Pb W m.e.x m.e.news,Row (.slice rad m.rows.length rcap) 128 5 m.rows.length (rs.flatMap rowV),star (rs.map rowP)]
      (ranQ B V Pb W X room c cv pv (.pointer (some ⟨X,0,none⟩)) m (m.ran c room)):=by
  have hst:=xstatus_s X V Pb W c cv m.e
  unfold Bm.ran
  by_cases h2:m.e.x.s=2
  · rw [if_pos h2]
    rw [h2] at hst
    refine Tri.of_body (vs:=[_]) Tryz.func139 rfl rfl fun w0 F=>?_
    repeat' (first|refine Ga ?_|(refine Gb ?_;intro b)|(refine Gd ?_;intro g cap rest hcap)|(refine Gc ?_;intro ad cap)|(refine St.draw (id:=5) [(0,0),(1,0),(2,0),(3,0),(4,1),(5,0),(6,0),(7,0),(8,1),(9,0),(10,0),(11,0),(12,0),(13,1),(14,1),(15,0),(16,0),(17,2),(18,3),(19,0),(20,0),(21,3)] [18,21] mixed (by kernel_rfl) ?_)|(refine St.draw (id:=6) [(0,0),(1,0),(2,0),(3,1),(4,0),(5,0),(6,0),(7,1),(8,0),(9,0),(10,0),(11,1),(12,1),(13,0),(14,1),(15,0),(16,3)] [16] mixed (by kernel_rfl) ?_)|(refine St.draw (id:=7) [(0,0),(1,0),(2,0),(3,1),(4,0),(5,0),(6,0),(7,1),(8,0),(9,0),(10,0),(11,1),(12,1),(13,0),(14,1),(15,3)] [15] mixed (by kernel_rfl) ?_)|(refine St.draw (id:=8) [(0,0),(1,0),(2,0),(3,1),(4,0),(5,0),(6,0),(7,1),(8,0),(9,0),(10,0),(11,1),(12,1),(13,0),(14,0),(15,0),(16,0),(17,1),(18,3)] [18] mixed (by kernel_rfl) ?_)| refine Gl hst ?_|(refine Ge ?_ ?_<;>(intro h;try (exfalso;omega)))|fail)
    refine St.f1 Tryz.func139 ⟨_,⟨rs,rad,rcap,hrs,rfl,rfl⟩,Ent.go⟩
  · rw [if_neg h2]
    by_cases h1:m.e.x.s=1
    · rw [if_pos h1]
      rw [h1] at hst
      have hlen:=hn.len
      have hres:=xresult_s X V Pb W c cv m.e (by omega)
      have hat:=fun k=>at_r c hc k m.b.u 0
      have hp1:=wput_t W room m.e.puts (c.at 8 m.b.u 0) m.e.x.rc.toNat (by omega)
      rw [show ((m.e.x.rc.toNat:Nat):Int)=m.e.x.rc by omega] at hp1
      have hl1:=putP_len room m.e.puts (c.at 8 m.b.u 0) m.e.x.rc.toNat
      have hp2:=wput_t W room _ (c.at 9 m.b.u 0) m.e.x.rv (show (putP room m.e.puts (c.at 8 m.b.u 0) m.e.x.rc.toNat).length≤1000000000 by omega)
      have hl2:=putP_len room (putP room m.e.puts (c.at 8 m.b.u 0) m.e.x.rc.toNat) (c.at 9 m.b.u 0) m.e.x.rv
      have hp3:=wput_t W room _ (c.at 7 m.b.u 0) m.b.ann.seq (show (putP room (putP room m.e.puts (c.at 8 m.b.u 0) m.e.x.rc.toNat) (c.at 9 m.b.u 0) m.e.x.rv).length≤1000000000 by omega)
      have hl3:=putP_len room (putP room (putP room m.e.puts (c.at 8 m.b.u 0) m.e.x.rc.toNat) (c.at 9 m.b.u 0) m.e.x.rv) (c.at 7 m.b.u 0) m.b.ann.seq
      have hps:=fun rv=>bpass_t B V Pb W room c hc pv (.pointer (some ⟨X,0,none⟩)) rv (m.told c room) ⟨hn.u,hn.nt,hn.nl,by show (putP room (putP room (putP room _ _ _) _ _) _ _).length≤_;omega⟩
      have htk:=fun rv b=>take_b c pv V Pb W (.pointer (some ⟨X,0,none⟩)) rv b
      obtain ⟨e1,e2,e3,e4,e5⟩:=(m.told c room).pass_e c room
      refine Tri.of_body (vs:=[_]) Tryz.func139 rfl rfl fun w0 F=>?_
      repeat' (first|refine St.halt 6 ?_ |refine Ga ?_|(refine Gb ?_;intro b)|(refine Gd ?_;intro g cap rest hcap)|(refine Gc ?_;intro ad cap)|(refine St.draw (id:=5) [(0,0),(1,0),(2,0),(3,0),(4,1),(5,0),(6,0),(7,0),(8,1),(9,0),(10,0),(11,0),(12,0),(13,1),(14,1),(15,0),(16,0),(17,2),(18,3),(19,0),(20,0),(21,3)] [18,21] mixed (by kernel_rfl) ?_)|(refine St.draw (id:=6) [(0,0),(1,0),(2,0),(3,1),(4,0),(5,0),(6,0),(7,1),(8,0),(9,0),(10,0),(11,1),(12,1),(13,0),(14,1),(15,0),(16,3)] [16] mixed (by kernel_rfl) ?_)|(refine St.draw (id:=7) [(0,0),(1,0),(2,0),(3,1),(4,0),(5,0),(6,0),(7,1),(8,0),(9,0),(10,0),(11,1),(12,1),(13,0),(14,1),(15,3)] [15] mixed (by kernel_rfl) ?_)|(refine St.draw (id:=8) [(0,0),(1,0),(2,0),(3,1),(4,0),(5,0),(6,0),(7,1),(8,0),(9,0),(10,0),(11,1),(12,1),(13,0),(14,0),(15,0),(16,0),(17,1),(18,3)] [18] mixed (by kernel_rfl) ?_)| refine Gl hst ?_|(refine Gt hres ?_;rintro _ _ ⟨nad,ncap,rfl,rfl⟩)|(refine Ge ?_ ?_<;>(intro h;try (exfalso;omega)))|fail)
      apply Halt.go
      have hps2:=hps (.slice ad (m.rows.length+1) cap)
      repeat' (first|refine Ga ?_|(refine Gb ?_;intro b)|(refine Gd ?_;intro g cap rest hcap)|(refine Gc ?_;intro ad cap)|(refine St.draw (id:=5) [(0,0),(1,0),(2,0),(3,0),(4,1),(5,0),(6,0),(7,0),(8,1),(9,0),(10,0),(11,0),(12,0),(13,1),(14,1),(15,0),(16,0),(17,2),(18,3),(19,0),(20,0),(21,3)] [18,21] mixed (by kernel_rfl) ?_)|(refine St.draw (id:=6) [(0,0),(1,0),(2,0),(3,1),(4,0),(5,0),(6,0),(7,1),(8,0),(9,0),(10,0),(11,1),(12,1),(13,0),(14,1),(15,0),(16,3)] [16] mixed (by kernel_rfl) ?_)|(refine St.draw (id:=7) [(0,0),(1,0),(2,0),(3,1),(4,0),(5,0),(6,0),(7,1),(8,0),(9,0),(10,0),(11,1),(12,1),(13,0),(14,1),(15,3)] [15] mixed (by kernel_rfl) ?_)|(refine St.draw (id:=8) [(0,0),(1,0),(2,0),(3,1),(4,0),(5,0),(6,0),(7,1),(8,0),(9,0),(10,0),(11,1),(12,1),(13,0),(14,0),(15,0),(16,0),(17,1),(18,3)] [18] mixed (by kernel_rfl) ?_)| refine Gl (hat _) ?_|(refine Gt hp1 ?_;rintro _ _ ⟨rfl,rfl⟩)|(refine Gt hp2 ?_;rintro _ _ ⟨rfl,rfl⟩)|(refine Gt hp3 ?_;rintro _ _ ⟨rfl,rfl⟩)|(refine Gt hps2 ?_;rintro _ _ ⟨rfl,rfl⟩)|(refine Ge ?_ ?_<;>(intro h;try (exfalso;omega)))|fail)
      have hl:((m.told c room).pass c room).rows.length=m.rows.length+1:=by rw [e5];show (m.rows++[_]).length=_;rw [List.length_append];rfl
      refine St.f1 Tryz.func139 ⟨_,⟨rs++[(⟨m.b.u,m.b.ann.seq,m.e.x.rc,m.e.x.rv,m.e.news⟩,nad,ncap)],ad,cap, ?_,rfl,rfl⟩, ?_⟩
      · rw [e5,List.map_append,hrs];rfl
      · rw [hl,e2,List.map_append,List.flatMap_append]
        refine Ent.trans (Ent.of_take (p:=star (rs.map rowP)) Take.go) ?_
        refine Ent.trans (Ent.of_take (p:=Row (.slice nad m.e.news.length ncap) 22 1 m.e.news.length (u64s m.e.news)) Take.go) ?_
        exact Ent.trans (Ent.star_snoc _ _) Ent.go
    · rw [if_neg h1]
      refine Tri.of_body (vs:=[_]) Tryz.func139 rfl rfl fun w0 F=>?_
      repeat' (first|refine Ga ?_|(refine Gb ?_;intro b)|(refine Gd ?_;intro g cap rest hcap)|(refine Gc ?_;intro ad cap)|(refine St.draw (id:=5) [(0,0),(1,0),(2,0),(3,0),(4,1),(5,0),(6,0),(7,0),(8,1),(9,0),(10,0),(11,0),(12,0),(13,1),(14,1),(15,0),(16,0),(17,2),(18,3),(19,0),(20,0),(21,3)] [18,21] mixed (by kernel_rfl) ?_)|(refine St.draw (id:=6) [(0,0),(1,0),(2,0),(3,1),(4,0),(5,0),(6,0),(7,1),(8,0),(9,0),(10,0),(11,1),(12,1),(13,0),(14,1),(15,0),(16,3)] [16] mixed (by kernel_rfl) ?_)|(refine St.draw (id:=7) [(0,0),(1,0),(2,0),(3,1),(4,0),(5,0),(6,0),(7,1),(8,0),(9,0),(10,0),(11,1),(12,1),(13,0),(14,1),(15,3)] [15] mixed (by kernel_rfl) ?_)|(refine St.draw (id:=8) [(0,0),(1,0),(2,0),(3,1),(4,0),(5,0),(6,0),(7,1),(8,0),(9,0),(10,0),(11,1),(12,1),(13,0),(14,0),(15,0),(16,0),(17,1),(18,3)] [18] mixed (by kernel_rfl) ?_)| refine Gl hst ?_|(refine Ge ?_ ?_<;>(intro h;try (exfalso;omega)))|fail)
      refine St.f1 Tryz.func139 ⟨_,⟨rs,rad,rcap,hrs,rfl,rfl⟩,Ent.go⟩
end Go.Proofs.YthmbgodcpgkkeaaGreat
end
