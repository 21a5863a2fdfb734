/-
  A view that is told what is so: what comes of a reading. A pool that takes, and that gives, over a memory that holds roots and blocks. What a set holds of blocks: words of those that live, and all words of those that are new. A program over a view that is told what is so: each instruction comes to what it comes to over roots and blocks.
-/
import Derived.Test.YthmbgodcpgkkeaaGreatEd
section
namespace Go.Proofs.YthmbgodcpgkkeaaGreat
set_option maxRecDepth 100000
def Tx (c:Cfg) (a:Int):Prop:=c.f7≤a∧a<c.f17
theorem what_in {c:Cfg} (hc:Small c) {a:Int} (h:7≤(c.what a).1):Tx c a:=by
  have hcap:=hc.cap
  have hts:=hc.ts
  have h7:c.f7=1+c.threads * c.stride:=rfl
  have h17:c.f17=c.f16+c.blocks * 8:=rfl
  unfold Tx
  unfold Cfg.what at h
  repeat' split at h
  all_goals first|omega|(dsimp only at h;omega)
theorem at_in {c:Cfg} (hc:Small c) {kind i j:Int} (hk:7≤kind∧kind≤16) (h:0≤i∧i<(c.cnt kind).1∧0≤j∧j<(c.cnt kind).2):Tx c (c.at kind i j) :=
  what_in hc (by rw [at_rest hc hk ⟨h.1,h.2.1⟩ ⟨h.2.2.1,h.2.2.2⟩];exact hk.1)
theorem Tx.ne {c:Cfg} (hc:Small c) {a:Int} (h:Tx c a):a≠-1:=by
  have:=hc.nums.f7
  unfold Tx at h
  omega
def Hl (c:Cfg) (V:Int→Nat) (v:Vw):Prop:=v.held = -1∨(0≤v.held∧v.held<c.blocks∧V (c.at 11 v.held 0)=1)
def rdB (c:Cfg) (V:Int→Nat) (b a:Int):Option Nat:=if V (c.at 11 b 0)=1 then some (if a = -1 then 0 else V a) else none
structure VwF (c:Cfg) (V:Int→Nat) (v:Vw) (r:Option Nat):Prop where
  held:Hl c V v
  is:v.s=2∨(v.s=1∧r=some v.val)∨(v.s=3∧r=none)∨(v.s=0∧v.step=3∧Tx c v.at_∧r=some (V v.at_))∨(v.s=0∧(v.step=1∨v.step=2)∧v.val=0∧0≤v.block∧v.block<c.blocks∧(v.at_ = -1∨Tx c v.at_)∧r=rdB c V v.block v.at_)
def GoodR (V:Int→Nat) (seq:Nat) (a:Int) (o:Out):Prop:=o.was.seq≤seq→o.was.val=V a
section
variable {c:Cfg} {V:Int→Nat} {v:Vw} {r:Option Nat}
theorem VwF.lives (h0:v.s=0) (h1:v.val=0) (hb:0≤v.block∧v.block<c.blocks) (hl:V (c.at 11 v.block 0)=1) (hx:v.at_ = -1∨Tx c v.at_) (hr:r=rdB c V v.block v.at_):VwF c V v.lives r:=by
  unfold rdB at hr
  rw [if_pos hl] at hr
  unfold Vw.lives
  split
  · next e =>
    rw [if_pos e] at hr
    exact ⟨.inr ⟨hb.1,hb.2,hl⟩, .inr (.inl ⟨rfl,by rw [hr];dsimp only;rw [h1]⟩)⟩
  · next e =>
    rw [if_neg e] at hr
    exact ⟨.inr ⟨hb.1,hb.2,hl⟩, .inr (.inr (.inr (.inl ⟨h0,rfl,hx.resolve_left e,hr⟩)))⟩
theorem VwF.loaded (h:VwF c V v r) (hs:v.s=0) (h2:v.step=2∨v.step=3) {cl:Cell} (hg:cl.seq≤v.seq→cl.val=V (if v.step=2 then c.at 11 v.block 0 else v.at_)):VwF c V (v.loaded cl) r:=by
  unfold Vw.loaded
  by_cases h1:v.seq<cl.seq
  · rw [if_pos h1];exact ⟨h.held, .inl rfl⟩
  rw [if_neg h1]
  have hg:=hg (by omega)
  by_cases h3:v.step=3
  · rw [if_pos h3]
    rw [if_neg (by omega)] at hg
    refine ⟨h.held, .inr (.inl ⟨rfl, ?_⟩)⟩
    rcases h.is with e|⟨e,_⟩|⟨e,_⟩|⟨_,_,_,e⟩|⟨_,e,_⟩
    · omega
    · omega
    · omega
    · rw [e,hg]
    · omega
  · rw [if_neg h3]
    rw [if_pos (by omega)] at hg
    have h4:v.val=0∧0≤v.block∧v.block<c.blocks∧(v.at_ = -1∨Tx c v.at_)∧r=rdB c V v.block v.at_:=by
      rcases h.is with e|⟨e,_⟩|⟨e,_⟩|⟨_,e,_⟩|⟨_,e,h⟩
      · omega
      · omega
      · omega
      · omega
      · exact h
    by_cases h5:cl.val=1
    · rw [if_neg (by simpa using h5)]
      exact VwF.lives (v:={ v with step:=0 }) hs h4.1 ⟨h4.2.1,h4.2.2.1⟩ (by show V (c.at 11 v.block 0)=1;rw [←hg];exact h5) h4.2.2.2.1 h4.2.2.2.2
    · rw [if_pos h5]
      refine ⟨h.held, .inr (.inr (.inl ⟨rfl, ?_⟩))⟩
      rw [h4.2.2.2.2]
      unfold rdB
      rw [if_neg (by rw [←hg];exact h5)]
theorem VwF.tell (h:VwF c V v r) (hs:v.s=0) {o:Out} (hg:v.step≠1→GoodR V v.seq (Vw.ask c v).1.at_ o):VwF c V (v.tell o) r:=by
  unfold Vw.tell
  unfold GoodR Vw.ask at hg
  by_cases h1:v.step=1
  · rw [if_pos h1]
    refine ⟨.inl rfl, ?_⟩
    rcases h.is with e|⟨e,_⟩|⟨e,_⟩|⟨_,e,_⟩|⟨_,_,h⟩
    · omega
    · omega
    · omega
    · omega
    · exact .inr (.inr (.inr (.inr ⟨hs, .inr rfl,h⟩)))
  · rw [if_neg h1]
    rw [if_neg h1] at hg
    by_cases h2:v.step=2∨v.step=3
    · rw [if_pos h2]
      refine h.loaded hs h2 ?_
      rcases h2 with e|e
      · rw [if_pos e]
        rw [if_pos e] at hg
        exact hg h1
      · rw [if_neg (by omega)]
        rw [if_neg (by omega),if_pos e] at hg
        exact hg h1
    · rw [if_neg h2];exact h
theorem Vw.tell_seq (v:Vw) (o:Out):(v.tell o).seq=v.seq:=by
  unfold Vw.tell Vw.loaded Vw.lives
  repeat' split
  all_goals rfl
theorem VwF.stale (hh:Hl c V v) (hs:v.s=2):VwF c V v r:=⟨hh, .inl hs⟩
theorem beg_stale (hs:v.s=2) (ok:Bool):v.beg ok=v∧v.begB ok=false:=by
  unfold Vw.beg Vw.begB
  rw [if_pos hs,if_pos hs];exact ⟨rfl,rfl⟩
theorem beg_ok (hs:v.s≠2):v.beg true={ v with val:=0,step:=0,s:=0 }∧v.begB true=true:=by
  unfold Vw.beg Vw.begB
  rw [if_neg hs,if_neg hs];exact ⟨rfl,rfl⟩
theorem VwF.cell (hh:Hl c V v) {a:Int} (hk:7≤(c.what a).1∧(c.what a).1<16) (ha:Tx c a):VwF c V (v.cell c a) (some (V a)):=by
  unfold Vw.cell
  have e:(decide (7≤(c.what a).1) && decide ((c.what a).1<16))=true:=by simp [hk.1,hk.2]
  rw [e]
  by_cases hs:v.s=2
  · obtain ⟨h1,h2⟩:=beg_stale hs true
    rw [h1,h2];exact .stale hh hs
  · obtain ⟨h1,h2⟩:=beg_ok hs
    rw [h1,h2]
    exact ⟨hh, .inr (.inr (.inr (.inl ⟨rfl,rfl,ha,rfl⟩)))⟩
theorem VwF.touch (hh:Hl c V v) (hs:v.s=0) (hv:v.val=0) {b:Int} (hb:0≤b∧b<c.blocks) {a:Int} (hx:a = -1∨Tx c a):VwF c V (v.touch b a) (rdB c V b a):=by
  unfold Vw.touch
  split
  · next e =>
    rcases hh with h|h
    · omega
    · exact VwF.lives (v:={ v with block:=b,at_:=a,step:=1 }) hs hv hb (by rw [←e];exact h.2.2) hx rfl
  · exact ⟨hh, .inr (.inr (.inr (.inr ⟨hs, .inl rfl,hv,hb.1,hb.2,hx,rfl⟩)))⟩
theorem VwF.word (hh:Hl c V v) {b w:Int} (hb:0≤b∧b<c.blocks) (ha:c.at 16 b w≠-1) (hx:Tx c (c.at 16 b w)):VwF c V (v.word c b w) (rdB c V b (c.at 16 b w)):=by
  unfold Vw.word
  have e:(c.at 16 b w != -1)=true:=by simpa using ha
  rw [e]
  by_cases hs:v.s=2
  · obtain ⟨h1,h2⟩:=beg_stale hs true
    rw [h1,h2];exact .stale hh hs
  · obtain ⟨h1,h2⟩:=beg_ok hs
    rw [h1,h2]
    exact VwF.touch (v:={ v with val:=0,step:=0,s:=0 }) hh rfl rfl hb (.inr hx)
theorem VwF.live (hh:Hl c V v) {b:Int} (hb:0≤b∧b<c.blocks) (ha:c.at 11 b 0≠-1):VwF c V (v.live c b) (rdB c V b (-1)):=by
  unfold Vw.live
  have e:(c.at 11 b 0 != -1)=true:=by simpa using ha
  rw [e]
  by_cases hs:v.s=2
  · obtain ⟨h1,h2⟩:=beg_stale hs true
    rw [h1,h2];exact .stale hh hs
  · obtain ⟨h1,h2⟩:=beg_ok hs
    rw [h1,h2]
    exact VwF.touch (v:={ v with val:=0,step:=0,s:=0 }) hh rfl rfl hb (.inl rfl)
theorem Vw.beg_seq (v:Vw) (ok:Bool):(v.beg ok).seq=v.seq:=by unfold Vw.beg;split<;>rfl
theorem Vw.touch_seq (v:Vw) (b a:Int):(v.touch b a).seq=v.seq:=by
  unfold Vw.touch Vw.lives
  repeat' split
  all_goals rfl
theorem Vw.cell_seq (c:Cfg) (v:Vw) (a:Int):(v.cell c a).seq=v.seq:=by
  unfold Vw.cell
  split
  · exact v.beg_seq _
  · exact v.beg_seq _
theorem Vw.word_seq (c:Cfg) (v:Vw) (b w:Int):(v.word c b w).seq=v.seq:=by
  unfold Vw.word
  split
  · rw [Vw.touch_seq];exact v.beg_seq _
  · exact v.beg_seq _
theorem Vw.live_seq (c:Cfg) (v:Vw) (b:Int):(v.live c b).seq=v.seq:=by
  unfold Vw.live
  split
  · rw [Vw.touch_seq];exact v.beg_seq _
  · exact v.beg_seq _
end
end Go.Proofs.YthmbgodcpgkkeaaGreat
end
section
namespace Go.Proofs.YthmbgodcpgkkeaaGreat
set_option maxRecDepth 100000
section
variable {c:Cfg} {V:Int→Nat} {fs ls R:List Nat} {B:List (Int×List Nat)} {b:Nat} {puts:List (Int×Nat)} {room:Nat}
theorem at_not {kind i j:Int} (hc:Small c) (hk:7≤kind∧kind≤16) (h:0≤i∧i<(c.cnt kind).1∧0≤j∧j<(c.cnt kind).2):c.at kind i j≠-1:=(at_in hc hk h).ne hc
theorem takeN_v (V:Int→Nat) (hc:Small c) (hb:(b:Int)<c.blocks) (hr:puts.length+9≤room):∀ k:Nat,k≤8→ovl (takeN c room puts b k) V (c.at 11 b 0)=1∧(∀ w:Nat,w<k→ovl (takeN c room puts b k) V (c.at 16 b w)=0)∧(∀ a,a≠c.at 11 b 0→(∀ w:Nat,w<k→a≠c.at 16 b w)→ovl (takeN c room puts b k) V a=ovl puts V a)
  | 0,_=>by
    have e:ovl (takeN c room puts b 0) V=updV (ovl puts V) (c.at 11 b 0) 1:=by
      show ovl (putP room puts (c.at 11 b 0) 1) V=_
      rw [putP_ovl V (by omega)]
    rw [e]
    exact ⟨updV_same _ _ _,fun w hw=>absurd hw (Nat.not_lt_zero _),fun a h1 _=>updV_ne _ h1⟩
  | k+1,hk=>by
    have hl:=takeN_len c room puts b k
    obtain ⟨i1,i2,i3⟩:=takeN_v V hc hb hr k (by omega)
    have e:ovl (takeN c room puts b (k+1)) V=updV (ovl (takeN c room puts b k) V) (c.at 16 b k) 0:=by
      show ovl (putP room (takeN c room puts b k) (c.at 16 b k) 0) V=_
      rw [putP_ovl V (by omega)]
    rw [e]
    refine ⟨?_,fun w hw=>?_,fun a h1 h2=>?_⟩
    · rw [updV_ne _ (ne_kind hc (by decide) (by decide) (in11 hb) (in16 hb (by omega)) (by omega))];exact i1
    · by_cases ew:w=k
      · subst ew;exact updV_same _ _ _
      · rw [updV_ne _ (ne_kind hc (by decide) (by decide) (in16 hb (by omega)) (in16 hb (by omega)) (by omega))];exact i2 w (by omega)
    · rw [updV_ne _ (h2 k (by omega))];exact i3 a h1 fun w hw=>h2 w (by omega)
theorem RepV.takeP (hc:Small c) (h:RepV c (ovl puts V) (fs++[b]) ls R B) {nt:Int} (hn:nt=(fs.length:Int)+1) (hr:puts.length+9≤room):(takeP c room nt puts b).1=(fs.length:Int)∧(takeP c room nt puts b).2.length≤puts.length+9∧RepV c (ovl (takeP c room nt puts b).2 V) fs ls R (mput B ((b:Int)+1) zero8):=by
  have hb:=(h.free b (List.mem_append_right _ (List.mem_singleton_self b))).1
  have hl:=takeN_len c room puts b 8
  have h11:=at_not hc (by decide) (in11 hb)
  have e:Go.Proofs.YthmbgodcpgkkeaaGreat.takeP c room nt puts b=(nt - 1,takeN c room puts b 8):=by
    unfold Go.Proofs.YthmbgodcpgkkeaaGreat.takeP
    rw [if_neg]
    rintro (e|e)
    · omega
    · exact h11 e
  obtain ⟨h1,h2,h3⟩:=takeN_v V hc hb hr 8 (Nat.le_refl _)
  generalize takeN c room puts b 8=T at hl e h1 h2 h3
  rw [e]
  refine ⟨by dsimp only;omega,by dsimp only;omega, ?_⟩
  dsimp only
  exact h.take hc h1 h2 h3
theorem RepV.giveP (hc:Small c) (h:RepV c (ovl puts V) fs ls R B) (hb:(b:Int)<c.blocks) {l:List Nat} (e:mget B ((b:Int)+1)=some l) {nl:Int} (hn:nl=(ls.length:Int)) (hlt:(ls.length:Int)<c.limit) (hr:puts.length+2≤room):(giveP c room nl puts b).1=((ls++[b]).length:Int)∧(giveP c room nl puts b).2.length≤puts.length+2∧RepV c (ovl (giveP c room nl puts b).2 V) fs (ls++[b]) R (mdel B ((b:Int)+1)):=by
  have h11:=at_not hc (by decide) (in11 hb)
  have hl1:=putP_len room puts (c.at 11 b 0) 2
  have hl2:=putP_len room (putP room puts (c.at 11 b 0) 2) (c.at 15 ls.length 0) b
  subst hn
  have e2:Go.Proofs.YthmbgodcpgkkeaaGreat.giveP c room (ls.length:Int) puts b=((ls.length:Int)+1,putP room (putP room puts (c.at 11 b 0) 2) (c.at 15 ls.length 0) b):=by
    unfold Go.Proofs.YthmbgodcpgkkeaaGreat.giveP
    rw [if_neg]
    rintro (e|e)
    · omega
    · exact h11 e
  rw [e2]
  have hn:=ne_kind hc (by decide) (by decide) (in11 hb) (in15 hlt) (by omega)
  have eo:ovl (putP room (putP room puts (c.at 11 b 0) 2) (c.at 15 ls.length 0) b) V=updV (updV (ovl puts V) (c.at 11 b 0) 2) (c.at 15 ls.length 0) b:=by
    rw [putP_ovl V (by omega),putP_ovl V (by omega)]
  refine ⟨by rw [List.length_append,List.length_singleton];dsimp only;omega,by dsimp only;omega, ?_⟩
  dsimp only
  rw [eo]
  refine h.give hc hb e hlt ?_ (updV_same _ _ _) fun a h1 h2=>?_
  · rw [updV_ne _ hn,updV_same]
  · rw [updV_ne _ h2,updV_ne _ h1]
end
end Go.Proofs.YthmbgodcpgkkeaaGreat
end
section
namespace Go.Proofs.YthmbgodcpgkkeaaGreat
set_option maxRecDepth 100000
theorem known_of {P:List (Int×Nat)} {a:Int} {x:Nat} (h:∀ V,ovl P V a=x):mget (allP P) a=some x:=by
  cases e:mget (allP P) a with
  | none =>
    have:=h (fun _=>x+1)
    rw [ovl_none e] at this
    omega
  | some y =>
    have:=h (fun _=>0)
    rw [ovl_some e] at this
    rw [this]
theorem same_of {P P':List (Int×Nat)} {a:Int} (h:∀ V,ovl P' V a=ovl P V a):mget (allP P') a=mget (allP P) a:=by
  cases e:mget (allP P) a with
  | some y=>exact known_of fun V=>by rw [h V,ovl_some e]
  | none =>
    cases e':mget (allP P') a with
    | none=>rfl
    | some y =>
      have:=h (fun _=>y+1)
      rw [ovl_none e,ovl_some e'] at this
      omega
theorem putP_get {room:Nat} {puts:List (Int×Nat)} {a:Int} {v:Nat} (h:puts.length<room) (x:Int):mget (allP (putP room puts a v)) x=if a=x then some v else mget (allP puts) x:=by
  unfold putP
  rw [if_neg]
  · rw [allP_snoc,gput]
  · rintro ⟨_,h2⟩
    have:=allP_len puts
    omega
structure Pk (c:Cfg) (V:Int→Nat) (puts:List (Int×Nat)):Prop where
  w:∀ b w:Nat,(b:Int)<c.blocks→w<8→(mget (allP puts) (c.at 16 b w)).isSome=true→(mget (allP puts) (c.at 11 b 0)).isSome=true∨V (c.at 11 b 0)=1
  l:∀ b:Nat,(b:Int)<c.blocks→mget (allP puts) (c.at 11 b 0)=some 1→∀ w:Nat,w<8→(mget (allP puts) (c.at 16 b w)).isSome=true
  t:mget (allP puts) (c.at 12 0 0)=none
  m:mget (allP puts) (c.at 14 0 0)=none
section
variable {c:Cfg} {V:Int→Nat} {b:Nat} {puts:List (Int×Nat)} {room:Nat}
theorem Pk.nil (c:Cfg) (V:Int→Nat):Pk c V []:=⟨fun b w _ _ h=>(by cases h),fun b _ h=>(by cases h),rfl,rfl⟩
theorem Pk.put (h:Pk c V puts) (hr:puts.length<room) {a:Int} (v:Nat) (h11:∀ b:Nat,(b:Int)<c.blocks→a≠c.at 11 b 0) (h16:∀ b w:Nat,(b:Int)<c.blocks→w<8→a=c.at 16 b w→(mget (allP puts) (c.at 11 b 0)).isSome=true∨V (c.at 11 b 0)=1) (h12:a≠c.at 12 0 0) (h14:a≠c.at 14 0 0):Pk c V (putP room puts a v):=by
  refine ⟨fun b w hb hw hs=>?_,fun b hb hs w hw=>?_,by rw [putP_get hr,if_neg h12];exact h.t,by rw [putP_get hr,if_neg h14];exact h.m⟩
  · rw [putP_get hr,if_neg (h11 b hb)]
    rw [putP_get hr] at hs
    by_cases e:a=c.at 16 b w
    · exact h16 b w hb hw e
    · rw [if_neg e] at hs;exact h.w b w hb hw hs
  · rw [putP_get hr,if_neg (h11 b hb)] at hs
    rw [putP_get hr]
    split
    · rfl
    · exact h.l b hb hs w hw
theorem Pk.root (hc:Small c) (h:Pk c V puts) (hr:puts.length<room) {k:Nat} (hk:k<16) (v:Nat):Pk c V (putP room puts (c.at 10 k 0) v) :=
  h.put hr v (fun b hb=>ne_kind hc (by decide) (by decide) (in10 c hk) (in11 hb) (by omega)) (fun b w hb hw e=>absurd e (ne_kind hc (by decide) (by decide) (in10 c hk) (in16 hb hw) (by omega))) (ne_kind hc (by decide) (by decide) (in10 c hk) (in12 c) (by omega)) (ne_kind hc (by decide) (by decide) (in10 c hk) (in14 c) (by omega))
theorem Pk.life (hc:Small c) (h:Pk c V puts) (hr:puts.length<room) (hb:(b:Int)<c.blocks) {v:Nat} (hv:v≠1):Pk c V (putP room puts (c.at 11 b 0) v):=by
  refine ⟨fun b' w hb' hw hs=>?_,fun b' hb' hs w hw=>?_,by rw [putP_get hr,if_neg (ne_kind hc (by decide) (by decide) (in11 hb) (in12 c) (by omega))];exact h.t,by rw [putP_get hr,if_neg (ne_kind hc (by decide) (by decide) (in11 hb) (in14 c) (by omega))];exact h.m⟩
  · rw [putP_get hr,if_neg (ne_kind hc (by decide) (by decide) (in11 hb) (in16 hb' hw) (by omega))] at hs
    rw [putP_get hr]
    split
    · exact .inl rfl
    · exact h.w b' w hb' hw hs
  · rw [putP_get hr] at hs⊢
    by_cases e:c.at 11 b 0=c.at 11 b' 0
    · rw [if_pos e] at hs
      injection hs with hs
      exact absurd hs hv
    · rw [if_neg e] at hs
      rw [if_neg (ne_kind hc (by decide) (by decide) (in11 hb) (in16 hb' hw) (by omega))]
      exact h.l b' hb' hs w hw
theorem Pk.other (hc:Small c) (h:Pk c V puts) (hr:puts.length<room) {kind i j:Int} (hk:7≤kind∧kind≤16) (h1:kind≠11∧kind≠12∧kind≠14) (h2:kind≠16) (hi:0≤i∧i<(c.cnt kind).1∧0≤j∧j<(c.cnt kind).2) (v:Nat):Pk c V (putP room puts (c.at kind i j) v) :=
  h.put hr v (fun b hb=>ne_kind hc hk (by decide) hi (in11 hb) (by omega)) (fun b w hb hw e=>absurd e (ne_kind hc hk (by decide) hi (in16 hb hw) (by omega))) (ne_kind hc hk (by decide) hi (in12 c) (by omega)) (ne_kind hc hk (by decide) hi (in14 c) (by omega))
theorem Pk.word (hc:Small c) (h:Pk c V puts) (hr:puts.length<room) {w:Nat} (hb:(b:Int)<c.blocks) (hw:w<8) (hl:ovl puts V (c.at 11 b 0)=1) (v:Nat):Pk c V (putP room puts (c.at 16 b w) v) :=
  h.put hr v (fun b' hb'=>ne_kind hc (by decide) (by decide) (in16 hb hw) (in11 hb') (by omega)) (fun b' w' hb' hw' e=>by
    have e2:b'=b:=Decidable.by_contra fun hn=>ne_kind hc (by decide) (by decide) (in16 hb hw) (in16 hb' hw') (by omega) e
    subst e2
    cases e3:mget (allP puts) (c.at 11 b' 0) with
    | some x=>exact .inl rfl
    | none=>exact .inr (by rw [ovl_none e3] at hl;exact hl)) (ne_kind hc (by decide) (by decide) (in16 hb hw) (in12 c) (by omega)) (ne_kind hc (by decide) (by decide) (in16 hb hw) (in14 c) (by omega))
theorem Pk.take (hc:Small c) (h:Pk c V puts) (hr:puts.length+9≤room) (hb:(b:Int)<c.blocks) {nt:Int} (hn:nt≠0):Pk c V (takeP c room nt puts b).2:=by
  have h11:=at_not hc (by decide) (in11 hb)
  have e:takeP c room nt puts b=(nt - 1,takeN c room puts b 8):=by
    unfold takeP
    rw [if_neg]
    rintro (e|e)
    · exact hn e
    · exact h11 e
  have hv:=fun V=>takeN_v (c:=c) (room:=room) (puts:=puts) V hc hb hr 8 (Nat.le_refl _)
  rw [e]
  dsimp only
  generalize takeN c room puts b 8=T at hv
  have k11:=known_of fun V=>(hv V).1
  have k16:∀ w:Nat,w<8→mget (allP T) (c.at 16 b w)=some 0:=fun w hw=>known_of fun V=>(hv V).2.1 w hw
  have ko:∀ a,a≠c.at 11 b 0→(∀ w:Nat,w<8→a≠c.at 16 b w)→mget (allP T) a=mget (allP puts) a:=fun a h1 h2=>same_of fun V=>(hv V).2.2 a h1 h2
  have n11:∀ b':Nat,(b':Int)<c.blocks→b'≠b→mget (allP T) (c.at 11 b' 0)=mget (allP puts) (c.at 11 b' 0):=fun b' hb' hne =>
    ko _ (ne_kind hc (by decide) (by decide) (in11 hb') (in11 hb) (by omega)) fun w hw=>ne_kind hc (by decide) (by decide) (in11 hb') (in16 hb hw) (by omega)
  have n16:∀ b' w:Nat,(b':Int)<c.blocks→w<8→b'≠b→mget (allP T) (c.at 16 b' w)=mget (allP puts) (c.at 16 b' w):=fun b' w hb' hw' hne =>
    ko _ (ne_kind hc (by decide) (by decide) (in16 hb' hw') (in11 hb) (by omega)) fun w2 hw2=>ne_kind hc (by decide) (by decide) (in16 hb' hw') (in16 hb hw2) (by omega)
  refine ⟨fun b' w hb' hw hs=>?_,fun b' hb' hs w hw=>?_, ?_, ?_⟩
  rotate_left 2
  · rw [ko _ (ne_kind hc (by decide) (by decide) (in12 c) (in11 hb) (by omega)) fun w hw=>ne_kind hc (by decide) (by decide) (in12 c) (in16 hb hw) (by omega)];exact h.t
  · rw [ko _ (ne_kind hc (by decide) (by decide) (in14 c) (in11 hb) (by omega)) fun w hw=>ne_kind hc (by decide) (by decide) (in14 c) (in16 hb hw) (by omega)];exact h.m
  · by_cases eb:b'=b
    · subst eb;exact .inl (by rw [k11];rfl)
    · rw [n11 b' hb' eb]
      rw [n16 b' w hb' hw eb] at hs
      exact h.w b' w hb' hw hs
  · by_cases eb:b'=b
    · subst eb;rw [k16 w hw];rfl
    · rw [n11 b' hb' eb] at hs
      rw [n16 b' w hb' hw eb]
      exact h.l b' hb' hs w hw
theorem Pk.give (hc:Small c) (h:Pk c V puts) (hr:puts.length+2≤room) (hb:(b:Int)<c.blocks) {n:Nat} (hlt:(n:Int)<c.limit):Pk c V (giveP c room (n:Int) puts b).2:=by
  have h11:=at_not hc (by decide) (in11 hb)
  have hl1:=putP_len room puts (c.at 11 b 0) 2
  have e2:giveP c room (n:Int) puts b=((n:Int)+1,putP room (putP room puts (c.at 11 b 0) 2) (c.at 15 n 0) b):=by
    unfold giveP
    rw [if_neg]
    rintro (e|e)
    · omega
    · exact h11 e
  rw [e2]
  exact (h.life hc (by omega) hb (by decide)).other hc (by omega) (by decide) (by decide) (by decide) (in15 hlt) b
end
end Go.Proofs.YthmbgodcpgkkeaaGreat
end
section
namespace Go.Proofs.YthmbgodcpgkkeaaGreat
set_option maxRecDepth 100000
def rmOf (c:Cfg) (m:Xm) (R:List Nat) (B:List (Int×List Nat)) (P:List Nat):Rm:=⟨m.x.args,m.x.regs,c.writes,0,0,m.x.steps,m.x.writes,m.x.pc,false,R,B,P,m.news⟩
structure Bg where
  who:Int
  wt:Int
  wl:Int
  sq:Nat
  p0:Nat
  F0:Nat
  L0:Nat
structure Fits (c:Cfg) (room:Nat) (g:Bg):Prop where
  hc:Small c
  room:(g.p0:Int)+c.writes≤room
  lim:2 * (g.L0:Int)+c.writes≤2 * c.limit
structure Rk (c:Cfg) (V:Int→Nat) (g:Bg) (m:Xm) (fs ls R:List Nat) (B:List (Int×List Nat)):Prop where
  rep:RepV c (ovl m.puts V) fs ls R B
  pk:Pk c V m.puts
  nt:m.p.nt=(fs.length:Int)
  nl:m.p.nl=(ls.length:Int)
  cnt:fs.length+m.news.length=g.F0
  lsz:2 * (ls.length:Int)≤2 * g.L0+m.x.writes
  plen:(m.puts.length:Int)≤g.p0+m.x.writes
  w0:0≤m.x.writes
  w1:m.x.writes≤c.writes
  held:Hl c V m.v
  sq:m.v.seq=g.sq
  regs:m.x.regs.length=16
  nw:9 * (m.news.length:Int)≤m.x.writes
  lg:g.L0≤ls.length
structure Rn (c:Cfg) (V:Int→Nat) (g:Bg) (m:Xm) (fs ls R:List Nat) (B:List (Int×List Nat)):Prop extends Rk c V g m fs ls R B where
  s:m.x.s=0
  rc:m.x.rc=0
  waits:m.x.waits=false
inductive AccR (c:Cfg) (V:Int→Nat) (g:Bg) (nw:List Nat) (f:List Nat→Rm×Int) (m':Xm):Prop
  | run (add fs ls R:List Nat) (B:List (Int×List Nat)):Rn c V g m' fs ls R B→m'.news=nw++add→(∀ P,f (add++P)=(rmOf c m' R B P,0))→AccR c V g nw f m'
  | fail:m'.x.s=1→m'.x.rc≠0→m'.news=nw→(m'.x.rc=43→nw.length=g.F0)→(f []).2=m'.x.rc→(f []).1.val=m'.x.rv→(f []).1.news=nw→AccR c V g nw f m'
  | ret (fs ls R:List Nat) (B:List (Int×List Nat)):m'.x.s=1→m'.x.rc=0→Rk c V g m' fs ls R B→m'.news=nw→f []=({ rmOf c m' R B [] with val:=m'.x.rv,ended:=true },0)→AccR c V g nw f m'
section
variable {c:Cfg} {V:Int→Nat} {g:Bg} {room:Nat} {m:Xm} {fs ls R:List Nat} {B:List (Int×List Nat)}
theorem AccR.fails {nw:List Nat} {f:List Nat→Rm×Int} {m1:Xm} {e:Int} {v:Nat} (he:e≠0) (hn:m1.news=nw) (h43:e=43→nw.length=g.F0) (h:∃ r:Rm,f []=(r,e)∧r.val=v∧r.news=nw):AccR c V g nw f (m1.fail e v):=by
  obtain ⟨r,h1,h2,h3⟩:=h
  exact .fail rfl he hn h43 (by rw [h1];rfl) (by rw [h1];exact h2) (by rw [h1];exact h3)
theorem Rn.reg (h:Rn c V g m fs ls R B) (a:Int) (val:Nat):Rn c V g { m with x:={ m.x with regs:=m.x.regs.set a.toNat val } } fs ls R B :=
  ⟨⟨h.rep,h.pk,h.nt,h.nl,h.cnt,h.lsz,h.plen,h.w0,h.w1,h.held,h.sq,by dsimp only;rw [List.length_set];exact h.regs,h.nw,h.lg⟩,h.s,h.rc,h.waits⟩
theorem rm_pay_t (P:List Nat) (h:(m.pay c).2=true):(rmOf c m R B P).pay m.x.i.op=(rmOf c (m.pay c).1 R B P,0):=by
  unfold Xm.pay at h⊢
  unfold Rm.pay rmOf
  dsimp only
  split at h
  · cases h
  · next hn=>rw [if_neg hn,if_neg hn]
theorem rm_pay_f (P:List Nat) (h:(m.pay c).2=false):(rmOf c m R B P).pay m.x.i.op=(rmOf c m R B P,42):=by
  unfold Xm.pay at h
  unfold Rm.pay rmOf
  dsimp only
  split at h
  · next hn=>rw [if_pos hn]
  · cases h
theorem Rn.pay (h:Rn c V g m fs ls R B) (hp:(m.pay c).2=true):Rn c V g (m.pay c).1 fs ls R B∧(m.pay c).1.x.writes=m.x.writes+costs m.x.i.op∧m.x.writes+costs m.x.i.op≤c.writes:=by
  have hco:=costs_le m.x.i.op
  have hw:m.x.writes+costs m.x.i.op≤c.writes:=by
    unfold Xm.pay at hp
    split at hp
    · cases hp
    · omega
  rw [Xm.pay_t hp]
  have:=h.lsz;have:=h.plen;have:=h.w0
  exact ⟨⟨⟨h.rep,h.pk,h.nt,h.nl,h.cnt,by dsimp only;omega,by dsimp only;omega,by dsimp only;omega,hw,h.held,h.sq,h.regs,by have:=h.nw;dsimp only;omega,h.lg⟩,h.s,h.rc,h.waits⟩,rfl,hw⟩
theorem put_acc (hb:Fits c room g) (h:Rn c V g m fs ls R B) (hp:(m.pay c).2=true) (hco:costs m.x.i.op=1) {a:Int} {v:Nat} {R':List Nat} {B':List (Int×List Nat)} (hrep:RepV c (updV (ovl m.puts V) a v) fs ls R' B') (hpk:Pk c V (putP room m.puts a v)):Rn c V g { (m.pay c).1 with puts:=putP room (m.pay c).1.puts a v } fs ls R' B':=by
  obtain ⟨h1,h2,h3⟩:=h.pay hp
  have hpl:=h.plen;have hr:=hb.room;have hw:=h.w0
  have hl:=putP_len room m.puts a v
  have hu:(m.pay c).1.puts=m.puts:=by rw [Xm.pay_t hp]
  refine ⟨⟨?_, ?_,h1.nt,h1.nl,h1.cnt,h1.lsz, ?_,h1.w0,h1.w1,h1.held,h1.sq,h1.regs,h1.nw,h1.lg⟩,h1.s,h1.rc,h1.waits⟩
  · dsimp only
    rw [hu,putP_ovl V (by omega)];exact hrep
  · dsimp only
    rw [hu];exact hpk
  · dsimp only
    rw [hu,h2];omega
theorem acc9 (h:Rn c V g m fs ls R B) (hop:m.x.i.op=9) (hk:m.x.reg m.x.i.b<16):AccR c V g m.news (fun P=>(rmOf c m R B P).root m.x.i) (m.goOn c room (R.getD (m.x.reg m.x.i.b) 0)):=by
  unfold Xm.goOn
  rw [if_pos (.inl hop)]
  refine .run [] fs ls R B (h.reg _ _) (by simp) fun P=>?_
  dsimp only
  unfold Rm.root
  rw [if_neg (show ¬ 16≤(rmOf c m R B ([]++P)).reg m.x.i.b from by show ¬ 16≤m.x.reg m.x.i.b;omega),if_pos hop]
  rfl
theorem acc10 (hb:Fits c room g) (h:Rn c V g m fs ls R B) (hop:m.x.i.op=10) (hk:m.x.reg m.x.i.b<16):AccR c V g m.news (fun P=>(rmOf c m R B P).root m.x.i) (if (m.pay c).2 then { (m.pay c).1 with puts:=putP room (m.pay c).1.puts (c.at 10 (m.x.reg m.x.i.b) 0) (m.x.reg m.x.i.a) } else (m.pay c).1):=by
  have hroot:∀ P,(rmOf c m R B P).root m.x.i=if ((rmOf c m R B P).pay m.x.i.op).2≠0 then (rmOf c m R B P).pay m.x.i.op else ({ ((rmOf c m R B P).pay m.x.i.op).1 with roots:=((rmOf c m R B P).pay m.x.i.op).1.roots.set (m.x.reg m.x.i.b) (m.x.reg m.x.i.a) },0):=fun P=>by
    unfold Rm.root
    rw [if_neg (show ¬ 16≤(rmOf c m R B P).reg m.x.i.b from by show ¬ 16≤m.x.reg m.x.i.b;omega),if_neg (by omega)]
    rfl
  have hpl:=h.plen;have hr:=hb.room;have hw:=h.w0
  cases hp:(m.pay c).2 with
  | false =>
    rw [if_neg (by decide),Xm.pay_f hp]
    refine .fails (by decide) rfl (fun e=>by cases e) ⟨rmOf c m R B [], ?_,rfl,rfl⟩
    rw [hroot,rm_pay_f [] hp];rfl
  | true =>
    rw [if_pos rfl]
    have hco:costs m.x.i.op=1:=by rw [hop];rfl
    obtain ⟨_,hw2,hw3⟩:=h.pay hp
    refine .run [] fs ls (R.set (m.x.reg m.x.i.b) (m.x.reg m.x.i.a)) B (put_acc hb h hp hco (h.rep.setRoot hb.hc hk _) (h.pk.root hb.hc (by omega) hk _)) (by dsimp only;rw [Xm.pay_news];simp) fun P=>?_
    dsimp only
    rw [hroot,List.nil_append,rm_pay_t P hp,if_neg (fun e=>e rfl)]
    rfl
end
end Go.Proofs.YthmbgodcpgkkeaaGreat
end
