/-
  What a call touches, in plain terms: places. What a memory holds, read through what is to be written: roots and blocks, in plain terms.
-/
import Derived.Test.YthmbgodcpgkkeaaGreatCell
import Derived.Test.YthmbgodcpgkkeaaGreatMt
import Derived.Test.YthmbgodcpgkkeaaGreatBa
section
namespace Go.Proofs.YthmbgodcpgkkeaaGreat
theorem divmod_own {s i r:Int} (h0:0≤r) (h1:r<s):(i * s+r) / s=i∧(i * s+r) % s=r:=by
  have e:i * s+r=r+s * i:=by rw [Int.mul_comm s i,Int.add_comm]
  constructor
  · rw [e,Int.add_mul_ediv_left _ _ (by omega),Int.ediv_eq_zero_of_lt h0 h1];omega
  · rw [e,Int.add_mul_emod_self_left,Int.emod_eq_of_lt h0 h1]
theorem at_own {c:Cfg} (hc:Small c) {kind i k:Int} (hk:1≤kind∧kind≤6) (hi:0≤i∧i<c.threads) (h:0≤k∧k<(c.cnt kind).2):c.what (c.at kind i k)=(kind,i,k):=by
  have hcap:=hc.cap
  have hm:=hc.imul i hi.1 hi.2
  have hn:=hc.nums.f17
  have hs:c.stride=8+c.cap:=rfl
  have h7:c.f7=1+c.threads * c.stride:=rfl
  have hle:c.f7≤c.f17:=by
    have:=hc.t0;have:=hc.b0;have:=hc.limit
    simp only [Cfg.f10,Cfg.f11,Cfg.f12,Cfg.f13,Cfg.f14,Cfg.f15,Cfg.f16,Cfg.f17];omega
  have hcnt:(c.cnt kind).1=c.threads:=by
    unfold Cfg.cnt
    rw [if_neg (by omega)]
    split
    · rfl
    split
    · rfl
    · rw [if_pos (by omega)]
  have hown:0≤ownOf kind∧ownOf kind+k<c.stride:=by
    unfold ownOf
    unfold Cfg.cnt at h
    rw [if_neg (by omega)] at h
    repeat' split
    all_goals first|(rw [if_pos (by omega)] at h;simp only at h;omega)|(rw [if_neg (by omega),if_pos (by omega)] at h;simp only at h;omega)|(rw [if_neg (by omega),if_neg (by omega),if_pos (by omega)] at h;simp only at h;omega)
  have hstp:c.stp kind=c.stride:=by unfold Cfg.stp;rw [if_pos hk]
  have hbase:c.base kind=1+ownOf kind:=by unfold Cfg.base;rw [if_neg (by omega),if_pos (by omega)]
  have hat:c.at kind i k=1+(i * c.stride+(ownOf kind+k)):=by
    unfold Cfg.at
    rw [hcnt,if_pos ⟨hi.1,hi.2,h.1,h.2⟩,hstp,hbase];omega
  obtain ⟨d1,d2⟩:=divmod_own (i:=i) (by omega:0≤ownOf kind+k) hown.2
  rw [hat]
  unfold Cfg.what
  rw [if_neg (by omega),if_neg (by omega),if_pos (by omega),show 1+(i * c.stride+(ownOf kind+k)) - 1=i * c.stride+(ownOf kind+k) by omega,d1,d2]
  have hk6:kind=1∨kind=2∨kind=3∨kind=4∨kind=5∨kind=6:=by omega
  rcases hk6 with rfl|rfl|rfl|rfl|rfl|rfl
  · have e:ownOf 1=0:=rfl
    have h:0≤k∧k<1:=h
    rw [e,if_neg (by omega),if_neg (by omega),if_neg (by omega),if_neg (by omega),if_neg (by omega)]
    congr 2;omega
  · have e:ownOf 2=1:=rfl
    have h:0≤k∧k<4:=h
    rw [e,if_neg (by omega),if_neg (by omega),if_neg (by omega),if_neg (by omega),if_pos (by omega)]
    congr 2;omega
  · have e:ownOf 3=5:=rfl
    have h:0≤k∧k<1:=h
    rw [e,if_neg (by omega),if_neg (by omega),if_neg (by omega),if_pos (by omega)]
    congr 2;omega
  · have e:ownOf 4=6:=rfl
    have h:0≤k∧k<1:=h
    rw [e,if_neg (by omega),if_neg (by omega),if_pos (by omega)]
    congr 2;omega
  · have e:ownOf 5=7:=rfl
    have h:0≤k∧k<1:=h
    rw [e,if_neg (by omega),if_pos (by omega)]
    congr 2;omega
  · have e:ownOf 6=8:=rfl
    rw [e,if_pos (by omega)]
    congr 2;omega
theorem at_rest {c:Cfg} (hc:Small c) {kind i k:Int} (hk:7≤kind∧kind≤16) (hi:0≤i∧i<(c.cnt kind).1) (h:0≤k∧k<(c.cnt kind).2):c.what (c.at kind i k)=(kind,i,k):=by
  have hcap:=hc.cap
  have hts:=hc.ts
  have h7:c.f7=1+c.threads * c.stride:=rfl
  have hb0:=hc.b0;have hl0:=hc.limit;have ht0:=hc.t0
  have h10:c.f10=c.f7+c.threads * 3:=rfl
  have h11:c.f11=c.f10+16:=rfl
  have h12:c.f12=c.f11+c.blocks:=rfl
  have h13:c.f13=c.f12+1:=rfl
  have h14:c.f14=c.f13+c.blocks:=rfl
  have h15:c.f15=c.f14+1:=rfl
  have h16:c.f16=c.f15+c.limit:=rfl
  have h17:c.f17=c.f16+c.blocks * 8:=rfl
  unfold Cfg.at
  rw [if_pos ⟨hi.1,hi.2,h.1,h.2⟩]
  have hk10:kind=7∨kind=8∨kind=9∨kind=10∨kind=11∨kind=12∨kind=13∨kind=14∨kind=15∨kind=16:=by omega
  unfold Cfg.what
  rcases hk10 with rfl|rfl|rfl|rfl|rfl|rfl|rfl|rfl|rfl|rfl
  · have hi:0≤i∧i<c.threads:=hi
    have h:0≤k∧k<1:=h
    rw [show c.base 7=c.f7+0 from rfl,show c.stp 7=3 from rfl,if_neg (by omega),if_neg (by omega),if_neg (by omega),if_pos (by omega)]
    congr 1
    · omega
    · congr 1<;>omega
  · have hi:0≤i∧i<c.threads:=hi
    have h:0≤k∧k<1:=h
    rw [show c.base 8=c.f7+1 from rfl,show c.stp 8=3 from rfl,if_neg (by omega),if_neg (by omega),if_neg (by omega),if_pos (by omega)]
    congr 1
    · omega
    · congr 1<;>omega
  · have hi:0≤i∧i<c.threads:=hi
    have h:0≤k∧k<1:=h
    rw [show c.base 9=c.f7+2 from rfl,show c.stp 9=3 from rfl,if_neg (by omega),if_neg (by omega),if_neg (by omega),if_pos (by omega)]
    congr 1
    · omega
    · congr 1<;>omega
  · have hi:0≤i∧i<16:=hi
    have h:0≤k∧k<1:=h
    rw [show c.base 10=c.f10 from rfl,show c.stp 10=1 from rfl,if_neg (by omega),if_neg (by omega),if_neg (by omega),if_neg (by omega),if_neg (by omega),if_neg (by omega),if_neg (by omega),if_neg (by omega),if_neg (by omega),if_neg (by omega)]
    congr 2<;>omega
  · have hi:0≤i∧i<c.blocks:=hi
    have h:0≤k∧k<1:=h
    rw [show c.base 11=c.f11 from rfl,show c.stp 11=1 from rfl,if_neg (by omega),if_neg (by omega),if_neg (by omega),if_neg (by omega),if_neg (by omega),if_neg (by omega),if_neg (by omega),if_neg (by omega),if_neg (by omega),if_pos (by omega)]
    congr 2<;>omega
  · have hi:0≤i∧i<1:=hi
    have h:0≤k∧k<1:=h
    rw [show c.base 12=c.f12 from rfl,show c.stp 12=1 from rfl,if_neg (by omega),if_neg (by omega),if_neg (by omega),if_neg (by omega),if_neg (by omega),if_neg (by omega),if_neg (by omega),if_neg (by omega),if_pos (by omega)]
    congr 2<;>omega
  · have hi:0≤i∧i<c.blocks:=hi
    have h:0≤k∧k<1:=h
    rw [show c.base 13=c.f13 from rfl,show c.stp 13=1 from rfl,if_neg (by omega),if_neg (by omega),if_neg (by omega),if_neg (by omega),if_neg (by omega),if_neg (by omega),if_neg (by omega),if_pos (by omega)]
    congr 2<;>omega
  · have hi:0≤i∧i<1:=hi
    have h:0≤k∧k<1:=h
    rw [show c.base 14=c.f14 from rfl,show c.stp 14=1 from rfl,if_neg (by omega),if_neg (by omega),if_neg (by omega),if_neg (by omega),if_neg (by omega),if_neg (by omega),if_pos (by omega)]
    congr 2<;>omega
  · have hi:0≤i∧i<c.limit:=hi
    have h:0≤k∧k<1:=h
    rw [show c.base 15=c.f15 from rfl,show c.stp 15=1 from rfl,if_neg (by omega),if_neg (by omega),if_neg (by omega),if_neg (by omega),if_neg (by omega),if_pos (by omega)]
    congr 2<;>omega
  · have hi:0≤i∧i<c.blocks:=hi
    have h:0≤k∧k<8:=h
    rw [show c.base 16=c.f16 from rfl,show c.stp 16=8 from rfl,if_neg (by omega),if_neg (by omega),if_neg (by omega),if_neg (by omega),if_pos (by omega)]
    congr 1
    congr 1<;>omega
end Go.Proofs.YthmbgodcpgkkeaaGreat
end
section
namespace Go.Proofs.YthmbgodcpgkkeaaGreat
set_option maxRecDepth 100000
theorem gput {κ β:Type} [DecidableEq κ] (k k':κ) (x:β):∀ m:List (κ×β),mget (mput m k x) k'=if k=k' then some x else mget m k'
  | []=>by
    unfold mput mget
    split<;>simp [mget]
  | (a,y)::m=>by
    unfold mput
    by_cases h:a=k
    · rw [if_pos h]
      unfold mget
      subst h
      split<;>rfl
    · rw [if_neg h]
      by_cases h2:a=k'
      · have:¬ k=k':=fun e=>h (h2.trans e.symm)
        rw [if_neg this]
        unfold mget
        rw [if_pos h2,if_pos h2]
      · have ih:=gput k k' x m
        unfold mget
        rw [if_neg h2,if_neg h2,ih]
theorem gdel_ne {κ β:Type} [DecidableEq κ] {k k':κ} (h:k≠k'):∀ {m:List (κ×β)},mget (mdel m k) k'=mget m k'
  | []=>rfl
  | (a,y)::m=>by
    unfold mdel
    by_cases h1:a=k
    · rw [if_pos h1]
      subst h1
      show mget m k'=if a=k' then some y else mget m k'
      rw [if_neg h]
    · rw [if_neg h1]
      show (if a=k' then some y else mget (mdel m k) k')=if a=k' then some y else mget m k'
      rw [gdel_ne h]
theorem gdel_none {κ β:Type} [DecidableEq κ] {k:κ}:∀ {m:List (κ×β)},¬ k∈m.map (·.1)→mget m k=none
  | [],_=>rfl
  | (a,y)::m,h=>by
    rw [List.map_cons,List.mem_cons,not_or] at h
    unfold mget
    rw [if_neg (fun e=>h.1 e.symm)]
    exact gdel_none h.2
theorem gdel {κ β:Type} [DecidableEq κ] {k:κ}:∀ {m:List (κ×β)},(m.map (·.1)).Nodup→mget (mdel m k) k=none
  | [],_=>rfl
  | (a,y)::m,h=>by
    rw [List.map_cons,List.nodup_cons] at h
    unfold mdel
    by_cases h1:a=k
    · rw [if_pos h1]
      subst h1
      exact gdel_none h.1
    · rw [if_neg h1]
      unfold mget
      rw [if_neg h1]
      exact gdel h.2
theorem gkey {κ β:Type} [DecidableEq κ] {k:κ} {x:β}:∀ {m:List (κ×β)},mget m k=some x→k∈m.map (·.1)
  | [],h=>by cases h
  | (a,y)::m,h=>by
    rw [List.map_cons]
    unfold mget at h
    split at h
    · next e=>subst e;exact List.mem_cons_self ..
    · exact List.mem_cons_of_mem _ (gkey h)
theorem gput_keys {κ β:Type} [DecidableEq κ] (k:κ) (x:β):∀ m:List (κ×β),(mput m k x).map (·.1)=if k∈m.map (·.1) then m.map (·.1) else m.map (·.1)++[k]
  | []=>rfl
  | (a,y)::m=>by
    unfold mput
    by_cases h:a=k
    · rw [if_pos h]
      subst h
      rw [if_pos (by rw [List.map_cons];exact List.mem_cons_self ..)];rfl
    · rw [if_neg h,List.map_cons,List.map_cons,gput_keys k x m]
      by_cases h2:k∈m.map (·.1)
      · rw [if_pos h2,if_pos (List.mem_cons_of_mem _ h2)]
      · rw [if_neg h2,if_neg (fun e=>(List.mem_cons.1 e).elim (fun e=>h e.symm) h2)];rfl
theorem gput_nod {κ β:Type} [DecidableEq κ] {k:κ} {x:β} {m:List (κ×β)} (h:(m.map (·.1)).Nodup):((mput m k x).map (·.1)).Nodup:=by
  rw [gput_keys]
  split
  · exact h
  · next hn =>
    rw [List.nodup_append]
    exact ⟨h,by simp,fun a ha b hb e=>by rw [List.mem_singleton] at hb;subst hb;subst e;exact hn ha⟩
theorem gput_len {κ β:Type} [DecidableEq κ] (k:κ) (x:β) (m:List (κ×β)):(mput m k x).length=if (mget m k).isSome=true then m.length else m.length+1:=by
  have h:=congrArg List.length (gput_keys k x m)
  rw [List.length_map] at h
  rw [h]
  by_cases hk:k∈m.map (·.1)
  · rw [if_pos hk,List.length_map]
    cases e:mget m k with
    | some y=>rfl
    | none =>
      exfalso
      have key:∀ {m:List (κ×β)},k∈m.map (·.1)→mget m k≠none:=by
        intro m
        induction m with
        | nil=>intro h;cases h
        | cons a m ih =>
          intro h
          rw [List.map_cons,List.mem_cons] at h
          obtain ⟨a1,a2⟩:=a
          unfold mget
          split
          · intro e;cases e
          · next hn=>exact ih (h.resolve_left fun e=>hn e.symm)
      exact key hk e
  · rw [if_neg hk,List.length_append,List.length_map,gdel_none hk];rfl
theorem gdel_sub {κ β:Type} [DecidableEq κ] (k:κ):∀ m:List (κ×β),(mdel m k).Sublist m
  | []=>List.Sublist.slnil
  | (a,y)::m=>by
    unfold mdel
    split
    · exact (List.Sublist.refl m).cons _
    · exact (gdel_sub k m).cons_cons _
theorem gdel_len {κ β:Type} [DecidableEq κ] {k:κ} {x:β}:∀ {m:List (κ×β)},mget m k=some x→(mdel m k).length+1=m.length
  | [],h=>by cases h
  | (a,y)::m,h=>by
    unfold mget at h
    unfold mdel
    split at h
    · next e=>rw [if_pos e];rfl
    · next e=>rw [if_neg e,List.length_cons,gdel_len h];rfl
def ovl (P:List (Int×Nat)) (V:Int→Nat) (a:Int):Nat:=(mget (allP P) a).getD (V a)
def updV (V:Int→Nat) (a:Int) (v:Nat) (x:Int):Nat:=if x=a then v else V x
theorem ovl_snoc (P:List (Int×Nat)) (V:Int→Nat) (a:Int) (v:Nat):ovl (P++[(a,v)]) V=updV (ovl P V) a v:=by
  funext x
  unfold ovl updV
  rw [allP_snoc,gput]
  by_cases h:a=x
  · rw [if_pos h,if_pos h.symm];rfl
  · rw [if_neg h,if_neg (fun e=>h e.symm)]
theorem ovl_none {P:List (Int×Nat)} {V:Int→Nat} {a:Int} (h:mget (allP P) a=none):ovl P V a=V a:=by unfold ovl;rw [h];rfl
theorem ovl_some {P:List (Int×Nat)} {V:Int→Nat} {a:Int} {v:Nat} (h:mget (allP P) a=some v):ovl P V a=v:=by unfold ovl;rw [h];rfl
theorem updV_same (V:Int→Nat) (a:Int) (v:Nat):updV V a v a=v:=if_pos rfl
theorem updV_ne {V:Int→Nat} {a x:Int} (v:Nat) (h:x≠a):updV V a v x=V x:=if_neg h
theorem at_ne {c:Cfg} (hc:Small c) {k1 i1 j1 k2 i2 j2:Int} (h1:7≤k1∧k1≤16) (h2:7≤k2∧k2≤16) (a1:0≤i1∧i1<(c.cnt k1).1) (b1:0≤j1∧j1<(c.cnt k1).2) (a2:0≤i2∧i2<(c.cnt k2).1) (b2:0≤j2∧j2<(c.cnt k2).2) (hn:¬ (k1=k2∧i1=i2∧j1=j2)):c.at k1 i1 j1≠c.at k2 i2 j2:=fun e=>by
  have w1:=at_rest hc h1 a1 b1
  have w2:=at_rest hc h2 a2 b2
  rw [e,w2] at w1
  injection w1 with x1 x2
  injection x2 with x2 x3
  exact hn ⟨x1.symm,x2.symm,x3.symm⟩
theorem cnt10 (c:Cfg):c.cnt 10=(16,1):=by unfold Cfg.cnt;simp
theorem cnt11 (c:Cfg):c.cnt 11=(c.blocks,1):=by unfold Cfg.cnt;simp
theorem cnt13 (c:Cfg):c.cnt 13=(c.blocks,1):=by unfold Cfg.cnt;simp
theorem cnt15 (c:Cfg):c.cnt 15=(c.limit,1):=by unfold Cfg.cnt;simp
theorem cnt16 (c:Cfg):c.cnt 16=(c.blocks,8):=by unfold Cfg.cnt;simp
theorem cnt12 (c:Cfg):c.cnt 12=(1,1):=by unfold Cfg.cnt;simp
theorem cnt14 (c:Cfg):c.cnt 14=(1,1):=by unfold Cfg.cnt;simp
structure RepV (c:Cfg) (V:Int→Nat) (fs ls:List Nat) (R:List Nat) (B:List (Int×List Nat)):Prop where
  rl:R.length=16
  root:∀ k:Nat,k<16→V (c.at 10 k 0)=R.getD k 0
  life:∀ b:Nat,(b:Int)<c.blocks→(V (c.at 11 b 0)=1↔(mget B ((b:Int)+1)).isSome=true)
  word:∀ b:Nat,(b:Int)<c.blocks→∀ l,mget B ((b:Int)+1)=some l→∀ w:Nat,w<8→V (c.at 16 b w)=l.getD w 0
  len:∀ p∈B,p.2.length=8
  keys:∀ p∈B,1≤p.1∧p.1≤c.blocks
  nod:(B.map (·.1)).Nodup
  free:∀ b∈fs,(b:Int)<c.blocks∧V (c.at 11 b 0)=0
  limbo:∀ b∈ls,(b:Int)<c.blocks∧V (c.at 11 b 0)=2
  stack:∀ (i:Nat) (h:i<fs.length),V (c.at 13 i 0)=fs[i]
  lim:∀ (i:Nat) (h:i<ls.length),V (c.at 15 i 0)=ls[i]
  fnod:fs.Nodup
  lnod:ls.Nodup
  cov:∀ b:Nat,(b:Int)<c.blocks→b∈fs∨b∈ls∨V (c.at 11 b 0)=1
  cnt:((fs.length+ls.length+B.length:Nat):Int)=c.blocks
  lsz:(ls.length:Int)≤c.limit
section
variable {c:Cfg} {V:Int→Nat} {fs ls R:List Nat} {B:List (Int×List Nat)}
theorem RepV.fsz (h:RepV c V fs ls R B):(fs.length:Int)≤c.blocks:=by have:=h.cnt;omega
theorem mget_len (h:RepV c V fs ls R B) {k:Int} {l:List Nat} (e:mget B k=some l):l.length=8:=h.len (k,l) (mget_mem e)
theorem RepV.setRoot (hc:Small c) (h:RepV c V fs ls R B) {k:Nat} (hk:k<16) (v:Nat):RepV c (updV V (c.at 10 k 0) v) fs ls (R.set k v) B:=by
  have n:∀ {kind:Int} {i j:Int},11≤kind∧kind≤16→0≤i∧i<(c.cnt kind).1→0≤j∧j<(c.cnt kind).2→updV V (c.at 10 k 0) v (c.at kind i j)=V (c.at kind i j):=fun {kind i j} hk2 hi hj =>
    updV_ne v (at_ne hc (by omega) (by omega) hi hj (by rw [cnt10];dsimp only;omega) (by rw [cnt10];dsimp only;decide) (by omega))
  have n11:∀ b:Nat,(b:Int)<c.blocks→updV V (c.at 10 k 0) v (c.at 11 b 0)=V (c.at 11 b 0):=fun b hb=>n (by decide) (by rw [cnt11];dsimp only;omega) (by rw [cnt11];dsimp only;decide)
  refine ⟨by rw [List.length_set];exact h.rl,fun k' hk'=>?_,fun b hb=>by rw [n11 b hb];exact h.life b hb,fun b hb l e w hw=>?_,h.len,h.keys,h.nod,fun b hb=>?_,fun b hb=>?_,fun i hi=>?_,fun i hi=>?_,h.fnod,h.lnod,fun b hb=>by rw [n11 b hb];exact h.cov b hb,h.cnt,h.lsz⟩
  · rw [List.getD_eq_getElem?_getD,List.getElem?_set]
    by_cases e:k=k'
    · subst e
      rw [if_pos rfl,if_pos (by rw [h.rl];exact hk),updV_same];rfl
    · rw [if_neg e,←List.getD_eq_getElem?_getD,←h.root k' hk']
      refine updV_ne v (at_ne hc (by decide) (by decide) ?_ ?_ ?_ ?_ (by omega))
      all_goals rw [cnt10]
      all_goals first|decide|(dsimp only;omega)
  · rw [←h.word b hb l e w hw]
    exact n (by decide) (by rw [cnt16];dsimp only;omega) (by rw [cnt16];dsimp only;omega)
  · obtain ⟨h1,h2⟩:=h.free b hb
    exact ⟨h1,by rw [n11 b h1];exact h2⟩
  · obtain ⟨h1,h2⟩:=h.limbo b hb
    exact ⟨h1,by rw [n11 b h1];exact h2⟩
  · rw [←h.stack i hi]
    have:=h.fsz
    exact n (by decide) (by rw [cnt13];dsimp only;omega) (by rw [cnt13];dsimp only;decide)
  · rw [←h.lim i hi]
    have:=h.lsz
    exact n (by decide) (by rw [cnt15];dsimp only;omega) (by rw [cnt15];dsimp only;decide)
theorem RepV.setWord (hc:Small c) (h:RepV c V fs ls R B) {b w:Nat} (hb:(b:Int)<c.blocks) (hw:w<8) {l:List Nat} (e:mget B ((b:Int)+1)=some l) (v:Nat):RepV c (updV V (c.at 16 b w) v) fs ls R (mput B ((b:Int)+1) (l.set w v)):=by
  have hlen:=mget_len h e
  have n:∀ {kind:Int} {i j:Int},10≤kind∧kind≤15→0≤i∧i<(c.cnt kind).1→0≤j∧j<(c.cnt kind).2→updV V (c.at 16 b w) v (c.at kind i j)=V (c.at kind i j):=fun {kind i j} hk2 hi hj =>
    updV_ne v (at_ne hc (by omega) (by omega) hi hj (by rw [cnt16];dsimp only;omega) (by rw [cnt16];dsimp only;omega) (by omega))
  have n11:∀ b':Nat,(b':Int)<c.blocks→updV V (c.at 16 b w) v (c.at 11 b' 0)=V (c.at 11 b' 0):=fun b' hb'=>n (by decide) (by rw [cnt11];dsimp only;omega) (by rw [cnt11];dsimp only;decide)
  have hk:=gkey e
  have hks:(mput B ((b:Int)+1) (l.set w v)).map (·.1)=B.map (·.1):=by rw [gput_keys,if_pos hk]
  refine ⟨h.rl,fun k' hk'=>?_,fun b' hb'=>?_,fun b' hb' l' e' w' hw'=>?_,fun p hp=>?_,fun p hp=>?_,by rw [hks];exact h.nod,fun b' hb'=>?_,fun b' hb'=>?_,fun i hi=>?_,fun i hi=>?_,h.fnod,h.lnod,fun b' hb'=>by rw [n11 b' hb'];exact h.cov b' hb', ?_,h.lsz⟩
  · rw [←h.root k' hk']
    exact n (by decide) (by rw [cnt10];dsimp only;omega) (by rw [cnt10];dsimp only;decide)
  · rw [n11 b' hb',h.life b' hb',gput]
    by_cases eb:(b:Int)+1=(b':Int)+1
    · rw [if_pos eb,←eb,e];rfl
    · rw [if_neg eb]
  · rw [gput] at e'
    by_cases eb:(b:Int)+1=(b':Int)+1
    · rw [if_pos eb] at e'
      injection e' with e'
      subst e'
      obtain rfl:b=b':=by omega
      rw [List.getD_eq_getElem?_getD,List.getElem?_set]
      by_cases ew:w=w'
      · subst ew
        rw [if_pos rfl,if_pos (by omega),updV_same];rfl
      · rw [if_neg ew,←List.getD_eq_getElem?_getD,←h.word b hb l e w' hw']
        refine updV_ne v (at_ne hc (by decide) (by decide) ?_ ?_ ?_ ?_ (by omega))
        all_goals rw [cnt16]
        all_goals (dsimp only;omega)
    · rw [if_neg eb] at e'
      rw [←h.word b' hb' l' e' w' hw']
      refine updV_ne v (at_ne hc (by decide) (by decide) ?_ ?_ ?_ ?_ (by omega))
      all_goals rw [cnt16]
      all_goals (dsimp only;omega)
  · have h1:mget (mput B ((b:Int)+1) (l.set w v)) p.1=some p.2∨True:=.inr trivial
    have key:∀ {B:List (Int×List Nat)},(∀ p∈B,p.2.length=8)→∀ p∈mput B ((b:Int)+1) (l.set w v),p.2.length=8:=by
      intro B
      induction B with
      | nil=>intro _ p hp;unfold mput at hp;rw [List.mem_singleton] at hp;subst hp;dsimp only;rw [List.length_set];exact hlen
      | cons a B ih =>
        intro hB p hp
        obtain ⟨a1,a2⟩:=a
        unfold mput at hp
        split at hp
        · rcases List.mem_cons.1 hp with rfl|hp
          · dsimp only;rw [List.length_set];exact hlen
          · exact hB p (List.mem_cons_of_mem _ hp)
        · rcases List.mem_cons.1 hp with rfl|hp
          · exact hB _ (List.mem_cons_self ..)
          · exact ih (fun q hq=>hB q (List.mem_cons_of_mem _ hq)) p hp
    exact key h.len p hp
  · have:p.1∈B.map (·.1):=by rw [←hks];exact List.mem_map_of_mem hp
    obtain ⟨q,hq,eq⟩:=List.mem_map.1 this
    rw [←eq];exact h.keys q hq
  · obtain ⟨h1,h2⟩:=h.free b' hb'
    exact ⟨h1,by rw [n11 b' h1];exact h2⟩
  · obtain ⟨h1,h2⟩:=h.limbo b' hb'
    exact ⟨h1,by rw [n11 b' h1];exact h2⟩
  · rw [←h.stack i hi]
    have:=h.fsz
    exact n (by decide) (by rw [cnt13];dsimp only;omega) (by rw [cnt13];dsimp only;decide)
  · rw [←h.lim i hi]
    have:=h.lsz
    exact n (by decide) (by rw [cnt15];dsimp only;omega) (by rw [cnt15];dsimp only;decide)
  · rw [gput_len,if_pos (by rw [e];rfl)];exact h.cnt
end
end Go.Proofs.YthmbgodcpgkkeaaGreat
end
