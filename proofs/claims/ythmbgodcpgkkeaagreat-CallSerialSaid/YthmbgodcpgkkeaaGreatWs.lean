/-
  What a transaction is to write, in plain terms: entries by a table with open addressing. Package wset: New, slot, Put, Get, Mark, Back. Package wset: Get, Mark, Put. Package wset: Back, All. Package wset: All.
-/
import Derived.Test.YthmbgodcpgkkeaaGreatInsc
namespace Go.Proofs.YthmbgodcpgkkeaaGreat
def allP (puts:List (Int×Nat)):List (Int×Nat):=puts.foldl (fun m p=>mput m p.1 p.2) []
theorem allP_snoc (puts:List (Int×Nat)) (a:Int) (x:Nat):allP (puts++[(a,x)])=mput (allP puts) a x:=by simp [allP]
theorem mput_nodup {m:List (Int×Nat)} (h:(m.map (·.1)).Nodup) (a:Int) (x:Nat):((mput m a x).map (·.1)).Nodup:=by
  cases hg:mget m a with
  | some y=>rw [mput_keys m a x y hg];exact h
  | none =>
    rw [mput_new m a x hg,List.map_append]
    refine List.nodup_append.2 ⟨h,by simp, ?_⟩
    intro b hb c hc
    simp only [List.map_cons,List.map_nil,List.mem_singleton] at hc
    subst hc
    exact fun e=>mget_none hg (e▸hb)
theorem foldl_mput_nodup:∀ (ps m:List (Int×Nat)),(m.map (·.1)).Nodup→((ps.foldl (fun m p=>mput m p.1 p.2) m).map (·.1)).Nodup
  | [],_,h=>h
  | p::ps,_,h=>foldl_mput_nodup ps _ (mput_nodup h p.1 p.2)
theorem allP_nodup (puts:List (Int×Nat)):((allP puts).map (·.1)).Nodup:=foldl_mput_nodup puts [] (by simp)
theorem nodup_inj {l:List Int} (h:l.Nodup) {i j:Nat} (hi:i<l.length) (hj:j<l.length) (e:l[i]=l[j]):i=j:=by
  have:=List.pairwise_iff_getElem.1 h
  rcases Nat.lt_trichotomy i j with h1|h1|h1
  · exact absurd e (this i j hi hj h1)
  · exact h1
  · exact absurd e.symm (this j i hj hi h1)
def dist (p:Nat→Bool):Nat→Nat→Nat
  | 0,d=>d
  | n+1,d=>if p d then d else dist p n (d+1)
theorem dist_spec {p:Nat→Bool}:∀ (n d:Nat),(∃ e,d≤e∧e<d+n∧p e=true)→p (dist p n d)=true∧d≤dist p n d∧dist p n d<d+n∧∀ e,d≤e→e<dist p n d→p e=false
  | 0,d,⟨e,h1,h2,_⟩=>by omega
  | n+1,d,⟨e,h1,h2,h3⟩=>by
    unfold dist
    by_cases hp:p d=true
    · rw [if_pos hp]
      exact ⟨hp,Nat.le_refl _,by omega,fun e h1 h2=>by omega⟩
    · rw [if_neg hp]
      have hne:e≠d:=fun h=>hp (h▸h3)
      obtain ⟨g1,g2,g3,g4⟩:=dist_spec n (d+1) ⟨e,by omega,by omega,h3⟩
      refine ⟨g1,by omega,by omega,fun e' h1 h2=>?_⟩
      by_cases he:e'=d
      · subst he;simpa using hp
      · exact g4 e' (by omega) h2
def hsh (sz:Nat) (a:Int):Nat:=(a * 11400714819323198485 % 18446744073709551616 / 1099511627776).toNat % sz
def stopB (T:List Nat) (ks:List Int) (a:Int) (k:Nat):Bool:=T.getD k 0 == 0 || ks.getD (T.getD k 0 - 1) 0 == a
def far (T:List Nat) (ks:List Int) (a:Int):Nat:=dist (fun d=>stopB T ks a ((hsh T.length a+d) % T.length)) T.length 0
def slotOf (T:List Nat) (ks:List Int) (a:Int):Nat:=(hsh T.length a+far T ks a) % T.length
def tabN (sz:Nat) (ks:List Int):Nat→List Nat
  | 0=>List.replicate sz 0
  | n+1=>(tabN sz ks n).set (slotOf (tabN sz ks n) (ks.take n) (ks.getD n 0)) (n+1)
theorem tabN_len (sz:Nat) (ks:List Int):∀ n,(tabN sz ks n).length=sz
  | 0=>by simp [tabN]
  | n+1=>by rw [tabN,List.length_set,tabN_len]
theorem tabN_app {sz:Nat} {ks l:List Int}:∀ n,n≤ks.length→tabN sz (ks++l) n=tabN sz ks n
  | 0,_=>rfl
  | n+1,h=>by
    have h1:n<ks.length:=h
    rw [tabN,tabN,tabN_app n (by omega),List.take_append_of_le_length (by omega)]
    congr 2
    simp [List.getD_eq_getElem?_getD,List.getElem?_append_left h1]
structure TabOk (sz:Nat) (ks:List Int) (T:List Nat) (n:Nat):Prop where
  len:T.length=sz
  val:∀ k,k<sz→T.getD k 0≤n
  one:∀ j k,j<sz→k<sz→T.getD j 0≠0→T.getD j 0=T.getD k 0→j=k
  count:(T.countP (· != 0))≤n
  path:∀ i,i<n→∃ d,d<sz∧T.getD ((hsh sz (ks.getD i 0)+d) % sz) 0=i+1∧∀ e,e<d→T.getD ((hsh sz (ks.getD i 0)+e) % sz) 0≠0
theorem TabOk.zero {sz:Nat} {ks:List Int} {T:List Nat} {n:Nat} (h:TabOk sz ks T n) (hn:n<sz):∃ k,k<sz∧T.getD k 0=0:=by
  refine Decidable.by_contra fun hno=>?_
  have hall:∀ x∈T,(x != 0)=true:=by
    intro x hx
    obtain ⟨k,hk,rfl⟩:=List.mem_iff_getElem.1 hx
    have:T.getD k 0≠0:=fun h0=>hno ⟨k,by rw [←h.len];exact hk,h0⟩
    rw [List.getD_eq_getElem?_getD,List.getElem?_eq_getElem hk] at this
    simpa using this
  have h1:=List.countP_eq_length.2 hall
  have h2:=h.count
  rw [h1,h.len] at h2
  omega
theorem reach {sz h k:Nat} (hk:k<sz):∃ d,d<sz∧(h+d) % sz=k:=by
  have hh:h % sz<sz:=Nat.mod_lt _ (by omega)
  refine ⟨(k+(sz - h % sz)) % sz,Nat.mod_lt _ (by omega), ?_⟩
  rw [Nat.add_mod,Nat.mod_mod,←Nat.add_mod_mod]
  by_cases hle:h % sz≤k
  · have e:(k+(sz - h % sz)) % sz=k - h % sz:=by
      rw [show k+(sz - h % sz)=(k - h % sz)+sz by omega,Nat.add_mod_right,Nat.mod_eq_of_lt (by omega)]
    rw [e,Nat.mod_eq_of_lt (a:=k - h % sz) (by omega),Nat.add_sub_cancel' hle,Nat.mod_eq_of_lt hk]
  · have e:(k+(sz - h % sz)) % sz=k+(sz - h % sz):=Nat.mod_eq_of_lt (by omega)
    rw [e,e,show h % sz+(k+(sz - h % sz))=k+sz by omega,Nat.add_mod_right,Nat.mod_eq_of_lt hk]
structure SlotIs (sz:Nat) (ks:List Int) (T:List Nat) (a:Int):Prop where
  far:far T ks a<sz
  lt:slotOf T ks a<sz
  stop:stopB T ks a (slotOf T ks a)=true
  go:∀ e,e<Go.Proofs.YthmbgodcpgkkeaaGreat.far T ks a→stopB T ks a ((hsh sz a+e) % sz)=false
theorem slot_is {sz:Nat} {ks:List Int} {T:List Nat} {n:Nat} (h:TabOk sz ks T n) (hn:n<sz) (ks':List Int) (a:Int):SlotIs sz ks' T a:=by
  obtain ⟨k,hk,h0⟩:=h.zero hn
  obtain ⟨d,hd,hr⟩:=reach (h:=hsh sz a) hk
  have hex:∃ e,0≤e∧e<0+T.length∧(fun d=>stopB T ks' a ((hsh T.length a+d) % T.length)) e=true :=
    ⟨d,Nat.zero_le _,by rw [h.len];omega,by rw [h.len];show stopB T ks' a ((hsh sz a+d) % sz)=true;rw [hr];unfold stopB;rw [h0];rfl⟩
  obtain ⟨g1,g2,g3,g4⟩:=dist_spec T.length 0 hex
  rw [h.len,Nat.zero_add] at g3
  refine ⟨?_, ?_,g1,fun e he=>?_⟩
  · unfold far;rw [h.len];exact g3
  · unfold slotOf;rw [h.len];exact Nat.mod_lt _ (by omega)
  · have:=g4 e (Nat.zero_le _) he
    rw [h.len] at this
    exact this
theorem slot_new {sz:Nat} {ks:List Int} {T:List Nat} {n:Nat} (h:TabOk sz ks T n) (hn:n<sz) {ks':List Int} (hl:ks'.length=n) {a:Int} (ha:a∉ks'):T.getD (slotOf T ks' a) 0=0:=by
  have hs:=slot_is h hn ks' a
  have h1:=hs.stop
  unfold stopB at h1
  simp only [Bool.or_eq_true,beq_iff_eq] at h1
  rcases h1 with h1|h1
  · exact h1
  · by_cases h0:T.getD (slotOf T ks' a) 0=0
    · exact h0
    · exfalso
      have hv:=h.val _ hs.lt
      have hlt:T.getD (slotOf T ks' a) 0 - 1<ks'.length:=by omega
      rw [List.getD_eq_getElem?_getD (l:=ks'),List.getElem?_eq_getElem hlt] at h1
      exact ha (by rw [←h1];exact List.getElem_mem hlt)
theorem slot_old {sz:Nat} {ks:List Int} {T:List Nat} {n:Nat} (h:TabOk sz ks T n) (hn:n<sz) (hnd:ks.Nodup) (hl:n≤ks.length) {i:Nat} (hi:i<n):T.getD (slotOf T (ks.take n) (ks.getD i 0)) 0=i+1:=by
  obtain ⟨d,hd,hT,hpre⟩:=h.path i hi
  have hs:=slot_is h hn (ks.take n) (ks.getD i 0)
  have key:∀ k,k<sz→T.getD k 0≠0→(stopB T (ks.take n) (ks.getD i 0) k=true↔T.getD k 0=i+1):=by
    intro k hk h0
    have hv:=h.val k hk
    have hlt:T.getD k 0 - 1<ks.length:=by omega
    have hlt2:T.getD k 0 - 1<n:=by omega
    have hil:i<ks.length:=by omega
    unfold stopB
    simp only [Bool.or_eq_true,beq_iff_eq,h0,false_or]
    rw [List.getD_eq_getElem?_getD (l:=ks.take n),List.getElem?_take,if_pos hlt2,List.getElem?_eq_getElem hlt,List.getD_eq_getElem?_getD (l:=ks),List.getElem?_eq_getElem hil]
    simp only [Option.getD_some]
    constructor
    · intro he
      have:=nodup_inj hnd _ _ he
      omega
    · intro he
      congr 1
      omega
  have hmod:∀ e,(hsh sz (ks.getD i 0)+e) % sz<sz:=fun e=>Nat.mod_lt _ (by omega)
  have h1:¬ far T (ks.take n) (ks.getD i 0)<d:=by
    intro hlt
    have h2:=hs.stop
    unfold slotOf at h2
    rw [h.len] at h2
    have h3:=(key _ (hmod _) (hpre _ hlt)).1 h2
    have h4:=h.one _ _ (hmod (far T (ks.take n) (ks.getD i 0))) (hmod d) (hpre _ hlt) (by rw [h3,hT])
    have hf:=hs.far
    have e1:∀ x y z:Nat,x<sz→y<sz→(z+x) % sz=(z+y) % sz→x=y:=by
      intro x y z hx hy hxy
      have h5:(z % sz+x) % sz=(z % sz+y) % sz:=by rw [Nat.mod_add_mod,Nat.mod_add_mod];exact hxy
      have hz:z % sz<sz:=Nat.mod_lt _ (by omega)
      generalize z % sz=q at h5 hz
      have a1:(q+x) % sz=if q+x<sz then q+x else q+x - sz:=by
        split
        · exact Nat.mod_eq_of_lt (by assumption)
        · rw [Nat.mod_eq_sub_mod (by omega),Nat.mod_eq_of_lt (by omega)]
      have a2:(q+y) % sz=if q+y<sz then q+y else q+y - sz:=by
        split
        · exact Nat.mod_eq_of_lt (by assumption)
        · rw [Nat.mod_eq_sub_mod (by omega),Nat.mod_eq_of_lt (by omega)]
      rw [a1,a2] at h5
      split at h5<;>split at h5<;>omega
    have:=e1 _ _ _ hf hd h4
    omega
  have h2:¬ d<far T (ks.take n) (ks.getD i 0):=by
    intro hlt
    have h3:=hs.go d hlt
    have h4:=(key _ (hmod d) (by rw [hT];omega)).2 hT
    rw [h3] at h4
    cases h4
  have h3:far T (ks.take n) (ks.getD i 0)=d:=by omega
  unfold slotOf
  rw [h3,h.len]
  exact hT
theorem getD_set (l:List Nat) (i k x:Nat) (hk:k<l.length):(l.set i x).getD k 0=if i=k then x else l.getD k 0:=by
  rw [List.getD_eq_getElem?_getD,List.getElem?_set,List.getD_eq_getElem?_getD]
  by_cases h:i=k
  · subst h;simp [hk]
  · simp [h]
theorem countP_set_le (p:Nat→Bool):∀ (l:List Nat) (i x:Nat),(l.set i x).countP p≤l.countP p+1
  | [],i,x=>by simp
  | y::l,0,x=>by
    simp only [List.set_cons_zero,List.countP_cons]
    split<;>split<;>omega
  | y::l,i+1,x=>by
    have:=countP_set_le p l i x
    simp only [List.set_cons_succ,List.countP_cons]
    split<;>omega
theorem tab_ok {sz:Nat} {ks:List Int} (hnd:ks.Nodup):∀ n,n≤ks.length→n≤sz→TabOk sz ks (tabN sz ks n) n
  | 0,_,_=>by
    have h0:∀ k,(tabN sz ks 0).getD k 0=0:=by
      intro k
      rw [tabN,List.getD_eq_getElem?_getD,List.getElem?_replicate]
      split<;>rfl
    refine ⟨tabN_len _ _ _,fun k _=>by rw [h0];exact Nat.le_refl _,fun j k _ _ hj=>absurd (h0 j) hj, ?_,fun i hi=>by omega⟩
    rw [tabN,List.countP_replicate]
    simp
  | n+1,hl,hs=>by
    have ih:=tab_ok (sz:=sz) hnd n (by omega) (by omega)
    have hlt:n<sz:=by omega
    have hnl:n<ks.length:=by omega
    have hnew:ks.getD n 0∉ks.take n:=by
      intro hm
      obtain ⟨i,hi,he⟩:=List.mem_iff_getElem.1 hm
      simp only [List.length_take] at hi
      rw [List.getElem_take,List.getD_eq_getElem?_getD,List.getElem?_eq_getElem hnl] at he
      have:=nodup_inj hnd _ _ he
      omega
    have hz:=slot_new ih hlt (ks':=ks.take n) (by rw [List.length_take];omega) hnew
    have hsi:=slot_is ih hlt (ks.take n) (ks.getD n 0)
    rw [tabN]
    generalize hT:tabN sz ks n=T at *
    generalize hS:slotOf T (ks.take n) (ks.getD n 0)=s at *
    have hg:∀ k,k<sz→(T.set s (n+1)).getD k 0=if s=k then n+1 else T.getD k 0:=fun k hk=>getD_set T s k (n+1) (by rw [ih.len];exact hk)
    have hslt:s<sz:=hS▸hsi.lt
    refine ⟨by rw [List.length_set];exact ih.len,fun k hk=>?_,fun j k hj hk h0 he=>?_, ?_,fun i hi=>?_⟩
    · rw [hg k hk]
      have:=ih.val k hk
      split<;>omega
    · rw [hg j hj] at h0 he
      rw [hg k hk] at he
      have v1:=ih.val j hj
      have v2:=ih.val k hk
      by_cases a:s=j
      · by_cases b:s=k
        · omega
        · rw [if_pos a,if_neg b] at he;omega
      · rw [if_neg a] at h0 he
        by_cases b:s=k
        · rw [if_pos b] at he;omega
        · rw [if_neg b] at he
          exact ih.one j k hj hk h0 he
    · have:=countP_set_le (· != 0) T s (n+1)
      have:=ih.count
      omega
    · have hmod:∀ e,(hsh sz (ks.getD i 0)+e) % sz<sz:=fun e=>Nat.mod_lt _ (by omega)
      by_cases hin:i<n
      · obtain ⟨d,hd,hTd,hpre⟩:=ih.path i hin
        refine ⟨d,hd, ?_,fun e he=>?_⟩
        · rw [hg _ (hmod d),if_neg,hTd]
          intro hsd
          rw [hsd,hTd] at hz
          omega
        · rw [hg _ (hmod e)]
          split
          · omega
          · exact hpre e he
      · obtain rfl:i=n:=by omega
        refine ⟨far T (ks.take i) (ks.getD i 0),hsi.far, ?_,fun e he=>?_⟩
        · have hS':(hsh sz (ks.getD i 0)+far T (ks.take i) (ks.getD i 0)) % sz=s:=by
            rw [←hS];unfold slotOf;rw [ih.len]
          rw [hS',hg s hslt,if_pos rfl]
        · have hgo:=hsi.go e he
          unfold stopB at hgo
          simp only [Bool.or_eq_false_iff,beq_eq_false_iff_ne] at hgo
          rw [hg _ (hmod e)]
          split
          · omega
          · exact hgo.1
end Go.Proofs.YthmbgodcpgkkeaaGreat
namespace Go.Proofs.YthmbgodcpgkkeaaGreat
def entV (p:Int×Nat):List Value:=[.int .i64 p.1, .int .u64 (p.2:Int)]
theorem entV_len (p:Int×Nat):(entV p).length=2:=rfl
def ints (l:List Nat):List Value:=l.map fun (x:Nat)=>Value.int .i64 (x:Int)
theorem ints_len (l:List Nat):(ints l).length=l.length:=by simp [ints]
theorem NthN.ints {l:List Nat} {i:Nat} (hi:i<l.length):NthN i (ints l) (.int .i64 ((l.getD i 0:Nat):Int)):=NthN.of (by simp [Go.Proofs.YthmbgodcpgkkeaaGreat.ints,hi])
theorem SetN.ints {l:List Nat} {i:Nat} (hi:i<l.length) (x:Nat):SetN (.int .i64 (x:Int)) i (ints l) (ints (l.set i x)):=by
  have:=SetN.of (v:=Value.int .i64 (x:Int)) (n:=i) (l:=Go.Proofs.YthmbgodcpgkkeaaGreat.ints l) (by rw [ints_len];exact hi)
  rw [show (Go.Proofs.YthmbgodcpgkkeaaGreat.ints l).set i (.int .i64 (x:Int))=Go.Proofs.YthmbgodcpgkkeaaGreat.ints (l.set i x) from by simp [Go.Proofs.YthmbgodcpgkkeaaGreat.ints,List.map_set]] at this
  exact this
structure Chg where
  k:Nat
  was:Nat
  fresh:Bool
def Chg.v (c:Chg):List Value:=[.int .i64 (c.k:Int), .int .u64 (c.was:Int), .bool c.fresh]
theorem Chg.v_len (c:Chg):c.v.length=3:=rfl
def kidx:List (Int×Nat)→Int→Option Nat
  | [],_=>none
  | (a,_)::m,k=>if a=k then some 0 else (kidx m k).map (·+1)
theorem kidx_spec:∀ (m:List (Int×Nat)) (a:Int),(kidx m a=none∧mget m a=none)∨∃ (i:Nat) (x:Nat) (hi:i<m.length),kidx m a=some i∧mget m a=some x∧m[i]=(a,x)∧∀ y,mput m a y=m.set i (a,y)
  | [],a=>.inl ⟨rfl,rfl⟩
  | (b,y)::m,a=>by
    by_cases h:b=a
    · exact .inr ⟨0,y,by simp,by simp [kidx,h],by simp [mget,h],by simp [h],fun z=>by simp [mput,h]⟩
    · rcases kidx_spec m a with ⟨h1,h2⟩|⟨i,x,hi,h1,h2,h3,h4⟩
      · exact .inl ⟨by simp [kidx,h,h1],by simp [mget,h,h2]⟩
      · exact .inr ⟨i+1,x,by simp;omega,by simp [kidx,h,h1],by simp [mget,h,h2],by simpa using h3,fun z=>by simp [mput,h,h4 z]⟩
def chgOf (m:List (Int×Nat)) (a:Int):Chg:=match kidx m a with
  | some i=>⟨i,(m.getD i (0,0)).2,false⟩
  | none=>⟨m.length,0,true⟩
def chgsN (puts:List (Int×Nat)):Nat→List Chg
  | 0=>[]
  | n+1=>chgsN puts n++[chgOf (allP (puts.take n)) (puts.getD n (0,0)).1]
def chgs (puts:List (Int×Nat)):List Chg:=chgsN puts puts.length
theorem chgsN_len (puts:List (Int×Nat)):∀ n,(chgsN puts n).length=n
  | 0=>rfl
  | n+1=>by rw [chgsN,List.length_append,chgsN_len];rfl
theorem chgsN_app (puts l:List (Int×Nat)):∀ n,n≤puts.length→chgsN (puts++l) n=chgsN puts n
  | 0,_=>rfl
  | n+1,h=>by
    have h1:n<puts.length:=h
    rw [chgsN,chgsN,chgsN_app puts l n (by omega),List.take_append_of_le_length (by omega)]
    congr 3
    simp [List.getD_eq_getElem?_getD,List.getElem?_append_left h1]
theorem chgs_snoc (puts:List (Int×Nat)) (a:Int) (x:Nat):chgs (puts++[(a,x)])=chgs puts++[chgOf (allP puts) a]:=by
  unfold chgs
  rw [List.length_append,List.length_singleton,chgsN,chgsN_app _ _ _ (Nat.le_refl _),List.take_left]
  simp
def keysP (puts:List (Int×Nat)):List Int:=(allP puts).map (·.1)
def tabP (p:Nat) (puts:List (Int×Nat)):List Nat:=tabN (2 ^ p) (keysP puts) (keysP puts).length
structure WsX (room:Nat) (puts:List (Int×Nat)) where
  lad:Option Addr
  lcap:Nat
  dad:Option Addr
  dcap:Nat
  T:Nat
  p:Nat
  hp:p≤20
  h2:2≤2 ^ p
  hroom:2 * room≤2 ^ p
  hm:(allP puts).length≤room
  hr:room≤65536
def setV (room:Nat) (lv:Value) (T sz:Nat) (dv:Value):List Value:=[.int .i64 (room:Int),lv, .slice (some ⟨T,0,none⟩) sz sz,dv]
def wsL (W room:Nat) (puts:List (Int×Nat)) (x:WsX room puts):List HProp :=
  [bl W 213 (setV room (.slice x.lad (allP puts).length x.lcap) x.T (2 ^ x.p) (.slice x.dad puts.length x.dcap)),Row (.slice x.lad (allP puts).length x.lcap) 119 2 (allP puts).length ((allP puts).flatMap entV),
   bl x.T 3 (ints (tabP x.p puts)),Row (.slice x.dad puts.length x.dcap) 321 3 puts.length ((chgs puts).flatMap Chg.v)]
def WsE (W room:Nat) (puts:List (Int×Nat)):HProp:=ex (wsL W room puts)
theorem WsX.pow {room:Nat} {puts:List (Int×Nat)} (x:WsX room puts):2 ^ x.p≤1048576:=Nat.le_trans (Nat.pow_le_pow_right (by decide) x.hp) (by decide)
theorem WsX.lt {room:Nat} {puts:List (Int×Nat)} (x:WsX room puts):(keysP puts).length<2 ^ x.p:=by
  have:=x.hm;have:=x.hroom;have:=x.h2
  rw [keysP,List.length_map];omega
theorem WsX.tab {room:Nat} {puts:List (Int×Nat)} (x:WsX room puts):TabOk (2 ^ x.p) (keysP puts) (tabP x.p puts) (keysP puts).length:=tab_ok (allP_nodup puts) _ (Nat.le_refl _) (Nat.le_of_lt x.lt)
set_option maxRecDepth 100000 in
theorem wnewE_t (room:Nat) (hr:room≤65536):Tri Tryz.prog 21 #[.int .i64 (room:Int)] [] fun v L=>∃ W,v=.pointer (some ⟨W,0,none⟩)∧L=[WsE W room []]:=by
  have e:(if (65536:Int)<(if (room:Int)<0 then 0 else (room:Int)) then 65536 else (if (room:Int)<0 then 0 else (room:Int)))=(room:Int):=by
    rw [if_neg (show ¬ (room:Int)<0 by omega),if_neg (by omega)]
  refine Tri.of_body (vs:=[_]) Tryz.func21 rfl rfl fun w0 F=>?_
  repeat' (first|refine Ga ?_|(refine Gb ?_;intro b)|(refine Gd ?_;intro g cap rest hcap)|(refine Gc ?_;intro ad cap) |(refine Ge ?_ ?_<;>(intro h;try (exfalso;omega)))|fail)
  rw [e]
  refine St.loopX (Lr:=?Lr) (ι:={ p:Nat // 1≤p∧p≤17 }) (fun p=>17 - p.1)
    (fun p=>[(3, .int .i64 ((2 ^ p.1:Nat):Int))]) (fun p=>[]) ⟨1,by decide⟩ ?hE ?hL ?round
  case hE=>exact Sub.go
  case hL=>exact Ent.go
  case round =>
    rintro ⟨p,hp1,hp2⟩ IH;dsimp only at hp1 hp2⊢
    have hpow:2 ^ p≤131072:=Nat.le_trans (Nat.pow_le_pow_right (by decide) hp2) (by decide)
    have hpow1:2≤2 ^ p:=Nat.le_trans (by decide) (Nat.pow_le_pow_right (n:=2) (by decide) hp1)
    have hsucc:2 ^ (p+1)=2 ^ p * 2:=Nat.pow_succ ..
    have hmax:∀ q,17≤q→131072≤2 ^ q:=fun q hq=>Nat.le_trans (by decide) (Nat.pow_le_pow_right (n:=2) (by decide) hq)
    have hmp:=hmax p
    generalize hg:2 ^ p=sz at *
    by_cases hlt:sz<2 * room
    · repeat' (first|refine Ga ?_|(refine Gb ?_;intro b)|(refine Gd ?_;intro g cap rest hcap)|(refine Gc ?_;intro ad cap) |(refine Ge ?_ ?_<;>(intro h;try (exfalso;omega)))|fail)
      refine IH ⟨p+1,by omega,by omega⟩ (by show 17 - (p+1)<17 - p;omega) ?_ ?_
      · (focus (repeat (first|exact Sub.nil _|(apply Sub.cons;first|rfl|(dsimp only;rw [hsucc,Int.natCast_mul];rfl)))))
      · exact Ent.go
    · clear IH
      repeat' (first|refine Ga ?_|(refine Gb ?_;intro b)|(refine Gd ?_;intro g cap rest hcap)|(refine Gc ?_;intro ad cap) |(refine Ge ?_ ?_<;>(intro h;try (exfalso;omega)))|fail)
      have hz:(List.replicate (sz:Int).toNat (cl (Value.int .i64 0))).flatten=ints (tabP p []):=by
        rw [show cl (Value.int .i64 0)=[Value.int .i64 ((0:Nat):Int)] from rfl,List.flatten_replicate_singleton]
        show _=(List.replicate (2 ^ p) 0).map _
        rw [List.map_replicate,hg];rfl
      rw [hz]
      subst hg
      rename_i bT
      refine St.d1 Tryz.func21 ⟨_,⟨_,rfl,rfl⟩, ?_⟩
      refine Ent.trans ?_ (Ent.ex_in (Ls:=wsL _ room []) ⟨none,0,none,0,bT,p,by omega,hpow1,by omega,Nat.zero_le _,hr⟩)
      refine Ent.trans (Ent.row_nil 119 2) (Ent.trans (Ent.row_nil 321 3) ?_)
      exact Ent.go
def LsR (q:HProp) (lad:Option Addr) (m:List (Int×Nat)):Prop:=m.length=0∨∃ g rest,lad=some ⟨g,0,none⟩∧RdC q g (m.flatMap entV++rest)
theorem LsR.at {q:HProp} {lad:Option Addr} {m:List (Int×Nat)} (h:LsR q lad m) {i:Nat} (hi:i<m.length):∃ g l,lad=some ⟨g,0,none⟩∧RdC q g l∧NthN (i * 2+0) l (.int .i64 m[i].1)∧NthN (i * 2+1) l (.int .u64 (m[i].2:Int)):=by
  rcases h with h|⟨g,rest,h1,h2⟩
  · omega
  · exact ⟨g,_,h1,h2,(NthN.flat entV_len hi .zero).app_left rest,(NthN.flat entV_len hi (.succ .zero)).app_left rest⟩
set_option maxRecDepth 100000 in
theorem slot_t (q:HProp) (W room lcap T p:Nat) (lad:Option Addr) (dv:Value) (puts:List (Int×Nat)) (hp:p≤20) (htab:TabOk (2 ^ p) (keysP puts) (tabP p puts) (keysP puts).length) (hlt:(keysP puts).length<2 ^ p)
    (hW:RdC q W (setV room (.slice lad (allP puts).length lcap) T (2 ^ p) dv)) (hL:LsR q lad (allP puts)) (hT:RdC q T (ints (tabP p puts))) (a:Int) :
    Tri Tryz.prog 166 #[.pointer (some ⟨W,0,none⟩), .int .i64 a] [q] fun v L=>v=.int .i64 ((slotOf (tabP p puts) (keysP puts) a:Nat):Int)∧L=[q]:=by
  have hpow:2 ^ p≤1048576:=Nat.le_trans (Nat.pow_le_pow_right (by decide) hp) (by decide)
  have hpos:0<2 ^ p:=Nat.two_pow_pos p
  have hand:∀ x:Int,0≤x→x<9223372036854775808→AndIs .i64 x (((2 ^ p:Nat):Int) - 1) ((x.toNat % 2 ^ p:Nat):Int):=by
    intro x h0 h1
    have:=AndIs.mask (k:=.i64) (p:=p) (.inl rfl) h0 (by omega) h1
    rw [show ((2 ^ p - 1:Nat):Int)=((2 ^ p:Nat):Int) - 1 by omega] at this
    exact this
  have hs:=slot_is htab hlt (keysP puts) a
  have hlen:=htab.len
  have hw:∀ x:Int,IntKind.u64.wrap x=x % 18446744073709551616:=fun x=>by simp [IntKind.wrap,IntKind.bits,IntKind.signed]
  have hash0:AndIs .i64 (IntKind.i64.wrap (IntKind.u64.wrap (IntKind.u64.wrap a * 11400714819323198485) / 2 ^ Int.toNat 40)) (((2 ^ p:Nat):Int) - 1) ((hsh (2 ^ p) a:Nat):Int):=by
    have e1:IntKind.u64.wrap (IntKind.u64.wrap a * 11400714819323198485) / 2 ^ Int.toNat 40=a * 11400714819323198485 % 18446744073709551616 / 1099511627776:=by
      rw [hw,hw,Int.mul_emod,Int.emod_emod,←Int.mul_emod];rfl
    rw [e1]
    have h0:0≤a * 11400714819323198485 % 18446744073709551616:=Int.emod_nonneg _ (by decide)
    have h1:a * 11400714819323198485 % 18446744073709551616<18446744073709551616:=Int.emod_lt_of_pos _ (by decide)
    unfold hsh
    generalize a * 11400714819323198485 % 18446744073709551616=y at h0 h1⊢
    have h2:fits .i64 (y / 1099511627776):=by simp only [fits];omega
    rw [wrap_fits h2]
    exact hand _ (by omega) (by omega)
  refine Tri.of_body (vs:=[_,_]) Tryz.func166 rfl rfl fun w0 F=>?_
  repeat' (first|refine Ga ?_|(refine Gb ?_;intro b)|(refine Gd ?_;intro g cap rest hcap)|(refine Gc ?_;intro ad cap)|(refine St.draw (id:=3) [(0,0),(1,0),(2,0),(3,1),(4,0),(5,0),(6,1),(7,0),(8,0),(9,0),(10,0),(11,0),(12,1),(13,0),(14,0),(15,0),(16,1),(17,0),(18,0),(19,1),(20,0),(21,0),(22,0),(23,1),(24,0),(25,0),(26,0)] [] mixed (by kernel_rfl) ?_)|(refine Ge ?_ ?_<;>(intro h;try (exfalso;omega)))|fail)
  refine St.loopX (Lr:=?Lr) (ι:={ d:Nat // d≤far (tabP p puts) (keysP puts) a }) (fun d=>far (tabP p puts) (keysP puts) a - d.1)
    (fun d=>[(6, .int .i64 (((hsh (2 ^ p) a+d.1) % 2 ^ p:Nat):Int))]) (fun d=>[]) ⟨0,Nat.zero_le _⟩ ?hE ?hL ?round
  case hE =>
    have e0:(hsh (2 ^ p) a+0) % 2 ^ p=hsh (2 ^ p) a:=by rw [Nat.add_zero];unfold hsh;rw [Nat.mod_mod]
    dsimp only
    rw [e0]
    exact Sub.go
  case hL=>exact Ent.go
  case round =>
    rintro ⟨d,hd⟩ IH;dsimp only at hd⊢
    have hk:(hsh (2 ^ p) a+d) % 2 ^ p<2 ^ p:=Nat.mod_lt _ hpos
    have hnext:((hsh (2 ^ p) a+d) % 2 ^ p+1) % 2 ^ p=(hsh (2 ^ p) a+(d+1)) % 2 ^ p:=by rw [Nat.mod_add_mod,Nat.add_assoc]
    have hstop:d=far (tabP p puts) (keysP puts) a→(hsh (2 ^ p) a+d) % 2 ^ p=slotOf (tabP p puts) (keysP puts) a:=by
      rintro rfl;unfold slotOf;rw [hlen]
    have hgo:=hs.go d
    have hst:=hs.stop
    have hand1:=hand (((hsh (2 ^ p) a+d) % 2 ^ p:Nat)+1:Int) (by omega) (by omega)
    rw [show ((((hsh (2 ^ p) a+d) % 2 ^ p:Nat)+1:Int)).toNat=(hsh (2 ^ p) a+d) % 2 ^ p+1 by omega,hnext] at hand1
    generalize hg:(hsh (2 ^ p) a+d) % 2 ^ p=k at *
    have hnT:NthN ((k:Int).toNat * 1) (ints (tabP p puts)) (.int .i64 (((tabP p puts).getD k 0:Nat):Int)):=by
      rw [Nat.mul_one];exact NthN.ints (by rw [hlen];exact hk)
    have hval:=htab.val k hk
    have hkm:(keysP puts).length=(allP puts).length:=by rw [keysP,List.length_map]
    have hkey:∀ i (hi:i<(allP puts).length),(keysP puts).getD i 0=(allP puts)[i].1:=by
      intro i hi
      rw [keysP,List.getD_eq_getElem?_getD,List.getElem?_map,List.getElem?_eq_getElem hi];rfl
    by_cases hlt2:d<far (tabP p puts) (keysP puts) a
    · have hgo:=hgo hlt2
      unfold stopB at hgo
      simp only [Bool.or_eq_false_iff,beq_eq_false_iff_ne] at hgo
      generalize (tabP p puts).getD k 0=t at *
      have hti:t - 1<(allP puts).length:=by omega
      obtain ⟨g,l,rfl,hrd,hn1,hn2⟩:=hL.at hti
      rw [hkey _ hti] at hgo
      rw [show (t - 1) * 2=((t:Int) - 1).toNat * 2 by omega] at hn1
      generalize (allP puts)[t - 1].1=kk at hn1 hgo
      have hne:¬ (t:Int)=0:=by omega
      have hne2:=hgo.2
      repeat' (first|refine Ga ?_|(refine Gb ?_;intro b)|(refine Gd ?_;intro g cap rest hcap)|(refine Gc ?_;intro ad cap)|(refine St.draw (id:=3) [(0,0),(1,0),(2,0),(3,1),(4,0),(5,0),(6,1),(7,0),(8,0),(9,0),(10,0),(11,0),(12,1),(13,0),(14,0),(15,0),(16,1),(17,0),(18,0),(19,1),(20,0),(21,0),(22,0),(23,1),(24,0),(25,0),(26,0)] [] mixed (by kernel_rfl) ?_)|(refine Ge ?_ ?_<;>(intro h;try (exfalso;omega)))|fail)
      refine IH ⟨d+1,hlt2⟩ (by show _ - (d+1)<_ - d;omega) ?_ ?_
      · exact Sub.go
      · exact Ent.go
    · have hstop:=hstop (by omega)
      rw [←hstop] at hst⊢
      clear IH
      unfold stopB at hst
      simp only [Bool.or_eq_true,beq_iff_eq] at hst
      generalize (tabP p puts).getD k 0=t at *
      by_cases ht0:t=0
      · have ht0':(t:Int)=0:=by omega
        repeat' (first|refine Ga ?_|(refine Gb ?_;intro b)|(refine Gd ?_;intro g cap rest hcap)|(refine Gc ?_;intro ad cap)|(refine St.draw (id:=3) [(0,0),(1,0),(2,0),(3,1),(4,0),(5,0),(6,1),(7,0),(8,0),(9,0),(10,0),(11,0),(12,1),(13,0),(14,0),(15,0),(16,1),(17,0),(18,0),(19,1),(20,0),(21,0),(22,0),(23,1),(24,0),(25,0),(26,0)] [] mixed (by kernel_rfl) ?_)|(refine Ge ?_ ?_<;>(intro h;try (exfalso;omega)))|fail)
        (first|refine St.dn Tryz.func166 ⟨?_,rfl⟩ Ent.go|refine St.fl Tryz.func166 ⟨?_,rfl⟩ Ent.go)
        rfl
      · have hti:t - 1<(allP puts).length:=by omega
        obtain ⟨g,l,rfl,hrd,hn1,hn2⟩:=hL.at hti
        rw [hkey _ hti] at hst
        rw [show (t - 1) * 2=((t:Int) - 1).toNat * 2 by omega] at hn1
        generalize (allP puts)[t - 1].1=kk at hn1 hst
        have hne:¬ (t:Int)=0:=by omega
        have hne2:kk=a:=by omega
        repeat' (first|refine Ga ?_|(refine Gb ?_;intro b)|(refine Gd ?_;intro g cap rest hcap)|(refine Gc ?_;intro ad cap)|(refine St.draw (id:=3) [(0,0),(1,0),(2,0),(3,1),(4,0),(5,0),(6,1),(7,0),(8,0),(9,0),(10,0),(11,0),(12,1),(13,0),(14,0),(15,0),(16,1),(17,0),(18,0),(19,1),(20,0),(21,0),(22,0),(23,1),(24,0),(25,0),(26,0)] [] mixed (by kernel_rfl) ?_)|(refine Ge ?_ ?_<;>(intro h;try (exfalso;omega)))|fail)
        (first|refine St.dn Tryz.func166 ⟨?_,rfl⟩ Ent.go|refine St.fl Tryz.func166 ⟨?_,rfl⟩ Ent.go)
        rfl
end Go.Proofs.YthmbgodcpgkkeaaGreat
namespace Go.Proofs.YthmbgodcpgkkeaaGreat
theorem LsR.of_row {W:World} {L:List HProp} {lad:Option Addr} {lcap e:Nat} {m:List (Int×Nat)} (hs:Sat (Row (.slice lad m.length lcap) e 2 m.length (m.flatMap entV)::L) (hpOf W)):LsR (exact' W) lad m:=by
  rw [sat_cons] at hs
  obtain ⟨h1,h2,hd,hu,⟨hl,hr⟩,_⟩:=hs
  rcases hr with ⟨_,h0⟩|⟨g,cap,cur,hv,hc,_,hcs,htk,hp⟩
  · exact .inl h0
  · injection hv with e1 e2 e3
    refine .inr ⟨g,cur.toList.drop (m.length * 2),e1,e,(0,0),fun h hh=>?_⟩
    rw [←htk,List.take_append_drop,show h=hpOf W from hh,hu g,hp g,if_pos rfl]
    rfl
theorem slot_r {room:Nat} {puts:List (Int×Nat)} (x:WsX room puts) (W:Nat) (dv:Value) (a:Int):RTri Tryz.prog 166 #[.pointer (some ⟨W,0,none⟩), .int .i64 a]
    [bl W 213 (setV room (.slice x.lad (allP puts).length x.lcap) x.T (2 ^ x.p) dv),Row (.slice x.lad (allP puts).length x.lcap) 119 2 (allP puts).length ((allP puts).flatMap entV),bl x.T 3 (ints (tabP x.p puts))]
    (.int .i64 ((slotOf (tabP x.p puts) (keysP puts) a:Nat):Int)) :=
  RTri.of_exact fun W0 hs=>slot_t (exact' W0) W room x.lcap x.T x.p x.lad dv puts x.hp x.tab x.lt (RdC.exact hs (ReadsC.here RdC.bl)) (LsR.of_row hs.tail) (RdC.exact hs (ReadsC.there (ReadsC.there (ReadsC.here RdC.bl)))) a
theorem WsX.old {room:Nat} {puts:List (Int×Nat)} (x:WsX room puts) {a:Int} {i v:Nat} {hi:i<(allP puts).length} (h:(allP puts)[i]=(a,v)):(tabP x.p puts).getD (slotOf (tabP x.p puts) (keysP puts) a) 0=i+1∧slotOf (tabP x.p puts) (keysP puts) a<2 ^ x.p:=by
  have hkl:(keysP puts).length=(allP puts).length:=by rw [keysP,List.length_map]
  have hk:(keysP puts).getD i 0=a:=by
    rw [keysP,List.getD_eq_getElem?_getD,List.getElem?_map,List.getElem?_eq_getElem hi,h];rfl
  have h1:=slot_old x.tab x.lt (allP_nodup puts) (Nat.le_refl _) (i:=i) (by omega)
  rw [hk,List.take_length] at h1
  exact ⟨h1,(slot_is x.tab x.lt (keysP puts) a).lt⟩
theorem WsX.none {room:Nat} {puts:List (Int×Nat)} (x:WsX room puts) {a:Int} (h:mget (allP puts) a=none):(tabP x.p puts).getD (slotOf (tabP x.p puts) (keysP puts) a) 0=0∧slotOf (tabP x.p puts) (keysP puts) a<2 ^ x.p :=
  ⟨slot_new x.tab x.lt rfl (mget_none h),(slot_is x.tab x.lt (keysP puts) a).lt⟩
set_option maxRecDepth 100000 in
theorem wgetE_r (W room:Nat) (puts:List (Int×Nat)) (a:Int):RTri Tryz.prog 78 #[.pointer (some ⟨W,0,none⟩), .int .i64 a] [WsE W room puts]
    (.tuple ⟨[.int .u64 (((mget (allP puts) a).getD 0:Nat):Int), .bool (mget (allP puts) a).isSome]⟩):=by
  refine RTri.of_exact fun W0 hs=>?_
  obtain ⟨x,hs⟩:=sat_ex hs
  have hW:=RdC.exact hs (ReadsC.here RdC.bl)
  have hT:=RdC.exact hs (ReadsC.there (ReadsC.there (ReadsC.here RdC.bl)))
  have hL:=LsR.of_row (hs.tail)
  have hsl:=(slot_r x W (.slice x.dad puts.length x.dcap) a).of_read (p:=exact' W0) fun k hk=>by
    rw [show k=hpOf W0 from hk]
    have:=(Ent.go:Ent (wsL W room puts x++[]) [bl W 213 (setV room (.slice x.lad (allP puts).length x.lcap) x.T (2 ^ x.p) (.slice x.dad puts.length x.dcap)),Row (.slice x.lad (allP puts).length x.lcap) 119 2 (allP puts).length ((allP puts).flatMap entV),bl x.T 3 (ints (tabP x.p puts))])
    unfold Ent at this
    exact this _ hs
  have htl:(tabP x.p puts).length=2 ^ x.p:=x.tab.len
  have hpw:=x.pow
  rcases kidx_spec (allP puts) a with ⟨_,hg⟩|⟨i,v,hi,_,hg,hm,_⟩
  · obtain ⟨h0,hlt⟩:=x.none hg
    rw [hg]
    generalize slotOf (tabP x.p puts) (keysP puts) a=sl at *
    have hnT:=NthN.ints (l:=tabP x.p puts) (i:=sl) (by omega)
    rw [h0] at hnT
    have hnT':NthN ((sl:Int).toNat * 1) (ints (tabP x.p puts)) (.int .i64 0):=by rw [Nat.mul_one];exact hnT
    refine Tri.of_body (vs:=[_,_]) Tryz.func78 rfl rfl fun w0 F=>?_
    repeat' (first|refine Ga ?_|(refine Gb ?_;intro b)|(refine Gd ?_;intro g cap rest hcap)|(refine Gc ?_;intro ad cap)|(refine St.draw (id:=1) [(0,0),(1,0),(2,0),(3,1),(4,0),(5,0),(6,1),(7,0),(8,1),(9,0)] [] mixed (by kernel_rfl) ?_)| refine Gl hsl ?_|(refine Ge ?_ ?_<;>(intro h;try (exfalso;omega)))|fail)
    (first|refine St.dn Tryz.func78 ⟨?_,rfl⟩ Ent.go|refine St.fl Tryz.func78 ⟨?_,rfl⟩ Ent.go)
    rfl
  · obtain ⟨h0,hlt⟩:=x.old hm
    rw [hg]
    generalize slotOf (tabP x.p puts) (keysP puts) a=sl at *
    have hnT:=NthN.ints (l:=tabP x.p puts) (i:=sl) (by omega)
    rw [h0] at hnT
    have hnT':NthN ((sl:Int).toNat * 1) (ints (tabP x.p puts)) (.int .i64 ((i+1:Nat):Int)):=by rw [Nat.mul_one];exact hnT
    obtain ⟨g,l,hlad,hrd,hn1,hn2⟩:=hL.at hi
    rw [hm] at hn2
    rw [show i * 2=(((i+1:Nat):Int) - 1).toNat * 2 by omega] at hn2
    have hml:=x.hm
    have hmr:=x.hr
    rw [hlad] at hW
    refine Tri.of_body (vs:=[_,_]) Tryz.func78 rfl rfl fun w0 F=>?_
    repeat' (first|refine Ga ?_|(refine Gb ?_;intro b)|(refine Gd ?_;intro g cap rest hcap)|(refine Gc ?_;intro ad cap)|(refine St.draw (id:=1) [(0,0),(1,0),(2,0),(3,1),(4,0),(5,0),(6,1),(7,0),(8,1),(9,0)] [] mixed (by kernel_rfl) ?_)| refine Gl hsl ?_|(refine Ge ?_ ?_<;>(intro h;try (exfalso;omega)))|fail)
    (first|refine St.dn Tryz.func78 ⟨?_,rfl⟩ Ent.go|refine St.fl Tryz.func78 ⟨?_,rfl⟩ Ent.go)
    rfl
set_option maxRecDepth 100000 in
theorem wmarkE_r (W room:Nat) (puts:List (Int×Nat)):RTri Tryz.prog 81 #[.pointer (some ⟨W,0,none⟩)] [WsE W room puts] (.int .i64 (puts.length:Int)):=by
  refine RTri.of_exact fun W0 hs=>?_
  obtain ⟨x,hs⟩:=sat_ex hs
  have hW:=RdC.exact hs (ReadsC.here RdC.bl)
  refine Tri.of_body (vs:=[_]) Tryz.func81 rfl rfl fun w0 F=>?_
  repeat' (first|refine Ga ?_|(refine Gb ?_;intro b)|(refine Gd ?_;intro g cap rest hcap)|(refine Gc ?_;intro ad cap) |(refine Ge ?_ ?_<;>(intro h;try (exfalso;omega)))|fail)
  (first|refine St.dn Tryz.func81 ⟨?_,rfl⟩ Ent.go|refine St.fl Tryz.func81 ⟨?_,rfl⟩ Ent.go)
  rfl
def putP (room:Nat) (puts:List (Int×Nat)) (a:Int) (v:Nat):List (Int×Nat):=if mget (allP puts) a=none∧room≤(allP puts).length then puts else puts++[(a,v)]
def putR (room:Nat) (puts:List (Int×Nat)) (a:Int):Int:=if mget (allP puts) a=none∧room≤(allP puts).length then 6 else 0
theorem tabP_snoc {p:Nat} {puts:List (Int×Nat)} {a:Int} {v:Nat} (h:mget (allP puts) a=none):tabP p (puts++[(a,v)])=(tabP p puts).set (slotOf (tabP p puts) (keysP puts) a) ((allP puts).length+1):=by
  have hk:keysP (puts++[(a,v)])=keysP puts++[a]:=by
    unfold keysP;rw [allP_snoc,mput_new _ _ _ h,List.map_append];rfl
  have hl:(keysP puts).length=(allP puts).length:=by rw [keysP,List.length_map]
  unfold tabP
  rw [hk,List.length_append,List.length_singleton,tabN,tabN_app _ (Nat.le_refl _),List.take_left,hl]
  congr 2
  rw [←hl]
  simp
theorem tabP_same {p:Nat} {puts:List (Int×Nat)} {a:Int} {v u:Nat} (h:mget (allP puts) a=some u):tabP p (puts++[(a,v)])=tabP p puts∧keysP (puts++[(a,v)])=keysP puts:=by
  have hk:keysP (puts++[(a,v)])=keysP puts:=by
    unfold keysP;rw [allP_snoc,mput_keys _ _ _ _ h]
  unfold tabP
  rw [hk]
  exact ⟨rfl,rfl⟩
theorem entV_one (m:List (Int×Nat)):(m.flatMap entV).all one=true:=by
  induction m with
  | nil=>rfl
  | cons e l ih=>rw [List.flatMap_cons,List.all_append,ih];rfl
set_option maxRecDepth 100000 in
theorem wputE_t (W room:Nat) (puts:List (Int×Nat)) (a:Int) (v:Nat) (hlen:puts.length≤1000000000):Tri Tryz.prog 112 #[.pointer (some ⟨W,0,none⟩), .int .i64 a, .int .u64 (v:Int)] [WsE W room puts]
    fun r L=>r=.int .i64 (putR room puts a)∧L=[WsE W room (putP room puts a v)]:=by
  refine Tri.ex_out fun x=>?_
  have hsl:=slot_r x W (.slice x.dad puts.length x.dcap) a
  have htl:(tabP x.p puts).length=2 ^ x.p:=x.tab.len
  have hpw:=x.pow
  have hml:=x.hm
  have hmr:=x.hr
  rcases kidx_spec (allP puts) a with ⟨hki,hg⟩|⟨i,u,hi,hki,hg,hm,hput⟩
  · obtain ⟨h0,hlt⟩:=x.none hg
    have htab:=fun p=>tabP_snoc (p:=p) (v:=v) hg
    generalize hslt:slotOf (tabP x.p puts) (keysP puts) a=sl at *
    have hnT:=NthN.ints (l:=tabP x.p puts) (i:=sl) (by omega)
    rw [h0] at hnT
    have hnT':NthN ((sl:Int).toNat * 1) (ints (tabP x.p puts)) (.int .i64 0):=by rw [Nat.mul_one];exact hnT
    by_cases hfull:room≤(allP puts).length
    · have e1:putR room puts a=6:=if_pos ⟨hg,hfull⟩
      have e2:putP room puts a v=puts:=if_pos ⟨hg,hfull⟩
      rw [e1,e2]
      refine Tri.of_body (vs:=[_,_,_]) Tryz.func112 rfl rfl fun w0 F=>?_
      repeat' (first|refine Ga ?_|(refine Gb ?_;intro b)|(refine Gd ?_;intro g cap rest hcap)|(refine Gc ?_;intro ad cap)|(refine St.draw (id:=5) [(0,0),(1,0),(2,0),(3,0),(4,1),(5,0),(6,0),(7,0),(8,0),(9,0),(10,1),(11,0),(12,2),(13,3),(14,0),(15,0),(16,3)] [13,16] mixed (by kernel_rfl) ?_)|(refine St.draw (id:=8) [(0,0),(1,0),(2,0),(3,1),(4,0),(5,0),(6,0),(7,0),(8,1),(9,0)] [] mixed (by kernel_rfl) ?_)|(refine St.draw (id:=10) [(0,0),(1,0),(2,0),(3,0),(4,1),(5,0),(6,0),(7,0),(8,1),(9,0),(10,0),(11,2),(12,3),(13,0),(14,0),(15,3)] [12,15] mixed (by kernel_rfl) ?_)|(refine St.draw (id:=12) [(0,0),(1,0),(2,0),(3,1),(4,0),(5,0),(6,0),(7,0),(8,1),(9,0),(10,0),(11,3)] [11] mixed (by kernel_rfl) ?_)| refine Gl hsl ?_|(refine Ge ?_ ?_<;>(intro h;try (exfalso;omega)))|fail)
      refine St.d1 Tryz.func112 ⟨_,⟨rfl,rfl⟩, ?_⟩
      exact Ent.trans Ent.go (Ent.ex_in (Ls:=wsL W room puts) x)
    · have e1:putR room puts a=0:=if_neg (fun h=>hfull h.2)
      have e2:putP room puts a v=puts++[(a,v)]:=if_neg (fun h=>hfull h.2)
      rw [e1,e2]
      have hsT:SetN (.int .i64 (((allP puts).length+1:Nat):Int)) ((sl:Int).toNat * 1) (ints (tabP x.p puts)) (ints (tabP x.p (puts++[(a,v)]))):=by
        rw [Nat.mul_one,htab x.p,hslt];exact SetN.ints (by omega) _
      refine Tri.of_body (vs:=[_,_,_]) Tryz.func112 rfl rfl fun w0 F=>?_
      repeat' (first|refine Ga ?_|(refine Gb ?_;intro b)|(refine Gd ?_;intro g cap rest hcap)|(refine Gc ?_;intro ad cap)|(refine St.draw (id:=5) [(0,0),(1,0),(2,0),(3,0),(4,1),(5,0),(6,0),(7,0),(8,0),(9,0),(10,1),(11,0),(12,2),(13,3),(14,0),(15,0),(16,3)] [13,16] mixed (by kernel_rfl) ?_)|(refine St.draw (id:=8) [(0,0),(1,0),(2,0),(3,1),(4,0),(5,0),(6,0),(7,0),(8,1),(9,0)] [] mixed (by kernel_rfl) ?_)|(refine St.draw (id:=10) [(0,0),(1,0),(2,0),(3,0),(4,1),(5,0),(6,0),(7,0),(8,1),(9,0),(10,0),(11,2),(12,3),(13,0),(14,0),(15,3)] [12,15] mixed (by kernel_rfl) ?_)|(refine St.draw (id:=12) [(0,0),(1,0),(2,0),(3,1),(4,0),(5,0),(6,0),(7,0),(8,1),(9,0),(10,0),(11,3)] [11] mixed (by kernel_rfl) ?_)| refine Gl hsl ?_|(refine Ge ?_ ?_<;>(intro h;try (exfalso;omega)))|fail)
      have e3:allP (puts++[(a,v)])=allP puts++[(a,v)]:=by rw [allP_snoc,mput_new _ _ _ hg]
      have e4:chgs (puts++[(a,v)])=chgs puts++[⟨(allP puts).length,0,true⟩]:=by rw [chgs_snoc];unfold chgOf;rw [hki]
      refine St.d1 Tryz.func112 ⟨_,⟨rfl,rfl⟩, ?_⟩
      refine Ent.trans ?_ (Ent.ex_in (Ls:=wsL W room (puts++[(a,v)])) ⟨?lad, ?lcap, ?dad, ?dcap,x.T,x.p,x.hp,x.h2,x.hroom,by rw [e3,List.length_append];show _+1≤_;omega,x.hr⟩)
      unfold wsL
      dsimp only
      rw [e3,e4,List.flatMap_append,List.flatMap_append,List.length_append,List.length_append]
      exact Ent.go
  · obtain ⟨h0,hlt⟩:=x.old hm
    obtain ⟨htab,_⟩:=tabP_same (p:=x.p) (v:=v) hg
    have e1:putR room puts a=0:=if_neg (fun h=>by rw [hg] at h;cases h.1)
    have e2:putP room puts a v=puts++[(a,v)]:=if_neg (fun h=>by rw [hg] at h;cases h.1)
    rw [e1,e2]
    generalize hslt:slotOf (tabP x.p puts) (keysP puts) a=sl at *
    have hnT:=NthN.ints (l:=tabP x.p puts) (i:=sl) (by omega)
    rw [h0] at hnT
    have hnT':NthN ((sl:Int).toNat * 1) (ints (tabP x.p puts)) (.int .i64 ((i+1:Nat):Int)):=by rw [Nat.mul_one];exact hnT
    have e3:allP (puts++[(a,v)])=(allP puts).set i (a,v):=by rw [allP_snoc,hput]
    have e4:chgs (puts++[(a,v)])=chgs puts++[⟨i,u,false⟩]:=by
      rw [chgs_snoc];unfold chgOf;rw [hki];dsimp only
      rw [List.getD_eq_getElem?_getD,List.getElem?_eq_getElem hi,hm];rfl
    refine Tri.of_body (vs:=[_,_,_]) Tryz.func112 rfl rfl fun w0 F=>?_
    refine St.conv ?_ (Sub.refl _) (Ent.of_take (.there .here))
    refine St.rowF (by omega) fun g lcp rest hv hrf=>?_
    injection hv with hv1 hv2 hv3
    have hsl:=hsl.ent (M:=[bl g 119 ((allP puts).flatMap entV++rest),bl W 213 (setV room (.slice x.lad (allP puts).length x.lcap) x.T (2 ^ x.p) (.slice x.dad puts.length x.dcap)),bl x.T 3 (ints (tabP x.p puts))]) (by
      rw [hv1,hv3]
      exact Ent.trans (Ent.rowF hrf) Ent.go)
    rw [hv1,hv3] at hsl⊢
    have hn1:NthN ((((i+1:Nat):Int) - 1).toNat * 2+1) ((allP puts).flatMap entV++rest) (.int .u64 (u:Int)):=by
      have:=(NthN.flat entV_len hi (v:=.int .u64 (u:Int)) (j:=1) (by rw [hm];exact .succ .zero)).app_left rest
      rw [show i * 2=(((i+1:Nat):Int) - 1).toNat * 2 by omega] at this
      exact this
    have hs1:SetN (.int .u64 (v:Int)) ((((i+1:Nat):Int) - 1).toNat * 2+1) ((allP puts).flatMap entV++rest) (((allP puts).set i (a,v)).flatMap entV++rest):=by
      have:=(SetN.flat entV_len hi (v:=.int .u64 (v:Int)) (j:=1) (x:=(a,v)) (by rw [hm];exact .succ .zero)).app_left rest
      rw [show i * 2=(((i+1:Nat):Int) - 1).toNat * 2 by omega] at this
      exact this
    repeat' (first|refine Ga ?_|(refine Gb ?_;intro b)|(refine Gd ?_;intro g cap rest hcap)|(refine Gc ?_;intro ad cap)|(refine St.draw (id:=5) [(0,0),(1,0),(2,0),(3,0),(4,1),(5,0),(6,0),(7,0),(8,0),(9,0),(10,1),(11,0),(12,2),(13,3),(14,0),(15,0),(16,3)] [13,16] mixed (by kernel_rfl) ?_)|(refine St.draw (id:=8) [(0,0),(1,0),(2,0),(3,1),(4,0),(5,0),(6,0),(7,0),(8,1),(9,0)] [] mixed (by kernel_rfl) ?_)|(refine St.draw (id:=10) [(0,0),(1,0),(2,0),(3,0),(4,1),(5,0),(6,0),(7,0),(8,1),(9,0),(10,0),(11,2),(12,3),(13,0),(14,0),(15,3)] [12,15] mixed (by kernel_rfl) ?_)|(refine St.draw (id:=12) [(0,0),(1,0),(2,0),(3,1),(4,0),(5,0),(6,0),(7,0),(8,1),(9,0),(10,0),(11,3)] [11] mixed (by kernel_rfl) ?_)| refine Gl hsl ?_|(refine Ge ?_ ?_<;>(intro h;try (exfalso;omega)))|fail)
    refine St.d1 Tryz.func112 ⟨_,⟨rfl,rfl⟩, ?_⟩
    refine Ent.trans ?_ (Ent.ex_in (Ls:=wsL W room (puts++[(a,v)])) ⟨some ⟨g,0,none⟩,lcp,ad,cap,x.T,x.p,x.hp,x.h2,x.hroom,by rw [e3,List.length_set];exact x.hm,x.hr⟩)
    unfold wsL
    dsimp only
    rw [e3,e4,List.flatMap_append,List.length_append,List.length_set,htab,show ((i+1:Nat):Int) - 1=(i:Int) by omega]
    refine Ent.trans (Ent.of_take (p:=bl g 119 (((allP puts).set i (a,v)).flatMap entV++rest)) Take.go) ?_
    refine Ent.trans (Ent.rowF (n:=(allP puts).length) (cap:=lcp) (sz:=2) ⟨hrf.le,hrf.max, ?_, ?_⟩) ?_
    · rw [flat_len entV_len,List.length_set]
    · have:=hrf.tot
      rw [flat_len entV_len] at this
      rw [flat_len entV_len,List.length_set];exact this
    · exact Ent.go
end Go.Proofs.YthmbgodcpgkkeaaGreat
namespace Go.Proofs.YthmbgodcpgkkeaaGreat
theorem allP_len (qs:List (Int×Nat)):(allP qs).length≤qs.length:=by
  have key:∀ (ps m:List (Int×Nat)),(ps.foldl (fun m p=>mput m p.1 p.2) m).length≤m.length+ps.length:=by
    intro ps
    induction ps with
    | nil=>intro m;simp
    | cons p ps ih =>
      intro m
      have h1:=ih (mput m p.1 p.2)
      have h2:(mput m p.1 p.2).length≤m.length+1:=by
        rcases kidx_spec m p.1 with ⟨_,hg⟩|⟨i,u,hi,_,_,_,hput⟩
        · rw [mput_new _ _ _ hg,List.length_append];exact Nat.le_refl _
        · rw [hput,List.length_set];omega
      simp only [List.foldl_cons,List.length_cons];omega
  have:=key qs []
  simpa [allP] using this
theorem tab_back {room:Nat} {qs:List (Int×Nat)} {a:Int} {v:Nat} (x:WsX room (qs++[(a,v)])) (hg:mget (allP qs) a=none) :
    slotOf (tabP x.p (qs++[(a,v)])) (keysP (qs++[(a,v)])) a<2 ^ x.p∧(tabP x.p (qs++[(a,v)])).set (slotOf (tabP x.p (qs++[(a,v)])) (keysP (qs++[(a,v)])) a) 0=tabP x.p qs:=by
  have e3:allP (qs++[(a,v)])=allP qs++[(a,v)]:=by rw [allP_snoc,mput_new _ _ _ hg]
  have hi:(allP qs).length<(allP (qs++[(a,v)])).length:=by rw [e3,List.length_append];exact Nat.lt_succ_self _
  have hm:(allP (qs++[(a,v)]))[(allP qs).length]=(a,v):=by
    simp only [e3];simp
  obtain ⟨h0,hlt⟩:=x.old hm
  refine ⟨hlt, ?_⟩
  have hml:=x.hm
  have hkl:(keysP qs).length=(allP qs).length:=by rw [keysP,List.length_map]
  have hx2:=x.h2
  have hxr:=x.hroom
  have htab:TabOk (2 ^ x.p) (keysP qs) (tabP x.p qs) (keysP qs).length:=tab_ok (allP_nodup qs) _ (Nat.le_refl _) (by omega)
  have hnew:=slot_new htab (by omega) rfl (mget_none hg)
  have hs0:=(slot_is htab (by omega) (keysP qs) a).lt
  have hT:=tabP_snoc (p:=x.p) (v:=v) hg
  have hsame:slotOf (tabP x.p (qs++[(a,v)])) (keysP (qs++[(a,v)])) a=slotOf (tabP x.p qs) (keysP qs) a:=by
    refine x.tab.one _ _ hlt hs0 (by rw [h0];omega) ?_
    rw [h0,hT,getD_set _ _ _ _ (by rw [htab.len];exact hs0),if_pos rfl]
  rw [hsame,hT,List.set_set]
  change (tabP x.p qs).getD (slotOf (tabP x.p qs) (keysP qs) a) 0=0 at hnew
  have hl:slotOf (tabP x.p qs) (keysP qs) a<(tabP x.p qs).length:=by rw [htab.len];exact hs0
  rw [List.getD_eq_getElem?_getD,List.getElem?_eq_getElem hl,Option.getD_some] at hnew
  have:=List.set_getElem_self hl
  rw [hnew] at this
  exact this
theorem chgs_flat (qs:List (Int×Nat)):((chgs qs).flatMap Chg.v).length=qs.length * 3:=by rw [flat_len Chg.v_len,chgs,chgsN_len]
theorem chg_drop (qs:List (Int×Nat)) (c:Chg) (drest:List Value):DropN ((((qs.length+1:Nat):Int) - 1).toNat * 3) ((chgs qs).flatMap Chg.v++[c].flatMap Chg.v++drest) (c.v++drest):=by
  have:=DropN.app ((chgs qs).flatMap Chg.v) ([c].flatMap Chg.v++drest)
  rw [chgs_flat] at this
  rw [show (((qs.length+1:Nat):Int) - 1).toNat=qs.length by omega,List.append_assoc]
  simpa using this
set_option maxRecDepth 100000 in
theorem wbackE_t (W room mark:Nat) (puts:List (Int×Nat)) (hm:mark≤puts.length) (hlen:puts.length≤1000000000):Tri Tryz.prog 191 #[.pointer (some ⟨W,0,none⟩), .int .i64 (mark:Int)] [WsE W room puts]
    fun r L=>r=.bool true∧L=[WsE W room (puts.take mark)]:=by
  refine Tri.of_body (vs:=[_,_]) Tryz.func191 rfl rfl fun w0 F=>?_
  refine St.ex_out fun x=>?_
  repeat' (first|refine Ga ?_|(refine Gb ?_;intro b)|(refine Gd ?_;intro g cap rest hcap)|(refine Gc ?_;intro ad cap)|(refine St.draw (id:=4) [(0,0),(1,0),(2,0),(3,1),(4,0),(5,0),(6,0),(7,1),(8,0),(9,0),(10,0),(11,1),(12,2),(13,3)] [13] mixed (by kernel_rfl) ?_)|(refine St.draw (id:=5) [(0,0),(1,0),(2,0),(3,0),(4,1),(5,0),(6,0),(7,0),(8,1),(9,0),(10,0),(11,0),(12,0),(13,0),(14,3)] [14] mixed (by kernel_rfl) ?_)|(refine St.draw (id:=7) [(0,0),(1,0),(2,0),(3,1),(4,0),(5,1),(6,0),(7,1),(8,0),(9,0),(10,3)] [10] mixed (by kernel_rfl) ?_)|(refine St.draw (id:=8) [(0,0),(1,0),(2,0),(3,1),(4,0),(5,0),(6,0),(7,0),(8,1),(9,0),(10,1),(11,0),(12,0),(13,1),(14,1),(15,0),(16,3)] [16] mixed (by kernel_rfl) ?_)|(refine St.draw (id:=9) [(0,0),(1,0),(2,0),(3,0),(4,1),(5,0),(6,1),(7,0),(8,0),(9,0),(10,3)] [10] mixed (by kernel_rfl) ?_)|(refine Ge ?_ ?_<;>(intro h;try (exfalso;omega)))|fail)
  refine St.loopX (Lr:=?Lr) (ι:={ n:Nat // mark≤n∧n≤puts.length }) (fun n=>n.1)
    (fun n=>[]) (fun n=>[WsE W room (puts.take n.1)]) ⟨puts.length,hm,Nat.le_refl _⟩ ?hE ?hL ?round
  case hE=>exact Sub.go
  case hL =>
    dsimp only
    rw [List.take_length]
    refine Ent.trans ?_ (Ent.ex_in (Ls:=wsL W room puts) x)
    exact Ent.go
  case round =>
    rintro ⟨n,hn1,hn2⟩ IH;dsimp only at hn1 hn2⊢
    by_cases hlt:mark<n
    · obtain ⟨k,rfl⟩:∃ k,n=k+1:=⟨n - 1,by omega⟩
      have IH':=fun E' L'=>IH ⟨k,by omega,by omega⟩ (E':=E') (L':=L') (by show k<k+1;omega)
      clear IH
      dsimp only at IH'
      have hk:k<puts.length:=by omega
      rw [List.take_succ_eq_append_getElem hk]
      have hql:(puts.take k).length=k:=by rw [List.length_take];omega
      generalize hav:puts[k]=av
      obtain ⟨a,v⟩:=av
      generalize puts.take k=qs at *
      subst hql
      refine St.ex_out fun y=>?_
      have hml:=y.hm
      have hmr:=y.hr
      have hpw:=y.pow
      have hal:=allP_len qs
      unfold wsL
      rcases kidx_spec (allP qs) a with ⟨hki,hg⟩|⟨i,u,hi,hki,hg,hmi,hput⟩
      · have e3:allP (qs++[(a,v)])=allP qs++[(a,v)]:=by rw [allP_snoc,mput_new _ _ _ hg]
        have e4:chgs (qs++[(a,v)])=chgs qs++[⟨(allP qs).length,0,true⟩]:=by rw [chgs_snoc];unfold chgOf;rw [hki]
        obtain ⟨hslt,hset⟩:=tab_back y hg
        have hsl0:=fun dv=>slot_r y W dv a
        have htl:(tabP y.p (qs++[(a,v)])).length=2 ^ y.p:=y.tab.len
        have e5:(allP (qs++[(a,v)])).length=(allP qs).length+1:=by rw [e3,List.length_append];rfl
        have e6:(qs++[(a,v)]).length=qs.length+1:=by simp
        have hsT:SetN (.int .i64 0) ((slotOf (tabP y.p (qs++[(a,v)])) (keysP (qs++[(a,v)])) a:Int).toNat * 1) (ints (tabP y.p (qs++[(a,v)]))) (ints (tabP y.p qs)):=by
          rw [Nat.mul_one,←hset]
          exact SetN.ints (x:=0) (by rw [htl];exact hslt)
        generalize slotOf (tabP y.p (qs++[(a,v)])) (keysP (qs++[(a,v)])) a=sl at *
        generalize htt:tabP y.p (qs++[(a,v)])=tt at *
        rw [e5,e3] at hsl0
        rw [e5,e6,e3,e4,List.flatMap_append (xs:=chgs qs)]
        rw [e5] at hml
        refine St.conv ?_ (Sub.refl _) (Ent.of_take (.there .here))
        refine St.rowF (by omega) fun g lcp rest hv hrf=>?_
        injection hv with hv1 hv2 hv3
        refine St.conv ?_ (Sub.refl _) (Ent.of_take (.there (.there (.there .here))))
        refine St.rowF (by omega) fun gd dcp drest dv drf=>?_
        injection dv with dv1 dv2 dv3
        have hdc:=drf.le
        have hlc:=hrf.le
        have hsl:=(hsl0 (.slice (some ⟨gd,0,none⟩) (((qs.length+1:Nat):Int) - 1).toNat dcp)).ent (M:=[bl g 119 ((allP qs++[(a,v)]).flatMap entV++rest),bl W 213 (setV room (.slice y.lad ((allP qs).length+1) y.lcap) y.T (2 ^ y.p) (.slice (some ⟨gd,0,none⟩) (((qs.length+1:Nat):Int) - 1).toNat dcp)),bl y.T 3 (ints tt)]) (by
          rw [hv1,hv3]
          exact Ent.trans (Ent.rowF hrf) Ent.go)
        rw [hv1,hv3] at hsl
        rw [hv1,hv3,dv1,dv3]
        have hdr:DropN ((((qs.length+1:Nat):Int) - 1).toNat * 3) ((chgs qs).flatMap Chg.v++[Chg.mk (allP qs).length 0 true].flatMap Chg.v++drest) ([.int .i64 ((allP qs).length:Int), .int .u64 0, .bool true]++drest):=chg_drop qs ⟨(allP qs).length,0,true⟩ drest
        have htk:TakeN 3 ([.int .i64 ((allP qs).length:Int), .int .u64 0, .bool true]++drest) [.int .i64 ((allP qs).length:Int), .int .u64 0, .bool true]:=TakeN.app [_,_,_] drest
        have hn1:NthN (((allP qs).length:Int).toNat * 2+0) ((allP qs++[(a,v)]).flatMap entV++rest) (.int .i64 a) :=
          (NthN.flat entV_len (l:=allP qs++[(a,v)]) (i:=(allP qs).length) (by simp) (by simp only [List.getElem_concat_length];exact .zero)).app_left rest
        repeat' (first|refine Ga ?_|(refine Gb ?_;intro b)|(refine Gd ?_;intro g cap rest hcap)|(refine Gc ?_;intro ad cap)|(refine St.draw (id:=4) [(0,0),(1,0),(2,0),(3,1),(4,0),(5,0),(6,0),(7,1),(8,0),(9,0),(10,0),(11,1),(12,2),(13,3)] [13] mixed (by kernel_rfl) ?_)|(refine St.draw (id:=5) [(0,0),(1,0),(2,0),(3,0),(4,1),(5,0),(6,0),(7,0),(8,1),(9,0),(10,0),(11,0),(12,0),(13,0),(14,3)] [14] mixed (by kernel_rfl) ?_)|(refine St.draw (id:=7) [(0,0),(1,0),(2,0),(3,1),(4,0),(5,1),(6,0),(7,1),(8,0),(9,0),(10,3)] [10] mixed (by kernel_rfl) ?_)|(refine St.draw (id:=8) [(0,0),(1,0),(2,0),(3,1),(4,0),(5,0),(6,0),(7,0),(8,1),(9,0),(10,1),(11,0),(12,0),(13,1),(14,1),(15,0),(16,3)] [16] mixed (by kernel_rfl) ?_)|(refine St.draw (id:=9) [(0,0),(1,0),(2,0),(3,0),(4,1),(5,0),(6,1),(7,0),(8,0),(9,0),(10,3)] [10] mixed (by kernel_rfl) ?_)| refine Gl hsl ?_|(refine Ge ?_ ?_<;>(intro h;try (exfalso;omega)))|fail)
        refine IH' _ _ ?_ ?_
        · exact Sub.go
        · refine Ent.trans ?_ (Ent.ex_in (Ls:=wsL W room qs) ⟨some ⟨g,0,none⟩,lcp,some ⟨gd,0,none⟩,dcp,y.T,y.p,y.hp,y.h2,y.hroom,by omega,y.hr⟩)
          unfold wsL
          dsimp only
          rw [show (((qs.length+1:Nat):Int) - 1).toNat=qs.length by omega,show ((allP qs).length:Int).toNat=(allP qs).length by omega]
          refine Ent.trans (Ent.of_take (p:=bl g 119 ((allP qs++[(a,v)]).flatMap entV++rest)) Take.go) ?_
          rw [List.flatMap_append (xs:=allP qs),List.append_assoc]
          refine Ent.trans (Ent.rowF (n:=(allP qs).length) (cap:=lcp) (sz:=2) ⟨by have:=hrf.le;omega,hrf.max,flat_len entV_len _, ?_⟩) ?_
          · have:=hrf.tot
            rw [List.flatMap_append,List.length_append] at this
            rw [List.length_append];omega
          · refine Ent.trans (Ent.of_take (p:=bl gd 321 ((chgs qs).flatMap Chg.v++[Chg.mk (allP qs).length 0 true].flatMap Chg.v++drest)) Take.go) ?_
            rw [List.append_assoc]
            refine Ent.trans (Ent.rowF (n:=qs.length) (cap:=dcp) (sz:=3) ⟨by have:=drf.le;omega,drf.max,chgs_flat _, ?_⟩) ?_
            · have:=drf.tot
              rw [List.length_append] at this
              rw [List.length_append];omega
            · exact Ent.go
      · have e3:allP (qs++[(a,v)])=(allP qs).set i (a,v):=by rw [allP_snoc,hput]
        have e4:chgs (qs++[(a,v)])=chgs qs++[⟨i,u,false⟩]:=by
          rw [chgs_snoc];unfold chgOf;rw [hki];dsimp only
          rw [List.getD_eq_getElem?_getD,List.getElem?_eq_getElem hi,hmi];rfl
        have e5:(allP (qs++[(a,v)])).length=(allP qs).length:=by rw [e3,List.length_set]
        have e6:(qs++[(a,v)]).length=qs.length+1:=by simp
        obtain ⟨htab,_⟩:=tabP_same (p:=y.p) (v:=v) hg
        rw [e5,e6,e3,e4,List.flatMap_append,htab]
        refine St.conv ?_ (Sub.refl _) (Ent.of_take (.there .here))
        refine St.rowF (by omega) fun g lcp rest hv hrf=>?_
        injection hv with hv1 hv2 hv3
        refine St.conv ?_ (Sub.refl _) (Ent.of_take (.there (.there (.there .here))))
        refine St.rowF (by omega) fun gd dcp drest dv drf=>?_
        injection dv with dv1 dv2 dv3
        have hdc:=drf.le
        have hlc:=hrf.le
        rw [hv1,hv3,dv1,dv3]
        have hdr:DropN ((((qs.length+1:Nat):Int) - 1).toNat * 3) ((chgs qs).flatMap Chg.v++[Chg.mk i u false].flatMap Chg.v++drest) ([.int .i64 (i:Int), .int .u64 (u:Int), .bool false]++drest):=chg_drop qs ⟨i,u,false⟩ drest
        have htk:TakeN 3 ([.int .i64 (i:Int), .int .u64 (u:Int), .bool false]++drest) [.int .i64 (i:Int), .int .u64 (u:Int), .bool false]:=TakeN.app [_,_,_] drest
        have hs1:SetN (.int .u64 (u:Int)) ((i:Int).toNat * 2+1) (((allP qs).set i (a,v)).flatMap entV++rest) ((allP qs).flatMap entV++rest):=by
          have:=(SetN.flat entV_len (l:=(allP qs).set i (a,v)) (i:=i) (by rw [List.length_set];exact hi) (v:=.int .u64 (u:Int)) (j:=1) (x:=(a,u)) (by simp only [List.getElem_set_self];exact .succ .zero)).app_left rest
          rw [List.set_set,←hmi,List.set_getElem_self hi] at this
          exact this
        repeat' (first|refine Ga ?_|(refine Gb ?_;intro b)|(refine Gd ?_;intro g cap rest hcap)|(refine Gc ?_;intro ad cap)|(refine St.draw (id:=4) [(0,0),(1,0),(2,0),(3,1),(4,0),(5,0),(6,0),(7,1),(8,0),(9,0),(10,0),(11,1),(12,2),(13,3)] [13] mixed (by kernel_rfl) ?_)|(refine St.draw (id:=5) [(0,0),(1,0),(2,0),(3,0),(4,1),(5,0),(6,0),(7,0),(8,1),(9,0),(10,0),(11,0),(12,0),(13,0),(14,3)] [14] mixed (by kernel_rfl) ?_)|(refine St.draw (id:=7) [(0,0),(1,0),(2,0),(3,1),(4,0),(5,1),(6,0),(7,1),(8,0),(9,0),(10,3)] [10] mixed (by kernel_rfl) ?_)|(refine St.draw (id:=8) [(0,0),(1,0),(2,0),(3,1),(4,0),(5,0),(6,0),(7,0),(8,1),(9,0),(10,1),(11,0),(12,0),(13,1),(14,1),(15,0),(16,3)] [16] mixed (by kernel_rfl) ?_)|(refine St.draw (id:=9) [(0,0),(1,0),(2,0),(3,0),(4,1),(5,0),(6,1),(7,0),(8,0),(9,0),(10,3)] [10] mixed (by kernel_rfl) ?_)|(refine Ge ?_ ?_<;>(intro h;try (exfalso;omega)))|fail)
        refine IH' _ _ ?_ ?_
        · exact Sub.go
        · refine Ent.trans ?_ (Ent.ex_in (Ls:=wsL W room qs) ⟨some ⟨g,0,none⟩,lcp,some ⟨gd,0,none⟩,dcp,y.T,y.p,y.hp,y.h2,y.hroom,by omega,y.hr⟩)
          unfold wsL
          dsimp only
          rw [show (((qs.length+1:Nat):Int) - 1).toNat=qs.length by omega]
          refine Ent.trans (Ent.of_take (p:=bl g 119 ((allP qs).flatMap entV++rest)) Take.go) ?_
          refine Ent.trans (Ent.rowF (n:=(allP qs).length) (cap:=lcp) (sz:=2) ⟨hrf.le,hrf.max,flat_len entV_len _, ?_⟩) ?_
          · have:=hrf.tot
            rw [flat_len entV_len,List.length_set] at this
            rw [flat_len entV_len];exact this
          · refine Ent.trans (Ent.of_take (p:=bl gd 321 ((chgs qs).flatMap Chg.v++[Chg.mk i u false].flatMap Chg.v++drest)) Take.go) ?_
            rw [List.append_assoc]
            refine Ent.trans (Ent.rowF (n:=qs.length) (cap:=dcp) (sz:=3) ⟨by have:=drf.le;omega,drf.max,chgs_flat _, ?_⟩) ?_
            · have:=drf.tot
              rw [List.length_append] at this
              rw [List.length_append];omega
            · exact Ent.go
    · obtain rfl:n=mark:=by omega
      have hql:(puts.take n).length=n:=by rw [List.length_take];omega
      refine St.ex_out fun y=>?_
      clear IH
      repeat' (first|refine Ga ?_|(refine Gb ?_;intro b)|(refine Gd ?_;intro g cap rest hcap)|(refine Gc ?_;intro ad cap)|(refine St.draw (id:=4) [(0,0),(1,0),(2,0),(3,1),(4,0),(5,0),(6,0),(7,1),(8,0),(9,0),(10,0),(11,1),(12,2),(13,3)] [13] mixed (by kernel_rfl) ?_)|(refine St.draw (id:=5) [(0,0),(1,0),(2,0),(3,0),(4,1),(5,0),(6,0),(7,0),(8,1),(9,0),(10,0),(11,0),(12,0),(13,0),(14,3)] [14] mixed (by kernel_rfl) ?_)|(refine St.draw (id:=7) [(0,0),(1,0),(2,0),(3,1),(4,0),(5,1),(6,0),(7,1),(8,0),(9,0),(10,3)] [10] mixed (by kernel_rfl) ?_)|(refine St.draw (id:=8) [(0,0),(1,0),(2,0),(3,1),(4,0),(5,0),(6,0),(7,0),(8,1),(9,0),(10,1),(11,0),(12,0),(13,1),(14,1),(15,0),(16,3)] [16] mixed (by kernel_rfl) ?_)|(refine St.draw (id:=9) [(0,0),(1,0),(2,0),(3,0),(4,1),(5,0),(6,1),(7,0),(8,0),(9,0),(10,3)] [10] mixed (by kernel_rfl) ?_)|(refine Ge ?_ ?_<;>(intro h;try (exfalso;omega)))|fail)
      refine St.d1 Tryz.func191 ⟨_,⟨rfl,rfl⟩, ?_⟩
      exact Ent.trans Ent.go (Ent.ex_in (Ls:=wsL W room (puts.take n)) y)
end Go.Proofs.YthmbgodcpgkkeaaGreat
namespace Go.Proofs.YthmbgodcpgkkeaaGreat
set_option maxRecDepth 100000 in
theorem clone_ent (v:Value) (n:Nat) (xs:List Value) (h1:xs.all one=true) (hn:n≤1000000000):Tri Tryz.prog 165 #[v] [Row v 119 2 n xs]
    fun r L=>∃ ad cap,r=.slice ad n cap∧L=[Row v 119 2 n xs,Row (.slice ad n cap) 119 2 n xs]:=by
  refine Tri.of_body (vs:=[_]) Tryz.func165 rfl rfl fun w0 F=>?_
  refine St.rowC (fun hv h0 hx=>?_) (fun g cap rest hv hrf=>?_)
  · subst hv h0 hx
    repeat' (first|refine Ga ?_|(refine Gb ?_;intro b)|(refine Gd ?_;intro g cap rest hcap)|(refine Gc ?_;intro ad cap) |(refine Ge ?_ ?_<;>(intro h;try (exfalso;omega)))|fail)
    refine St.d1 Tryz.func165 ⟨_,⟨none,0,rfl,rfl⟩, ?_⟩
    exact Ent.trans (Ent.row_nil 119 2) (Ent.trans (Ent.row_nil 119 2) Ent.go)
  · subst hv
    have htk:TakeN (n * 2) (xs++rest) xs:=by rw [←hrf.len];exact TakeN.app _ _
    repeat' (first|refine Ga ?_|(refine Gb ?_;intro b)|(refine Gd ?_;intro g cap rest hcap)|(refine Gc ?_;intro ad cap) |(refine Ge ?_ ?_<;>(intro h;try (exfalso;omega)))|fail)
    refine St.d1 Tryz.func165 ⟨_,⟨_,_,rfl,rfl⟩, ?_⟩
    refine Ent.trans (Ent.of_take (p:=bl g 119 (xs++rest)) Take.go) (Ent.trans (Ent.rowF hrf) Ent.go)
set_option maxRecDepth 100000 in
theorem wallE_t (W room:Nat) (puts:List (Int×Nat)):Tri Tryz.prog 77 #[.pointer (some ⟨W,0,none⟩)] [WsE W room puts]
    fun r L=>∃ ad cap,r=.slice ad (allP puts).length cap∧L=[WsE W room puts,Row (.slice ad (allP puts).length cap) 119 2 (allP puts).length ((allP puts).flatMap entV)]:=by
  refine Tri.ex_out fun x=>?_
  have hm:=x.hm
  have hr:=x.hr
  have hcl:=clone_ent (.slice x.lad (allP puts).length x.lcap) (allP puts).length _ (entV_one (allP puts)) (by omega)
  refine Tri.of_body (vs:=[_]) Tryz.func77 rfl rfl fun w0 F=>?_
  repeat' (first|refine Ga ?_|(refine Gb ?_;intro b)|(refine Gd ?_;intro g cap rest hcap)|(refine Gc ?_;intro ad cap) |(refine Gt hcl ?_;rintro _ _ ⟨ad,cap,rfl,rfl⟩)|(refine Ge ?_ ?_<;>(intro h;try (exfalso;omega)))|fail)
  refine St.d1 Tryz.func77 ⟨_,⟨_,_,rfl,rfl⟩, ?_⟩
  exact Ent.trans Ent.go (Ent.ex_in (Ls:=wsL W room puts) x)
def Ws (W room:Nat) (puts:List (Int×Nat)):HProp:=WsE W room puts
theorem wnew_t (room:Nat) (hr:room≤65536):Tri Tryz.prog 21 #[.int .i64 (room:Int)] [] fun v L=>∃ W,v=.pointer (some ⟨W,0,none⟩)∧L=[Ws W room []]:=wnewE_t room hr
theorem wget_r (W room:Nat) (puts:List (Int×Nat)) (a:Int):RTri Tryz.prog 78 #[.pointer (some ⟨W,0,none⟩), .int .i64 a] [Ws W room puts] (.tuple ⟨[.int .u64 (((mget (allP puts) a).getD 0:Nat):Int), .bool (mget (allP puts) a).isSome]⟩):=wgetE_r W room puts a
theorem wmark_r (W room:Nat) (puts:List (Int×Nat)):RTri Tryz.prog 81 #[.pointer (some ⟨W,0,none⟩)] [Ws W room puts] (.int .i64 (puts.length:Int)):=wmarkE_r W room puts
theorem wput_t (W room:Nat) (puts:List (Int×Nat)) (a:Int) (v:Nat) (hlen:puts.length≤1000000000):Tri Tryz.prog 112 #[.pointer (some ⟨W,0,none⟩), .int .i64 a, .int .u64 (v:Int)] [Ws W room puts] fun r L=>r=.int .i64 (putR room puts a)∧L=[Ws W room (putP room puts a v)]:=wputE_t W room puts a v hlen
theorem wback_t (W room mark:Nat) (puts:List (Int×Nat)) (hm:mark≤puts.length) (hlen:puts.length≤1000000000):Tri Tryz.prog 191 #[.pointer (some ⟨W,0,none⟩), .int .i64 (mark:Int)] [Ws W room puts] fun r L=>r=.bool true∧L=[Ws W room (puts.take mark)]:=wbackE_t W room mark puts hm hlen
theorem wall_t (W room:Nat) (puts:List (Int×Nat)):Tri Tryz.prog 77 #[.pointer (some ⟨W,0,none⟩)] [Ws W room puts]
    fun r L=>∃ ad cap,r=.slice ad (allP puts).length cap∧L=[Ws W room puts,Row (.slice ad (allP puts).length cap) 119 2 (allP puts).length ((allP puts).flatMap entV)]:=wallE_t W room puts
attribute [irreducible] Ws
end Go.Proofs.YthmbgodcpgkkeaaGreat
