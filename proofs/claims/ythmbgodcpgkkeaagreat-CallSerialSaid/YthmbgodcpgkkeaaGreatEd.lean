/-
  Blocks that are taken, and put into limbo, in plain terms. What stood in limbo is settled, in plain terms: what nobody names is free again, the rest stays. A memory that is settled holds what it held.
-/
import Derived.Test.YthmbgodcpgkkeaaGreatEa
section
namespace Go.Proofs.YthmbgodcpgkkeaaGreat
set_option maxRecDepth 100000
theorem ne_kind {c:Cfg} (hc:Small c) {k1 i1 j1 k2 i2 j2:Int} (h1:7≤k1∧k1≤16) (h2:7≤k2∧k2≤16) (a1:0≤i1∧i1<(c.cnt k1).1∧0≤j1∧j1<(c.cnt k1).2) (a2:0≤i2∧i2<(c.cnt k2).1∧0≤j2∧j2<(c.cnt k2).2) (hn:¬ (k1=k2∧i1=i2∧j1=j2)):c.at k1 i1 j1≠c.at k2 i2 j2 :=
  at_ne hc h1 h2 ⟨a1.1,a1.2.1⟩ ⟨a1.2.2.1,a1.2.2.2⟩ ⟨a2.1,a2.2.1⟩ ⟨a2.2.2.1,a2.2.2.2⟩ hn
theorem in10 (c:Cfg) {k:Nat} (h:k<16):0≤(k:Int)∧(k:Int)<(c.cnt 10).1∧(0:Int)≤0∧0<(c.cnt 10).2:=by rw [cnt10];dsimp only;omega
theorem in11 {c:Cfg} {b:Nat} (h:(b:Int)<c.blocks):0≤(b:Int)∧(b:Int)<(c.cnt 11).1∧(0:Int)≤0∧0<(c.cnt 11).2:=by rw [cnt11];dsimp only;omega
theorem in12 (c:Cfg):0≤(0:Int)∧(0:Int)<(c.cnt 12).1∧(0:Int)≤0∧0<(c.cnt 12).2:=by rw [cnt12];dsimp only;omega
theorem in14 (c:Cfg):0≤(0:Int)∧(0:Int)<(c.cnt 14).1∧(0:Int)≤0∧0<(c.cnt 14).2:=by rw [cnt14];dsimp only;omega
theorem in13 {c:Cfg} {b:Nat} (h:(b:Int)<c.blocks):0≤(b:Int)∧(b:Int)<(c.cnt 13).1∧(0:Int)≤0∧0<(c.cnt 13).2:=by rw [cnt13];dsimp only;omega
theorem in15 {c:Cfg} {b:Nat} (h:(b:Int)<c.limit):0≤(b:Int)∧(b:Int)<(c.cnt 15).1∧(0:Int)≤0∧0<(c.cnt 15).2:=by rw [cnt15];dsimp only;omega
theorem in16 {c:Cfg} {b w:Nat} (h:(b:Int)<c.blocks) (hw:w<8):0≤(b:Int)∧(b:Int)<(c.cnt 16).1∧(0:Int)≤(w:Int)∧(w:Int)<(c.cnt 16).2:=by rw [cnt16];dsimp only;omega
theorem zero8_get (w:Nat):zero8.getD w 0=0:=by
  unfold zero8
  rcases w with _|_|_|_|_|_|_|_|w<;>rfl
section
variable {c:Cfg} {V V':Int→Nat} {fs ls R:List Nat} {B:List (Int×List Nat)} {b:Nat}
theorem gput_all {κ β:Type} [DecidableEq κ] {P:κ×β→Prop} {k:κ} {x:β} (hx:P (k,x)):∀ {m:List (κ×β)},(∀ p∈m,P p)→∀ p∈mput m k x,P p
  | [],_,p,hp=>by
    unfold mput at hp
    rw [List.mem_singleton] at hp
    subst hp;exact hx
  | (a,y)::m,h,p,hp=>by
    unfold mput at hp
    split at hp
    · next e =>
      rcases List.mem_cons.1 hp with rfl|hp
      · rw [e];exact hx
      · exact h p (List.mem_cons_of_mem _ hp)
    · rcases List.mem_cons.1 hp with rfl|hp
      · exact h _ (List.mem_cons_self ..)
      · exact gput_all hx (fun q hq=>h q (List.mem_cons_of_mem _ hq)) p hp
theorem RepV.take (hc:Small c) (h:RepV c V (fs++[b]) ls R B) (hl:V' (c.at 11 b 0)=1) (hw:∀ w:Nat,w<8→V' (c.at 16 b w)=0) (ho:∀ a,a≠c.at 11 b 0→(∀ w:Nat,w<8→a≠c.at 16 b w)→V' a=V a):RepV c V' fs ls R (mput B ((b:Int)+1) zero8):=by
  obtain ⟨hb,hv0⟩:=h.free b (List.mem_append_right _ (List.mem_singleton_self b))
  have hnd:=h.fnod
  rw [List.nodup_append] at hnd
  have hnb:∀ x∈fs,x≠b:=fun x hx e=>hnd.2.2 x hx b (List.mem_singleton_self b) e
  have hnl:∀ x∈ls,x≠b:=fun x hx e=>by
    have:=(h.limbo x hx).2
    rw [e,hv0] at this;cases this
  have hnone:mget B ((b:Int)+1)=none:=by
    cases e:mget B ((b:Int)+1) with
    | none=>rfl
    | some l =>
      have:=(h.life b hb).2 (by rw [e];rfl)
      rw [hv0] at this;cases this
  have n:∀ {kind i j:Int},7≤kind∧kind≤15→kind≠11→(0≤i∧i<(c.cnt kind).1∧0≤j∧j<(c.cnt kind).2)→V' (c.at kind i j)=V (c.at kind i j):=fun {kind i j} hk hk2 hi =>
    ho _ (ne_kind hc (by omega) (by decide) hi (in11 hb) (by omega)) fun w hw=>ne_kind hc (by omega) (by decide) hi (in16 hb hw) (by omega)
  have n11:∀ b':Nat,(b':Int)<c.blocks→b'≠b→V' (c.at 11 b' 0)=V (c.at 11 b' 0):=fun b' hb' hne =>
    ho _ (ne_kind hc (by decide) (by decide) (in11 hb') (in11 hb) (by omega)) fun w hw=>ne_kind hc (by decide) (by decide) (in11 hb') (in16 hb hw) (by omega)
  have n16:∀ b' w:Nat,(b':Int)<c.blocks→w<8→b'≠b→V' (c.at 16 b' w)=V (c.at 16 b' w):=fun b' w hb' hw' hne =>
    ho _ (ne_kind hc (by decide) (by decide) (in16 hb' hw') (in11 hb) (by omega)) fun w2 hw2=>ne_kind hc (by decide) (by decide) (in16 hb' hw') (in16 hb hw2) (by omega)
  have hfl:fs.length+1=(fs++[b]).length:=by rw [List.length_append];rfl
  have hfsz:=h.fsz
  refine ⟨h.rl,fun k hk=>?_,fun b' hb'=>?_,fun b' hb' l e w hw'=>?_,gput_all (P:=fun p:Int×List Nat=>p.2.length=8) rfl h.len,gput_all (P:=fun p:Int×List Nat=>1≤p.1∧p.1≤c.blocks) (by dsimp only;omega) h.keys,gput_nod h.nod,fun x hx=>?_,fun x hx=>?_,fun i hi=>?_,fun i hi=>?_,hnd.1,h.lnod,fun b' hb'=>?_, ?_,h.lsz⟩
  · rw [n (by decide) (by decide) (in10 c hk)];exact h.root k hk
  · rw [gput]
    by_cases e:b'=b
    · subst e
      rw [if_pos rfl,hl];exact ⟨fun _=>rfl,fun _=>rfl⟩
    · rw [if_neg (by omega),n11 b' hb' e];exact h.life b' hb'
  · rw [gput] at e
    by_cases eb:b'=b
    · subst eb
      rw [if_pos rfl] at e
      injection e with e
      subst e
      rw [hw w hw',zero8_get]
    · rw [if_neg (by omega)] at e
      rw [n16 b' w hb' hw' eb];exact h.word b' hb' l e w hw'
  · obtain ⟨h1,h2⟩:=h.free x (List.mem_append_left _ hx)
    exact ⟨h1,by rw [n11 x h1 (hnb x hx)];exact h2⟩
  · obtain ⟨h1,h2⟩:=h.limbo x hx
    exact ⟨h1,by rw [n11 x h1 (hnl x hx)];exact h2⟩
  · rw [n (by decide) (by decide) (in13 (by omega)),h.stack i (by omega)]
    exact List.getElem_append_left hi
  · have:=h.lsz
    rw [n (by decide) (by decide) (in15 (by omega))];exact h.lim i hi
  · by_cases e:b'=b
    · subst e;exact .inr (.inr hl)
    · rcases h.cov b' hb' with hx|hx|hx
      · rcases List.mem_append.1 hx with hx|hx
        · exact .inl hx
        · rw [List.mem_singleton] at hx;exact absurd hx e
      · exact .inr (.inl hx)
      · exact .inr (.inr (by rw [n11 b' hb' e];exact hx))
  · rw [gput_len,if_neg (by rw [hnone];simp)]
    have:=h.cnt
    omega
theorem RepV.give (hc:Small c) (h:RepV c V fs ls R B) (hb:(b:Int)<c.blocks) {l:List Nat} (e:mget B ((b:Int)+1)=some l) (hlt:(ls.length:Int)<c.limit) (hl:V' (c.at 11 b 0)=2) (hw:V' (c.at 15 ls.length 0)=b) (ho:∀ a,a≠c.at 11 b 0→a≠c.at 15 ls.length 0→V' a=V a):RepV c V' fs (ls++[b]) R (mdel B ((b:Int)+1)):=by
  have hv1:=(h.life b hb).2 (by rw [e];rfl)
  have hnf:∀ x∈fs,x≠b:=fun x hx ex=>by
    have:=(h.free x hx).2
    rw [ex,hv1] at this;cases this
  have hnl:∀ x∈ls,x≠b:=fun x hx ex=>by
    have:=(h.limbo x hx).2
    rw [ex,hv1] at this;cases this
  have n:∀ {kind i j:Int},7≤kind∧kind≤16→kind≠11→kind≠15→(0≤i∧i<(c.cnt kind).1∧0≤j∧j<(c.cnt kind).2)→V' (c.at kind i j)=V (c.at kind i j):=fun {kind i j} hk hk2 hk3 hi =>
    ho _ (ne_kind hc (by omega) (by decide) hi (in11 hb) (by omega)) (ne_kind hc (by omega) (by decide) hi (in15 hlt) (by omega))
  have n11:∀ b':Nat,(b':Int)<c.blocks→b'≠b→V' (c.at 11 b' 0)=V (c.at 11 b' 0):=fun b' hb' hne =>
    ho _ (ne_kind hc (by decide) (by decide) (in11 hb') (in11 hb) (by omega)) (ne_kind hc (by decide) (by decide) (in11 hb') (in15 hlt) (by omega))
  have n15:∀ i:Nat,i<ls.length→V' (c.at 15 i 0)=V (c.at 15 i 0):=fun i hi =>
    ho _ (ne_kind hc (by decide) (by decide) (in15 (by omega)) (in11 hb) (by omega)) (ne_kind hc (by decide) (by decide) (in15 (by omega)) (in15 hlt) (by omega))
  have hfsz:=h.fsz
  have hsub:=gdel_sub ((b:Int)+1) B
  refine ⟨h.rl,fun k hk=>?_,fun b' hb'=>?_,fun b' hb' l' e' w hw'=>?_,fun p hp=>h.len p (hsub.subset hp),fun p hp=>h.keys p (hsub.subset hp),(hsub.map _).nodup h.nod,fun x hx=>?_,fun x hx=>?_,fun i hi=>?_,fun i hi=>?_,h.fnod, ?_,fun b' hb'=>?_, ?_, ?_⟩
  · rw [n (by decide) (by decide) (by decide) (in10 c hk)];exact h.root k hk
  · by_cases eb:b'=b
    · subst eb
      rw [hl,gdel h.nod];exact ⟨fun x=>(by cases x),fun x=>(by cases x)⟩
    · rw [n11 b' hb' eb,gdel_ne (by omega)];exact h.life b' hb'
  · by_cases eb:b'=b
    · subst eb
      rw [gdel h.nod] at e';cases e'
    · rw [gdel_ne (by omega)] at e'
      rw [n (by decide) (by decide) (by decide) (in16 hb' hw')];exact h.word b' hb' l' e' w hw'
  · obtain ⟨h1,h2⟩:=h.free x hx
    exact ⟨h1,by rw [n11 x h1 (hnf x hx)];exact h2⟩
  · rcases List.mem_append.1 hx with hx|hx
    · obtain ⟨h1,h2⟩:=h.limbo x hx
      exact ⟨h1,by rw [n11 x h1 (hnl x hx)];exact h2⟩
    · rw [List.mem_singleton] at hx;subst hx;exact ⟨hb,hl⟩
  · rw [n (by decide) (by decide) (by decide) (in13 (by omega))];exact h.stack i hi
  · rw [List.length_append,List.length_singleton] at hi
    by_cases ei:i<ls.length
    · rw [n15 i ei,h.lim i ei,List.getElem_append_left ei]
    · obtain rfl:i=ls.length:=by omega
      rw [hw,List.getElem_append_right (Nat.le_refl _)]
      simp
  · rw [List.nodup_append]
    exact ⟨h.lnod,by simp,fun x hx y hy exy=>by rw [List.mem_singleton] at hy;subst hy;exact hnl x hx exy⟩
  · by_cases eb:b'=b
    · subst eb;exact .inr (.inl (List.mem_append_right _ (List.mem_singleton_self b')))
    · rcases h.cov b' hb' with hx|hx|hx
      · exact .inl hx
      · exact .inr (.inl (List.mem_append_left _ hx))
      · exact .inr (.inr (by rw [n11 b' hb' eb];exact hx))
  · have:=gdel_len e
    have:=h.cnt
    rw [List.length_append,List.length_singleton]
    omega
  · rw [List.length_append,List.length_singleton];omega
end
end Go.Proofs.YthmbgodcpgkkeaaGreat
end
section
namespace Go.Proofs.YthmbgodcpgkkeaaGreat
set_option maxRecDepth 100000
theorem putP_ovl {room:Nat} {puts:List (Int×Nat)} (V:Int→Nat) {a:Int} {v:Nat} (h:puts.length<room):ovl (putP room puts a v) V=updV (ovl puts V) a v:=by
  unfold putP
  rw [if_neg]
  · exact ovl_snoc puts V a v
  · rintro ⟨_,h2⟩
    have:=allP_len puts
    omega
def stayL (names l:List Nat):List Nat:=l.filter fun b=>cnt names ((b:Int)+1)≠0
def goneL (names l:List Nat):List Nat:=l.filter fun b=>cnt names ((b:Int)+1)=0
theorem stayL_cons {names l:List Nat} {b:Nat}:stayL names (b::l)=if cnt names ((b:Int)+1)=0 then stayL names l else b::stayL names l:=by
  unfold stayL
  rw [List.filter_cons]
  by_cases h:cnt names ((b:Int)+1)=0
  · simp [h]
  · simp [h]
theorem goneL_cons {names l:List Nat} {b:Nat}:goneL names (b::l)=if cnt names ((b:Int)+1)=0 then b::goneL names l else goneL names l:=by
  unfold goneL
  rw [List.filter_cons]
  by_cases h:cnt names ((b:Int)+1)=0
  · simp [h]
  · simp [h]
theorem goneL_sub (names l:List Nat):(goneL names l).Sublist l:=List.filter_sublist
theorem stayL_sub (names l:List Nat):(stayL names l).Sublist l:=List.filter_sublist
theorem stay_gone {names:List Nat}:∀ {l:List Nat},(stayL names l).length+(goneL names l).length=l.length
  | []=>rfl
  | b::l=>by
    have:=stay_gone (names:=names) (l:=l)
    rw [stayL_cons,goneL_cons]
    split
    · rw [List.length_cons,List.length_cons];omega
    · rw [List.length_cons,List.length_cons];omega
theorem stay_or {names l:List Nat} {b:Nat} (h:b∈l):b∈stayL names l∨b∈goneL names l:=by
  unfold stayL goneL
  by_cases e:cnt names ((b:Int)+1)=0
  · exact .inr (List.mem_filter.2 ⟨h,by simpa using e⟩)
  · exact .inl (List.mem_filter.2 ⟨h,by simpa using e⟩)
theorem stay_not {names l:List Nat} {b:Nat} (h:b∈stayL names l) (h2:b∈goneL names l):False:=by
  unfold stayL goneL at *
  have:=(List.mem_filter.1 h).2
  have:=(List.mem_filter.1 h2).2
  simp_all
structure SetV (c:Cfg) (V V':Int→Nat) (n kp:Nat) (D K:List Nat) (m:Nat):Prop where
  life:∀ b∈D,V' (c.at 11 b 0)=0
  stack:∀ (i:Nat) (h:i<D.length),V' (c.at 13 ((n+i:Nat):Int) 0)=D[i]
  lim:∀ (i:Nat) (h:i<K.length),V' (c.at 15 ((kp+i:Nat):Int) 0)=K[i]
  rest:∀ a,(∀ b∈D,a≠c.at 11 b 0)→(∀ i,i<D.length→a≠c.at 13 ((n+i:Nat):Int) 0)→(∀ i,i<m→a≠c.at 15 ((kp+i:Nat):Int) 0)→V' a=V a
theorem setGo_v {c:Cfg} (hc:Small c) {room:Nat} {names:List Nat} (V:Int→Nat):∀ (l:List Nat) (k n:Nat) (s:SetS),s.nt=(n:Int)→(∀ b∈l,(b:Int)<c.blocks)→l.Nodup→((n+l.length:Nat):Int)≤c.blocks→s.puts.length+2 * l.length≤room→s.kept≤k→((k+l.length:Nat):Int)≤c.limit→
    (∀ (i:Nat) (h:i<l.length),ovl s.puts V (c.at 15 ((k+i:Nat):Int) 0)=l[i])→
    (setGo c room names k l s).kept=s.kept+(stayL names l).length∧(setGo c room names k l s).nt=((n+(goneL names l).length:Nat):Int)∧(setGo c room names k l s).puts.length≤s.puts.length+2 * l.length∧
      SetV c (ovl s.puts V) (ovl (setGo c room names k l s).puts V) n s.kept (goneL names l) (stayL names l) (k+l.length - s.kept)
  | [],k,n,s,hn,_,_,_,_,_,_,_=>⟨rfl,hn,Nat.le_refl _,⟨fun b hb=>(by cases hb),fun i hi=>absurd hi (Nat.not_lt_zero _),fun i hi=>absurd hi (Nat.not_lt_zero _),fun a _ _ _=>rfl⟩⟩
  | b::l,k,n,s,hn,hbl,hnd,hnb,hrm,hk,hkl,hl=>by
    rw [List.length_cons] at hnb hrm hkl
    obtain ⟨hb',hnd'⟩:=List.nodup_cons.1 hnd
    have hb:=hbl b (List.mem_cons_self ..)
    have hbl':∀ x∈l,(x:Int)<c.blocks:=fun x hx=>hbl x (List.mem_cons_of_mem _ hx)
    rw [setGo,stayL_cons,goneL_cons]
    by_cases h0:cnt names ((b:Int)+1)=0
    · rw [if_pos h0,if_pos h0]
      have e1:setStep c room names k b s=⟨s.kept,(n:Int)+1,putP room (putP room s.puts (c.at 11 b 0) 0) (c.at 13 n 0) b⟩:=by
        unfold setStep relP
        rw [if_neg (by omega),if_pos h0,if_pos (by omega),hn]
      have hp1:=putP_len room s.puts (c.at 11 b 0) 0
      have hp2:=putP_len room (putP room s.puts (c.at 11 b 0) 0) (c.at 13 n 0) b
      have e2:ovl (putP room (putP room s.puts (c.at 11 b 0) 0) (c.at 13 n 0) b) V=updV (updV (ovl s.puts V) (c.at 11 b 0) 0) (c.at 13 n 0) b:=by
        rw [putP_ovl V (by omega),putP_ovl V (by omega)]
      rw [e1]
      generalize hP:putP room (putP room s.puts (c.at 11 b 0) 0) (c.at 13 n 0) b=P at hp2 e2
      have g13:=in13 (c:=c) (b:=n) (by omega)
      have g11:=in11 hb
      obtain ⟨i1,i2,i3,i4⟩:=setGo_v hc (room:=room) (names:=names) V l (k+1) (n+1) ⟨s.kept,(n:Int)+1,P⟩ (by simp) hbl' hnd' (by omega) (by dsimp only;omega) (by dsimp only;omega) (by omega) (fun i hi=>by
        have g15:=in15 (c:=c) (b:=k+1+i) (by omega)
        dsimp only
        rw [e2,updV_ne _ (ne_kind hc (by decide) (by decide) g15 g13 (by omega)),updV_ne _ (ne_kind hc (by decide) (by decide) g15 g11 (by omega))]
        have:=hl (i+1) (by rw [List.length_cons];omega)
        rw [show k+1+i=k+(i+1) by omega,this];rfl)
      dsimp only at i1 i2 i3 i4
      have hsub:=goneL_sub names l
      have hgl:=hsub.length_le
      refine ⟨i1,by rw [i2,List.length_cons];omega,by rw [List.length_cons];omega,⟨fun b2 hb2=>?_,fun i hi=>?_,i4.lim,fun a h1 h2 h3=>?_⟩⟩
      · rcases List.mem_cons.1 hb2 with rfl|hb2
        · rw [i4.rest _ (fun x hx=>ne_kind hc (by decide) (by decide) g11 (in11 (hbl' x (hsub.subset hx))) (fun e=>hb' (have e3:b2=x:=(by omega);e3▸hsub.subset hx)))
            (fun i hi=>ne_kind hc (by decide) (by decide) g11 (in13 (by omega)) (by omega)) (fun i hi=>ne_kind hc (by decide) (by decide) g11 (in15 (by omega)) (by omega)),e2,updV_ne _ (ne_kind hc (by decide) (by decide) g11 g13 (by omega)),updV_same]
        · exact i4.life b2 hb2
      · rw [List.length_cons] at hi
        cases i with
        | zero =>
          have g13':=in13 (c:=c) (b:=n+0) (by omega)
          rw [i4.rest _ (fun x hx=>ne_kind hc (by decide) (by decide) g13' (in11 (hbl' x (hsub.subset hx))) (by omega))
            (fun i hi=>ne_kind hc (by decide) (by decide) g13' (in13 (by omega)) (by omega)) (fun i hi=>ne_kind hc (by decide) (by decide) g13' (in15 (by omega)) (by omega)),e2]
          exact updV_same _ _ _
        | succ i =>
          have:=i4.stack i (by omega)
          rw [show n+(i+1)=n+1+i by omega,this];rfl
      · rw [i4.rest a (fun x hx=>h1 x (List.mem_cons_of_mem _ hx)) (fun i hi=>by
          have:=h2 (i+1) (by rw [List.length_cons];omega)
          rw [show n+1+i=n+(i+1) by omega];exact this) (fun i hi=>h3 i (by rw [List.length_cons];omega)),e2,updV_ne _ (by have:=h2 0 (by rw [List.length_cons];omega);simpa using this),updV_ne _ (h1 b (List.mem_cons_self ..))]
    · rw [if_neg h0,if_neg h0]
      have e1:setStep c room names k b s=⟨s.kept+1,n,if s.kept≠k then putP room s.puts (c.at 15 s.kept 0) b else s.puts⟩:=by
        unfold setStep
        rw [if_neg (by omega),if_neg h0,hn]
      have hp1:=putP_len room s.puts (c.at 15 s.kept 0) b
      have g15k:=in15 (c:=c) (b:=s.kept) (by omega)
      obtain ⟨P,hP,hPl,hPb,hPo⟩:∃ P,(if s.kept≠k then putP room s.puts (c.at 15 s.kept 0) b else s.puts)=P∧P.length≤s.puts.length+1∧ovl P V (c.at 15 s.kept 0)=b∧∀ a,a≠c.at 15 s.kept 0→ovl P V a=ovl s.puts V a:=by
        by_cases hkk:s.kept=k
        · refine ⟨s.puts,by rw [if_neg (by simpa using hkk)],by omega, ?_,fun a _=>rfl⟩
          have:=hl 0 (by rw [List.length_cons];omega)
          rw [hkk]
          simpa using this
        · refine ⟨putP room s.puts (c.at 15 s.kept 0) b,by rw [if_pos hkk],by omega, ?_,fun a ha=>?_⟩
          · rw [putP_ovl V (by omega),updV_same]
          · rw [putP_ovl V (by omega),updV_ne _ ha]
      rw [e1,hP]
      obtain ⟨i1,i2,i3,i4⟩:=setGo_v hc (room:=room) (names:=names) V l (k+1) n ⟨s.kept+1,(n:Int),P⟩ rfl hbl' hnd' (by omega) (by dsimp only;omega) (by dsimp only;omega) (by omega) (fun i hi=>by
        have g15:=in15 (c:=c) (b:=k+1+i) (by omega)
        dsimp only
        rw [hPo _ (ne_kind hc (by decide) (by decide) g15 g15k (by omega))]
        have:=hl (i+1) (by rw [List.length_cons];omega)
        rw [show k+1+i=k+(i+1) by omega,this];rfl)
      dsimp only at i1 i2 i3 i4
      have hsub:=goneL_sub names l
      have hgl:=hsub.length_le
      refine ⟨by rw [i1,List.length_cons];omega,i2,by rw [List.length_cons];omega,⟨i4.life,i4.stack,fun i hi=>?_,fun a h1 h2 h3=>?_⟩⟩
      · rw [List.length_cons] at hi
        have hsl:=(stayL_sub names l).length_le
        cases i with
        | zero =>
          have g15':=in15 (c:=c) (b:=s.kept+0) (by omega)
          rw [i4.rest _ (fun x hx=>ne_kind hc (by decide) (by decide) g15' (in11 (hbl' x (hsub.subset hx))) (by omega))
            (fun i hi=>ne_kind hc (by decide) (by decide) g15' (in13 (by omega)) (by omega)) (fun i hi=>ne_kind hc (by decide) (by decide) g15' (in15 (by omega)) (by omega))]
          exact hPb
        | succ i =>
          have:=i4.lim i (by omega)
          rw [show s.kept+(i+1)=s.kept+1+i by omega,this];rfl
      · rw [i4.rest a h1 h2 (fun i hi=>by
          have:=h3 (i+1) (by rw [List.length_cons];omega)
          rw [show s.kept+1+i=s.kept+(i+1) by omega];exact this),hPo a (by have:=h3 0 (by rw [List.length_cons];omega);simpa using this)]
end Go.Proofs.YthmbgodcpgkkeaaGreat
end
section
namespace Go.Proofs.YthmbgodcpgkkeaaGreat
set_option maxRecDepth 100000
section
variable {c:Cfg} {V V':Int→Nat} {fs ls R:List Nat} {B:List (Int×List Nat)} {b:Nat}
theorem RepV.settle (hc:Small c) (h:RepV c V fs ls R B) {names:List Nat} (hs:SetV c V V' fs.length 0 (goneL names ls) (stayL names ls) ls.length):RepV c V' (fs++goneL names ls) (stayL names ls) R B:=by
  have hgs:=goneL_sub names ls
  have hss:=stayL_sub names ls
  have hg:=hgs.length_le
  have hsl:=hss.length_le
  have hsum:=stay_gone (names:=names) (l:=ls)
  have hlsz:=h.lsz
  have hcnt:=h.cnt
  have hfsz:=h.fsz
  have hbl:∀ b∈goneL names ls,(b:Int)<c.blocks:=fun b hb=>(h.limbo b (hgs.subset hb)).1
  have n:∀ {kind i j:Int},7≤kind∧kind≤16→kind≠11→kind≠13→kind≠15→(0≤i∧i<(c.cnt kind).1∧0≤j∧j<(c.cnt kind).2)→V' (c.at kind i j)=V (c.at kind i j):=fun {kind i j} hk hk2 hk3 hk4 hi =>
    hs.rest _ (fun b hb=>ne_kind hc hk (by decide) hi (in11 (hbl b hb)) (by omega)) (fun i2 hi2=>ne_kind hc hk (by decide) hi (in13 (by omega)) (by omega)) (fun i2 hi2=>ne_kind hc hk (by decide) hi (in15 (by omega)) (by omega))
  have n11:∀ b:Nat,(b:Int)<c.blocks→¬ b∈goneL names ls→V' (c.at 11 b 0)=V (c.at 11 b 0):=fun b hb hn =>
    hs.rest _ (fun b2 hb2=>ne_kind hc (by decide) (by decide) (in11 hb) (in11 (hbl b2 hb2)) (fun e=>hn (have e3:b=b2:=(by omega);e3▸hb2))) (fun i2 hi2=>ne_kind hc (by decide) (by decide) (in11 hb) (in13 (by omega)) (by omega)) (fun i2 hi2=>ne_kind hc (by decide) (by decide) (in11 hb) (in15 (by omega)) (by omega))
  refine ⟨h.rl,fun k hk=>?_,fun b hb=>?_,fun b hb l e w hw=>?_,h.len,h.keys,h.nod,fun x hx=>?_,fun x hx=>?_,fun i hi=>?_,fun i hi=>?_, ?_,hss.nodup h.lnod,fun b hb=>?_, ?_,by omega⟩
  · rw [n (by decide) (by decide) (by decide) (by decide) (in10 c hk)];exact h.root k hk
  · by_cases hm:b∈goneL names ls
    · have h2:=(h.limbo b (hgs.subset hm)).2
      have h3:=h.life b hb
      rw [hs.life b hm]
      rw [h2] at h3
      exact ⟨fun x=>(by cases x),fun x=>(by have:=h3.2 x;cases this)⟩
    · rw [n11 b hb hm];exact h.life b hb
  · rw [n (by decide) (by decide) (by decide) (by decide) (in16 hb hw)];exact h.word b hb l e w hw
  · rcases List.mem_append.1 hx with hx|hx
    · obtain ⟨h1,h2⟩:=h.free x hx
      refine ⟨h1, ?_⟩
      rw [n11 x h1 (fun hm=>by have h3:=(h.limbo x (hgs.subset hm)).2;rw [h2] at h3;cases h3)]
      exact h2
    · exact ⟨hbl x hx,hs.life x hx⟩
  · obtain ⟨h1,h2⟩:=h.limbo x (hss.subset hx)
    exact ⟨h1,by rw [n11 x h1 (fun hm=>stay_not hx hm)];exact h2⟩
  · rw [List.length_append] at hi
    by_cases hi2:i<fs.length
    · rw [List.getElem_append_left hi2,←h.stack i hi2]
      have g:=in13 (c:=c) (b:=i) (by omega)
      exact hs.rest _ (fun b hb=>ne_kind hc (by decide) (by decide) g (in11 (hbl b hb)) (by omega)) (fun i2 hi2=>ne_kind hc (by decide) (by decide) g (in13 (by omega)) (by omega)) (fun i2 hi2=>ne_kind hc (by decide) (by decide) g (in15 (by omega)) (by omega))
    · rw [List.getElem_append_right (by omega)]
      have:=hs.stack (i - fs.length) (by omega)
      rw [←this,show fs.length+(i - fs.length)=i by omega]
  · have:=hs.lim i hi
    rw [←this,Nat.zero_add]
  · rw [List.nodup_append]
    refine ⟨h.fnod,hgs.nodup h.lnod,fun x hx y hy e=>?_⟩
    subst e
    have h1:=(h.free x hx).2
    have h2:=(h.limbo x (hgs.subset hy)).2
    rw [h1] at h2;cases h2
  · rcases h.cov b hb with hx|hx|hx
    · exact .inl (List.mem_append_left _ hx)
    · rcases stay_or (names:=names) hx with hx|hx
      · exact .inr (.inl hx)
      · exact .inl (List.mem_append_right _ hx)
    · by_cases hm:b∈goneL names ls
      · exact .inl (List.mem_append_right _ hm)
      · exact .inr (.inr (by rw [n11 b hb hm];exact hx))
  · rw [List.length_append];omega
theorem RepV.settled (hc:Small c) {V0:Int→Nat} {puts:List (Int×Nat)} {room:Nat} (h:RepV c (ovl puts V0) fs ls R B) (names:List Nat) (hr:puts.length+2 * ls.length≤room):∀ s',setGo c room names 0 ls ⟨0,(fs.length:Int),puts⟩=s'→
    s'.kept=(stayL names ls).length∧s'.nt=((fs++goneL names ls).length:Int)∧s'.puts.length≤puts.length+2 * ls.length∧RepV c (ovl s'.puts V0) (fs++goneL names ls) (stayL names ls) R B:=by
  rintro _ rfl
  have hcnt:=h.cnt
  have hlsz:=h.lsz
  obtain ⟨h1,h2,h3,h4⟩:=setGo_v hc (room:=room) (names:=names) V0 ls 0 fs.length ⟨0,(fs.length:Int),puts⟩ rfl (fun b hb=>(h.limbo b hb).1) h.lnod (by omega) (by dsimp only;omega) (Nat.le_refl _) (by omega) (fun i hi=>by
    have:=h.lim i hi
    rw [Nat.zero_add];exact this)
  dsimp only at h1 h2 h3 h4
  rw [Nat.zero_add] at h1
  refine ⟨h1,by rw [h2,List.length_append],h3, ?_⟩
  refine h.settle hc (V':=ovl (setGo c room names 0 ls ⟨0,(fs.length:Int),puts⟩).puts V0) ?_
  rw [Nat.zero_add,Nat.sub_zero] at h4
  exact h4
end
end Go.Proofs.YthmbgodcpgkkeaaGreat
end
