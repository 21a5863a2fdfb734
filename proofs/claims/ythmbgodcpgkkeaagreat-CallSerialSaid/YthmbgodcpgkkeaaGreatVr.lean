/-
  What was to be written is written: a memory that holds what a program has come to. A memory as it is at first; what settling and ending put. Package model: Run, of any code. Package tumblerlaw11: settled, over any memory. Package tumblerlaw11: holds. One program, in a transaction of its own, over a memory: in plain terms. One program, right or wrong: what holds while it runs; State.Run comes to the same. Package check: Reads.
-/
import Derived.Test.YthmbgodcpgkkeaaGreatEp
import Derived.Test.YthmbgodcpgkkeaaGreatExc
section
namespace Go.Proofs.YthmbgodcpgkkeaaGreat
set_option maxRecDepth 100000
section
variable {c:Cfg} {V V' W:Int→Nat} {fs ls R:List Nat} {B:List (Int×List Nat)} {cs:List Cell} {n:Nat}
theorem RepV.congr (h:RepV c W fs ls R B) (h1:∀ kind i:Int,7≤kind∧kind≤15→(0≤i∧i<(c.cnt kind).1∧(0:Int)≤0∧0<(c.cnt kind).2)→V' (c.at kind i 0)=W (c.at kind i 0)) (h2:∀ b w:Nat,(b:Int)<c.blocks→w<8→W (c.at 11 b 0)=1→V' (c.at 16 b w)=W (c.at 16 b w)):RepV c V' fs ls R B:=by
  have hfz:=h.fsz
  have hlz:=h.lsz
  refine ⟨h.rl,fun k hk=>?_,fun b hb=>?_,fun b hb l e w hw=>?_,h.len,h.keys,h.nod,fun b hb=>?_,fun b hb=>?_,fun i hi=>?_,fun i hi=>?_,h.fnod,h.lnod,fun b hb=>?_,h.cnt,h.lsz⟩
  · rw [h1 10 k (by decide) (in10 c hk)];exact h.root k hk
  · rw [h1 11 b (by decide) (in11 hb)];exact h.life b hb
  · rw [h2 b w hb hw ((h.life b hb).2 (by rw [e];rfl))];exact h.word b hb l e w hw
  · obtain ⟨g1,g2⟩:=h.free b hb
    exact ⟨g1,by rw [h1 11 b (by decide) (in11 g1)];exact g2⟩
  · obtain ⟨g1,g2⟩:=h.limbo b hb
    exact ⟨g1,by rw [h1 11 b (by decide) (in11 g1)];exact g2⟩
  · rw [h1 13 i (by decide) (in13 (by omega))];exact h.stack i hi
  · rw [h1 15 i (by decide) (in15 (by omega))];exact h.lim i hi
  · rw [h1 11 b (by decide) (in11 hb)];exact h.cov b hb
theorem allP_nodG:∀ (P:List (Int×Nat)) (m:List (Int×Nat)),(m.map (·.1)).Nodup→((P.foldl (fun m p=>mput m p.1 p.2) m).map (·.1)).Nodup
  | [],_m,h=>h
  | p::P,m,h=>allP_nodG P (mput m p.1 p.2) (gput_nod h)
theorem allP_nod (P:List (Int×Nat)):((allP P).map (·.1)).Nodup:=allP_nodG P [] List.nodup_nil
def skipB (c:Cfg) (A:List (Int×Nat)) (a:Int):Bool:=(c.what a).1 == 16 && ((mget A (c.at 11 (c.what a).2.1 0)).isSome && (mget A (c.at 11 (c.what a).2.1 0)).getD 0 != 1)
def setE (c:Cfg) (A:List (Int×Nat)) (sq:Nat) (cs:List Cell) (e:Int×Nat):List Cell:=if skipB c A e.1=true then cs else setOf cs e.1 ⟨e.2,sq⟩
def wrote (c:Cfg) (A:List (Int×Nat)) (sq:Nat) (E:List (Int×Nat)) (cs:List Cell):List Cell:=E.foldl (setE c A sq) cs
theorem setE_len (A:List (Int×Nat)) (sq:Nat) (cs:List Cell) (e:Int×Nat):(setE c A sq cs e).length=cs.length:=by
  unfold setE
  split
  · rfl
  · exact setOf_len _ _ _
theorem wrote_len (A:List (Int×Nat)) (sq:Nat):∀ (E:List (Int×Nat)) (cs:List Cell),(wrote c A sq E cs).length=cs.length
  | [],cs=>rfl
  | e::E,cs=>by
    show (wrote c A sq E (setE c A sq cs e)).length=_
    rw [wrote_len A sq E,setE_len]
theorem cellI_setOf {a p:Int} (h0:0≤a) (h1:a<cs.length) (x:Cell):cellI (setOf cs p x) a=if p=a then x else cellI cs a:=by
  unfold setOf cellI
  split
  · rw [List.getD_eq_getElem?_getD,List.getElem?_set]
    by_cases e:p=a
    · subst e
      rw [if_pos rfl,if_pos (by omega),if_pos rfl];rfl
    · rw [if_neg (by omega),if_neg e,←List.getD_eq_getElem?_getD]
  · rw [if_neg (by omega)]
theorem wrote_cell (A:List (Int×Nat)) (sq:Nat):∀ (E:List (Int×Nat)) (cs:List Cell),(E.map (·.1)).Nodup→∀ a:Int,0≤a→a<cs.length→cellI (wrote c A sq E cs) a=match mget E a with|some v=>if skipB c A a=true then cellI cs a else ⟨v,sq⟩|none=>cellI cs a
  | [],cs,_,a,_,_=>rfl
  | (k,v)::E,cs,hnd,a,h0,h1=>by
    rw [List.map_cons,List.nodup_cons] at hnd
    show cellI (wrote c A sq E (setE c A sq cs (k,v))) a=_
    rw [wrote_cell A sq E _ hnd.2 a h0 (by rw [setE_len];exact h1)]
    have hs:cellI (setE c A sq cs (k,v)) a=if k=a then (if skipB c A a=true then cellI cs a else ⟨v,sq⟩) else cellI cs a:=by
      unfold setE
      dsimp only
      by_cases e:k=a
      · subst e
        rw [if_pos rfl]
        split
        · rfl
        · rw [cellI_setOf h0 h1,if_pos rfl]
      · rw [if_neg e]
        split
        · rfl
        · rw [cellI_setOf h0 h1,if_neg e]
    rw [show mget ((k,v)::E) a=if k=a then some v else mget E a from rfl]
    by_cases e:k=a
    · subst e
      rw [if_pos rfl,gdel_none (show ¬ k∈E.map (·.1) from hnd.1)]
      dsimp only
      rw [hs,if_pos rfl]
    · rw [if_neg e] at hs
      rw [if_neg e,hs]
structure MemH (c:Cfg) (cs:List Cell) (n:Nat) (fs ls R:List Nat) (B:List (Int×List Nat)):Prop where
  mem:MemV c cs (fun a=>(cellI cs a).val) n
  rep:RepV c (fun a=>(cellI cs a).val) fs ls R B
  top:(cellI cs (c.at 12 0 0)).val=fs.length
  lim:(cellI cs (c.at 14 0 0)).val=ls.length
theorem MemH.wrote (hc:Small c) (hm:MemV c cs V n) {P:List (Int×Nat)} (h:RepV c (ovl P V) fs ls R B) (ht:ovl P V (c.at 12 0 0)=fs.length) (hl:ovl P V (c.at 14 0 0)=ls.length) {sq:Nat} (hq:n≤sq):MemH c (wrote c (allP P) sq (allP P) cs) sq fs ls R B:=by
  have hs:=hm.sz hc
  have hf:=f717 hc
  have hcell:∀ a,Tx c a→cellI (Go.Proofs.YthmbgodcpgkkeaaGreat.wrote c (allP P) sq (allP P) cs) a=match mget (allP P) a with|some v=>if skipB c (allP P) a=true then cellI cs a else ⟨v,sq⟩|none=>cellI cs a:=fun a ha=>by
    unfold Tx at ha
    exact wrote_cell (allP P) sq (allP P) cs (allP_nod P) a (by omega) (by omega)
  have hval:∀ a,Tx c a→skipB c (allP P) a=false→(cellI (Go.Proofs.YthmbgodcpgkkeaaGreat.wrote c (allP P) sq (allP P) cs) a).val=ovl P V a:=fun a ha hk=>by
    rw [hcell a ha]
    cases e:mget (allP P) a with
    | some v =>
      dsimp only
      rw [hk,if_neg (by decide),ovl_some e]
    | none =>
      dsimp only
      rw [ovl_none e];exact hm.v a ha
  have hk15:∀ kind i:Int,7≤kind∧kind≤15→(0≤i∧i<(c.cnt kind).1∧(0:Int)≤0∧0<(c.cnt kind).2)→(cellI (Go.Proofs.YthmbgodcpgkkeaaGreat.wrote c (allP P) sq (allP P) cs) (c.at kind i 0)).val=ovl P V (c.at kind i 0):=fun kind i hk hi=>by
    refine hval _ (at_in hc (by omega) hi) ?_
    unfold skipB
    rw [at_rest hc (by omega) ⟨hi.1,hi.2.1⟩ ⟨hi.2.2.1,hi.2.2.2⟩]
    have:((kind:Int) == 16)=false:=by simp;omega
    dsimp only
    rw [this];rfl
  refine ⟨⟨(wrote_len _ _ _ _).trans hm.len,fun a _=>rfl,fun a ha=>?_⟩,h.congr hk15 fun b w hb hw hlv=>?_,(hk15 12 0 (by decide) (in12 c)).trans ht,(hk15 14 0 (by decide) (in14 c)).trans hl⟩
  · rw [hcell a ha]
    have:=hm.q a ha
    split
    · split
      · omega
      · exact Nat.le_refl _
    · omega
  · refine hval _ (at_in hc (by decide) (in16 hb hw)) ?_
    unfold skipB
    have h16:=in16 hb hw
    rw [at_rest hc (kind:=16) (by decide) ⟨h16.1,h16.2.1⟩ ⟨h16.2.2.1,h16.2.2.2⟩]
    dsimp only
    cases e:mget (allP P) (c.at 11 b 0) with
    | none=>rfl
    | some x =>
      rw [ovl_some e] at hlv
      subst hlv
      rfl
end
end Go.Proofs.YthmbgodcpgkkeaaGreat
end
section
namespace Go.Proofs.YthmbgodcpgkkeaaGreat
set_option maxRecDepth 100000
theorem sub_len {α:Type} [DecidableEq α]:∀ {l m:List α},l.Nodup→(∀ x∈l,x∈m)→l.length≤m.length
  | [],m,_,_=>Nat.zero_le _
  | x::l,m,hnd,hs=>by
    obtain ⟨h1,h2⟩:=List.nodup_cons.1 hnd
    have hx:=hs x (List.mem_cons_self ..)
    have:=sub_len (m:=m.erase x) h2 fun y hy=>(List.mem_erase_of_ne (fun e:y=x=>h1 (by rw [←e];exact hy))).2 (hs y (List.mem_cons_of_mem _ hy))
    rw [List.length_erase_of_mem hx] at this
    have:=List.length_pos_of_mem hx
    rw [List.length_cons];omega
theorem stay_le {names ls:List Nat} (h:ls.Nodup):(stayL names ls).length≤names.length:=by
  have h1:((stayL names ls).map (·+1)).Nodup:=by
    refine List.Pairwise.map _ (fun a b hab e=>hab ?_) ((stayL_sub names ls).nodup h)
    omega
  have:=sub_len h1 (m:=names) fun x hx=>by
    obtain ⟨b,hb,rfl⟩:=List.mem_map.1 hx
    unfold stayL at hb
    have h2:=(List.mem_filter.1 hb).2
    have h2:cnt names ((b:Int)+1)≠0:=by simpa using h2
    refine Decidable.by_contra fun hn=>h2 ?_
    unfold cnt
    rw [List.countP_eq_zero.2]
    · rfl
    · intro x hx2 e
      have e:=of_decide_eq_true e
      have:x=b+1:=by omega
      exact hn (this▸hx2)
  rw [List.length_map] at this
  exact this
section
variable {c:Cfg} {V:Int→Nat} {room:Nat}
theorem setGo_pk (hc:Small c) {names:List Nat}:∀ (l:List Nat) (k n:Nat) (s:SetS),s.nt=(n:Int)→(∀ b∈l,(b:Int)<c.blocks)→((n+l.length:Nat):Int)≤c.blocks→s.puts.length+2 * l.length≤room→s.kept≤k→((k+l.length:Nat):Int)≤c.limit→Pk c V s.puts→Pk c V (setGo c room names k l s).puts
  | [],k,n,s,_,_,_,_,_,_,h=>h
  | b::l,k,n,s,hn,hbl,hnb,hrm,hk,hkl,h=>by
    rw [List.length_cons] at hnb hrm hkl
    have hb:=hbl b (List.mem_cons_self ..)
    have hbl':∀ x∈l,(x:Int)<c.blocks:=fun x hx=>hbl x (List.mem_cons_of_mem _ hx)
    rw [setGo]
    by_cases h0:cnt names ((b:Int)+1)=0
    · have e1:setStep c room names k b s=⟨s.kept,(n:Int)+1,putP room (putP room s.puts (c.at 11 b 0) 0) (c.at 13 n 0) b⟩:=by
        unfold setStep relP
        rw [if_neg (by omega),if_pos h0,if_pos (by omega),hn]
      have hp1:=putP_len room s.puts (c.at 11 b 0) 0
      have hp2:=putP_len room (putP room s.puts (c.at 11 b 0) 0) (c.at 13 n 0) b
      rw [e1]
      exact setGo_pk hc l (k+1) (n+1) _ (by simp) hbl' (by omega) (by dsimp only;omega) (by dsimp only;omega) (by omega) ((h.life hc (by omega) hb (by decide)).other hc (by omega) (by decide) (by decide) (by decide) (in13 (by omega)) b)
    · have e1:setStep c room names k b s=⟨s.kept+1,n,if s.kept≠k then putP room s.puts (c.at 15 s.kept 0) b else s.puts⟩:=by
        unfold setStep
        rw [if_neg (by omega),if_neg h0,hn]
      have hp1:=putP_len room s.puts (c.at 15 s.kept 0) b
      have hput:=h.other hc (room:=room) (by omega) (kind:=15) (by decide) (by decide) (by decide) (in15 (c:=c) (b:=s.kept) (by omega)) b
      rw [e1]
      by_cases hkk:s.kept=k
      · rw [if_neg (by simpa using hkk)]
        exact setGo_pk hc l (k+1) n _ rfl hbl' (by omega) (by dsimp only;omega) (by dsimp only;omega) (by omega) h
      · rw [if_pos hkk]
        exact setGo_pk hc l (k+1) n _ rfl hbl' (by omega) (by dsimp only;omega) (by dsimp only;omega) (by omega) hput
theorem endP_v (hc:Small c) {puts:List (Int×Nat)} {p:Po} (hpk:Pk c V puts) (hr:puts.length+2≤room) {T L nt nl:Nat} (hT:V (c.at 12 0 0)=T) (hL:V (c.at 14 0 0)=L) (h1:p.wt=(T:Int)) (h2:p.wl=(L:Int)) (h3:p.nt=(nt:Int)) (h4:p.nl=(nl:Int)) :
    ovl (endP c room p puts) V (c.at 12 0 0)=nt∧ovl (endP c room p puts) V (c.at 14 0 0)=nl∧(endP c room p puts).length≤puts.length+2∧∀ a,a≠c.at 12 0 0→a≠c.at 14 0 0→ovl (endP c room p puts) V a=ovl puts V a:=by
  have hne:=ne_kind hc (by decide) (by decide) (in12 c) (in14 c) (by omega)
  have ht:=ovl_none (V:=V) hpk.t
  have hm:=ovl_none (V:=V) hpk.m
  have hp1:=putP_len room puts (c.at 12 0 0) p.nt.toNat
  obtain ⟨Q,hQ,hQl,hQt,hQo⟩:∃ Q,(if p.nt=p.wt then puts else putP room puts (c.at 12 0 0) p.nt.toNat)=Q∧Q.length≤puts.length+1∧ovl Q V (c.at 12 0 0)=nt∧∀ a,a≠c.at 12 0 0→ovl Q V a=ovl puts V a:=by
    by_cases e:p.nt=p.wt
    · refine ⟨puts,if_pos e,by omega, ?_,fun a _=>rfl⟩
      rw [ht,hT];omega
    · refine ⟨_,if_neg e,by omega, ?_,fun a ha=>?_⟩
      · rw [putP_ovl V (by omega),updV_same];omega
      · rw [putP_ovl V (by omega),updV_ne _ ha]
  unfold endP
  rw [hQ]
  have hp2:=putP_len room Q (c.at 14 0 0) p.nl.toNat
  by_cases e:p.nl=p.wl
  · rw [if_pos e]
    exact ⟨hQt,by rw [hQo _ (Ne.symm hne),hm,hL];omega,by omega,fun a h1 _=>hQo a h1⟩
  · rw [if_neg e]
    refine ⟨?_, ?_,by omega,fun a g1 g2=>?_⟩
    · rw [putP_ovl V (by omega),updV_ne _ hne];exact hQt
    · rw [putP_ovl V (by omega),updV_same];omega
    · rw [putP_ovl V (by omega),updV_ne _ g2];exact hQo a g1
theorem RepV.ended (hc:Small c) {puts:List (Int×Nat)} {p:Po} {fs ls R:List Nat} {B:List (Int×List Nat)} (h:RepV c (ovl puts V) fs ls R B) (ho:∀ a,a≠c.at 12 0 0→a≠c.at 14 0 0→ovl (endP c room p puts) V a=ovl puts V a):RepV c (ovl (endP c room p puts) V) fs ls R B:=by
  have hfz:=h.fsz
  have hlz:=h.lsz
  have n:∀ {kind i j:Int},7≤kind∧kind≤16→kind≠12→kind≠14→(0≤i∧i<(c.cnt kind).1∧0≤j∧j<(c.cnt kind).2)→ovl (endP c room p puts) V (c.at kind i j)=ovl puts V (c.at kind i j):=fun {kind i j} hk h1 h2 hi =>
    ho _ (ne_kind hc hk (by decide) hi (in12 c) (by omega)) (ne_kind hc hk (by decide) hi (in14 c) (by omega))
  refine ⟨h.rl,fun k hk=>?_,fun b hb=>?_,fun b hb l e w hw=>?_,h.len,h.keys,h.nod,fun b hb=>?_,fun b hb=>?_,fun i hi=>?_,fun i hi=>?_,h.fnod,h.lnod,fun b hb=>?_,h.cnt,h.lsz⟩
  · rw [n (by decide) (by decide) (by decide) (in10 c hk)];exact h.root k hk
  · rw [n (by decide) (by decide) (by decide) (in11 hb)];exact h.life b hb
  · rw [n (by decide) (by decide) (by decide) (in16 hb hw)];exact h.word b hb l e w hw
  · obtain ⟨g1,g2⟩:=h.free b hb
    exact ⟨g1,by rw [n (by decide) (by decide) (by decide) (in11 g1)];exact g2⟩
  · obtain ⟨g1,g2⟩:=h.limbo b hb
    exact ⟨g1,by rw [n (by decide) (by decide) (by decide) (in11 g1)];exact g2⟩
  · rw [n (by decide) (by decide) (by decide) (in13 (by omega))];exact h.stack i hi
  · rw [n (by decide) (by decide) (by decide) (in15 (by omega))];exact h.lim i hi
  · rw [n (by decide) (by decide) (by decide) (in11 hb)];exact h.cov b hb
def fs0 (c:Cfg):List Nat:=(List.range c.blocks.toNat).map fun i=>c.blocks.toNat - 1 - i
end
end Go.Proofs.YthmbgodcpgkkeaaGreat
end
section
namespace Go.Proofs.YthmbgodcpgkkeaaGreat
set_option maxRecDepth 100000
theorem codeB_of {code:List Ins} (h:rightB code=true):codeB code=true:=by
  obtain ⟨h1,h2,h3⟩:=right_at h
  unfold codeB
  rw [List.all_eq_true]
  intro i hi
  obtain ⟨k,hk,e⟩:=List.getElem_of_mem hi
  have:=h3 k hk
  rw [e] at this
  have h4:=this.ok
  refine decide_eq_true ⟨h4.a0,h4.a1,h4.b0,h4.b1,h4.c0,h4.c1, ?_⟩
  by_cases h17:i.op=17∨i.op=18
  · have:=this.go h17;exact .inl (by omega)
  by_cases h19:i.op=19
  · have:=this.back h19;exact .inl (by omega)
  by_cases h8:i.op=8
  · have:=this.arg h8;exact .inl (by omega)
  · exact .inr (by omega)
theorem mrun_bad (S:Nat) (ms:Ms) (qc q:HProp) (cv:Value) (code:List Ins) (hcv:InsR qc cv code) (hright:rightB code=false) (args:List Value) (_ha:args.length=4) (fuel wr:Int) (pv:Value) :
    Tri Tryz.prog 56 #[.pointer (some ⟨S,0,none⟩),cv, .agg ⟨args⟩, .int .i64 fuel, .int .i64 wr,pv] [MsE S ms,qc,q]
      fun v L=>v=.agg ⟨[.int .i64 30, .int .u64 0, .int .i64 0, .int .i64 0, .slice none 0 0]⟩∧L=[MsE S ms,Row (.slice none 0 0) 22 1 0 [],qc,q]:=by
  have hri:=right_rr qc cv code hcv
  rw [hright] at hri
  refine Tri.of_body (vs:=[_,_,_,_,_,_]) Tryz.func56 rfl rfl fun w0 F=>?_
  repeat' (first|refine Ga ?_|(refine Gb ?_;intro b)|(refine Gd ?_;intro g cap rest hcap)|(refine Gc ?_;intro ad cap)|(refine St.draw (id:=3) [(0,0),(2,1),(3,0),(4,0),(1,2),(5,0),(6,2),(7,0)] [] mixed (by kernel_rfl) ?_)| refine Gl hri ?_|(refine Ge ?_ ?_<;>(intro h;try (exfalso;omega)))|fail)
  refine St.d1 Tryz.func56 ⟨_,⟨rfl,rfl⟩,Ent.trans (Ent.row_nil 22 1) Ent.go⟩
end Go.Proofs.YthmbgodcpgkkeaaGreat
end
section
namespace Go.Proofs.YthmbgodcpgkkeaaGreat
set_option maxRecDepth 100000
structure PoolM (c:Cfg) (cs:List Cell) (n:Nat) (F:Nat) (ls:List Nat):Prop where
  mem:MemV c cs (fun a=>(cellI cs a).val) n
  F1:(F:Int)≤c.blocks
  L1:(ls.length:Int)≤c.limit
  top:(cellI cs (c.at 12 0 0)).val=F
  lim:(cellI cs (c.at 14 0 0)).val=ls.length
  limbo:∀ (i:Nat) (h:i<ls.length),(cellI cs (c.at 15 i 0)).val=ls[i]
theorem MemH.pool {c:Cfg} {cs:List Cell} {n:Nat} {fs ls R:List Nat} {B:List (Int×List Nat)} (h:MemH c cs n fs ls R B):PoolM c cs n fs.length ls :=
  ⟨h.mem,h.rep.fsz,h.rep.lsz,h.top,h.lim,h.rep.lim⟩
def slotS (c:Cfg) (cs:List Cell) (u:Nat):Nat:=(cellI cs (c.at 3 u 0)).val
theorem pool_out {c:Cfg} (hc:Small c) {cs:List Cell} {n F:Nat} {ls:List Nat} (h:PoolM c cs n F ls) {who:Int} (hw:0≤who∧who<8) {k:Nat} (hk:(k:Int)<c.threads+2+ls.length):(doOut cs who (mop 0 (poA c k) 0)).was.val=poV c (slotS c cs) F ls k∧(c.threads≤k→(doOut cs who (mop 0 (poA c k) 0)).was.seq≤n)∧doMem cs who (mop 0 (poA c k) 0)=cs:=by
  have hs:=h.mem.sz hc
  have hf:=f717 hc
  unfold poA poV
  by_cases h1:(k:Int)<c.threads
  · rw [if_pos h1,if_pos h1]
    have:=slot_in hc (u:=k) (by omega) h1
    obtain ⟨g1,g2⟩:=load_out (cs:=cs) hw (a:=c.at 3 k 0) (by omega) (by omega)
    rw [g1]
    exact ⟨rfl,fun e=>by omega,g2⟩
  rw [if_neg h1,if_neg h1]
  by_cases h2:(k:Int)=c.threads
  · rw [if_pos h2,if_pos h2]
    obtain ⟨g1,g2,g3⟩:=h.mem.load hc hw (at_in hc (by decide) (in12 c))
    exact ⟨g1.trans h.top,fun _=>g2,g3⟩
  rw [if_neg h2,if_neg h2]
  by_cases h3:(k:Int)=c.threads+1
  · rw [if_pos h3,if_pos h3]
    obtain ⟨g1,g2,g3⟩:=h.mem.load hc hw (at_in hc (by decide) (in14 c))
    exact ⟨g1.trans h.lim,fun _=>g2,g3⟩
  · rw [if_neg h3,if_neg h3]
    have ht:=hc.t0
    have hj:k - c.threads.toNat - 2<ls.length:=by omega
    have hl:=h.L1
    rw [show (k:Int) - c.threads - 2=((k - c.threads.toNat - 2:Nat):Int) by omega]
    obtain ⟨g1,g2,g3⟩:=h.mem.load hc hw (at_in hc (by decide) (in15 (c:=c) (b:=k - c.threads.toNat - 2) (by omega)))
    refine ⟨g1.trans ((h.limbo _ hj).trans ?_),fun _=>g2,g3⟩
    rw [List.getD_eq_getElem?_getD,List.getElem?_eq_getElem hj];rfl
end Go.Proofs.YthmbgodcpgkkeaaGreat
end
section
namespace Go.Proofs.YthmbgodcpgkkeaaGreat
set_option maxRecDepth 100000
theorem RTri.ex_o {P:Program} {f:FuncId} {args:Array Value} {v:Value} {ι:Type} {Ls:ι→List HProp} {L:List HProp} (h:∀ x,RTri P f args (Ls x++L) v):RTri P f args (ex Ls::L) v:=by
 unfold RTri at *
 intro w hs
 obtain ⟨x,hs⟩:=sat_ex hs
 exact h x w hs
end Go.Proofs.YthmbgodcpgkkeaaGreat
end
section
namespace Go.Proofs.YthmbgodcpgkkeaaGreat
set_option maxRecDepth 100000
def pool1 (c:Cfg) (cs:List Cell) (n:Nat) (F:Nat) (ls:List Nat):Po:=poK c n (slotS c cs) F ls (c.threads.toNat+2+ls.length)
def set1 (c:Cfg) (room:Nat) (p:Po) (puts:List (Int×Nat)):SetS:=setGo c room p.names 0 p.limbo ⟨0,p.nt,puts⟩
section
variable {c:Cfg} {cs cs':List Cell} {n:Nat} {fs ls:List Nat} {ms:Ms}
theorem pool1_eq (hc:Small c):pool1 c cs n fs.length ls=⟨n,((c.threads.toNat+2+ls.length:Nat):Int),(List.range c.threads.toNat).map (slotS c cs),fs.length,ls.length,fs.length,ls.length,ls,1⟩ :=
 poK_fin hc (by have:=hc.t0;omega)
structure Job0 (c:Cfg) (V:Int→Nat) (ms:Ms) (P0:List (Int×Nat)) (nt kept:Int) (fs ls:List Nat):Prop where
 rep:RepV c (ovl P0 V) fs ls ms.roots ms.blocks
 pk:Pk c V P0
 nt:nt=fs.length
 nl:kept=ls.length
 L:(ls.length:Int)≤c.threads
theorem job_set (hc:Small c) (h:MemH c cs n fs ls ms.roots ms.blocks):∃ fs' ls',Job0 c (fun a=>(cellI cs a).val) ms (set1 c c.cap.toNat (pool1 c cs n fs.length ls) []).puts (set1 c c.cap.toNat (pool1 c cs n fs.length ls) []).nt (set1 c c.cap.toNat (pool1 c cs n fs.length ls) []).kept fs' ls'∧(set1 c c.cap.toNat (pool1 c cs n fs.length ls) []).puts.length≤2 * ls.length:=by
 have hlz:=h.rep.lsz
 have hfz:=h.rep.fsz
 have hcnt:=h.rep.cnt
 have hcap:c.cap=c.threads * (c.writes+3)+3 * c.limit+2:=rfl
 have htw:=hc.tw3
 have ht0:=hc.t0
 have hr:([]:List (Int×Nat)).length+2 * ls.length≤c.cap.toNat:=by
  show 0+2 * ls.length≤_
  omega
 have h0:RepV c (ovl [] fun a=>(cellI cs a).val) fs ls ms.roots ms.blocks:=h.rep
 obtain ⟨g1,g2,g3,g4⟩:=h0.settled hc (puts:=[]) (room:=c.cap.toNat) ((List.range c.threads.toNat).map (slotS c cs)) hr _ rfl
 have gp:=setGo_pk (V:=fun a=>(cellI cs a).val) (room:=c.cap.toNat) hc (names:=(List.range c.threads.toNat).map (slotS c cs)) ls 0 fs.length ⟨0,(fs.length:Int),[]⟩ rfl (fun b hb=>(h.rep.limbo b hb).1) (by omega) hr (Nat.le_refl _) (by omega) (Pk.nil _ _)
 have hst:=stay_le (names:=(List.range c.threads.toNat).map (slotS c cs)) h.rep.lnod
 rw [List.length_map,List.length_range] at hst
 rw [pool1_eq hc]
 refine ⟨_,_,⟨g4,gp,g2,by rw [←g1];rfl,by omega⟩, ?_⟩
 have:(setGo c c.cap.toNat ((List.range c.threads.toNat).map (slotS c cs)) 0 ls ⟨0,(fs.length:Int),[]⟩).puts.length≤0+2 * ls.length:=g3
 show (setGo c c.cap.toNat ((List.range c.threads.toNat).map (slotS c cs)) 0 ls ⟨0,(fs.length:Int),[]⟩).puts.length≤2 * ls.length
 omega
end
end Go.Proofs.YthmbgodcpgkkeaaGreat
end
section
namespace Go.Proofs.YthmbgodcpgkkeaaGreat
set_option maxRecDepth 100000
inductive JI (c:Cfg) (V:Int→Nat) (g:Bg) (room:Nat) (code:List Ins) (ms:Ms) (args:List Nat) (P0:List (Int×Nat)) (p:Po) (k:Nat) (m:Xm):Prop
  | right:rightB code=true→XI c V g room code ms args P0 p.nt p.nl k m→m.stops→JI c V g room code ms args P0 p k m
  | wrong:rightB code=false→m=(Xm.init (Vw.new g.who g.sq) p P0 args).fail 30 0→k=0→JI c V g room code ms args P0 p k m
section
variable {c:Cfg} {V:Int→Nat} {g:Bg} {room:Nat} {code:List Ins} {ms:Ms} {args:List Nat} {P0:List (Int×Nat)} {p:Po} {k:Nat} {m:Xm}
theorem JI.steps (hf:0≤c.fuel) (h:JI c V g room code ms args P0 p k m):k+(if (m.ask c).2=true then 1 else 0)≤3 * c.fuel.toNat:=by
  cases h with
  | right h1 h2 h3 =>
    have ha:=h2.inv.asks;have:=h2.inv.s1;have:=h2.inv.s0
    have hrem:(m.ask c).2=true→1≤remOf m:=fun e=>by
      unfold Xm.ask at e
      split at e
      · cases e
      · next hs =>
        have hs:m.x.s=0:=by omega
        rcases h3 with e2|⟨e2,e3⟩
        · exact absurd hs e2
        · unfold remOf
          rw [if_pos ⟨e2,e3⟩]
          repeat' split
          all_goals omega
    split
    · next e=>have:=hrem e;omega
    · omega
  | wrong h1 h2 h3 =>
    subst h2 h3
    have:((Xm.fail (Xm.init (Vw.new g.who g.sq) p P0 args) 30 0).ask c).2=false:=by
      unfold Xm.ask
      rw [if_pos (by show (1:Int)≠0;decide)]
    rw [this]
    simp
end
end Go.Proofs.YthmbgodcpgkkeaaGreat
end
section
namespace Go.Proofs.YthmbgodcpgkkeaaGreat
set_option maxRecDepth 100000
def wrB (i:Ins):Bool:=decide (i.op=10∨i.op=13∨i.op=14∨i.op=15∨i.op=16)
def onlyB (code:List Ins):Bool:=code.all (fun i=>!wrB i) && rightB code
theorem drop_cons' {α:Type} {l:List α} {k:Nat} (h:k<l.length):l.drop k=l[k]::l.drop (k+1):=by simp
set_option maxHeartbeats 1000000 in
theorem reads_r (q:HProp) (cv:Value) (code:List Ins) (hcv:InsR q cv code) (hl:code.length≤9223372036854775807):RTri Tryz.prog 82 #[cv] [q] (.bool (onlyB code)):=by
  refine RTri.of_reads fun p hp=>?_
  have hins:InsR p cv code:=by
    obtain ⟨ad,cap,h1,h2|⟨b,o,l,rest,h3,h4,h5⟩⟩:=hcv
    · exact ⟨ad,cap,h1, .inl h2⟩
    · exact ⟨ad,cap,h1, .inr ⟨b,o,l,rest,h3,RdC.of_sat hp (ReadsC.here h4),h5⟩⟩
  have hri:=right_rr p cv code hins
  obtain ⟨ad,cap,rfl,hr⟩:=hins
  refine Tri.of_body (vs:=[_]) Tryz.func82 rfl rfl fun w0 F=>?_
  repeat' (first|refine Ga ?_|(refine Gb ?_;intro b)|(refine Gd ?_;intro g cap rest hcap)|(refine Gc ?_;intro ad cap) |(refine Ge ?_ ?_<;>(intro h;try (exfalso;omega)))|fail)
  refine St.loopY (Lr:=?Lr1) (ι:={ x:Nat // x≤code.length∧onlyB code=((code.drop x).all (fun i=>!wrB i) && rightB code) }) (fun x=>code.length - x.1) (fun x=>[(7, .int .i64 (x.1:Int))]) (fun _=>[]) ⟨0,Nat.zero_le _,rfl⟩ ?hE1 ?hL1 ?round1
  case hE1=>exact Sub.go
  case hL1=>exact Takes.go
  case round1 =>
    rintro ⟨k,hk,ha⟩ IH;dsimp only at hk ha IH⊢
    by_cases hlt:k<code.length
    · obtain ⟨bf,o,l,l1,rfl,hrd,hdr,htk⟩:=InsR.at hr k hlt
      rw [drop_cons' hlt,List.all_cons] at ha
      generalize code[k]=i at htk ha
      unfold Ins.v at htk
      cases hw:wrB i with
      | true =>
        rw [hw] at ha
        have hw:=of_decide_eq_true hw
        rw [ha]
        clear IH
        repeat' (first|refine Ga ?_|(refine Gb ?_;intro b)|(refine Gd ?_;intro g cap rest hcap)|(refine Gc ?_;intro ad cap) |(refine Ge ?_ ?_<;>(intro h;try (exfalso;omega)))|fail)
        all_goals first|(exfalso;omega)|skip
        all_goals refine St.d1 Tryz.func82 ⟨_,⟨rfl,rfl⟩,Ent.go⟩
      | false =>
        rw [hw] at ha
        have hw:=of_decide_eq_false hw
        repeat' (first|refine Ga ?_|(refine Gb ?_;intro b)|(refine Gd ?_;intro g cap rest hcap)|(refine Gc ?_;intro ad cap) |(refine Ge ?_ ?_<;>(intro h;try (exfalso;omega)))|fail)
        all_goals first|(exfalso;omega)|skip
        refine IH ⟨k+1,hlt,by rw [ha];rfl⟩ (by show code.length - (k+1)<code.length - k;omega) ?_ ?_
        · exact Sub.go
        · exact Ent.go
    · obtain rfl:k=code.length:=by omega
      rw [List.drop_length] at ha
      rw [ha]
      clear IH
      repeat' (first|refine Ga ?_|(refine Gb ?_;intro b)|(refine Gd ?_;intro g cap rest hcap)|(refine Gc ?_;intro ad cap)|refine Gl hri ?_|(refine Ge ?_ ?_<;>(intro h;try (exfalso;omega)))|fail)
      refine St.d1 Tryz.func82 ⟨_,⟨rfl,rfl⟩,Ent.go⟩
end Go.Proofs.YthmbgodcpgkkeaaGreat
end
