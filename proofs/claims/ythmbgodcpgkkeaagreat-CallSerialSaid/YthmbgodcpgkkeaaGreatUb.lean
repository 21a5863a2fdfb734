/-
  What a scribe, and a help that nobody disturbs, make of a memory. A program that only reads: its pool, and the room of its set, make no difference; a run of it leaves roots and blocks as they were.
-/
import Derived.Test.YthmbgodcpgkkeaaGreatHe
import Derived.Test.YthmbgodcpgkkeaaGreatWf
section
namespace Go.Proofs.YthmbgodcpgkkeaaGreat
set_option maxRecDepth 100000
section
variable {c:Cfg} {cs:List Cell} {who:Int}
theorem do_check (hw:0≤who∧who<8) {a:Int} (h0:0≤a) (h1:a<cs.length) {k:Int} (hk:0≤k∧k≤3) (o x:Cell):checkOf cs.length who ⟨k,a,o,x⟩=0:=by
  unfold checkOf
  rw [if_neg (by omega),if_neg (by dsimp only;omega),if_neg (by dsimp only;omega)]
theorem do_store (hw:0≤who∧who<8) {a:Int} (h0:0≤a) (h1:a<cs.length) (o x:Cell):doMem cs who ⟨1,a,o,x⟩=setOf cs a x:=by
  unfold doMem setOf
  rw [if_pos (do_check hw h0 h1 (by decide) o x),if_pos (by omega)]
  rfl
theorem do_swap (hw:0≤who∧who<8) {a:Int} (h0:0≤a) (h1:a<cs.length) {o:Cell} (he:cellI cs a=o) (x:Cell):doMem cs who ⟨2,a,o,x⟩=setOf cs a x∧doOut cs who ⟨2,a,o,x⟩=⟨o,true⟩:=by
  have hk:=do_check (cs:=cs) hw h0 h1 (k:=2) (by decide) o x
  have hc:cs.getD a.toNat ⟨0,0⟩=o:=he
  constructor
  · unfold doMem setOf
    rw [if_pos hk,if_pos (by omega)]
    dsimp only
    rw [hc]
    unfold becomes
    rw [if_neg (show ¬ (2:Int)=1 by decide),if_pos rfl,if_pos (Cell.eqB_iff.2 rfl)]
  · unfold doOut
    rw [if_pos hk]
    dsimp only
    rw [hc]
    unfold outOf
    rw [if_pos rfl,Cell.eqB_iff.2 rfl]
structure EqS (c:Cfg) (A B:List Cell):Prop where
  len:A.length=B.length
  eq:∀ a:Int,0≤a→a<B.length→(c.what a).1≠3→cellI A a=cellI B a
variable {A B D:List Cell}
theorem EqS.refl (A:List Cell):EqS c A A:=⟨rfl,fun _ _ _ _=>rfl⟩
theorem EqS.set (h:EqS c A B) {p:Int} (_h0:0≤p) (x:Cell):EqS c (setOf A p x) (setOf B p x):=by
  refine ⟨by rw [setOf_len,setOf_len];exact h.len,fun a ha0 ha1 hk=>?_⟩
  rw [setOf_len] at ha1
  rw [cellI_setOf ha0 (by rw [h.len];exact ha1),cellI_setOf ha0 ha1]
  split
  · rfl
  · exact h.eq a ha0 ha1 hk
theorem EqS.slot (h:EqS c A B) {p:Int} (hp:(c.what p).1=3) (x:Cell):EqS c (setOf A p x) B:=by
  refine ⟨by rw [setOf_len];exact h.len,fun a ha0 ha1 hk=>?_⟩
  rw [cellI_setOf ha0 (by rw [h.len];exact ha1),if_neg (show ¬ p=a from fun e=>hk (by rw [←e];exact hp))]
  exact h.eq a ha0 ha1 hk
theorem putEs_len (sq:Nat):∀ (E:List (Int×Nat)) (cs:List Cell),(putEs sq E cs).length=cs.length
  | [],_=>rfl
  | e::E,cs=>by
    show (putEs sq E (setOf cs e.1 ⟨e.2,sq⟩)).length=_
    rw [putEs_len sq E,setOf_len]
theorem putEs_ne (sq:Nat) {a:Int}:∀ (E:List (Int×Nat)) (cs:List Cell),0≤a→a<cs.length→(∀ e∈E,e.1≠a)→cellI (putEs sq E cs) a=cellI cs a
  | [],_,_,_,_=>rfl
  | e::E,cs,h0,h1,h=>by
    show cellI (putEs sq E (setOf cs e.1 ⟨e.2,sq⟩)) a=_
    rw [putEs_ne sq E _ h0 (by rw [setOf_len];exact h1) fun x hx=>h x (List.mem_cons_of_mem _ hx),cellI_setOf h0 h1,if_neg (h e (List.mem_cons_self ..))]
theorem putEs_snoc (sq:Nat) (E:List (Int×Nat)) (e:Int×Nat) (cs:List Cell):putEs sq (E++[e]) cs=setOf (putEs sq E cs) e.1 ⟨e.2,sq⟩:=by
  unfold putEs
  rw [List.foldl_append];rfl
theorem setOf_out {p:Int} (h:p<0∨(cs.length:Int)≤p) (x:Cell):setOf cs p x=cs:=by
  unfold setOf
  split
  · rw [List.set_eq_of_length_le (by omega)]
  · rfl
theorem putEs_congr (sq:Nat) {a:Int}:∀ (E:List (Int×Nat)) (A B:List Cell),A.length=B.length→0≤a→a<B.length→cellI A a=cellI B a→cellI (putEs sq E A) a=cellI (putEs sq E B) a
  | [],_,_,_,_,_,h=>h
  | e::E,A,B,hl,h0,h1,h=>by
    refine putEs_congr sq E (setOf A e.1 ⟨e.2,sq⟩) (setOf B e.1 ⟨e.2,sq⟩) (by rw [setOf_len,setOf_len];exact hl) h0 (by rw [setOf_len];exact h1) ?_
    rw [cellI_setOf h0 (by rw [hl];exact h1),cellI_setOf h0 h1]
    split
    · rfl
    · exact h
def scrA (c:Cfg) (who:Int) (L i:Nat):Int:=if i<L then c.at 6 who i else if i=L then c.at 5 who 0 else c.at 4 who 0
def scrV (seq:Nat) (E:List (Int×Nat)) (i:Nat):Cell:=if i<E.length then ⟨(E.getD i (0,0)).2,(IntKind.u64.wrap (E.getD i (0,0)).1).toNat⟩ else if i=E.length then ⟨E.length,0⟩ else ⟨1,seq⟩
def scrM (c:Cfg) (who:Int) (seq:Nat) (E:List (Int×Nat)) (cs:List Cell):Nat→List Cell
  | 0=>cs
  | i+1=>setOf (scrM c who seq E cs i) (scrA c who E.length i) (scrV seq E i)
theorem scr_ask (c:Cfg) (who:Int) (seq:Nat) (E:List (Int×Nat)) {i:Nat} (hi:i≤E.length+1):Sm.ask c ⟨who,seq,E,i⟩=(⟨1,scrA c who E.length i,⟨0,0⟩,scrV seq E i⟩,true):=by
  unfold Sm.ask scrA scrV
  dsimp only
  rw [if_neg (by omega)]
  by_cases h1:i<E.length
  · rw [if_pos h1,if_pos h1,if_pos h1]
  · rw [if_neg h1,if_neg h1,if_neg h1]
    by_cases h2:i=E.length
    · rw [if_pos h2,if_pos h2,if_pos h2]
    · rw [if_neg h2,if_neg h2,if_neg h2]
theorem scrA_what (hc:Small c) (hw:0≤who∧who<c.threads) {L:Nat} (hL:(L:Int)≤c.cap) {i:Nat} (hi:i≤L+1):(c.what (scrA c who L i)).2.1=who∧((c.what (scrA c who L i)).1=6∨(c.what (scrA c who L i)).1=5∨((c.what (scrA c who L i)).1=4∧i=L+1∧scrA c who L i=c.at 4 who 0)):=by
  unfold scrA
  by_cases h1:i<L
  · rw [if_pos h1,at_own hc (by decide) hw (by unfold Cfg.cnt;simp;omega)]
    exact ⟨rfl, .inl rfl⟩
  · rw [if_neg h1]
    by_cases h2:i=L
    · rw [if_pos h2,at_own hc (by decide) hw (by unfold Cfg.cnt;simp)]
      exact ⟨rfl, .inr (.inl rfl)⟩
    · rw [if_neg h2,at_own hc (by decide) hw (by unfold Cfg.cnt;simp)]
      exact ⟨rfl, .inr (.inr ⟨rfl,by omega,rfl⟩)⟩
theorem scrM_len (c:Cfg) (who:Int) (seq:Nat) (E:List (Int×Nat)) (cs:List Cell):∀ i,(scrM c who seq E cs i).length=cs.length
  | 0=>rfl
  | i+1=>by rw [scrM,setOf_len];exact scrM_len c who seq E cs i
theorem scrM_ne (hc:Small c) (hw:0≤who∧who<c.threads) {seq:Nat} {E:List (Int×Nat)} (hL:(E.length:Int)≤c.cap) {a:Int} (h0:0≤a) (h1:a<cs.length) (hk:((c.what a).1≠4∧(c.what a).1≠5∧(c.what a).1≠6)∨(c.what a).2.1≠who):∀ i,i≤E.length+2→cellI (scrM c who seq E cs i) a=cellI cs a
  | 0,_=>rfl
  | i+1,hi=>by
    obtain ⟨g1,g2⟩:=scrA_what hc hw hL (i:=i) (by omega)
    rw [scrM,cellI_setOf h0 (by rw [scrM_len];exact h1),if_neg]
    · exact scrM_ne hc hw hL h0 h1 hk i (by omega)
    · intro e
      rw [e] at g1 g2
      rcases hk with ⟨k1,k2,k3⟩|hk
      · rcases g2 with g|g|⟨g,_⟩
        · exact k3 g
        · exact k2 g
        · exact k1 g
      · exact hk g1
theorem scrM_open (_hc:Small c) (_hw:0≤who∧who<c.threads) {seq:Nat} {E:List (Int×Nat)} (h0:0≤c.at 4 who 0) (h1:c.at 4 who 0<cs.length):cellI (scrM c who seq E cs (E.length+2)) (c.at 4 who 0)=⟨1,seq⟩:=by
  have e:scrA c who E.length (E.length+1)=c.at 4 who 0:=by
    unfold scrA
    rw [if_neg (by omega),if_neg (by omega)]
  rw [scrM,cellI_setOf h0 (by rw [scrM_len];exact h1),if_pos e]
  unfold scrV
  rw [if_neg (by omega),if_neg (by omega)]
structure HB (c:Cfg) (w:Int) (sq:Nat) (E:List (Int×Nat)) (h:Hm):Prop where
  who:h.who=w
  owner:h.owner=w
  seq:h.seq=sq
  list:h.list=E
inductive HS (c:Cfg) (who:Int) (seq:Nat) (E:List (Int×Nat)) (W:List Cell) (t:Nat) (h:Hm) (cs:List Cell):Prop
  | shut:HB c who seq E h→h.next=7→EqS c cs (putEs seq E W)→t≤4 * E.length→HS c who seq E W t h cs
  | at_ (k:Nat) (hk:k<E.length):HB c who seq E h→h.k=(k:Int)→Tx c E[k].1→EqS c cs (putEs seq (E.take k) W)→(h.next=3∧t≤4 * k)∨(h.next=4∧t≤4 * k+1)∨(h.next=5∧t≤4 * k+2)∨(h.next=6∧t≤4 * k+3∧h.cell=cellI cs E[k].1)→HS c who seq E W t h cs
variable {seq:Nat} {E:List (Int×Nat)} {W:List Cell}
theorem entryL_hs (hc:Small c) (hW:(W.length:Int)=c.f17) (hE:KfR c E) {h:Hm} (hb:HB c who seq E h) {t:Nat}:∀ (l:List (Int×Nat)) (k:Nat),l=E.drop k→k≤E.length→EqS c cs (putEs seq (E.take k) W)→t≤4 * k→HS c who seq E W t (h.entryL c l k) cs
  | [],k,hl,hk,he,ht=>by
    have hlen:k=E.length:=by
      have:=congrArg List.length hl
      rw [List.length_nil,List.length_drop] at this
      omega
    subst hlen
    rw [List.take_length] at he
    exact .shut ⟨hb.who,hb.owner,hb.seq,hb.list⟩ rfl he ht
  | e::r,k,hl,hk,he,ht=>by
    have hlen:k<E.length:=by
      have:=congrArg List.length hl
      rw [List.length_cons,List.length_drop] at this
      omega
    rw [List.drop_eq_getElem_cons hlen] at hl
    injection hl with e1 e2
    subst e1
    unfold Hm.entryL
    by_cases h7:(c.what E[k].1).1<7
    · rw [if_pos h7]
      refine entryL_hs hc hW hE hb r (k+1) e2 hlen ?_ (by omega)
      rw [List.take_succ_eq_append_getElem hlen,putEs_snoc,setOf_out]
      · exact he
      · rw [putEs_len,hW]
        refine Decidable.by_contra fun hn=>?_
        have hk:=hE _ (List.getElem_mem hlen)
        have hf10:c.f10=c.f7+c.threads * 3:=rfl
        have ht0:=hc.t0
        unfold Cfg.what at h7
        rw [if_neg (by omega),if_neg (by have:=hc.nums.f7;omega),if_neg (by omega)] at h7
        repeat' split at h7
        all_goals (try dsimp only at h7)
        all_goals omega
    · rw [if_neg h7]
      refine .at_ k hlen ⟨hb.who,hb.owner,hb.seq,hb.list⟩ rfl (what_in hc (by omega)) he ?_
      by_cases h3:(c.what E[k].1).1=16∧(c.what E[k].1).2.1≠h.held
      · exact .inl ⟨if_pos h3,ht⟩
      · exact .inr (.inr (.inl ⟨if_neg h3,by omega⟩))
theorem entry_hs (hc:Small c) (hW:(W.length:Int)=c.f17) (hE:KfR c E) {h:Hm} (hb:HB c who seq E h) {t k:Nat} (hk:k≤E.length) (he:EqS c cs (putEs seq (E.take k) W)) (ht:t≤4 * k):HS c who seq E W t (h.entry c k) cs:=by
  unfold Hm.entry
  rw [hb.list]
  exact entryL_hs hc hW hE hb _ k rfl hk he ht
theorem HS.step (hc:Small c) (hw:0≤who∧who<c.threads) (hW:(W.length:Int)=c.f17) (hE:KfR c E) (hnd:(E.map (·.1)).Nodup) (hop:cellI W (c.at 4 who 0)=⟨1,seq⟩) (hsq:∀ a,Tx c a→(cellI W a).seq<seq) {t:Nat} {h:Hm} (hs:HS c who seq E W t h cs) :
    (h.ask c).2=true∧(HS c who seq E W (t+1) (h.tell c (doOut cs who (h.ask c).1)) (doMem cs who (h.ask c).1)∨((h.tell c (doOut cs who (h.ask c).1)).next=8∧EqS c (doMem cs who (h.ask c).1) (setOf (putEs seq E W) (c.at 4 who 0) ⟨0,seq⟩)∧t≤4 * E.length)):=by
  have ht1:=hc.t1
  have hw8:0≤who∧who<8:=⟨hw.1,by omega⟩
  have hf:=f717 hc
  have hw4:=at_own hc (kind:=4) (i:=who) (k:=0) (by decide) hw (by unfold Cfg.cnt;simp)
  have hi4:=own_in (c:=c) (a:=c.at 4 who 0) (by rw [hw4];dsimp only;omega)
  have hw3:=at_own hc (kind:=3) (i:=who) (k:=0) (by decide) hw (by unfold Cfg.cnt;simp)
  have hi3:=own_in (c:=c) (a:=c.at 3 who 0) (by rw [hw3];dsimp only;omega)
  have hown:∀ k:Nat,cellI (putEs seq (E.take k) W) (c.at 4 who 0)=⟨1,seq⟩:=fun k=>by
    rw [putEs_ne seq _ _ (by omega) (by omega),hop]
    intro e he
    have:=hE e (List.mem_of_mem_take he)
    omega
  cases hs with
  | shut hb hn he ht =>
    have hl:(cs.length:Int)=c.f17:=by rw [he.len,putEs_len];exact hW
    have hcell:cellI cs (c.at 4 who 0)=⟨1,seq⟩:=by
      rw [he.eq _ (by omega) (by rw [putEs_len];omega) (by rw [hw4];dsimp only;omega)]
      have:=hown E.length
      rw [List.take_length] at this
      exact this
    have ea:h.ask c=(⟨2,c.at 4 who 0,⟨1,seq⟩,⟨0,seq⟩⟩,true):=by
      unfold Hm.ask
      rw [if_neg (by omega),if_neg (by omega),if_neg (by omega),if_neg (by omega),if_neg (by omega),if_neg (by omega),if_pos hn,hb.owner,hb.seq]
    rw [ea]
    obtain ⟨g1,g2⟩:=do_swap (cs:=cs) hw8 (a:=c.at 4 who 0) (by omega) (by omega) hcell ⟨0,seq⟩
    refine ⟨rfl, .inr ⟨?_, ?_,ht⟩⟩
    · unfold Hm.tell
      rw [if_neg (by omega),if_neg (by omega),if_neg (by omega),if_neg (by omega),if_neg (by omega),if_neg (by omega),if_neg (by omega)]
      first|rw [if_pos hn]|skip
    · rw [g1];exact he.set (by omega) _
  | at_ k hk hb hkk hx he hc4 =>
    have hl:(cs.length:Int)=c.f17:=by rw [he.len,putEs_len];exact hW
    have hx':=hx
    unfold Tx at hx'
    have hat:h.at_=E[k]:=by
      unfold Hm.at_
      rw [hb.list,hkk,Int.toNat_natCast,List.getD_eq_getElem?_getD,List.getElem?_eq_getElem hk];rfl
    have hne3:(c.what E[k].1).1≠3:=fun e=>by
      have:=own_in (c:=c) (a:=E[k].1) (by omega)
      omega
    rcases hc4 with ⟨hn,ht⟩|⟨hn,ht⟩|⟨hn,ht⟩|⟨hn,ht,hcl⟩
    · have ea:h.ask c=(mop 1 (c.at 3 who 0) ((c.what E[k].1).2.1+1).toNat,true):=by
        unfold Hm.ask
        rw [if_neg (by omega),if_neg (by omega),if_neg (by omega),if_pos hn,hb.who,hat]
      rw [ea]
      refine ⟨rfl, .inl ?_⟩
      have g1:doMem cs who (mop 1 (c.at 3 who 0) ((c.what E[k].1).2.1+1).toNat)=setOf cs (c.at 3 who 0) ⟨((c.what E[k].1).2.1+1).toNat,0⟩:=do_store hw8 (by omega) (by omega) _ _
      rw [g1]
      refine .at_ k hk ?_ ?_ hx (he.slot (by rw [hw3]) _) (.inr (.inl ⟨?_,by omega⟩))
      all_goals unfold Hm.tell
      all_goals rw [if_neg (by omega),if_neg (by omega),if_neg (by omega),if_pos hn]
      · exact ⟨hb.who,hb.owner,hb.seq,hb.list⟩
      · exact hkk
    · have ea:h.ask c=(mop 0 (c.at 4 who 0) 0,true):=by
        unfold Hm.ask
        rw [if_neg (by omega),if_neg (by omega),if_pos (by omega),hb.owner]
      rw [ea]
      refine ⟨rfl, .inl ?_⟩
      have hcell:cellI cs (c.at 4 who 0)=⟨1,seq⟩:=by
        rw [he.eq _ (by omega) (by rw [putEs_len];omega) (by rw [hw4];dsimp only;omega)]
        exact hown k
      obtain ⟨g1,g2⟩:=load_out (cs:=cs) hw8 (a:=c.at 4 who 0) (by omega) (by omega)
      rw [g2,g1,hcell]
      have e9:h.tell c ⟨⟨1,seq⟩,true⟩={ h with held:=(c.what h.at_.1).2.1,next:=5 }:=by
        unfold Hm.tell
        rw [if_neg (by omega),if_neg (by omega),if_neg (by omega),if_neg (by omega),if_pos hn]
        unfold Hm.unless
        rw [if_pos (decide_eq_true (by rw [hb.seq]))]
      rw [e9]
      exact .at_ k hk ⟨hb.who,hb.owner,hb.seq,hb.list⟩ hkk hx he (.inr (.inr (.inl ⟨rfl,by omega⟩)))
    · have ea:h.ask c=(mop 0 E[k].1 0,true):=by
        unfold Hm.ask
        rw [if_neg (by omega),if_neg (by omega),if_neg (by omega),if_neg (by omega),if_pos hn,hat]
      rw [ea]
      refine ⟨rfl, .inl ?_⟩
      obtain ⟨g1,g2⟩:=load_out (cs:=cs) hw8 (a:=E[k].1) (by omega) (by omega)
      rw [g2,g1]
      have hlt:(cellI cs E[k].1).seq<seq:=by
        rw [he.eq _ (by omega) (by rw [putEs_len];omega) hne3,putEs_ne seq _ _ (by omega) (by omega)]
        · exact hsq _ hx
        · intro e hm
          obtain ⟨i,hi,e2⟩:=List.mem_iff_getElem.1 hm
          rw [List.length_take] at hi
          rw [List.getElem_take] at e2
          rw [←e2]
          intro e3
          have:=List.pairwise_iff_getElem.1 hnd i k (by rw [List.length_map];omega) (by rw [List.length_map];exact hk) (by omega)
          simp only [List.getElem_map] at this
          exact this e3
      have e9:h.tell c ⟨cellI cs E[k].1,true⟩={ h with cell:=cellI cs E[k].1,next:=6 }:=by
        unfold Hm.tell
        rw [if_neg (by omega),if_neg (by omega),if_neg (by omega),if_neg (by omega),if_neg (by omega),if_pos hn,if_neg (by rw [hb.seq];dsimp only;omega)]
      rw [e9]
      exact .at_ k hk ⟨hb.who,hb.owner,hb.seq,hb.list⟩ hkk hx he (.inr (.inr (.inr ⟨rfl,by omega,rfl⟩)))
    · have ea:h.ask c=(⟨2,E[k].1,h.cell,⟨E[k].2,seq⟩⟩,true):=by
        unfold Hm.ask
        rw [if_neg (by omega),if_neg (by omega),if_neg (by omega),if_neg (by omega),if_neg (by omega),if_pos hn,hat,hb.seq]
      rw [ea]
      refine ⟨rfl, .inl ?_⟩
      obtain ⟨g1,g2⟩:=do_swap (cs:=cs) hw8 (a:=E[k].1) (by omega) (by omega) hcl.symm ⟨E[k].2,seq⟩
      rw [g1]
      have e9:∀ o,h.tell c o=h.entry c (k+1):=fun o=>by
        unfold Hm.tell
        rw [if_neg (by omega),if_neg (by omega),if_neg (by omega),if_neg (by omega),if_neg (by omega),if_neg (by omega),if_pos hn,hkk,show ((k:Int)+1).toNat=k+1 by omega]
      rw [e9]
      refine entry_hs hc hW hE hb hk ?_ (by omega)
      rw [List.take_succ_eq_append_getElem hk,putEs_snoc]
      exact he.set (by omega) _
end
end Go.Proofs.YthmbgodcpgkkeaaGreat
end
section
namespace Go.Proofs.YthmbgodcpgkkeaaGreat
set_option maxRecDepth 100000
def chg (m:Xm) (p:Po) (a b:Int):Xm:={ m with p:=p,x:={ m.x with st:=a,sl:=b } }
section
variable {c:Cfg} {r1 r2:Nat} {m:Xm} {p:Po} {a b:Int}
theorem fail_chg (e:Int) (v:Nat):∃ p',(chg m p a b).fail e v=chg (m.fail e v) p' a b:=⟨{ p with nt:=a,nl:=b },rfl⟩
theorem goOn_chg (hw:wrB m.x.i=false) (val:Nat):∃ p',(chg m p a b).goOn c r2 val=chg (m.goOn c r1 val) p' a b:=by
  obtain ⟨h1,h2,h3,h4,h5⟩:=wr_ops hw
  unfold Xm.goOn
  by_cases h:m.x.i.op=9∨m.x.i.op=11∨m.x.i.op=12
  · rw [if_pos h,if_pos (show (chg m p a b).x.i.op=9∨(chg m p a b).x.i.op=11∨(chg m p a b).x.i.op=12 from h)]
    exact ⟨p,rfl⟩
  · rw [if_neg h,if_neg h4,if_neg (show ¬ (m.x.i.op=13∨m.x.i.op=14) by omega),if_neg h5,if_neg (show ¬ ((chg m p a b).x.i.op=9∨(chg m p a b).x.i.op=11∨(chg m p a b).x.i.op=12) from h),if_neg (show ¬ (chg m p a b).x.i.op=15 from h4),if_neg (show ¬ ((chg m p a b).x.i.op=13∨(chg m p a b).x.i.op=14) by show ¬ (m.x.i.op=13∨m.x.i.op=14);omega),if_neg (show ¬ (chg m p a b).x.i.op=16 from h5)]
    exact ⟨p,rfl⟩
theorem fetch_chg (hw:wrB m.x.i=false) (z:Int):∃ p',(chg m p a b).fetch c r2 z=chg (m.fetch c r1 z) p' a b:=by
  unfold Xm.fetch
  rw [show (chg m p a b).puts=m.puts from rfl]
  cases mget (allP m.puts) z with
  | some val=>exact goOn_chg hw val
  | none=>exact ⟨p,rfl⟩
theorem does_chg (hw:wrB m.x.i=false):∃ p',(chg m p a b).does c r2=chg (m.does c r1) p' a b:=by
  obtain ⟨h1,h2,h3,h4,h5⟩:=wr_ops hw
  unfold Xm.does
  rw [show (chg m p a b).x.i=m.x.i from rfl]
  by_cases e17:m.x.i.op=17
  · rw [if_pos e17,if_pos e17];exact ⟨p,rfl⟩
  rw [if_neg e17,if_neg e17]
  by_cases e18:m.x.i.op=18∨m.x.i.op=19
  · rw [if_pos e18,if_pos e18]
    rw [show (chg m p a b).x.reg m.x.i.a=m.x.reg m.x.i.a from rfl]
    split
    · exact ⟨p,rfl⟩
    · exact ⟨p,rfl⟩
  rw [if_neg e18,if_neg e18]
  by_cases e20:m.x.i.op=20
  · rw [if_pos e20,if_pos e20];exact ⟨p,rfl⟩
  rw [if_neg e20,if_neg e20]
  by_cases e21:m.x.i.op=21
  · rw [if_pos e21,if_pos e21];exact fail_chg _ _
  rw [if_neg e21,if_neg e21]
  by_cases e9:m.x.i.op=9∨m.x.i.op=10
  · rw [if_pos e9,if_pos e9]
    unfold Xm.root
    rw [show (chg m p a b).x.reg (chg m p a b).x.i.b=m.x.reg m.x.i.b from rfl,show (chg m p a b).x.i.op=m.x.i.op from rfl]
    by_cases e16:16≤m.x.reg m.x.i.b
    · rw [if_pos e16,if_pos e16];exact fail_chg _ _
    · rw [if_neg e16,if_neg e16,if_neg h1,if_neg h1];exact fetch_chg hw _
  rw [if_neg e9,if_neg e9]
  by_cases e11:m.x.i.op=11∨m.x.i.op=12∨m.x.i.op=13∨m.x.i.op=14∨m.x.i.op=16
  · rw [if_pos e11,if_pos e11]
    unfold Xm.touch
    rw [show (chg m p a b).x.block c=m.x.block c from rfl,show (chg m p a b).puts=m.puts from rfl,show (chg m p a b).x.i.op=m.x.i.op from rfl]
    by_cases g1:(m.x.block c).2.2=false∨((mget (allP m.puts) (c.at 11 (m.x.block c).1 0)).isSome=true∧(mget (allP m.puts) (c.at 11 (m.x.block c).1 0)).getD 0≠1)
    · rw [if_pos g1,if_pos g1];exact fail_chg _ _
    rw [if_neg g1,if_neg g1]
    by_cases g2:readsB m.x.i.op=true
    · rw [if_pos g2,if_pos g2]
      cases mget (allP m.puts) (c.at 16 (m.x.block c).1 (m.x.block c).2.1) with
      | some val=>exact goOn_chg hw val
      | none=>exact ⟨p,rfl⟩
    · rw [if_neg g2,if_neg g2]
      by_cases g3:(mget (allP m.puts) (c.at 11 (m.x.block c).1 0)).isSome=true
      · rw [if_pos g3,if_pos g3];exact goOn_chg hw 0
      · rw [if_neg g3,if_neg g3];exact ⟨p,rfl⟩
  rw [if_neg e11,if_neg e11,if_neg h4,if_neg h4]
  exact ⟨p,rfl⟩
theorem once_chg {code:List Ins} (ho:onlyB code=true) (hO:OsR [] m) (hpc:∃ k:Nat,m.x.pc=(k:Int)∧k<code.length):∃ p',(chg m p a b).once c r2 code=chg (m.once c r1 code) p' a b:=by
  obtain ⟨k,hk,hkl⟩:=hpc
  unfold Xm.once
  rw [show (chg m p a b).x.waits=m.x.waits from rfl,show (chg m p a b).v=m.v from rfl]
  by_cases h1:m.x.waits=false
  · rw [if_pos h1,if_pos h1]
    unfold Xm.step
    rw [show (chg m p a b).x.steps=m.x.steps from rfl,show (chg m p a b).x.pc=m.x.pc from rfl]
    by_cases h2:c.fuel≤m.x.steps
    · rw [if_pos h2,if_pos h2];exact fail_chg _ _
    · rw [if_neg h2,if_neg h2,hk]
      have hw:=only_at ho hkl
      exact does_chg (m:=m.begun (code.getD (k:Int).toNat ins0)) hw
  rw [if_neg h1,if_neg h1]
  have hw:=hO.w (by simpa using h1)
  by_cases h2:m.v.s=2
  · rw [if_pos h2,if_pos h2];exact ⟨p,rfl⟩
  rw [if_neg h2,if_neg h2]
  by_cases h3:m.v.s=3
  · rw [if_pos h3,if_pos h3];exact fail_chg _ _
  rw [if_neg h3,if_neg h3]
  exact goOn_chg (m:={ m with x:={ m.x with waits:=false } }) hw m.v.val
theorem runN_chg {code:List Ins} {I:Xm→Prop} (ho:onlyB code=true) (hI:RunInv c r1 code I) (hO:∀ m,I m→m.x.s=0→OsR [] m∧∃ k:Nat,m.x.pc=(k:Int)∧k<code.length):∀ (n:Nat) (m:Xm) (p:Po),I m→∃ p',Xm.runN c r2 code n (chg m p a b)=chg (Xm.runN c r1 code n m) p' a b
  | 0,m,p,_=>⟨p,rfl⟩
  | n+1,m,p,hm=>by
    have e:((chg m p a b).stops)=m.stops:=rfl
    unfold Xm.runN
    by_cases hs:m.stops
    · rw [if_pos hs,if_pos (show (chg m p a b).stops from hs)];exact ⟨p,rfl⟩
    · rw [if_neg hs,if_neg (show ¬ (chg m p a b).stops from hs)]
      have hs0:m.x.s=0:=Decidable.by_contra fun e=>hs (.inl e)
      obtain ⟨h1,h2⟩:=hO m hm hs0
      obtain ⟨p',e'⟩:=once_chg (r1:=r1) (r2:=r2) (p:=p) (a:=a) (b:=b) ho h1 h2
      rw [e']
      exact runN_chg ho hI hO n _ p' (hI.next m hm hs)
theorem run_chg {code:List Ins} {I:Xm→Prop} (ho:onlyB code=true) (hI:RunInv c r1 code I) (hO:∀ m,I m→m.x.s=0→OsR [] m∧∃ k:Nat,m.x.pc=(k:Int)∧k<code.length) (hm:I m):∃ p',Xm.run c r2 code (chg m p a b)=chg (Xm.run c r1 code m) p' a b:=runN_chg ho hI hO _ m p hm
def KpR (r:Rm) (x:Rm×Int):Prop:=x.1.roots=r.roots∧x.1.blocks=r.blocks∧x.1.news=r.news
theorem kp_step {i:Ins} (hw:wrB i=false) (m:Rm):KpR m (Rm.step i m):=by
  obtain ⟨g1,g2,g3,g4,g5⟩:=wr_ops hw
  have k0:∀ z,KpR m (m.tick,z):=fun z=>⟨rfl,rfl,rfl⟩
  unfold Rm.step
  split
  · exact ⟨rfl,rfl,rfl⟩
  split
  · split
    · exact ⟨rfl,rfl,rfl⟩
    · exact ⟨rfl,rfl,rfl⟩
  split
  · split
    · exact ⟨rfl,rfl,rfl⟩
    · exact ⟨rfl,rfl,rfl⟩
  split
  · exact ⟨rfl,rfl,rfl⟩
  split
  · exact ⟨rfl,rfl,rfl⟩
  by_cases h9:i.op=9∨i.op=10
  · rw [if_pos h9]
    unfold Rm.root
    split
    · exact k0 _
    · rw [if_pos (show i.op=9 by omega)];exact ⟨rfl,rfl,rfl⟩
  rw [if_neg h9]
  by_cases h11:11≤i.op∧i.op≤14
  · rw [if_pos h11]
    unfold Rm.word Rm.word2
    generalize (if i.op=12∨i.op=14 then m.tick.reg i.c else i.imm)=w
    split
    · exact k0 _
    · split
      · exact k0 _
      · rw [if_pos (show i.op=11∨i.op=12 by omega)];exact ⟨rfl,rfl,rfl⟩
  rw [if_neg h11]
  try rw [if_neg g4]
  try rw [if_neg g5]
  exact ⟨rfl,rfl,rfl⟩
theorem rm_only {code:List Ins} (ho:onlyB code=true) {fuel:Int}:∀ (N:Nat) (r r':Rm) (ok:Bool),runGo code fuel N r=some (r',ok)→r'.roots=r.roots∧r'.blocks=r.blocks∧r'.news=r.news
  | 0,_,_,_,h=>by cases h
  | N+1,r,r',ok,h=>by
    unfold runGo at h
    split at h
    · injection h with h;injection h with h1 _;subst h1;exact ⟨rfl,rfl,rfl⟩
    split at h
    · injection h with h;injection h with h1 _;subst h1;exact ⟨rfl,rfl,rfl⟩
    split at h
    · cases h
    · next i hi =>
      have hw:wrB i=false:=by
        unfold getIns at hi
        split at hi
        · cases hi
        · obtain ⟨hk,e⟩:=List.getElem?_eq_some_iff.1 hi
          have:=only_at ho hk
          rw [List.getD_eq_getElem?_getD,List.getElem?_eq_getElem hk,e] at this
          exact this
      obtain ⟨g1,g2,g3,g4,g5⟩:=wr_ops hw
      have hgo:(r.go i).1.roots=r.roots∧(r.go i).1.blocks=r.blocks∧(r.go i).1.news=r.news:=by
        exact kp_step hw { r with steps:=r.steps+1 }
      split at h
      · obtain ⟨k1,k2,k3⟩:=rm_only ho N _ _ _ h
        exact ⟨k1.trans hgo.1,k2.trans hgo.2.1,k3.trans hgo.2.2⟩
      · injection h with h;injection h with h1 _;subst h1;exact hgo
end
structure RdI (c:Cfg) (V:Int→Nat) (g:Bg) (code:List Ins) (ms:Ms) (args:List Nat) (v0:Vw) (p:Po) (k:Nat) (e:Xm):Prop where
  h:∃ m p',e=chg m p' 0 0∧JQ c V g c.cap.toNat code ms args [] v0 p k m
section
variable {c:Cfg} {V:Int→Nat} {g:Bg} {code:List Ins} {ms:Ms} {args:List Nat} {v0:Vw} {p:Po} {k:Nat} {e:Xm}
theorem RdI.init (ho:onlyB code=true) (hb:Fits c c.cap.toNat g) (hS:Start c [] p.nt p.nl) (h0:rightB code=true→XJ c V g c.cap.toNat code ms args [] p.nt p.nl 0 (Xm.init v0 p [] args)) {p0:Po} (h1:p0.nt=0) (h2:p0.nl=0) (r2:Nat):RdI c V g code ms args v0 p 0 (Xm.start c r2 code v0 p0 [] args):=by
  have hr:rightB code=true:=by
    unfold onlyB at ho
    rw [Bool.and_eq_true] at ho
    exact ho.2
  have hj:=JQ.init hb hS h0
  have e1:Xm.init v0 p0 [] args=chg (Xm.init v0 p [] args) p0 0 0:=by
    unfold Xm.init chg
    rw [h1,h2]
  have hi:=XJ.runInv (V:=V) (ms:=ms) (args:=args) (n:=0) hb hS hr
  obtain ⟨p',e2⟩:=run_chg (p:=p0) (a:=0) (b:=0) (r2:=r2) ho hi (fun m hm hs=>⟨hm.o ho,hm.xi.inv.pc hs⟩) (h0 hr)
  unfold Xm.start at hj⊢
  rw [if_pos hr] at hj⊢
  exact ⟨_,p',by rw [e1];exact e2,hj⟩
theorem RdI.step (ho:onlyB code=true) (hb:Fits c c.cap.toNat g) (hS:Start c [] p.nt p.nl) (h:RdI c V g code ms args v0 p k e) (hak:(e.ask c).2=true) {cs:List Cell} {n:Nat} (hm:MemV c cs V n) (hn:n≤g.sq) (hw:0≤g.who∧g.who<c.threads) (r2:Nat) :
    MemV c (doMem cs g.who (e.ask c).1) V n∧RdI c V g code ms args v0 p (k+1) (e.tell c r2 code (doOut cs g.who (e.ask c).1)):=by
  obtain ⟨m,p',rfl,hj⟩:=h.h
  have ea:(chg m p' 0 0).ask c=m.ask c:=rfl
  rw [ea] at hak⊢
  obtain ⟨hr,g1,g2,g3⟩:=hj.step hb hS hak hm hn hw
  refine ⟨g1, ?_⟩
  have hs0:m.x.s=0:=Decidable.by_contra fun e=>by
    unfold Xm.ask at hak
    rw [if_pos e] at hak
    cases hak
  unfold Xm.tell at g3⊢
  rw [if_pos hs0] at g3
  rw [if_pos (show (chg m p' 0 0).x.s=0 from hs0)]
  have hi:=XJ.runInv (V:=V) (ms:=ms) (args:=args) (n:=k+1) hb hS hr
  obtain ⟨p2,e2⟩:=run_chg (p:=p') (a:=0) (b:=0) (r2:=r2) ho hi (fun m hm hs=>⟨hm.o ho,hm.xi.inv.pc hs⟩) g2
  exact ⟨_,p2,e2,g3⟩
theorem RdI.fin (ho:onlyB code=true) (h:RdI c V g code ms args v0 p k e) (hak:(e.ask c).2=false):e.x.s=1∧RunTo c code ms args e.x.rc e.x.rv [] ms:=by
  obtain ⟨m,p',rfl,hj⟩:=h.h
  obtain ⟨h1,ms',hf⟩:=hj.fin hak
  refine ⟨h1, ?_⟩
  show RunTo c code ms args m.x.rc m.x.rv [] ms
  cases hf.run with
  | right ok r N g1 g2 g3 g4 g5 g6 =>
    obtain ⟨k1,k2,k3⟩:=rm_only ho N _ _ _ g2
    have e:m.news=[]:=by rw [←g5,k3];rfl
    rw [e] at g2
    refine .right ok r N g1 g2 g3 g4 (by rw [g5];exact e) ?_
    have k1:r.roots=ms.roots:=k1
    have k2:r.blocks=ms.blocks:=k2
    cases ok
    · rfl
    · show ms=⟨r.roots,r.blocks⟩
      rw [k1,k2]
  | wrong g1 g2 g3 g4 g5 =>
    unfold onlyB at ho
    rw [g1] at ho
    simp at ho
theorem RdI.steps (hf:0≤c.fuel) (h:RdI c V g code ms args v0 p k e):k+(if (e.ask c).2=true then 1 else 0)≤3 * c.fuel.toNat:=by
  obtain ⟨m,p',rfl,hj⟩:=h.h
  have:=hj.steps hf
  exact this
theorem RdI.s01 (h:RdI c V g code ms args v0 p k e):(e.x.s=0∧(e.ask c).2=true)∨(e.x.s=1∧(e.ask c).2=false):=by
  obtain ⟨m,p',rfl,hj⟩:=h.h
  show (m.x.s=0∧(m.ask c).2=true)∨(m.x.s=1∧(m.ask c).2=false)
  cases hak:(m.ask c).2 with
  | true =>
    refine .inl ⟨Decidable.by_contra fun e=>?_,rfl⟩
    unfold Xm.ask at hak
    rw [if_pos e] at hak
    cases hak
  | false=>exact .inr ⟨(hj.fin hak).1,rfl⟩
theorem RdI.who (ho:onlyB code=true) (h:RdI c V g code ms args v0 p k e):e.v.who=g.who:=by
  obtain ⟨m,p',rfl,hj⟩:=h.h
  cases hj with
  | right h1 h2 h3=>exact h2.xi.ns.who
  | wrong h1 h2 h3 =>
    unfold onlyB at ho
    rw [h1] at ho
    simp at ho
end
end Go.Proofs.YthmbgodcpgkkeaaGreat
end
