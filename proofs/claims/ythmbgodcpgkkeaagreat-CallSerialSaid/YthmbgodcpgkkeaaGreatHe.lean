/-
  Rounds of transactions: what threads ask for, and what is written. Package tumblerlaw14: holds, told. An assertion taken as it is: what holds of its memory can be read of it. Package tumblerref07: the document's numbers are the program's. Package tumblerref07: where a thing stands is where the program has it. What a thread does, as far as replies go: a tape of replies, and a machine that is fed with them. Package tumblerref09, in plain terms: a view, as far as replies go; it does what the program's does. Package tumblerref09: Do, Load, Store, load, Cell, Live, Word. Package tumblerref09: Cell, Live, Word. Package tumblerref09: Live, Word. Package tumblerref08: Get. Package tumblerref08: All. Package tumblerref08: Put. Package tumblerref10: put, Top, End. Package tumblerref10: Give, Take, names. Package build: Rows, Entries, as what can be read of them; package tumblerlaw14: as; package tumblerref08: Same. Package tumblerlaw14: what a transaction writes is written; where nothing was asked for; told. Package tumblerlaw14: BuildNone. Rows of rounds in which threads ask for something. Package tumblerlaw14: told; what threads ask for in a round. Package help: a transaction that is begun is done; package scribe: a log is written: their numbers, in plain terms.
-/
import Derived.Test.YthmbgodcpgkkeaaGreatWg
import Derived.Test.YthmbgodcpgkkeaaGreatExc
import Derived.Test.YthmbgodcpgkkeaaGreatIns
import Derived.Test.YthmbgodcpgkkeaaGreatVw
import Derived.Test.YthmbgodcpgkkeaaGreatBa
import Derived.Test.YthmbgodcpgkkeaaGreatRowq
section
namespace Go.Proofs.YthmbgodcpgkkeaaGreat
set_option maxRecDepth 100000
section
variable {c:Cfg} {cs:List Cell} {n:Nat}
theorem atAnn (hc:Small c) {u:Int} (hu:0≤u∧u<c.threads):c.what (c.at 1 u 0)=(1,u,0):=at_own hc (by decide) hu (by unfold Cfg.cnt;simp)
theorem atArg (hc:Small c) {u:Int} (hu:0≤u∧u<c.threads) {k:Nat} (hk:k<4):c.what (c.at 2 u k)=(2,u,(k:Int)):=at_own hc (by decide) hu (by unfold Cfg.cnt;simp;omega)
theorem wantN_cell (hc:Small c) (hl:(cs.length:Int)=c.f17) {who:Int} (hw:0≤who∧who<c.threads) (args:List Nat) {a:Int} (ha:0≤a∧a<cs.length):∀ k:Nat,k≤4→(wantN c cs who args k).length=cs.length∧((∀ j:Nat,j<k→a≠c.at 2 who j)→cellI (wantN c cs who args k) a=cellI cs a)∧∀ j:Nat,j<k→a=c.at 2 who j→(cellI (wantN c cs who args k) a).val=args.getD j 0
  | 0,_=>⟨rfl,fun _=>rfl,fun j hj=>absurd hj (Nat.not_lt_zero _)⟩
  | k+1,hk=>by
    obtain ⟨h1,h2,h3⟩:=wantN_cell hc hl hw args ha k (by omega)
    have e:cellI (wantN c cs who args (k+1)) a=if c.at 2 who k=a then ⟨args.getD k 0,0⟩ else cellI (wantN c cs who args k) a:=by
      rw [wantN,cellI_setOf ha.1 (by omega)]
    refine ⟨by rw [wantN,setOf_len];exact h1,fun hn=>?_,fun j hj ej=>?_⟩
    · rw [e,if_neg (Ne.symm (hn k (by omega)))]
      exact h2 fun j hj=>hn j (by omega)
    · rw [e]
      by_cases ek:j=k
      · subst ek;rw [if_pos ej.symm]
      · rw [if_neg]
        · exact h3 j (by omega) ej
        · intro e'
          have w1:=atArg hc hw (k:=k) (by omega)
          rw [e',ej,atArg hc hw (by omega)] at w1
          injection w1 with _ w2
          injection w2 with _ w3
          omega
def wantC (c:Cfg) (cs:List Cell) (who:Int) (prog:Nat) (args:List Nat) (tag:Nat):List Cell:=setOf (wantN c cs who args 4) (c.at 1 who 0) ⟨prog,tag⟩
theorem atAA (hc:Small c) {u u':Int} (hu:0≤u∧u<c.threads) (hu':0≤u'∧u'<c.threads) {k:Nat} (hk:k<4):c.at 1 u 0≠c.at 2 u' k:=fun e=>by
  have w1:=atAnn hc hu
  rw [e,atArg hc hu' hk] at w1
  injection w1 with w2
  exact absurd w2 (by decide)
theorem want_ann (hc:Small c) (hl:(cs.length:Int)=c.f17) {who:Int} (hw:0≤who∧who<c.threads) (prog:Nat) {args:List Nat} (h4:args.length=4) (tag:Nat):(wantC c cs who prog args tag).length=cs.length∧(∀ a,Tx c a→cellI (wantC c cs who prog args tag) a=cellI cs a)∧∀ u:Int,0≤u∧u<c.threads→annC c (wantC c cs who prog args tag) u=(if u=who then ⟨prog,tag⟩ else annC c cs u)∧argsC c (wantC c cs who prog args tag) u=if u=who then args else argsC c cs u:=by
  have hf:=f717 hc
  have hin:∀ {a:Int},1≤(c.what a).1→0≤a∧a<cs.length:=fun {a} ha=>by
    by_cases h6:(c.what a).1≤6
    · have:=own_in (c:=c) (a:=a) ⟨ha,h6⟩
      omega
    · have:=what_in hc (a:=a) (by omega)
      unfold Tx at this
      omega
  have hN:=fun (a:Int) (ha:0≤a∧a<cs.length)=>wantN_cell hc hl hw args ha 4 (Nat.le_refl _)
  have hcell:∀ a:Int,0≤a∧a<cs.length→cellI (wantC c cs who prog args tag) a=if c.at 1 who 0=a then ⟨prog,tag⟩ else cellI (wantN c cs who args 4) a:=fun a ha=>by
    unfold wantC
    rw [cellI_setOf ha.1 (by rw [(hN a ha).1];exact ha.2)]
  have h0:0≤c.at 1 who 0∧c.at 1 who 0<cs.length:=hin (by rw [atAnn hc hw];dsimp only;omega)
  refine ⟨by unfold wantC;rw [setOf_len,(hN _ h0).1],fun a ha=>?_,fun u hu=>⟨?_, ?_⟩⟩
  · have ha':=ha
    unfold Tx at ha'
    have hb:0≤a∧a<cs.length:=by omega
    have h1:=own_in (c:=c) (a:=c.at 1 who 0) (by rw [atAnn hc hw];dsimp only;omega)
    rw [hcell a hb,if_neg (by omega)]
    refine (hN a hb).2.1 fun j hj e=>?_
    have h2:=own_in (c:=c) (a:=c.at 2 who j) (by rw [atArg hc hw hj];dsimp only;omega)
    omega
  · unfold annC
    have hb:0≤c.at 1 u 0∧c.at 1 u 0<cs.length:=hin (by rw [atAnn hc hu];dsimp only;omega)
    rw [hcell _ hb]
    by_cases e:u=who
    · subst e;rw [if_pos rfl,if_pos rfl]
    · rw [if_neg e,if_neg]
      · exact (hN _ hb).2.1 fun j hj=>atAA hc hu hw hj
      · intro e'
        have w1:=atAnn hc hu
        rw [←e',atAnn hc hw] at w1
        injection w1 with _ w2
        injection w2 with w3
        exact e w3.symm
  · have hk:∀ k:Nat,k<4→(cellI (wantC c cs who prog args tag) (c.at 2 u k)).val=if u=who then args.getD k 0 else (cellI cs (c.at 2 u k)).val:=fun k hk=>by
      have hb:0≤c.at 2 u k∧c.at 2 u k<cs.length:=hin (by rw [atArg hc hu hk];dsimp only;omega)
      rw [hcell _ hb,if_neg (atAA hc hw hu hk)]
      by_cases e:u=who
      · subst e
        rw [if_pos rfl]
        exact (hN _ hb).2.2 k hk rfl
      · rw [if_neg e,(hN _ hb).2.1]
        intro j hj e'
        have w1:=atArg hc hu hk
        rw [e',atArg hc hw hj] at w1
        injection w1 with _ w2
        injection w2 with w3
        exact e w3.symm
    obtain ⟨a0,a1,a2,a3,rfl⟩:=len4 h4
    have e0:(cellI (wantC c cs who prog [a0,a1,a2,a3] tag) (c.at 2 u 0)).val=if u=who then a0 else (cellI cs (c.at 2 u 0)).val:=hk 0 (by decide)
    have e1:(cellI (wantC c cs who prog [a0,a1,a2,a3] tag) (c.at 2 u 1)).val=if u=who then a1 else (cellI cs (c.at 2 u 1)).val:=hk 1 (by decide)
    have e2:(cellI (wantC c cs who prog [a0,a1,a2,a3] tag) (c.at 2 u 2)).val=if u=who then a2 else (cellI cs (c.at 2 u 2)).val:=hk 2 (by decide)
    have e3:(cellI (wantC c cs who prog [a0,a1,a2,a3] tag) (c.at 2 u 3)).val=if u=who then a3 else (cellI cs (c.at 2 u 3)).val:=hk 3 (by decide)
    unfold argsC
    rw [e0,e1,e2,e3]
    by_cases e:u=who
    · rw [if_pos e,if_pos e,if_pos e,if_pos e,if_pos e]
    · rw [if_neg e,if_neg e,if_neg e,if_neg e,if_neg e]
theorem MemH.want {fs ls R:List Nat} {B:List (Int×List Nat)} (hc:Small c) (h:MemH c cs n fs ls R B) {who:Int} (hw:0≤who∧who<c.threads) (prog:Nat) {args:List Nat} (h4:args.length=4) (tag:Nat):MemH c (wantC c cs who prog args tag) n fs ls R B:=by
  obtain ⟨g1,g2,g3⟩:=want_ann hc (h.mem.sz hc) hw prog h4 tag
  have hat:∀ {kind i j:Int},7≤kind∧kind≤16→(0≤i∧i<(c.cnt kind).1∧0≤j∧j<(c.cnt kind).2)→(cellI (wantC c cs who prog args tag) (c.at kind i j)).val=(cellI cs (c.at kind i j)).val:=fun hk hi=>by rw [g2 _ (at_in hc hk hi)]
  refine ⟨⟨g1.trans h.mem.len,fun b _=>rfl,fun b hb=>by rw [g2 b hb];exact h.mem.q b hb⟩, ?_, ?_, ?_⟩
  · exact h.rep.congr2 (fun kind i hk hi=>hat (by omega) hi) fun b w hb hw=>hat (by decide) (in16 hb hw)
  · rw [hat (by decide) (in12 c)];exact h.top
  · rw [hat (by decide) (in14 c)];exact h.lim
def putEs (sq:Nat) (E:List (Int×Nat)) (cs:List Cell):List Cell:=E.foldl (fun cs e=>setOf cs e.1 ⟨e.2,sq⟩) cs
theorem ents_wroteG (P:List (Int×Nat)) (sq:Nat):∀ (E:List (Int×Nat)) (cs:List Cell),putEs sq (E.filter (entB c P)) cs=wrote c (allP P) sq E cs
  | [],cs=>rfl
  | e::E,cs=>by
    have he:entB c P e = !skipB c (allP P) e.1:=by
      unfold entB skipB
      by_cases h:(c.what e.1).1=16
      · rw [if_pos h,h]
        cases mget (allP P) (c.at 11 (c.what e.1).2.1 0) with
        | none=>rfl
        | some v =>
          simp only [Option.isSome_some,Option.getD_some,Bool.true_and,beq_self_eq_true]
          congr 1
          rw [Bool.eq_iff_iff]
          simp only [bne_iff_ne,ne_eq]
          omega
      · rw [if_neg h,show ((c.what e.1).1 == 16)=false from beq_eq_false_iff_ne.2 h];rfl
    show _=wrote c (allP P) sq E (setE c (allP P) sq cs e)
    rw [←ents_wroteG P sq E]
    unfold setE
    cases hs:skipB c (allP P) e.1 with
    | true =>
      rw [hs] at he
      rw [List.filter_cons,if_neg (by rw [he];decide),if_pos rfl]
    | false =>
      rw [hs] at he
      rw [List.filter_cons,if_pos (by rw [he];rfl),if_neg (by decide)]
      rfl
theorem ents_wrote (P:List (Int×Nat)) (sq:Nat) (cs:List Cell):putEs sq (entriesOf c P) cs=wrote c (allP P) sq (allP P) cs:=ents_wroteG P sq (allP P) cs
structure Bdone (q:Tq) (rows:List BRow) (cs2:List Cell) (ms:Ms):Prop where
  mem:∃ fs ls,MemH q.c cs2 (q.n+1) fs ls ms.roots ms.blocks
  memL:∃ fs ls,MemH q.c cs2 (q.n+1) fs ls ms.roots ms.blocks∧2 * (ls.length:Int)≤2 * q.c.threads+rows.length * q.c.writes
  ann:∀ u:Int,0≤u∧u<q.c.threads→annC q.c cs2 u=annC q.c q.cs u
  tag:∀ u:Int,0≤u∧u<q.c.threads→(cellI cs2 (q.c.at 7 u 0)).val=if pendB q.c q.cs u=true then (annC q.c q.cs u).seq else (cellI q.cs (q.c.at 7 u 0)).val
  told:∀ r∈rows,(cellI cs2 (q.c.at 8 r.who 0)).val=r.rc.toNat∧(cellI cs2 (q.c.at 9 r.who 0)).val=r.rv∧(cellI cs2 (q.c.at 7 r.who 0)).val=r.tag
end
theorem BU.done {q:Tq} (hq:Tok q) {rows:List BRow} {P:List (Int×Nat)} {p:Po} {v:Vw} {ms:Ms} (h:BU q q.c.threads.toNat rows P p v ms) {cs:List Cell} (hm:MemB q.c q.cs cs q.n) :
    Bdone q rows (putEs (q.n+1) (entriesOf q.c (endP q.c q.c.cap.toNat p P)) cs) ms:=by
  have hc:=hq.hc
  have ht0:=hc.t0
  have hl:=h.len
  obtain ⟨fs,ls,hj⟩:=h.jr
  have hfin:=hj.fin hc (by omega) (by omega) hm.v hq.mem.top hq.mem.lim (sq':=q.n+1) (Nat.le_succ _)
  obtain ⟨_,_,_,e4⟩:=endP_v (room:=q.c.cap.toNat) hc (p:=p) hj.pk (hj.room hc (by omega) (by omega)) hq.mem.top hq.mem.lim hj.wt hj.wl hj.nt hj.nl
  rw [ents_wrote]
  have hsz:=hm.v.sz hc
  have hcell:∀ {kind u:Int},7≤kind∧kind≤9→0≤u∧u<q.c.threads→(cellI (wrote q.c (allP (endP q.c q.c.cap.toNat p P)) (q.n+1) (allP (endP q.c q.c.cap.toNat p P)) cs) (q.c.at kind u 0)).val=ovl P q.V (q.c.at kind u 0):=fun {kind u} hk hu=>by
    have hi:=in7 (c:=q.c) hk hu
    have hx:=at_in hc (kind:=kind) (i:=u) (j:=0) (by omega) hi
    have hx':=hx
    have hf:=f717 hc
    unfold Tx at hx'
    have hw:=at_rest hc (kind:=kind) (i:=u) (k:=0) (by omega) ⟨hi.1,hi.2.1⟩ ⟨hi.2.2.1,hi.2.2.2⟩
    have hns:skipB q.c (allP (endP q.c q.c.cap.toNat p P)) (q.c.at kind u 0)=false:=by
      unfold skipB
      rw [hw,show ((kind,u,(0:Int)).1 == 16)=false from beq_eq_false_iff_ne.2 (by dsimp only;omega)];rfl
    rw [wrote_cell _ _ _ _ (allP_nod _) _ (by omega) (by omega),←e4 _ (ne_kind hc (by omega) (by decide) hi (in12 q.c) (by omega)) (ne_kind hc (by omega) (by decide) hi (in14 q.c) (by omega))]
    unfold ovl
    cases mget (allP (endP q.c q.c.cap.toNat p P)) (q.c.at kind u 0) with
    | none=>exact hm.v.v _ hx
    | some x=>dsimp only;rw [if_neg (by rw [hns];decide)];rfl
  refine ⟨⟨fs,ls,hfin⟩,⟨fs,ls,hfin,hj.lim⟩,fun u hu=>?_,fun u hu=>?_,fun r hr=>?_⟩
  · have hw:=atAnn hc hu
    have ho:=own_in (c:=q.c) (a:=q.c.at 1 u 0) (by rw [hw];dsimp only;omega)
    unfold annC
    rw [←hm.o (q.c.at 1 u 0) (by rw [hw];exact .inl rfl)]
    have hf:=f717 hc
    rw [wrote_cell _ _ _ _ (allP_nod _) _ (by omega) (by omega)]
    have hno:mget (allP (endP q.c q.c.cap.toNat p P)) (q.c.at 1 u 0)=none:=by
      have hkey:∀ x∈endP q.c q.c.cap.toNat p P,x.1≠q.c.at 1 u 0:=h.keys1 hq p hu
      cases e:mget (allP (endP q.c q.c.cap.toNat p P)) (q.c.at 1 u 0) with
      | none=>rfl
      | some y =>
        exfalso
        obtain ⟨x,hx,ex⟩:=keysP_mem (gkey e)
        exact hkey x hx ex
    rw [hno]
  · rw [hcell (by decide) hu]
    cases hp:pendB q.c q.cs u with
    | true =>
      rw [if_pos rfl]
      have:u∈rows.map (·.who):=by
        rw [h.whos,List.mem_filter,List.mem_map]
        exact ⟨⟨u.toNat,List.mem_range.2 (by omega),by omega⟩,hp⟩
      obtain ⟨r,hr,e⟩:=List.mem_map.1 this
      rw [←e,(h.told r hr).1.2.2,h.tags r hr]
    | false =>
      rw [if_neg (by decide)]
      refine h.rest u hu.1 hu.2 fun hi=>?_
      rw [h.whos,List.mem_filter] at hi
      rw [hi.2] at hp
      cases hp
  · obtain ⟨w1,w2,_⟩:=h.who_lt hr
    have hu:0≤r.who∧r.who<q.c.threads:=⟨w1,by omega⟩
    obtain ⟨⟨h1,h2,h3⟩,_⟩:=h.told r hr
    exact ⟨(hcell (by decide) hu).trans h1,(hcell (by decide) hu).trans h2,(hcell (by decide) hu).trans h3⟩
end Go.Proofs.YthmbgodcpgkkeaaGreat
end
section
namespace Go.Proofs.YthmbgodcpgkkeaaGreat
set_option maxRecDepth 100000
theorem mpeek_p (Mb C:Nat) (M:Pm) (p:Int):RTri Tryz.prog 86 #[.pointer (some ⟨Mb,0,none⟩), .int .i64 p] [Mm Mb C M] (.tuple ⟨[.agg ⟨(peekOf M.cs p).v⟩, .bool (decide (0≤p∧p<((M.cs.length:Nat):Int)))]⟩):=by
 with_unfolding_all exact RTri.ex_o fun tv=>(peek_r Mb C M.cs.length M.cs rfl M.st tv p).ent (by unfold mmL;exact Ent.go)
end Go.Proofs.YthmbgodcpgkkeaaGreat
end
section
namespace Go.Proofs.YthmbgodcpgkkeaaGreat
def frz (H:Hp):HProp:=fun h=>h=H
theorem sat_frz {p:HProp} {L:List HProp} {h:Hp} (hs:Sat (p::L) h):∃ H,p H∧Sat (frz H::L) h:=by
 rw [sat_cons] at hs
 obtain ⟨h1,h2,hd,hu,hp,hL⟩:=hs
 exact ⟨h1,hp,sat_cons.2 ⟨h1,h2,hd,hu,rfl,hL⟩⟩
theorem RdC.frz {H:Hp} {L:List HProp} {b:Nat} {l:List Value} (hs:Sat L H) (r:ReadsC L b l):RdC (Go.Proofs.YthmbgodcpgkkeaaGreat.frz H) b l :=
 RdC.of_sat (p:=Go.Proofs.YthmbgodcpgkkeaaGreat.frz H) (fun k hk=>by rw [show k=H from hk];exact hs) r
theorem sat_mem {L:List HProp} {p:HProp} {H:Hp} (hs:Sat L H) (hp:p∈L):∃ M,Sat (p::M) H:=by
 obtain ⟨A,B,rfl⟩:=List.append_of_mem hp
 have h:Ent (A++p::B) (p::(A++B)):=Ent.mid'
 unfold Ent at h
 exact ⟨_,h _ hs⟩
theorem ListR.frz {α:Type} {f:α→List Value} {v:Value} {e sz n:Nat} {xs:List α} {L:List HProp} {H:Hp} (hn:xs.length=n) (hs:Sat L H) (hp:Row v e sz n (xs.flatMap f)∈L):ListR f (Go.Proofs.YthmbgodcpgkkeaaGreat.frz H) v xs:=by
 obtain ⟨M,hs⟩:=sat_mem hs hp
 obtain ⟨R,hR,hs⟩:=sat_rowL hn hs
 exact hR.weak fun b l hr=>RdC.frz hs (.here hr)
end Go.Proofs.YthmbgodcpgkkeaaGreat
end
section
namespace Go.Proofs.YthmbgodcpgkkeaaGreat
set_option maxRecDepth 100000
end Go.Proofs.YthmbgodcpgkkeaaGreat
end
section
namespace Go.Proofs.YthmbgodcpgkkeaaGreat
set_option maxRecDepth 100000
end Go.Proofs.YthmbgodcpgkkeaaGreat
end
section
namespace Go.Proofs.YthmbgodcpgkkeaaGreat
set_option maxRecDepth 100000
end Go.Proofs.YthmbgodcpgkkeaaGreat
end
section
namespace Go.Proofs.YthmbgodcpgkkeaaGreat
set_option maxRecDepth 100000
end Go.Proofs.YthmbgodcpgkkeaaGreat
end
section
namespace Go.Proofs.YthmbgodcpgkkeaaGreat
set_option maxRecDepth 100000
end Go.Proofs.YthmbgodcpgkkeaaGreat
end
section
namespace Go.Proofs.YthmbgodcpgkkeaaGreat
set_option maxRecDepth 100000
end Go.Proofs.YthmbgodcpgkkeaaGreat
end
section
namespace Go.Proofs.YthmbgodcpgkkeaaGreat
set_option maxRecDepth 100000
end Go.Proofs.YthmbgodcpgkkeaaGreat
end
section
namespace Go.Proofs.YthmbgodcpgkkeaaGreat
set_option maxRecDepth 100000
end Go.Proofs.YthmbgodcpgkkeaaGreat
end
section
namespace Go.Proofs.YthmbgodcpgkkeaaGreat
set_option maxRecDepth 100000
end Go.Proofs.YthmbgodcpgkkeaaGreat
end
section
namespace Go.Proofs.YthmbgodcpgkkeaaGreat
set_option maxRecDepth 100000
end Go.Proofs.YthmbgodcpgkkeaaGreat
end
section
namespace Go.Proofs.YthmbgodcpgkkeaaGreat
set_option maxRecDepth 100000
end Go.Proofs.YthmbgodcpgkkeaaGreat
end
section
namespace Go.Proofs.YthmbgodcpgkkeaaGreat
set_option maxRecDepth 100000
def u1V (x:Nat):List Value:=[.int .u64 (x:Int)]
end Go.Proofs.YthmbgodcpgkkeaaGreat
end
section
namespace Go.Proofs.YthmbgodcpgkkeaaGreat
set_option maxRecDepth 100000
theorem u64s_flat14 (l:List Nat):u64s l=l.flatMap u1V:=by
 induction l with
 | nil=>rfl
 | cons x l ih=>rw [List.flatMap_cons,←ih];rfl
end Go.Proofs.YthmbgodcpgkkeaaGreat
end
section
namespace Go.Proofs.YthmbgodcpgkkeaaGreat
set_option maxRecDepth 100000
theorem and_le_j (a:Int) (m:Nat) (hm:m<9223372036854775808):0≤IntKind.i64.wrap ((BitVec.ofInt IntKind.i64.bits a &&& BitVec.ofInt IntKind.i64.bits m).toNat:Int)∧IntKind.i64.wrap ((BitVec.ofInt IntKind.i64.bits a &&& BitVec.ofInt IntKind.i64.bits m).toNat:Int)≤m:=by
 have h1:(BitVec.ofInt IntKind.i64.bits a &&& BitVec.ofInt IntKind.i64.bits m).toNat≤m:=by
  rw [BitVec.toNat_and]
  refine Nat.le_trans Nat.and_le_right ?_
  rw [BitVec.toNat_ofInt]
  have:(2:Nat) ^ IntKind.i64.bits=18446744073709551616:=rfl
  rw [this]
  omega
 generalize (BitVec.ofInt IntKind.i64.bits a &&& BitVec.ofInt IntKind.i64.bits m).toNat=n at h1
 have:IntKind.i64.wrap (n:Int)=n:=by simp [IntKind.wrap,IntKind.bits,IntKind.signed];omega
 rw [this]
 omega
structure Aq where
 who:Int
 prog:Int
 a0:Nat
 a1:Nat
 a2:Nat
 a3:Nat
def Aq.v (a:Aq):List Value:=[.int .i64 a.who, .int .i64 a.prog, .int .u64 (a.a0:Int), .int .u64 (a.a1:Int), .int .u64 (a.a2:Int), .int .u64 (a.a3:Int)]
theorem Aq.v_len (a:Aq):a.v.length=6:=rfl
end Go.Proofs.YthmbgodcpgkkeaaGreat
end
section
namespace Go.Proofs.YthmbgodcpgkkeaaGreat
set_option maxRecDepth 100000
theorem AndIs.leJ (a:Int) (b:Nat) (hb:b<9223372036854775808):∃ c:Nat,AndIs .i64 a (b:Int) (c:Int)∧c≤b:=by
 have h:=and_le_j a b hb
 refine ⟨(IntKind.i64.wrap ((BitVec.ofInt IntKind.i64.bits a &&& BitVec.ofInt IntKind.i64.bits (b:Int)).toNat:Int)).toNat, ?_,by omega⟩
 unfold AndIs
 omega
end Go.Proofs.YthmbgodcpgkkeaaGreat
end
section
namespace Go.Proofs.YthmbgodcpgkkeaaGreat
open Go.ChangeShapes Go.WideShapes Go.ChangeAt Go.RowKit Go.Deep
end Go.Proofs.YthmbgodcpgkkeaaGreat
end
section
namespace Go.Proofs.YthmbgodcpgkkeaaGreat
set_option maxRecDepth 100000
end Go.Proofs.YthmbgodcpgkkeaaGreat
end
section
namespace Go.Proofs.YthmbgodcpgkkeaaGreat
set_option maxRecDepth 100000
theorem beq_dec {a b:Int}:(a == b)=decide (a=b):=by rw [Bool.eq_iff_iff];simp
structure Hm where
  who:Int
  owner:Int
  seq:Nat
  list:List (Int×Nat)
  n:Int
  k:Int
  held:Int
  cell:Cell
  next:Int
def Hm.entryL (c:Cfg) (h:Hm):List (Int×Nat)→Nat→Hm
  | [],_=>{ h with next:=7 }
  | e::r,k=>if (c.what e.1).1<7 then Hm.entryL c h r (k+1) else { h with k:=(k:Int),next:=if (c.what e.1).1=16∧(c.what e.1).2.1≠h.held then 3 else 5 }
def Hm.entry (c:Cfg) (h:Hm) (k:Nat):Hm:=h.entryL c (h.list.drop k) k
def Hm.read (h:Hm):Hm:=if (h.list.length:Int)=h.n then { h with next:=2 } else { h with next:=1 }
def Hm.unless (h:Hm) (is:Bool):Hm:=if is then h else { h with next:=8 }
def placeOf (seq:Nat):Int:=if 65536≤seq then -1 else seq
def Hm.at_ (h:Hm):Int×Nat:=h.list.getD h.k.toNat (0,0)
def Hm.tell (c:Cfg) (h:Hm) (o:Out):Hm :=
  if h.next=0 then Hm.read { h with n:=if c.cap<(o.was.val:Int) then c.cap else (o.was.val:Int) } else
  if h.next=1 then Hm.read { h with list:=h.list++[(placeOf o.was.seq,o.was.val)] } else
  if h.next=2 then (h.entry c 0).unless (decide (o.was=⟨1,h.seq⟩)) else
  if h.next=3 then { h with held := -1,next:=4 } else
  if h.next=4 then Hm.unless { h with held:=(c.what h.at_.1).2.1,next:=5 } (decide (o.was=⟨1,h.seq⟩)) else
  if h.next=5 then (if h.seq≤o.was.seq then Hm.entry c { h with cell:=o.was,next:=6 } (h.k+1).toNat else { h with cell:=o.was,next:=6 }) else
  if h.next=6 then h.entry c (h.k+1).toNat else
  if h.next=7 then { h with next:=8 } else h
def Hm.ask (c:Cfg) (h:Hm):MOp×Bool :=
  if h.next=0 then (mop 0 (c.at 5 h.owner 0) 0,true) else
  if h.next=1 then (mop 0 (c.at 6 h.owner h.list.length) 0,true) else
  if h.next=2∨h.next=4 then (mop 0 (c.at 4 h.owner 0) 0,true) else
  if h.next=3 then (mop 1 (c.at 3 h.who 0) ((c.what h.at_.1).2.1+1).toNat,true) else
  if h.next=5 then (mop 0 h.at_.1 0,true) else
  if h.next=6 then (⟨2,h.at_.1,h.cell,⟨h.at_.2,h.seq⟩⟩,true) else
  if h.next=7 then (⟨2,c.at 4 h.owner 0,⟨1,h.seq⟩,⟨0,h.seq⟩⟩,true) else (mop 0 0 0,false)
def Hm.new (who owner:Int) (seq:Nat):Hm:=⟨who,owner,seq,[],0,0,-1,⟨0,0⟩,0⟩
def Hm.own (c:Cfg) (who:Int) (seq:Nat) (list:List (Int×Nat)):Hm:=Hm.entry c ⟨who,who,seq,list,0,0,-1,⟨0,0⟩,0⟩ 0
structure Hinv (c:Cfg) (h:Hm):Prop where
  n0:0≤h.n
  n1:h.n≤1000000
  l:h.list.length≤1000000
  ln:h.next=1→(h.list.length:Int)<h.n
  nx:0≤h.next∧h.next≤8
  k:3≤h.next∧h.next≤6→0≤h.k∧h.k<h.list.length
  w:h.next=3∨h.next=4→(c.what h.at_.1).1=16
theorem entryL_inv {c:Cfg} {h:Hm} (h0:0≤h.n) (h1:h.n≤1000000) (hl:h.list.length≤1000000):∀ (l:List (Int×Nat)) (k:Nat),h.list.drop k=l→Hinv c (h.entryL c l k)
  | [],k,_=>⟨h0,h1,hl,fun h=>(by cases h),⟨by show (0:Int)≤7;decide,by show (7:Int)≤8;decide⟩,fun h=>(by have h:(3:Int)≤7∧(7:Int)≤6:=h;omega),fun h=>(by have h:(7:Int)=3∨(7:Int)=4:=h;omega)⟩
  | e::r,k,hd=>by
    have hk:k<h.list.length:=by
      rcases Nat.lt_or_ge k h.list.length with hk|hk
      · exact hk
      · rw [List.drop_eq_nil_of_le hk] at hd;cases hd
    rw [List.drop_eq_getElem_cons hk] at hd
    injection hd with he hr
    unfold Hm.entryL
    split
    · exact entryL_inv h0 h1 hl r (k+1) hr
    · have hx:∀ x:Int,x=(if (c.what e.1).1=16∧(c.what e.1).2.1≠h.held then 3 else 5)→x=3∧(c.what e.1).1=16∨x=5:=by
        intro x e1
        split at e1
        · exact .inl ⟨e1,(by next h=>exact h.1)⟩
        · exact .inr e1
      generalize (if (c.what e.1).1=16∧(c.what e.1).2.1≠h.held then (3:Int) else 5)=x at hx
      have hx:=hx x rfl
      refine ⟨h0,h1,hl,fun h=>?_,⟨?_, ?_⟩,fun _=>⟨?_, ?_⟩,fun hw=>?_⟩
      · have h:x=1:=h
        omega
      · show 0≤x;omega
      · show x≤8;omega
      · show (0:Int)≤(k:Int);omega
      · show (k:Int)<(h.list.length:Int);omega
      · have hw:x=3∨x=4:=hw
        show (c.what (h.list.getD (k:Int).toNat (0,0)).1).1=16
        rw [Int.toNat_natCast,List.getD_eq_getElem?_getD,List.getElem?_eq_getElem hk,he]
        show (c.what e.1).1=16
        omega
theorem entry_inv {c:Cfg} {h:Hm} (h0:0≤h.n) (h1:h.n≤1000000) (hl:h.list.length≤1000000) (k:Nat):Hinv c (h.entry c k):=entryL_inv h0 h1 hl _ k rfl
theorem Hinv.unless {c:Cfg} {h:Hm} (hi:Hinv c h) (is:Bool):Hinv c (h.unless is):=by
  unfold Hm.unless
  split
  · exact hi
  · exact ⟨hi.n0,hi.n1,hi.l,fun h=>(by cases h),⟨by show (0:Int)≤8;decide,by show (8:Int)≤8;decide⟩,fun h=>(by have h:(3:Int)≤8∧(8:Int)≤6:=h;omega),fun h=>(by have h:(8:Int)=3∨(8:Int)=4:=h;omega)⟩
theorem read_inv {c:Cfg} {h:Hm} (h0:0≤h.n) (h1:h.n≤1000000) (hl:(h.list.length:Int)≤h.n):Hinv c h.read:=by
  unfold Hm.read
  split
  · exact ⟨h0,h1,by show h.list.length≤_;omega,fun h=>(by cases h),⟨by show (0:Int)≤2;decide,by show (2:Int)≤8;decide⟩,fun h=>(by have h:(3:Int)≤2∧(2:Int)≤6:=h;omega),fun h=>(by have h:(2:Int)=3∨(2:Int)=4:=h;omega)⟩
  · exact ⟨h0,h1,by show h.list.length≤_;omega,fun _=>(by show (h.list.length:Int)<h.n;omega),⟨by show (0:Int)≤1;decide,by show (1:Int)≤8;decide⟩,fun h=>(by have h:(3:Int)≤1∧(1:Int)≤6:=h;omega),fun h=>(by have h:(1:Int)=3∨(1:Int)=4:=h;omega)⟩
theorem Hinv.tell {c:Cfg} (hc0:0≤c.cap) (hc1:c.cap≤1000000) {h:Hm} (hi:Hinv c h) (h00:h.next=0→h.list=[]) (o:Out):Hinv c (h.tell c o):=by
  unfold Hm.tell
  split
  · next e =>
    refine read_inv ?_ ?_ ?_
    · show (0:Int)≤if _ then _ else _;split<;>omega
    · show (if _ then _ else _:Int)≤1000000;split<;>omega
    · show ((h.list.length:Nat):Int)≤if _ then _ else _;rw [h00 e];show (0:Int)≤_;split<;>omega
  split
  · next e =>
    have:=hi.ln e
    refine read_inv hi.n0 hi.n1 ?_
    show ((List.length (_++[_]):Nat):Int)≤h.n
    rw [List.length_append,List.length_singleton];omega
  split
  · exact (entry_inv hi.n0 hi.n1 hi.l 0).unless _
  split
  · next e =>
    have hk:=hi.k (by omega)
    have hw:=hi.w (.inl e)
    exact ⟨hi.n0,hi.n1,hi.l,fun h=>(by cases h),⟨by show (0:Int)≤4;decide,by show (4:Int)≤8;decide⟩,fun _=>hk,fun _=>hw⟩
  split
  · next e =>
    have hk:=hi.k (by omega)
    refine Hinv.unless (h:={ h with held:=(c.what h.at_.1).2.1,next:=5 }) ⟨hi.n0,hi.n1,hi.l,fun h=>(by cases h),⟨by show (0:Int)≤5;decide,by show (5:Int)≤8;decide⟩,fun _=>hk,fun h=>(by have h:(5:Int)=3∨(5:Int)=4:=h;omega)⟩ _
  split
  · next e =>
    have hk:=hi.k (by omega)
    split
    · exact entry_inv (h:={ h with cell:=o.was,next:=6 }) hi.n0 hi.n1 hi.l _
    · exact ⟨hi.n0,hi.n1,hi.l,fun h=>(by cases h),⟨by show (0:Int)≤6;decide,by show (6:Int)≤8;decide⟩,fun _=>hk,fun h=>(by have h:(6:Int)=3∨(6:Int)=4:=h;omega)⟩
  split
  · exact entry_inv hi.n0 hi.n1 hi.l _
  split
  · exact ⟨hi.n0,hi.n1,hi.l,fun h=>(by cases h),⟨by show (0:Int)≤8;decide,by show (8:Int)≤8;decide⟩,fun h=>(by have h:(3:Int)≤8∧(8:Int)≤6:=h;omega),fun h=>(by have h:(8:Int)=3∨(8:Int)=4:=h;omega)⟩
  · exact hi
structure Sm where
  who:Int
  seq:Nat
  list:List (Int×Nat)
  done:Nat
def Sm.over (s:Sm):Bool:=decide (s.list.length+1<s.done)
def Sm.ask (c:Cfg) (s:Sm):MOp×Bool :=
  if s.list.length+1<s.done then (mop 0 0 0,false) else
  if s.done<s.list.length then (⟨1,c.at 6 s.who s.done,⟨0,0⟩,⟨(s.list.getD s.done (0,0)).2,(IntKind.u64.wrap (s.list.getD s.done (0,0)).1).toNat⟩⟩,true) else
  if s.done=s.list.length then (⟨1,c.at 5 s.who 0,⟨0,0⟩,⟨s.list.length,0⟩⟩,true) else (⟨1,c.at 4 s.who 0,⟨0,0⟩,⟨1,s.seq⟩⟩,true)
def Sm.tell (s:Sm):Sm:=if s.list.length+1<s.done then s else { s with done:=s.done+1 }
def Sm.new (c:Cfg) (who:Int) (seq:Nat) (list:List (Int×Nat)):Sm:=⟨who,seq,list.take (min list.length c.cap.toNat),0⟩
end Go.Proofs.YthmbgodcpgkkeaaGreat
end
