/-
  Packages tumblerref12, tumblerref13, in plain terms: a log is copied, done and written as the program's is. Packages tumblerref12, tumblerref13, in plain terms: Help, Write.
-/
import Derived.Test.YthmbgodcpgkkeaaGreatKi
set_option maxRecDepth 100000
namespace Go.Proofs.YthmbgodcpgkkeaaGreat
theorem Cfg.kwhat7 {c:Cfg}(hc:Small c)(p:Int):(c.what p).1<7↔(p<c.f7∨c.f17≤p):=by
  have hn:=hc.nums.f7;have:=hc.t0;have:=hc.b0;have:=hc.limit;obtain ⟨hf7,hf10,hf11,hf12,hf13,hf14,hf15,hf16,hf17,hstr⟩:=c.froms;have hm:=Int.emod_nonneg (p - c.f7) (show (3:Int)≠0 by decide);have hm2:=Int.emod_lt_of_pos (p - c.f7) (show (0:Int)<3 by decide);clear hc;unfold Cfg.what;generalize (p - 1) % c.stride=q;generalize (p - 1) / c.stride=q2;generalize (p - c.f16) / 8=q3;generalize (p - c.f16) % 8=q4;generalize (p - c.f7) / 3=q5;generalize (p - c.f7) % 3=m at hm hm2⊢
  repeat' split
  all_goals dsimp only
  all_goals omega
def rblock (c:Cfg)(p:Int):Int:=if p<c.f16 then -1 else (p - c.f16) / 8
theorem Cfg.kblock {c:Cfg}(hc:Small c){p:Int}(h:¬ (c.what p).1<7):((c.what p).1=16↔0≤rblock c p)∧((c.what p).1=16→(c.what p).2.1=rblock c p):=by
  have h2:c.f7≤p∧p<c.f17:=by
    have h3:¬ (p<c.f7∨c.f17≤p):=fun e=>h ((Cfg.kwhat7 hc p).2 e)
    omega
  have hn:=hc.nums.f7;have:=hc.t0;have:=hc.b0;have:=hc.limit;have hts:=hc.ts;obtain ⟨hf7,hf10,hf11,hf12,hf13,hf14,hf15,hf16,hf17,hstr⟩:=c.froms;unfold rblock
  by_cases h16:p<c.f16
  · rw [if_pos h16]
    have hlt:(c.what p).1<16:=((Cfg.kwhat hc p).2 ⟨by omega,h16⟩).2;exact ⟨⟨fun e=>by omega,fun e=>by omega⟩,fun e=>by omega⟩
  · rw [if_neg h16]
    have e:c.what p=(16,(p - c.f16) / 8,(p - c.f16) % 8):=by
      unfold Cfg.what;rw [if_neg (by omega),if_neg (by omega),if_neg (by omega),if_neg (by omega),if_pos (by omega)]
    rw [e];exact ⟨⟨fun _=>by omega,fun _=>rfl⟩,fun _=>rfl⟩
def rdoE (os:List Out)(seq:Nat)(e:Int×Nat)(t:Tp):Tp :=
  if (tdo os t (mop 0 e.1 0)).2.was.seq<seq then (tdo os (tdo os t (mop 0 e.1 0)).1 ⟨2,e.1,(tdo os t (mop 0 e.1 0)).2.was,⟨e.2,seq⟩⟩).1 else (tdo os t (mop 0 e.1 0)).1
def ropen (c:Cfg)(os:List Out)(owner:Int)(seq:Nat)(t:Tp):Tp×Bool:=((tdo os t (mop 0 (c.at 4 owner 0) 0)).1,decide ((tdo os t (mop 0 (c.at 4 owner 0) 0)).2.was=⟨1,seq⟩))
def rapply (c:Cfg)(os:List Out)(who owner:Int)(seq:Nat):List (Int×Nat)→Int→Tp→Tp
  | [],_,t=>(tdo os t ⟨2,c.at 4 owner 0,⟨1,seq⟩,⟨0,seq⟩⟩).1
  | e::l,held,t =>
    if e.1<c.f7∨c.f17≤e.1 then rapply c os who owner seq l held t else
    if 0≤rblock c e.1∧rblock c e.1≠held then
      (if (ropen c os owner seq (tdo os t (mop 1 (c.at 3 who 0) (rblock c e.1+1).toNat)).1).1.need=true∨(ropen c os owner seq (tdo os t (mop 1 (c.at 3 who 0) (rblock c e.1+1).toNat)).1).2=false then (ropen c os owner seq (tdo os t (mop 1 (c.at 3 who 0) (rblock c e.1+1).toNat)).1).1 else
       if (rdoE os seq e (ropen c os owner seq (tdo os t (mop 1 (c.at 3 who 0) (rblock c e.1+1).toNat)).1).1).need=true then rdoE os seq e (ropen c os owner seq (tdo os t (mop 1 (c.at 3 who 0) (rblock c e.1+1).toNat)).1).1 else
       rapply c os who owner seq l (rblock c e.1) (rdoE os seq e (ropen c os owner seq (tdo os t (mop 1 (c.at 3 who 0) (rblock c e.1+1).toNat)).1).1)) else
    if (rdoE os seq e t).need=true then rdoE os seq e t else rapply c os who owner seq l held (rdoE os seq e t)
def rcopyL (c:Cfg)(os:List Out)(owner:Int):Nat→Nat→List (Int×Nat)→Tp→Tp×List (Int×Nat)
  | 0,_,l,t=>(t,l)
  | m+1,k,l,t=>if t.need=true then (t,l) else rcopyL c os owner m (k+1) (l++[(placeOf (tdo os t (mop 0 (c.at 6 owner k) 0)).2.was.seq,(tdo os t (mop 0 (c.at 6 owner k) 0)).2.was.val)]) (tdo os t (mop 0 (c.at 6 owner k) 0)).1
def rcopy (c:Cfg)(os:List Out)(owner:Int)(t:Tp):Tp×List (Int×Nat):=rcopyL c os owner (min (tdo os t (mop 0 (c.at 5 owner 0) 0)).2.was.val c.cap.toNat) 0 [] (tdo os t (mop 0 (c.at 5 owner 0) 0)).1
def rhelp (c:Cfg)(os:List Out)(who owner:Int)(seq:Nat)(t:Tp):Tp :=
  if (ropen c os owner seq (rcopy c os owner t).1).1.need=true∨(ropen c os owner seq (rcopy c os owner t).1).2=false then (ropen c os owner seq (rcopy c os owner t).1).1 else rapply c os who owner seq (rcopy c os owner t).2 (-1) (ropen c os owner seq (rcopy c os owner t).1).1
section
variable {c:Cfg}{os:List Out}{t:Tp}
theorem ropen_dead (h:t.need=true)(owner:Int)(seq:Nat):(ropen c os owner seq t).1=t:=by
  unfold ropen;exact tdo_dead h _
theorem rcopyL_dead (h:t.need=true)(owner:Int)(m k:Nat)(l:List (Int×Nat)):rcopyL c os owner m k l t=(t,l):=by
  cases m with
  | zero=>rfl
  | succ m=>unfold rcopyL;rw [if_pos h]
end
def XH (c:Cfg):Mch Hm:=⟨Hm.ask c,Hm.tell c⟩
theorem XH_ask (c:Cfg)(h:Hm):(XH c).ask h=h.ask c:=rfl
theorem XH_tell (c:Cfg)(h:Hm)(o:Out):(XH c).tell h o=h.tell c o:=rfl
def un (f:Tp→Tp)(t:Tp):Tp×Unit:=(f t,())
section
variable {c:Cfg}{os:List Out}
theorem rdoE_sim {h:Hm}(h5:h.next=5){l:List (Int×Nat)}{e:Int×Nat}(hl:h.list.drop h.k.toNat=e::l)(hk:0≤h.k){n:Nat}(hn:n≤os.length) :
    Sim (XH c) os (un (rdoE os h.seq e)) (fun _ m' _=>∃ h',m'=Hm.entryL c h' l (h.k.toNat+1)∧h'.list=h.list∧h'.who=h.who∧h'.owner=h.owner∧h'.seq=h.seq∧h'.held=h.held) (fun _ _=>True) h n:=by
  have hat:h.at_=e:=by
    unfold Hm.at_
    have h0:(h.list.drop h.k.toNat)[0]? = some e:=by rw [hl];rfl
    rw [List.getElem?_drop] at h0;rw [List.getD_eq_getElem?_getD,show h.k.toNat=h.k.toNat+0 from rfl,h0];rfl
  have hdr:h.list.drop (h.k.toNat+1)=l:=by rw [← List.tail_drop,hl];rfl
  have hk1:(h.k+1).toNat=h.k.toNat+1:=by omega
  have hask:(XH c).ask h=(mop 0 e.1 0,true):=by
    rw [XH_ask];unfold Hm.ask;rw [if_neg (by omega),if_neg (by omega),if_neg (by omega),if_neg (by omega),if_pos h5,hat]
  refine ((Sim.do hask hn).bind hn (S:=fun o t=>un (fun t=>if o.was.seq<h.seq then (tdo os t ⟨2,e.1,o.was,⟨e.2,h.seq⟩⟩).1 else t) t) (fun o t ht=>?_) (fun _ _ _ _ _=>trivial) (fun o m' i hi hin he=>?_)).eq rfl
  · unfold un
    dsimp only;split
    · exact tdo_dead ht _
    · rfl
  · obtain ⟨rfl,rfl,hk2,ho⟩:=he
    rw [XH_tell];unfold Hm.tell;rw [if_neg (by omega),if_neg (by omega),if_neg (by omega),if_neg (by omega),if_neg (by omega),if_pos h5]
    by_cases hs:h.seq≤o.was.seq
    · rw [if_pos hs]
      refine (Sim.ret (a:=()) ⟨{ h with cell:=o.was,next:=6 }, ?_,rfl,rfl,rfl,rfl,rfl⟩).eq ?_
      · unfold un
        dsimp only;rw [if_neg (by omega)]
      · unfold Hm.entry
        rw [hk1];show Hm.entryL c _ (h.list.drop (h.k.toNat+1)) _=_;rw [hdr]
    · rw [if_neg hs]
      have hask2:(XH c).ask { h with cell:=o.was,next:=6 }=(⟨2,e.1,o.was,⟨e.2,h.seq⟩⟩,true):=by
        rw [XH_ask];unfold Hm.ask;have hat2:Hm.at_ { h with cell:=o.was,next:=6 }=e:=hat;dsimp only;rw [if_neg (by decide),if_neg (by decide),if_neg (by decide),if_neg (by decide),if_neg (by decide),if_pos rfl,hat2]
      refine ((Sim.do hask2 hk2).bind hk2 (S:=fun _ t=>(t,())) (fun _ _ _=>rfl) (fun _ _ _ _ _=>trivial) (fun o2 m' i hi hin he=>?_)).eq ?_
      · obtain ⟨rfl,rfl,hk3,ho2⟩:=he
        refine Sim.ret (a:=()) ⟨{ h with cell:=o.was,next:=6 }, ?_,rfl,rfl,rfl,rfl,rfl⟩;rw [XH_tell];unfold Hm.tell;dsimp only;rw [if_neg (by decide),if_neg (by decide),if_neg (by decide),if_neg (by decide),if_neg (by decide),if_neg (by decide),if_pos rfl];unfold Hm.entry;dsimp only;rw [hk1,hdr]
      · unfold un
        dsimp only;rw [if_pos (by omega)]
theorem rapply_sim (hc:Small c)(who owner:Int)(seq:Nat):∀ (l:List (Int×Nat)) (k:Nat) {h:Hm},h.list.drop k=l→h.who=who→h.owner=owner→h.seq=seq→∀ {n:Nat},n≤os.length→
    Sim (XH c) os (un (rapply c os who owner seq l h.held)) (fun _ m' _=>m'.next=8) (fun _ _=>True) (h.entryL c l k) n
  | [],k,h,hl,hw,ho,hs,n,hn=>by
    have hask:(XH c).ask (h.entryL c [] k)=(⟨2,c.at 4 owner 0,⟨1,seq⟩,⟨0,seq⟩⟩,true):=by
      rw [XH_ask];unfold Hm.ask Hm.entryL;dsimp only;rw [if_neg (by decide),if_neg (by decide),if_neg (by decide),if_neg (by decide),if_neg (by decide),if_neg (by decide),if_pos rfl,ho,hs]
    refine ((Sim.do hask hn).bind hn (S:=fun _ t=>(t,())) (fun _ _ _=>rfl) (fun _ _ _ _ _=>trivial) (fun o m' i hi hin he=>?_)).eq rfl;obtain ⟨rfl,rfl,hk2,ho2⟩:=he;refine Sim.ret (a:=()) ?_;rw [XH_tell];unfold Hm.tell Hm.entryL;dsimp only;rw [if_neg (by decide),if_neg (by decide),if_neg (by decide),if_neg (by decide),if_neg (by decide),if_neg (by decide),if_neg (by decide),if_pos rfl]
  | e::l,k,h,hl,hw,ho,hs,n,hn=>by
    have hdr:h.list.drop (k+1)=l:=by rw [← List.tail_drop,hl];rfl
    have h7:=Cfg.kwhat7 hc e.1;unfold Hm.entryL
    by_cases hsk:(c.what e.1).1<7
    · rw [if_pos hsk]
      refine (rapply_sim hc who owner seq l (k+1) hdr hw ho hs hn).eq ?_;unfold un;rw [rapply,if_pos (h7.1 hsk)]
    rw [if_neg hsk]
    have hnsk:¬ (e.1<c.f7∨c.f17≤e.1):=fun x=>hsk (h7.2 x)
    obtain ⟨hb1,hb2⟩:=Cfg.kblock hc hsk
    have after:∀ (h':Hm) {i:Nat},i≤os.length→h'.next=5→h'.k=(k:Int)→h'.list=h.list→h'.who=who→h'.owner=owner→h'.seq=seq→
        Sim (XH c) os (un (fun t=>if (rdoE os seq e t).need=true then rdoE os seq e t else rapply c os who owner seq l h'.held (rdoE os seq e t))) (fun _ m' _=>m'.next=8) (fun _ _=>True) h' i:=fun h' i hi g1 g2 g3 g4 g5 g6=>by
      have hkk:h'.k.toNat=k:=by omega
      have hd:=rdoE_sim (c:=c) (os:=os) (h:=h') g1 (l:=l) (e:=e) (by rw [g3,hkk];exact hl) (by omega) hi;rw [g6] at hd;refine (hd.bind hi (S:=fun _ t=>un (fun t=>if t.need=true then t else rapply c os who owner seq l h'.held t) t) (fun _ t ht=>by unfold un;dsimp only;rw [if_pos ht]) (fun _ _ _ _ _=>trivial) (fun _ m' j hj hjn he=>?_)).eq rfl;obtain ⟨h2,rfl,f1,f2,f3,f4,f5⟩:=he;rw [hkk];have hih:=rapply_sim hc who owner seq l (k+1) (h:=h2) (by rw [f1,g3];exact hdr) (f2.trans g4) (f3.trans g5) f4 hjn;rw [f5] at hih;exact hih.eq (by unfold un;dsimp only;rw [if_neg (show ¬ (Tp.live j).need=true from Bool.false_ne_true)])
    by_cases hw16:(c.what e.1).1=16∧(c.what e.1).2.1≠h.held
    · have hrb:=hb2 hw16.1
      have hcond:0≤rblock c e.1∧rblock c e.1≠h.held:=⟨hb1.1 hw16.1,by rw [← hrb];exact hw16.2⟩
      rw [if_pos hw16]
      have hat:Hm.at_ { h with k:=(k:Int),next:=3 }=e:=by
        unfold Hm.at_
        have h0:(h.list.drop k)[0]? = some e:=by rw [hl];rfl
        rw [List.getElem?_drop] at h0;show h.list.getD ((k:Int).toNat) (0,0)=e;rw [List.getD_eq_getElem?_getD,show ((k:Int).toNat)=k+0 from rfl,h0];rfl
      have hask:(XH c).ask { h with k:=(k:Int),next:=3 }=(mop 1 (c.at 3 who 0) (rblock c e.1+1).toNat,true):=by
        rw [XH_ask];unfold Hm.ask;rw [hat];dsimp only;rw [if_neg (by decide),if_neg (by decide),if_neg (by decide),if_pos rfl,hw,hrb]
      refine ((Sim.do hask hn).bind hn (S:=fun _ t=>un (fun t=>if (ropen c os owner seq t).1.need=true∨(ropen c os owner seq t).2=false then (ropen c os owner seq t).1 else if (rdoE os seq e (ropen c os owner seq t).1).need=true then rdoE os seq e (ropen c os owner seq t).1 else rapply c os who owner seq l (rblock c e.1) (rdoE os seq e (ropen c os owner seq t).1)) t)
        (fun _ t ht=>by unfold un;dsimp only;rw [ropen_dead ht,if_pos (.inl ht)]) (fun _ _ _ _ _=>trivial) (fun o m' i hi hin he=>?_)).eq (by unfold un;dsimp only;rw [rapply,if_neg hnsk,if_pos hcond])
      obtain ⟨rfl,rfl,hk2,ho2⟩:=he
      have e3:(XH c).tell { h with k:=(k:Int),next:=3 } o={ h with k:=(k:Int),held := -1,next:=4 }:=by
        rw [XH_tell];unfold Hm.tell;dsimp only;rw [if_neg (by decide),if_neg (by decide),if_neg (by decide),if_pos rfl]
      rw [e3]
      have hask2:(XH c).ask { h with k:=(k:Int),held := -1,next:=4 }=(mop 0 (c.at 4 owner 0) 0,true):=by
        rw [XH_ask];unfold Hm.ask;dsimp only;rw [if_neg (by decide),if_neg (by decide),if_pos (.inr rfl),ho]
      refine ((Sim.do hask2 hk2).bind hk2 (S:=fun o2 t=>un (fun t=>if t.need=true∨decide (o2.was=⟨1,seq⟩)=false then t else if (rdoE os seq e t).need=true then rdoE os seq e t else rapply c os who owner seq l (rblock c e.1) (rdoE os seq e t)) t)
        (fun _ t ht=>by unfold un;dsimp only;rw [if_pos (.inl ht)]) (fun _ _ _ _ _=>trivial) (fun o2 m' i hi hin he=>?_)).eq rfl
      obtain ⟨rfl,rfl,hk3,ho3⟩:=he;have hat4:Hm.at_ { h with k:=(k:Int),held := -1,next:=4 }=e:=hat;rw [XH_tell];unfold Hm.tell;rw [hat4];dsimp only;rw [if_neg (by decide),if_neg (by decide),if_neg (by decide),if_neg (by decide),if_pos rfl]
      have hdec:decide (o2.was=(⟨1,h.seq⟩:Cell))=decide (o2.was=(⟨1,seq⟩:Cell)):=by rw [hs]
      rw [hdec];have hnd:¬ (Tp.live (n+1+1)).need=true:=Bool.false_ne_true;unfold Hm.unless
      by_cases hop:o2.was=⟨1,seq⟩
      · rw [decide_eq_true hop,if_pos rfl]
        refine (after { h with k:=(k:Int),held:=(c.what e.1).2.1,next:=5 } hk3 rfl rfl rfl hw ho hs).eq ?_;unfold un;dsimp only;rw [if_neg (fun x=>x.elim hnd (fun x=>by cases x)),← hrb]
      · rw [decide_eq_false hop,if_neg (by decide)]
        refine (Sim.ret (a:=()) rfl).eq ?_;unfold un;dsimp only;rw [if_pos (.inr rfl)]
    · rw [if_neg hw16]
      have hcond:¬ (0≤rblock c e.1∧rblock c e.1≠h.held):=fun x=>hw16 ⟨hb1.2 x.1,by rw [hb2 (hb1.2 x.1)];exact x.2⟩
      refine (after { h with k:=(k:Int),next:=5 } hn rfl rfl rfl hw ho hs).eq ?_;unfold un;dsimp only;rw [rapply,if_neg hnsk,if_neg hcond]
end
attribute [irreducible] rhelp
def rlog (c:Cfg)(os:List Out)(who:Int):Nat→List (Int×Nat)→Tp→Tp
 | _,[],t=>t
 | k,e::l,t=>rlog c os who (k+1) l (tdo os t ⟨1,c.at 6 who k,⟨0,0⟩,⟨e.2,(IntKind.u64.wrap e.1).toNat⟩⟩).1
def rwrite (c:Cfg)(os:List Out)(who:Int)(seq:Nat)(list:List (Int×Nat))(t:Tp):Tp :=
 (tdo os (tdo os (rlog c os who 0 (list.take (min list.length c.cap.toNat)) t) ⟨1,c.at 5 who 0,⟨0,0⟩,⟨(list.take (min list.length c.cap.toNat)).length,0⟩⟩).1 ⟨1,c.at 4 who 0,⟨0,0⟩,⟨1,seq⟩⟩).1
section
variable {c:Cfg}{os:List Out}
theorem rlog_dead {t:Tp}(h:t.need=true)(who:Int):∀ (l:List (Int×Nat)) (k:Nat),rlog c os who k l t=t
 | [],_=>rfl
 | e::l,k=>by unfold rlog;rw [tdo_dead h];exact rlog_dead h who l _
theorem rwrite_dead {t:Tp}(h:t.need=true)(who:Int)(seq:Nat)(list:List (Int×Nat)):rwrite c os who seq list t=t:=by
 unfold rwrite;rw [rlog_dead h,tdo_dead h,tdo_dead h]
theorem rcopyL_sim:∀ (m k:Nat) (l:List (Int×Nat)) {h:Hm},h.list=l→l.length=k→h.n=((k+m:Nat):Int)→h.next=(if m=0 then 2 else 1)→∀ {n:Nat},n≤os.length→
  Sim (XH c) os (rcopyL c os h.owner m k l) (fun l' m' _=>m'.next=2∧m'.list=l'∧m'.who=h.who∧m'.owner=h.owner∧m'.seq=h.seq∧m'.held=h.held) (fun _ _=>True) h n
 | 0,k,l,h,hl,hk,hh,hx,n,hn=>Sim.ret (a:=l) ⟨hx,hl,rfl,rfl,rfl,rfl⟩
 | m+1,k,l,h,hl,hk,hh,hx,n,hn=>by
  have hx:h.next=1:=by rw [hx,if_neg (by omega)]
  have hask:(XH c).ask h=(mop 0 (c.at 6 h.owner k) 0,true):=by
   rw [XH_ask];unfold Hm.ask;rw [if_neg (by omega),if_pos hx,hl,hk]
  refine ((Sim.do hask hn).bind hn (S:=fun o t=>rcopyL c os h.owner m (k+1) (l++[(placeOf o.was.seq,o.was.val)]) t) (fun o t ht=>by rw [rcopyL_dead ht]) (fun _ _ _ _ _=>trivial) (fun o m' i hi hin he=>?_)).eq ?_
  ·obtain ⟨rfl,rfl,hk2,ho⟩:=he
   rw [XH_tell]
   have e:h.tell c o={ h with list:=l++[(placeOf o.was.seq,o.was.val)],next:=(if m=0 then 2 else 1) }:=by
    unfold Hm.tell Hm.read;rw [if_neg (by omega),if_pos hx,hl];dsimp only
    have hlen:((l++[(placeOf o.was.seq,o.was.val)]).length:Int)=h.n↔m=0:=by
     rw [List.length_append,List.length_singleton,hk,hh];omega
    by_cases hm:m=0
    ·rw [if_pos (hlen.2 hm),if_pos hm]
    ·rw [if_neg (fun x=>hm (hlen.1 x)),if_neg hm]
   rw [e];exact rcopyL_sim m (k+1) (l++[(placeOf o.was.seq,o.was.val)]) (h:={ h with list:=l++[(placeOf o.was.seq,o.was.val)],next:=(if m=0 then 2 else 1) }) rfl (by rw [List.length_append,hk];rfl) (by dsimp only;rw [hh];congr 1;omega) rfl hk2
  ·show rcopyL c os h.owner (m+1) k l (.live n)=_
   rw [rcopyL,if_neg (show ¬ (Tp.live n).need=true from Bool.false_ne_true)]
theorem rcopy_sim (hc:Small c)(who owner:Int)(seq:Nat){n:Nat}(hn:n≤os.length) :
  Sim (XH c) os (rcopy c os owner) (fun l' m' _=>m'.next=2∧m'.list=l'∧m'.who=who∧m'.owner=owner∧m'.seq=seq∧m'.held = -1) (fun _ _=>True) (Hm.new who owner seq) n:=by
 have hcap:=hc.cap
 have hask:(XH c).ask (Hm.new who owner seq)=(mop 0 (c.at 5 owner 0) 0,true):=by
  rw [XH_ask];unfold Hm.ask Hm.new;rw [if_pos rfl]
 refine ((Sim.do hask hn).bind hn (S:=fun o t=>rcopyL c os owner (min o.was.val c.cap.toNat) 0 [] t) (fun o t ht=>by rw [rcopyL_dead ht]) (fun _ _ _ _ _=>trivial) (fun o m' i hi hin he=>?_)).eq rfl;obtain ⟨rfl,rfl,hk2,ho⟩:=he;rw [XH_tell]
 have e:(Hm.new who owner seq).tell c o={ Hm.new who owner seq with n:=((0+min o.was.val c.cap.toNat:Nat):Int),next:=(if min o.was.val c.cap.toNat=0 then 2 else 1) }:=by
  unfold Hm.tell Hm.read Hm.new;dsimp only;rw [if_pos rfl]
  have hv:(if c.cap<(o.was.val:Int) then c.cap else (o.was.val:Int))=((0+min o.was.val c.cap.toNat:Nat):Int):=by split<;>omega
  rw [hv]
  by_cases hm:min o.was.val c.cap.toNat=0
  ·rw [if_pos (by rw [hm];rfl),if_pos hm]
  ·rw [if_neg (by rw [List.length_nil];omega),if_neg hm]
 rw [e];exact rcopyL_sim (c:=c) (min o.was.val c.cap.toNat) 0 [] (h:={ Hm.new who owner seq with n:=((0+min o.was.val c.cap.toNat:Nat):Int),next:=(if min o.was.val c.cap.toNat=0 then 2 else 1) }) rfl rfl rfl rfl hk2
theorem rhelp_sim (hc:Small c)(who owner:Int)(seq:Nat){n:Nat}(hn:n≤os.length) :
  Sim (XH c) os (un (rhelp c os who owner seq)) (fun _ m' _=>m'.next=8) (fun _ _=>True) (Hm.new who owner seq) n:=by
 refine ((rcopy_sim hc who owner seq hn).bind hn (S:=fun l t=>un (fun t=>if (ropen c os owner seq t).1.need=true∨(ropen c os owner seq t).2=false then (ropen c os owner seq t).1 else rapply c os who owner seq l (-1) (ropen c os owner seq t).1) t) (fun l t ht=>by unfold un;dsimp only;rw [ropen_dead ht,if_pos (.inl ht)]) (fun _ _ _ _ _=>trivial) (fun l h i hi hin he=>?_)).eq (by unfold un rhelp;rfl);obtain ⟨h2,hl,hw,ho,hs,hh⟩:=he
 have hask:(XH c).ask h=(mop 0 (c.at 4 owner 0) 0,true):=by
  rw [XH_ask];unfold Hm.ask;rw [if_neg (by omega),if_neg (by omega),if_pos (.inl h2),ho]
 refine ((Sim.do hask hin).bind hin (S:=fun o t=>un (fun t=>if t.need=true∨decide (o.was=⟨1,seq⟩)=false then t else rapply c os who owner seq l (-1) t) t) (fun o t ht=>by unfold un;dsimp only;rw [if_pos (.inl ht)]) (fun _ _ _ _ _=>trivial) (fun o m' j hj hjn he=>?_)).eq rfl;obtain ⟨rfl,rfl,hk2,ho2⟩:=he;rw [XH_tell];unfold Hm.tell;rw [if_neg (by omega),if_neg (by omega),if_pos h2,hs];have hnd:¬ (Tp.live (i+1)).need=true:=Bool.false_ne_true;unfold Hm.unless
 by_cases hop:o.was=⟨1,seq⟩
 ·rw [decide_eq_true hop,if_pos rfl]
  have ha:=rapply_sim (os:=os) hc who owner seq l 0 (h:=h) hl hw ho hs hk2;rw [hh] at ha;refine Sim.eq (R:=un (rapply c os who owner seq l (-1))) ?_ ?_
  ·unfold Hm.entry
   rw [show h.list.drop 0=l from hl];exact ha
  ·unfold un
   dsimp only;rw [if_neg (fun x=>x.elim hnd (fun x=>by cases x))]
 ·rw [decide_eq_false hop,if_neg (by decide)]
  refine (Sim.ret (a:=()) rfl).eq ?_;unfold un;dsimp only;rw [if_pos (.inr rfl)]
def XS (c:Cfg):Mch Sm:=⟨Sm.ask c,fun s _=>s.tell⟩
theorem XS_ask (c:Cfg)(s:Sm):(XS c).ask s=s.ask c:=rfl
theorem XS_tell (c:Cfg)(s:Sm)(o:Out):(XS c).tell s o=s.tell:=rfl
theorem rlog_sim:∀ (l:List (Int×Nat)) (k:Nat) {s:Sm},s.list.drop k=l→s.done=k→k≤s.list.length→∀ {n:Nat},n≤os.length→
  Sim (XS c) os (un (rlog c os s.who k l)) (fun _ m' _=>m'={ s with done:=s.list.length }) (fun _ _=>True) s n
 | [],k,s,hl,hd,hk,n,hn=>by
  have he:s.list.length≤k:=by
   have h:=congrArg List.length hl;rw [List.length_drop,List.length_nil] at h;omega
  exact Sim.ret (a:=()) (by rw [show s.list.length=s.done by omega])
 | e::l,k,s,hl,hd,hk,n,hn=>by
  have hlt:k<s.list.length:=by
   have h:=congrArg List.length hl;rw [List.length_drop,List.length_cons] at h;omega
  have hget:s.list.getD k (0,0)=e:=by
   have h0:(s.list.drop k)[0]? = some e:=by rw [hl];rfl
   rw [List.getElem?_drop] at h0;rw [List.getD_eq_getElem?_getD,show k=k+0 from rfl,h0];rfl
  have hdr:s.list.drop (k+1)=l:=by rw [← List.tail_drop,hl];rfl
  have hask:(XS c).ask s=(⟨1,c.at 6 s.who k,⟨0,0⟩,⟨e.2,(IntKind.u64.wrap e.1).toNat⟩⟩,true):=by
   rw [XS_ask];unfold Sm.ask;rw [if_neg (by omega),if_pos (by omega),hd,hget]
  refine ((Sim.do hask hn).bind hn (S:=fun _ t=>un (rlog c os s.who (k+1) l) t) (fun _ t ht=>rlog_dead ht _ _ _) (fun _ _ _ _ _=>trivial) (fun o m' i hi hin he=>?_)).eq rfl;obtain ⟨rfl,rfl,hk2,ho⟩:=he;rw [XS_tell]
  have et:s.tell={ s with done:=k+1 }:=by
   unfold Sm.tell;rw [if_neg (by omega),hd]
  rw [et];exact rlog_sim l (k+1) (s:={ s with done:=k+1 }) hdr rfl hlt hk2
theorem rwrite_sim (who:Int)(seq:Nat)(list:List (Int×Nat)){n:Nat}(hn:n≤os.length) :
  Sim (XS c) os (un (rwrite c os who seq list)) (fun _ m' _=>m'.over=true) (fun _ _=>True) (Sm.new c who seq list) n:=by
 have h1:=rlog_sim (c:=c) (os:=os) (list.take (min list.length c.cap.toNat)) 0 (s:=Sm.new c who seq list) rfl rfl (Nat.zero_le _) hn;refine (h1.bind hn (S:=fun _ t=>un (fun t=>(tdo os (tdo os t ⟨1,c.at 5 who 0,⟨0,0⟩,⟨(list.take (min list.length c.cap.toNat)).length,0⟩⟩).1 ⟨1,c.at 4 who 0,⟨0,0⟩,⟨1,seq⟩⟩).1) t) (fun _ t ht=>by unfold un;dsimp only;rw [tdo_dead ht,tdo_dead ht]) (fun _ _ _ _ _=>trivial) (fun _ m' i hi hin he=>?_)).eq rfl;subst he
 have hask:(XS c).ask { Sm.new c who seq list with done:=(Sm.new c who seq list).list.length }=(⟨1,c.at 5 who 0,⟨0,0⟩,⟨(list.take (min list.length c.cap.toNat)).length,0⟩⟩,true):=by
  rw [XS_ask];unfold Sm.ask;dsimp only;rw [if_neg (by omega),if_neg (by omega),if_pos rfl];rfl
 refine ((Sim.do hask hin).bind hin (S:=fun _ t=>un (fun t=>(tdo os t ⟨1,c.at 4 who 0,⟨0,0⟩,⟨1,seq⟩⟩).1) t) (fun _ t ht=>by unfold un;dsimp only;rw [tdo_dead ht]) (fun _ _ _ _ _=>trivial) (fun o m' j hj hjn he=>?_)).eq rfl;obtain ⟨rfl,rfl,hk2,ho⟩:=he;rw [XS_tell]
 have et:Sm.tell { Sm.new c who seq list with done:=(Sm.new c who seq list).list.length }={ Sm.new c who seq list with done:=(Sm.new c who seq list).list.length+1 }:=by
  unfold Sm.tell;dsimp only;rw [if_neg (by omega)]
 rw [et]
 have hask2:(XS c).ask { Sm.new c who seq list with done:=(Sm.new c who seq list).list.length+1 }=(⟨1,c.at 4 who 0,⟨0,0⟩,⟨1,seq⟩⟩,true):=by
  rw [XS_ask];unfold Sm.ask;dsimp only;rw [if_neg (by omega),if_neg (by omega),if_neg (by omega)];rfl
 refine ((Sim.do hask2 hk2).bind hk2 (S:=fun _ t=>(t,())) (fun _ _ _=>rfl) (fun _ _ _ _ _=>trivial) (fun o2 m' j hj hjn he=>?_)).eq rfl;obtain ⟨rfl,rfl,hk3,ho⟩:=he;refine Sim.ret (a:=()) ?_;rw [XS_tell];unfold Sm.tell Sm.over;dsimp only;rw [if_neg (by omega)];exact decide_eq_true (by dsimp only;omega)
end
attribute [irreducible] rwrite
end Go.Proofs.YthmbgodcpgkkeaaGreat
