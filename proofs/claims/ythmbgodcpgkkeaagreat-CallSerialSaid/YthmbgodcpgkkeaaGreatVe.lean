/-
  Package call: what follows on an answer, a transaction that is made, a swap. Package call: worked, Tell, Ask, New, Rows.
-/
import Derived.Test.YthmbgodcpgkkeaaGreatVc
namespace Go.Proofs.YthmbgodcpgkkeaaGreat
set_option maxRecDepth 100000
section
variable (Cb:Nat) (c:Cfg) (hc:Small c) (pv:Value) (p:Cp) (hp:p.args.length=4) (q:HProp) (progs:Progs) (hpv:ProgsR q pv progs) (hf:0≤c.fuel∧c.fuel≤1000)
include hc hp hpv hf in
set_option maxHeartbeats 1000000 in
theorem canswer_t (hr:rightB (p.code progs)=true) (wv bv:Value) (m:Cm) (val:Nat):Tri Tryz.prog 160 #[.pointer (some ⟨Cb,0,none⟩), .int .u64 (val:Int)] [bl Cb 263 (clV c pv p wv bv m.s),WkP c pv q progs (p.code progs) wv m.work,q]
    fun r L=>∃ wv',r=.tuple ⟨[]⟩∧L=cpost Cb c pv p q progs wv' bv (m.answer c p progs val):=by
  have hrun:=crun_t Cb c hc pv p hp q progs hpv hf wv bv m
  obtain ⟨cv,hins,hcode⟩:=ccode_e q pv progs hpv p
  have hro:=reads_r q cv (p.code progs) hins (by have:=(right_at hr).2.1;omega)
  have hc1:=hcode Cb c wv bv m.s
  have hcf:=cfg_r c
  have hen1:=cend_t Cb c pv p wv bv { m.s with ov:=val } m.s.oc val false
  have hen2:=cend_t Cb c pv p wv bv m.s 45 0 true
  have hnew:=bnew_t c hc pv q progs p.who m.s.now.seq hpv
  have htk:=take_cl c pv p wv bv m.s
  obtain ⟨cad,ccap,rfl,_⟩:=hins
  obtain ⟨pad,pcap,rfl,_⟩:=hpv
  unfold cpost at hrun⊢
  unfold Cm.answer
  by_cases h6:m.s.next=6
  · rw [if_pos h6]
    clear hrun hen1 hen2
    refine Tri.of_body (vs:=[_,_]) Tryz.func160 rfl rfl fun w0 F=>?_
    repeat' (first|refine Ga ?_|(refine Gb ?_;intro b)|(refine Gd ?_;intro g cap rest hcap)|(refine Gc ?_;intro ad cap)|(refine St.draw (id:=8) [(0,0),(1,0),(2,0),(3,0),(4,1),(5,0),(6,0),(7,0),(8,1),(9,1),(10,0),(11,0),(12,0),(13,0),(14,1),(15,1),(16,0),(17,0)] [] mixed (by kernel_rfl) ?_)|(refine St.draw (id:=10) [(0,0),(1,0),(2,0),(3,0),(4,1),(5,0),(6,0),(7,0),(8,1),(9,1),(10,0),(11,0),(12,0)] [] mixed (by kernel_rfl) ?_)|(refine St.draw (id:=0) [(0,0),(1,0),(2,0),(3,0),(4,0),(5,1),(6,0),(7,0),(8,0),(9,1),(10,0),(11,0),(12,0),(13,0),(14,1),(15,0),(16,0),(17,0),(18,1),(19,3),(20,0),(21,0),(22,0),(23,3),(24,0),(25,0),(26,3)] [19,23,26] mixed (by kernel_rfl) ?_)|(refine Ge ?_ ?_<;>(intro h;try (exfalso;omega)))|fail)
    all_goals first|(exfalso;omega)|skip
    refine St.f1 Tryz.func160 ⟨_,⟨wv,rfl,rfl⟩,Ent.go⟩
  rw [if_neg h6]
  by_cases h7:m.s.next=7
  · rw [if_pos h7]
    clear hrun hen2
    refine Tri.of_body (vs:=[_,_]) Tryz.func160 rfl rfl fun w0 F=>?_
    repeat' (first|refine Ga ?_|(refine Gb ?_;intro b)|(refine Gd ?_;intro g cap rest hcap)|(refine Gc ?_;intro ad cap)|(refine St.draw (id:=8) [(0,0),(1,0),(2,0),(3,0),(4,1),(5,0),(6,0),(7,0),(8,1),(9,1),(10,0),(11,0),(12,0),(13,0),(14,1),(15,1),(16,0),(17,0)] [] mixed (by kernel_rfl) ?_)|(refine St.draw (id:=10) [(0,0),(1,0),(2,0),(3,0),(4,1),(5,0),(6,0),(7,0),(8,1),(9,1),(10,0),(11,0),(12,0)] [] mixed (by kernel_rfl) ?_)|(refine St.draw (id:=0) [(0,0),(1,0),(2,0),(3,0),(4,0),(5,1),(6,0),(7,0),(8,0),(9,1),(10,0),(11,0),(12,0),(13,0),(14,1),(15,0),(16,0),(17,0),(18,1),(19,3),(20,0),(21,0),(22,0),(23,3),(24,0),(25,0),(26,3)] [19,23,26] mixed (by kernel_rfl) ?_)|(refine Gt hen1 ?_;rintro _ _ ⟨rfl,rfl⟩)|(refine Ge ?_ ?_<;>(intro h;try (exfalso;omega)))|fail)
    all_goals first|(exfalso;omega)|skip
    refine St.f1 Tryz.func160 ⟨_,⟨wv,rfl,rfl⟩,Ent.go⟩
  rw [if_neg h7]
  by_cases hv:val=p.tag
  · rw [if_pos hv]
    subst hv
    clear hrun hen1 hen2
    refine Tri.of_body (vs:=[_,_]) Tryz.func160 rfl rfl fun w0 F=>?_
    repeat' (first|refine Ga ?_|(refine Gb ?_;intro b)|(refine Gd ?_;intro g cap rest hcap)|(refine Gc ?_;intro ad cap)|(refine St.draw (id:=8) [(0,0),(1,0),(2,0),(3,0),(4,1),(5,0),(6,0),(7,0),(8,1),(9,1),(10,0),(11,0),(12,0),(13,0),(14,1),(15,1),(16,0),(17,0)] [] mixed (by kernel_rfl) ?_)|(refine St.draw (id:=10) [(0,0),(1,0),(2,0),(3,0),(4,1),(5,0),(6,0),(7,0),(8,1),(9,1),(10,0),(11,0),(12,0)] [] mixed (by kernel_rfl) ?_)|(refine St.draw (id:=0) [(0,0),(1,0),(2,0),(3,0),(4,0),(5,1),(6,0),(7,0),(8,0),(9,1),(10,0),(11,0),(12,0),(13,0),(14,1),(15,0),(16,0),(17,0),(18,1),(19,3),(20,0),(21,0),(22,0),(23,3),(24,0),(25,0),(26,3)] [19,23,26] mixed (by kernel_rfl) ?_)|(refine Ge ?_ ?_<;>(intro h;try (exfalso;omega)))|fail)
    all_goals first|(exfalso;omega)|skip
    refine St.f1 Tryz.func160 ⟨_,⟨wv,rfl,rfl⟩,Ent.go⟩
  rw [if_neg hv]
  by_cases hl:c.last≤m.s.now.seq
  · rw [if_pos hl]
    generalize onlyB (p.code progs)=r at hro⊢
    cases r with
    | true =>
      rw [if_pos rfl]
      clear hen1 hen2
      refine Tri.of_body (vs:=[_,_]) Tryz.func160 rfl rfl fun w0 F=>?_
      repeat' (first|refine Ga ?_|(refine Gb ?_;intro b)|(refine Gd ?_;intro g cap rest hcap)|(refine Gc ?_;intro ad cap)|(refine St.draw (id:=8) [(0,0),(1,0),(2,0),(3,0),(4,1),(5,0),(6,0),(7,0),(8,1),(9,1),(10,0),(11,0),(12,0),(13,0),(14,1),(15,1),(16,0),(17,0)] [] mixed (by kernel_rfl) ?_)|(refine St.draw (id:=10) [(0,0),(1,0),(2,0),(3,0),(4,1),(5,0),(6,0),(7,0),(8,1),(9,1),(10,0),(11,0),(12,0)] [] mixed (by kernel_rfl) ?_)|(refine St.draw (id:=0) [(0,0),(1,0),(2,0),(3,0),(4,0),(5,1),(6,0),(7,0),(8,0),(9,1),(10,0),(11,0),(12,0),(13,0),(14,1),(15,0),(16,0),(17,0),(18,1),(19,3),(20,0),(21,0),(22,0),(23,3),(24,0),(25,0),(26,3)] [19,23,26] mixed (by kernel_rfl) ?_)| refine Gl hcf ?_|refine Gl hc1 ?_|refine Gl hro ?_|(refine Gt hrun ?_;rintro _ _ ⟨wv',rfl,rfl⟩)|(refine Ge ?_ ?_<;>(intro h;try (exfalso;omega)))|fail)
      all_goals first|(exfalso;omega)|skip
      refine St.f1 Tryz.func160 ⟨_,⟨wv',rfl,rfl⟩,Ent.go⟩
    | false =>
      rw [if_neg (by decide)]
      clear hrun hen1
      refine Tri.of_body (vs:=[_,_]) Tryz.func160 rfl rfl fun w0 F=>?_
      repeat' (first|refine Ga ?_|(refine Gb ?_;intro b)|(refine Gd ?_;intro g cap rest hcap)|(refine Gc ?_;intro ad cap)|(refine St.draw (id:=8) [(0,0),(1,0),(2,0),(3,0),(4,1),(5,0),(6,0),(7,0),(8,1),(9,1),(10,0),(11,0),(12,0),(13,0),(14,1),(15,1),(16,0),(17,0)] [] mixed (by kernel_rfl) ?_)|(refine St.draw (id:=10) [(0,0),(1,0),(2,0),(3,0),(4,1),(5,0),(6,0),(7,0),(8,1),(9,1),(10,0),(11,0),(12,0)] [] mixed (by kernel_rfl) ?_)|(refine St.draw (id:=0) [(0,0),(1,0),(2,0),(3,0),(4,0),(5,1),(6,0),(7,0),(8,0),(9,1),(10,0),(11,0),(12,0),(13,0),(14,1),(15,0),(16,0),(17,0),(18,1),(19,3),(20,0),(21,0),(22,0),(23,3),(24,0),(25,0),(26,3)] [19,23,26] mixed (by kernel_rfl) ?_)| refine Gl hcf ?_|refine Gl hc1 ?_|refine Gl hro ?_|(refine Gt hen2 ?_;rintro _ _ ⟨rfl,rfl⟩)|(refine Ge ?_ ?_<;>(intro h;try (exfalso;omega)))|fail)
      all_goals first|(exfalso;omega)|skip
      refine St.f1 Tryz.func160 ⟨_,⟨wv,rfl,rfl⟩,Ent.go⟩
  · rw [if_neg hl]
    clear hrun hen1 hen2
    refine Tri.of_body (vs:=[_,_]) Tryz.func160 rfl rfl fun w0 F=>?_
    repeat' (first|refine Ga ?_|(refine Gb ?_;intro b)|(refine Gd ?_;intro g cap rest hcap)|(refine Gc ?_;intro ad cap)|(refine St.draw (id:=8) [(0,0),(1,0),(2,0),(3,0),(4,1),(5,0),(6,0),(7,0),(8,1),(9,1),(10,0),(11,0),(12,0),(13,0),(14,1),(15,1),(16,0),(17,0)] [] mixed (by kernel_rfl) ?_)|(refine St.draw (id:=10) [(0,0),(1,0),(2,0),(3,0),(4,1),(5,0),(6,0),(7,0),(8,1),(9,1),(10,0),(11,0),(12,0)] [] mixed (by kernel_rfl) ?_)|(refine St.draw (id:=0) [(0,0),(1,0),(2,0),(3,0),(4,0),(5,1),(6,0),(7,0),(8,0),(9,1),(10,0),(11,0),(12,0),(13,0),(14,1),(15,0),(16,0),(17,0),(18,1),(19,3),(20,0),(21,0),(22,0),(23,3),(24,0),(25,0),(26,3)] [19,23,26] mixed (by kernel_rfl) ?_)| refine Gl hcf ?_|refine Gl hc1 ?_|refine Gl hro ?_|(refine Gt hnew ?_;rintro _ _ ⟨B,rfl,rfl⟩)|(refine Ge ?_ ?_<;>(intro h;try (exfalso;omega)))|fail)
    all_goals first|(exfalso;omega)|skip
    refine St.f1 Tryz.func160 ⟨_,⟨ifv 93 B,rfl,rfl⟩, ?_⟩
    refine Ent.trans (M:=Bd B c (.slice pad progs.length pcap) q progs (Bm.new p.who m.s.now.seq)::_) Ent.go ?_
    exact Ent.trans (Ent.wbd _ B) Ent.go
include hc hp hpv hf in
theorem chelped_t (H:Nat) (bv:Value) (m:Cm) (h0:Hm) (hw:m.work=.hp h0):Tri Tryz.prog 229 #[.pointer (some ⟨Cb,0,none⟩), .pointer (some ⟨H,0,none⟩)] [bl Cb 263 (clV c pv p (ifv 345 H) bv m.s),HpE H c h0,q]
    fun r L=>∃ wv',r=.tuple ⟨[]⟩∧L=cpost Cb c pv p q progs wv' bv (m.helped c p progs h0):=by
  have htr:=(ctry_t Cb c hc pv p hp q progs hpv hf (ifv 345 H) bv m).ent (L:=[bl Cb 263 (clV c pv p (ifv 345 H) bv m.s),HpE H c h0,q]) (by
    rw [hw]
    exact Ent.cons (Ent.whp h0 H))
  have hdo:=hdone_r H c h0
  have hen:=cend_t Cb c pv p (ifv 345 H) bv m.s m.s.oc m.s.ov false
  obtain ⟨pad,pcap,rfl,_⟩:=hpv
  unfold cpost at htr⊢
  unfold Cm.helped
  by_cases h8:h0.next=8
  · rw [if_neg (by omega)]
    rw [decide_eq_true h8] at hdo
    by_cases h12:m.s.next=12
    · rw [if_pos h12]
      clear htr
      refine Tri.of_body (vs:=[_,_]) Tryz.func229 rfl rfl fun w0 F=>?_
      repeat' (first|refine Ga ?_|(refine Gb ?_;intro b)|(refine Gd ?_;intro g cap rest hcap)|(refine Gc ?_;intro ad cap)|refine Gl hdo ?_|(refine Gt hen ?_;rintro _ _ ⟨rfl,rfl⟩)|(refine Ge ?_ ?_<;>(intro h;try (exfalso;omega)))|fail)
      all_goals first|(exfalso;omega)|skip
      refine St.f1 Tryz.func229 ⟨_,⟨ifv 345 H,rfl,rfl⟩, ?_⟩
      dsimp only
      rw [hw]
      exact Ent.trans (Ent.trans Ent.go (Ent.whp (pv:=.slice pad progs.length pcap) (q:=q) (progs:=progs) (code:=p.code progs) h0 H)) Ent.go
    · rw [if_neg h12]
      clear hen
      refine Tri.of_body (vs:=[_,_]) Tryz.func229 rfl rfl fun w0 F=>?_
      repeat' (first|refine Ga ?_|(refine Gb ?_;intro b)|(refine Gd ?_;intro g cap rest hcap)|(refine Gc ?_;intro ad cap)|refine Gl hdo ?_|(refine Gt htr ?_;rintro _ _ ⟨wv',rfl,rfl⟩)|(refine Ge ?_ ?_<;>(intro h;try (exfalso;omega)))|fail)
      all_goals first|(exfalso;omega)|skip
      refine St.f1 Tryz.func229 ⟨_,⟨wv',rfl,rfl⟩,Ent.go⟩
  · rw [if_pos (by omega)]
    rw [decide_eq_false h8] at hdo
    clear htr hen
    refine Tri.of_body (vs:=[_,_]) Tryz.func229 rfl rfl fun w0 F=>?_
    repeat' (first|refine Ga ?_|(refine Gb ?_;intro b)|(refine Gd ?_;intro g cap rest hcap)|(refine Gc ?_;intro ad cap)|refine Gl hdo ?_|(refine Ge ?_ ?_<;>(intro h;try (exfalso;omega)))|fail)
    all_goals first|(exfalso;omega)|skip
    refine St.d1 Tryz.func229 ⟨_,⟨ifv 345 H,rfl,rfl⟩, ?_⟩
    rw [hw]
    exact Ent.trans (Ent.trans Ent.go (Ent.whp (pv:=.slice pad progs.length pcap) (q:=q) (progs:=progs) (code:=p.code progs) h0 H)) Ent.go
include hc hpv in
set_option maxHeartbeats 1000000 in
theorem cswapped_t (B:Nat) (wv:Value) (m:Cm) (b:Bm) (hb:m.b=some b) (hi:Binv c progs b) (hs:m.s.now.seq<140737488355328) (ok:Bool):Tri Tryz.prog 161 #[.pointer (some ⟨Cb,0,none⟩), .bool ok] [bl Cb 263 (clV c pv p wv (.pointer (some ⟨B,0,none⟩)) m.s),WkP c pv q progs (p.code progs) wv m.work,Bd B c pv q progs b]
    fun r L=>∃ wv',r=.tuple ⟨[]⟩∧L=[bl Cb 263 (clV c pv p wv' (.pointer (some ⟨B,0,none⟩)) (m.swapped c p ok).s),WkP c pv q progs (p.code progs) wv' (m.swapped c p ok).work,Bd B c pv q progs b]:=by
  have hen:=bentries_t B c hc pv q progs b hi
  have hsh:=ents_short hi
  have hown:=fun ad cap=>hown_t c hc p.who (m.s.now.seq+1) (entriesOf c b.e.puts) (by omega) ad cap
  have htk:=take_cl c pv p wv (.pointer (some ⟨B,0,none⟩)) m.s
  obtain ⟨pad,pcap,rfl,_⟩:=hpv
  unfold Cm.swapped
  rw [hb]
  dsimp only
  generalize entriesOf c b.e.puts=es at hen hown hsh⊢
  cases ok with
  | true =>
    rw [if_pos rfl]
    refine Tri.of_body (vs:=[_,_]) Tryz.func161 rfl rfl fun w0 F=>?_
    repeat' (first|refine Ga ?_|(refine Gb ?_;intro b)|(refine Gd ?_;intro g cap rest hcap)|(refine Gc ?_;intro ad cap)|(refine St.draw (id:=3) [(0,0),(1,0),(2,0),(3,0),(4,0),(5,1),(6,0),(7,0),(8,0),(9,1),(10,0),(11,0),(12,0),(13,0),(14,1),(15,0),(16,0),(17,0),(18,0),(19,1),(20,2),(21,3),(22,0),(23,0),(24,0),(25,3),(26,0),(27,0),(28,3)] [21,25,28] mixed (by kernel_rfl) ?_)|(refine Gt hen ?_;rintro _ _ ⟨ead,ecap,rfl,rfl⟩)|(refine Gu hen ?_;rintro _ _ ⟨ead,ecap,rfl,rfl⟩;refine ⟨Ent.go, ?_⟩)|(refine Gt (hown _ _) ?_;rintro _ _ ⟨H,rfl,rfl⟩)|(refine Gu (hown _ _) ?_;rintro _ _ ⟨H,rfl,rfl⟩;refine ⟨Ent.go, ?_⟩)|(refine Ge ?_ ?_<;>(intro h;try (exfalso;omega)))|fail)
    all_goals first|(exfalso;omega)|skip
    refine St.f1 Tryz.func161 ⟨_,⟨ifv 345 H,rfl,rfl⟩, ?_⟩
    exact Ent.trans (Ent.trans Ent.go (Ent.whp (pv:=.slice pad progs.length pcap) (q:=q) (progs:=progs) (code:=p.code progs) (Hm.own c p.who (m.s.now.seq+1) es) H)) Ent.go
  | false =>
    rw [if_neg (by decide)]
    clear hen hown
    refine Tri.of_body (vs:=[_,_]) Tryz.func161 rfl rfl fun w0 F=>?_
    repeat' (first|refine Ga ?_|(refine Gb ?_;intro b)|(refine Gd ?_;intro g cap rest hcap)|(refine Gc ?_;intro ad cap)|(refine St.draw (id:=3) [(0,0),(1,0),(2,0),(3,0),(4,0),(5,1),(6,0),(7,0),(8,0),(9,1),(10,0),(11,0),(12,0),(13,0),(14,1),(15,0),(16,0),(17,0),(18,0),(19,1),(20,3),(21,3),(22,0),(23,0),(24,0),(25,3),(26,0),(27,0),(28,3)] [20,21,25,28] mixed (by kernel_rfl) ?_)|(refine Ge ?_ ?_<;>(intro h;try (exfalso;omega)))|fail)
    all_goals first|(exfalso;omega)|skip
    refine St.f1 Tryz.func161 ⟨_,⟨wv,rfl,rfl⟩,Ent.go⟩
def WkS (c:Cfg) (wv:Value):Wk→HProp
  | .sc s=>ex (ι:={ S:Nat // wv=ifv 351 S }) fun S=>[ScE S.1 c s]
  | _=>star []
theorem Ent.ws (s:Sm) (S:Nat) {c:Cfg} {L:List HProp}:Ent (ScE S c s::L) (WkS c (ifv 351 S) (.sc s)::L):=Ent.ex_in (Ls:=fun B':{ B':Nat // ifv 351 S=ifv 351 B' }=>[ScE B'.1 c s]) ⟨S,rfl⟩
theorem Ent.ws0 {c:Cfg} {wv:Value} {b:Bm} {L:List HProp}:Ent L (WkS c wv (.bd b)::L):=Ent.star_in []
def BtI (c:Cfg) (p:Cp) (B:Nat) (bv:Value) (m:Cm) (b:Bm) (k:Nat) (wv bvk:Value) (mk:Cm):Prop :=
  mk=(b.rows.take k).foldl (Cm.row c p b) { m with s:={ m.s with next:=2 } }∧mk.s.now=m.s.now∧((bvk=bv∧mk.b=m.b∧wv=ifv 93 B∧mk.work=.bd b)∨(bvk=.pointer (some ⟨B,0,none⟩)∧mk.b=some b∧∃ s,mk.work=.sc s))
include hc hpv in
set_option maxHeartbeats 2000000 in
theorem cbuilt_t (B:Nat) (bv:Value) (m:Cm) (bt:Bm) (hw:m.work=.bd bt) (hi:Binv c progs bt) (hs:m.s.now.seq<140737488355328):Tri Tryz.prog 228 #[.pointer (some ⟨Cb,0,none⟩), .pointer (some ⟨B,0,none⟩)] [bl Cb 263 (clV c pv p (ifv 93 B) bv m.s),Bd B c pv q progs bt,BkP c pv q progs bv m.b]
    fun r L=>∃ wv' bv',r=.tuple ⟨[]⟩∧L=[bl Cb 263 (clV c pv p wv' bv' (m.built c p bt).s),WkP c pv q progs (p.code progs) wv' (m.built c p bt).work,BkP c pv q progs bv' (m.built c p bt).b]:=by
  have hst:=bstatus_r B c pv q progs bt
  have hen:=bentries_t B c hc pv q progs bt hi
  have hrw:=brows_t B c hc pv q progs bt hi
  have hsh:=ents_short hi
  have hrl:bt.rows.length≤1000:=by have:=hi.rows;have:=hi.u;have:=hc.t1;omega
  have hsn:=fun ad cap=>snew_t c hc p.who (m.s.now.seq+1) (entriesOf c bt.e.puts) (by omega) ad cap
  obtain ⟨pad,pcap,rfl,_⟩:=hpv
  have hres:Cm.built c p m bt=if bt.b.s=0 then m else if bt.b.s=2 then { m with s:={ m.s with next:=2 } } else bt.rows.foldl (Cm.row c p bt) { m with s:={ m.s with next:=2 } }:=rfl
  by_cases h0:bt.b.s=0
  · rw [if_pos h0] at hres
    rw [hres,hw]
    clear hen hrw hsn
    refine Tri.of_body (vs:=[_,_]) Tryz.func228 rfl rfl fun w0 F=>?_
    repeat' (first|refine Ga ?_|(refine Gb ?_;intro b)|(refine Gd ?_;intro g cap rest hcap)|(refine Gc ?_;intro ad cap)|(refine St.draw (id:=6) [(0,0),(1,1),(2,0),(3,0),(4,0),(5,1),(6,0)] [] mixed (by kernel_rfl) ?_)|(refine St.draw (id:=8) [(0,0),(1,0),(2,0),(3,0),(4,0),(5,1),(6,0),(7,0),(8,0),(9,1),(10,0),(11,0),(12,0),(13,0),(14,1),(15,0),(16,0),(17,3),(18,3),(19,0),(20,0),(21,0),(22,3),(23,0),(24,0),(25,3)] [17,18,22,25] mixed (by kernel_rfl) ?_)| refine Gl hst ?_|(refine Ge ?_ ?_<;>(intro h;try (exfalso;omega)))|fail)
    all_goals first|(exfalso;omega)|skip
    refine St.d1 Tryz.func228 ⟨_,⟨ifv 93 B,bv,rfl,rfl⟩, ?_⟩
    exact Ent.trans (Ent.trans Ent.go (Ent.wbd (code:=p.code progs) bt B)) Ent.go
  rw [if_neg h0] at hres
  by_cases h2:bt.b.s=2
  · rw [if_pos h2] at hres
    rw [hres]
    dsimp only
    rw [hw]
    clear hen hrw hsn
    refine Tri.of_body (vs:=[_,_]) Tryz.func228 rfl rfl fun w0 F=>?_
    repeat' (first|refine Ga ?_|(refine Gb ?_;intro b)|(refine Gd ?_;intro g cap rest hcap)|(refine Gc ?_;intro ad cap)|(refine St.draw (id:=6) [(0,0),(1,1),(2,0),(3,0),(4,0),(5,1),(6,0)] [] mixed (by kernel_rfl) ?_)|(refine St.draw (id:=8) [(0,0),(1,0),(2,0),(3,0),(4,0),(5,1),(6,0),(7,0),(8,0),(9,1),(10,0),(11,0),(12,0),(13,0),(14,1),(15,0),(16,0),(17,3),(18,3),(19,0),(20,0),(21,0),(22,3),(23,0),(24,0),(25,3)] [17,18,22,25] mixed (by kernel_rfl) ?_)| refine Gl hst ?_|(refine Ge ?_ ?_<;>(intro h;try (exfalso;omega)))|fail)
    all_goals first|(exfalso;omega)|skip
    refine St.d1 Tryz.func228 ⟨_,⟨ifv 93 B,bv,rfl,rfl⟩, ?_⟩
    exact Ent.trans (Ent.trans Ent.go (Ent.wbd (code:=p.code progs) bt B)) Ent.go
  rw [if_neg h2] at hres
  generalize hR:Cm.built c p m bt=R at hres⊢
  generalize hes:entriesOf c bt.e.puts=es at hen hsn hsh
  have hfin:∀ wv bvk,BtI c p B bv m bt bt.rows.length wv bvk R→∀ {M:List HProp},Ent (bl Cb 263 (clV c (.slice pad progs.length pcap) p wv bvk R.s)::WkS c wv R.work::Bd B c (.slice pad progs.length pcap) q progs bt::BkP c (.slice pad progs.length pcap) q progs bv m.b::M) ([bl Cb 263 (clV c (.slice pad progs.length pcap) p wv bvk R.s),WkP c (.slice pad progs.length pcap) q progs (p.code progs) wv R.work,BkP c (.slice pad progs.length pcap) q progs bvk R.b]++M):=by
    rintro wv bvk ⟨_,_,⟨rfl,e2,rfl,e4⟩|⟨rfl,e2,s,e4⟩⟩ M
    · rw [e2,e4]
      exact Ent.trans (Ent.trans Ent.go (Ent.wbd (code:=p.code progs) bt B)) Ent.go
    · rw [e2,e4]
      exact Ent.cons (Ent.cons (Ent.trans (Ent.trans Ent.go (Ent.bbd bt B)) Ent.go))
  clear hR
  refine Tri.of_body (vs:=[_,_]) Tryz.func228 rfl rfl fun w0 F=>?_
  repeat' (first|refine Ga ?_|(refine Gb ?_;intro b)|(refine Gd ?_;intro g cap rest hcap)|(refine Gc ?_;intro ad cap)|(refine St.draw (id:=6) [(0,0),(1,1),(2,0),(3,0),(4,0),(5,1),(6,0)] [] mixed (by kernel_rfl) ?_)|(refine St.draw (id:=8) [(0,0),(1,0),(2,0),(3,0),(4,0),(5,1),(6,0),(7,0),(8,0),(9,1),(10,0),(11,0),(12,0),(13,0),(14,1),(15,0),(16,0),(17,3),(18,3),(19,0),(20,0),(21,0),(22,3),(23,0),(24,0),(25,3)] [17,18,22,25] mixed (by kernel_rfl) ?_)| refine Gl hst ?_|(refine Gt hrw ?_;rintro _ _ ⟨rad,rcap,rs,hrs,rfl,rfl⟩)|(refine Ge ?_ ?_<;>(intro h;try (exfalso;omega)))|fail)
  all_goals first|(exfalso;omega)|skip
  have hlrs:rs.length=bt.rows.length:=by rw [←hrs,List.length_map]
  have hws:∀ {M:List HProp},Ent M (WkS c (ifv 93 B) m.work::M):=by rw [hw];exact Ent.ws0
  refine St.conv ?_ (Sub.refl _) (Ent.of_take (p:=Row (.slice rad bt.rows.length rcap) 128 5 bt.rows.length (rs.flatMap rowV)) Take.go)
  refine St.rowL (f:=rowV) hlrs fun Rw hL=>?_
  obtain ⟨rad',rcap',hv,_,hr⟩:=hL
  injection hv with hv1 _ hv3
  subst hv1 hv3
  refine St.conv ?_ (Sub.refl _) hws
  refine St.loopY (Lr:=?Lr1) (ι:={ x:Nat×Value×Value×Cm // x.1≤bt.rows.length∧BtI c p B bv m bt x.1 x.2.1 x.2.2.1 x.2.2.2 }) (fun x=>bt.rows.length - x.1.1) (fun x=>[(18, .int .i64 (x.1.1:Int))])
    (fun x=>[bl Cb 263 (clV c (.slice pad progs.length pcap) p x.1.2.1 x.1.2.2.1 x.1.2.2.2.s),WkS c x.1.2.1 x.1.2.2.2.work]) ⟨(0,ifv 93 B,bv,{ m with s:={ m.s with next:=2 } }),Nat.zero_le _,⟨rfl,rfl, .inl ⟨rfl,rfl,rfl,hw⟩⟩⟩ ?hE1 ?hL1 ?round1
  case hE1=>exact Sub.go
  case hL1=>exact Takes.go
  case round1 =>
    rintro ⟨⟨k,wv,bvk,mk⟩,hk,hb⟩ IH;dsimp only at hk hb IH⊢
    by_cases hlt:k<bt.rows.length
    · obtain ⟨bf,o,l,l1,rfl,hrd,hdr,htk⟩:=ListR.at (f:=rowV) (sz:=5) (fun _=>rfl) hr k (by omega)
      have hfold:(bt.rows.take (k+1)).foldl (Cm.row c p bt) { m with s:={ m.s with next:=2 } }=Cm.row c p bt ((bt.rows.take k).foldl (Cm.row c p bt) { m with s:={ m.s with next:=2 } }) bt.rows[k]:=by
        rw [List.take_succ_eq_append_getElem hlt,List.foldl_append];rfl
      obtain ⟨he,hnow,hcase⟩:=hb
      rw [←he] at hfold
      have hrk:bt.rows[k]=(rs[k]'(by omega)).1:=by
        have:(rs.map (·.1))[k]'(by rw [List.length_map];omega)=bt.rows[k]:=by simp only [hrs]
        rw [←this,List.getElem_map]
      rw [hrk] at hfold
      generalize rs[k]'(by omega)=r at htk hfold
      obtain ⟨⟨rwho,rtag,rrc,rrv,rnews⟩,nad,ncap⟩:=r
      unfold rowV at htk
      dsimp only at htk hfold
      have htkc:=take_cl c (.slice pad progs.length pcap) p wv bvk mk.s
      have hseq:mk.s.now.seq<140737488355328:=by rw [hnow];exact hs
      rw [←hnow] at hsn
      by_cases hwho:rwho=p.who
      · subst hwho
        have hrow:∀ r:BRow,r.who=p.who→Cm.row c p bt mk r={ mk with s:={ mk.s with oc:=r.rc,ov:=r.rv,next:=10 },b:=some bt,work:=.sc (Sm.new c p.who (mk.s.now.seq+1) es) }:=fun r hr=>by
          unfold Cm.row
          rw [if_pos hr,hes]
        rw [hrow _ rfl] at hfold
        repeat' (first|refine Ga ?_|(refine Gb ?_;intro b)|(refine Gd ?_;intro g cap rest hcap)|(refine Gc ?_;intro ad cap)|(refine St.draw (id:=6) [(0,0),(1,1),(2,0),(3,0),(4,0),(5,1),(6,0)] [] mixed (by kernel_rfl) ?_)|(refine St.draw (id:=8) [(0,0),(1,0),(2,0),(3,0),(4,0),(5,1),(6,0),(7,0),(8,0),(9,1),(10,0),(11,0),(12,0),(13,0),(14,1),(15,0),(16,0),(17,2),(18,3),(19,0),(20,0),(21,0),(22,3),(23,0),(24,0),(25,3)] [18,22,25] mixed (by kernel_rfl) ?_)| refine Gl hst ?_|(refine Gt hen ?_;rintro _ _ ⟨ead,ecap,rfl,rfl⟩)|(refine Gu hen ?_;rintro _ _ ⟨ead,ecap,rfl,rfl⟩;refine ⟨Ent.go, ?_⟩)|(refine Gt (hsn _ _) ?_;rintro _ _ ⟨S,rfl,rfl⟩)|(refine Gu (hsn _ _) ?_;rintro _ _ ⟨S,rfl,rfl⟩;refine ⟨Ent.go, ?_⟩)|(refine Ge ?_ ?_<;>(intro h;try (exfalso;omega)))|fail)
        all_goals first|(exfalso;omega)|skip
        refine IH ⟨(k+1,ifv 351 S, .pointer (some ⟨B,0,none⟩),{ mk with s:={ mk.s with oc:=rrc,ov:=rrv,next:=10 },b:=some bt,work:=.sc (Sm.new c p.who (mk.s.now.seq+1) es) }),hlt,⟨hfold.symm,hnow, .inr ⟨rfl,rfl,_,rfl⟩⟩⟩ (by show bt.rows.length - (k+1)<bt.rows.length - k;omega) ?_ ?_
        · exact Sub.go
        · exact Ent.trans (Ent.trans (Ent.of_take (p:=ScE S c (Sm.new c p.who (mk.s.now.seq+1) es)) Take.go) (Ent.ws _ S)) Ent.go
      · unfold Cm.row at hfold
        rw [if_neg hwho] at hfold
        clear hen hsn
        repeat' (first|refine Ga ?_|(refine Gb ?_;intro b)|(refine Gd ?_;intro g cap rest hcap)|(refine Gc ?_;intro ad cap)|(refine St.draw (id:=6) [(0,0),(1,1),(2,0),(3,0),(4,0),(5,1),(6,0)] [] mixed (by kernel_rfl) ?_)|(refine St.draw (id:=8) [(0,0),(1,0),(2,0),(3,0),(4,0),(5,1),(6,0),(7,0),(8,0),(9,1),(10,0),(11,0),(12,0),(13,0),(14,1),(15,0),(16,0),(17,2),(18,3),(19,0),(20,0),(21,0),(22,3),(23,0),(24,0),(25,3)] [18,22,25] mixed (by kernel_rfl) ?_)|(refine Ge ?_ ?_<;>(intro h;try (exfalso;omega)))|fail)
        all_goals first|(exfalso;omega)|skip
        refine IH ⟨(k+1,wv,bvk,mk),hlt,⟨hfold.symm,hnow,hcase⟩⟩ (by show bt.rows.length - (k+1)<bt.rows.length - k;omega) ?_ ?_
        · exact Sub.go
        · exact Ent.go
    · obtain rfl:k=bt.rows.length:=by omega
      clear IH hen hsn
      have hmk:mk=R:=by
        rw [hb.1,List.take_length,←hres]
      subst hmk
      repeat' (first|refine Ga ?_|(refine Gb ?_;intro b)|(refine Gd ?_;intro g cap rest hcap)|(refine Gc ?_;intro ad cap)|(refine St.draw (id:=6) [(0,0),(1,1),(2,0),(3,0),(4,0),(5,1),(6,0)] [] mixed (by kernel_rfl) ?_)|(refine St.draw (id:=8) [(0,0),(1,0),(2,0),(3,0),(4,0),(5,1),(6,0),(7,0),(8,0),(9,1),(10,0),(11,0),(12,0),(13,0),(14,1),(15,0),(16,0),(17,3),(18,3),(19,0),(20,0),(21,0),(22,3),(23,0),(24,0),(25,3)] [17,18,22,25] mixed (by kernel_rfl) ?_)|(refine Ge ?_ ?_<;>(intro h;try (exfalso;omega)))|fail)
      all_goals first|(exfalso;omega)|skip
      refine St.f1 Tryz.func228 ⟨_,⟨wv,bvk,rfl,rfl⟩, ?_⟩
      refine Ent.trans ?_ (hfin wv bvk hb)
      exact Ent.go
end
end Go.Proofs.YthmbgodcpgkkeaaGreat
namespace Go.Proofs.YthmbgodcpgkkeaaGreat
set_option maxRecDepth 100000
theorem Cm.try_b (c:Cfg) (p:Cp) (progs:Progs) (m:Cm):(m.try_ c p progs).b=m.b:=by unfold Cm.try_;split<;>rfl
theorem Cm.opened_b (c:Cfg) (p:Cp) (progs:Progs) (m:Cm) (x:Cell):(m.opened c p progs x).b=m.b:=by
  unfold Cm.opened;split
  · rfl
  · exact Cm.try_b _ _ _ _
theorem Cm.answer_b (c:Cfg) (p:Cp) (progs:Progs) (m:Cm) (v:Nat):(m.answer c p progs v).b=m.b:=by
  unfold Cm.answer
  repeat' split
  all_goals rfl
theorem Cm.helped_b (c:Cfg) (p:Cp) (progs:Progs) (m:Cm) (h:Hm):(m.helped c p progs h).b=m.b:=by
  unfold Cm.helped
  repeat' split
  · rfl
  · rfl
  · exact Cm.try_b _ _ _ _
theorem Cm.swapped_b (c:Cfg) (p:Cp) (m:Cm) (ok:Bool):(m.swapped c p ok).b=m.b:=by
  unfold Cm.swapped
  repeat' split
  all_goals rfl
section
variable (Cb:Nat) (c:Cfg) (hc:Small c) (pv:Value) (p:Cp) (hp:p.args.length=4) (q:HProp) (progs:Progs) (hpv:ProgsR q pv progs) (hf:0≤c.fuel∧c.fuel≤1000)
def clL (m:Cm) (a:Value×Value):List HProp:=[bl Cb 263 (clV c pv p a.1 a.2 m.s),WkP c pv q progs (p.code progs) a.1 m.work,BkP c pv q progs a.2 m.b]
def ClE (m:Cm):HProp:=ex (clL Cb c pv p q progs m)
theorem Ent.cl (m:Cm) (wv bv:Value) {L:List HProp}:Ent (bl Cb 263 (clV c pv p wv bv m.s)::WkP c pv q progs (p.code progs) wv m.work::BkP c pv q progs bv m.b::L) (ClE Cb c pv p q progs m::L):=Ent.ex_in (Ls:=clL Cb c pv p q progs m) (wv,bv)
structure WkI (c:Cfg) (progs:Progs) (m:Cm):Prop where
  ex:∀ e,m.work=.ex e→e.news.length≤1000000
  bd:∀ b,m.work=.bd b→Binv c progs b∧m.s.now.seq<140737488355328
  sc:∀ s,m.work=.sc s→Sok s
  no:m.work≠.none
def cpost2 (wv bv:Value) (m:Cm):List HProp:=[bl Cb 263 (clV c pv p wv bv m.s),WkP c pv q progs (p.code progs) wv m.work,BkP c pv q progs bv m.b,q]
include hc hp hpv hf in
set_option maxHeartbeats 1000000 in
theorem cworked_t (wv bv:Value) (m:Cm) (hk:WkI c progs m):Tri Tryz.prog 162 #[.pointer (some ⟨Cb,0,none⟩)] (cpost2 Cb c pv p q progs wv bv m)
    fun r L=>∃ wv' bv',r=.tuple ⟨[]⟩∧L=cpost2 Cb c pv p q progs wv' bv' (m.after c p progs):=by
  obtain ⟨s,work,b0⟩:=m
  have hpv0:=hpv
  obtain ⟨pad,pcap,rfl,_⟩:=hpv0
  unfold cpost2 Cm.after
  dsimp only
  cases work with
  | none=>exact absurd rfl hk.no
  | ex e =>
    dsimp only
    unfold WkP
    have hn:=hk.ex e rfl
    refine Tri.ent (Tri.ex_out (L:=[bl Cb 263 (clV c (.slice pad progs.length pcap) p wv bv s),BkP c (.slice pad progs.length pcap) q progs bv b0,q]) ?_) (Ent.of_take (.there .here))
    rintro ⟨⟨X,V,Pb,W,cv,hins⟩,rfl⟩
    unfold exL
    dsimp only
    have hrd:=cread_t Cb c (.slice pad progs.length pcap) p (ifv 71 X) bv s X cv V Pb W e hn
    refine Tri.of_body (vs:=[_]) Tryz.func162 rfl rfl fun w0 F=>?_
    repeat' (first|refine Ga ?_|(refine Gb ?_;intro b)|(refine Gd ?_;intro g cap rest hcap)|(refine Gc ?_;intro ad cap) |(refine Gt hrd ?_;rintro _ _ ⟨rfl,rfl⟩)|(refine Ge ?_ ?_<;>(intro h;try (exfalso;omega)))|fail)
    all_goals first|(exfalso;omega)|skip
    refine St.f1 Tryz.func162 ⟨_,⟨ifv 71 X,bv,rfl,rfl⟩, ?_⟩
    refine Ent.trans (M:=Xe X c cv V Pb W e.x e.news::bl V 215 (viewV c e.v)::Pl Pb c e.p::Ws W 0 e.puts::bl Cb 263 (clV c (.slice pad progs.length pcap) p (ifv 71 X) bv (s.read e.x))::BkP c (.slice pad progs.length pcap) q progs bv b0::q::F) Ent.go ?_
    exact Ent.trans (Ent.wex (pv:=.slice pad progs.length pcap) (progs:=progs) e X V Pb W _ hins) Ent.go
  | bd bt =>
    dsimp only
    unfold WkP
    obtain ⟨hi,hs⟩:=hk.bd bt rfl
    refine Tri.ent (Tri.ex_out (L:=[bl Cb 263 (clV c (.slice pad progs.length pcap) p wv bv s),BkP c (.slice pad progs.length pcap) q progs bv b0,q]) ?_) (Ent.of_take (.there .here))
    rintro ⟨B,rfl⟩
    dsimp only
    have hbu:=cbuilt_t Cb c hc (.slice pad progs.length pcap) p q progs hpv B bv ⟨s, .bd bt,b0⟩ bt rfl hi hs
    refine Tri.of_body (vs:=[_]) Tryz.func162 rfl rfl fun w0 F=>?_
    repeat' (first|refine Ga ?_|(refine Gb ?_;intro b)|(refine Gd ?_;intro g cap rest hcap)|(refine Gc ?_;intro ad cap) |(refine Gt hbu ?_;rintro _ _ ⟨wv',bv',rfl,rfl⟩)|(refine Ge ?_ ?_<;>(intro h;try (exfalso;omega)))|fail)
    all_goals first|(exfalso;omega)|skip
    refine St.f1 Tryz.func162 ⟨_,⟨wv',bv',rfl,rfl⟩,Ent.go⟩
  | hp h0 =>
    dsimp only
    unfold WkP
    refine Tri.ent (Tri.ex_out (L:=[bl Cb 263 (clV c (.slice pad progs.length pcap) p wv bv s),BkP c (.slice pad progs.length pcap) q progs bv b0,q]) ?_) (Ent.of_take (.there .here))
    rintro ⟨H,rfl⟩
    dsimp only
    have hhe:=chelped_t Cb c hc (.slice pad progs.length pcap) p hp q progs hpv hf H bv ⟨s, .hp h0,b0⟩ h0 rfl
    unfold cpost at hhe
    have eb:(Cm.helped c p progs ⟨s, .hp h0,b0⟩ h0).b=b0:=Cm.helped_b _ _ _ _ _
    rw [eb]
    refine Tri.of_body (vs:=[_]) Tryz.func162 rfl rfl fun w0 F=>?_
    repeat' (first|refine Ga ?_|(refine Gb ?_;intro b)|(refine Gd ?_;intro g cap rest hcap)|(refine Gc ?_;intro ad cap) |(refine Gt hhe ?_;rintro _ _ ⟨wv',rfl,rfl⟩)|(refine Ge ?_ ?_<;>(intro h;try (exfalso;omega)))|fail)
    all_goals first|(exfalso;omega)|skip
    refine St.f1 Tryz.func162 ⟨_,⟨wv',bv,rfl,rfl⟩,Ent.go⟩
  | sc s0 =>
    dsimp only
    unfold WkP
    have hk0:=hk.sc s0 rfl
    refine Tri.ent (Tri.ex_out (L:=[bl Cb 263 (clV c (.slice pad progs.length pcap) p wv bv s),BkP c (.slice pad progs.length pcap) q progs bv b0,q]) ?_) (Ent.of_take (.there .here))
    rintro ⟨S,rfl⟩
    dsimp only
    have hdo:=sdone_r S c s0 hk0.1 (by have:=hk0.1;have:=hk0.2;omega)
    generalize ho:s0.over=ov at hdo⊢
    cases ov with
    | true =>
      rw [if_pos rfl]
      refine Tri.of_body (vs:=[_]) Tryz.func162 rfl rfl fun w0 F=>?_
      repeat' (first|refine Ga ?_|(refine Gb ?_;intro b)|(refine Gd ?_;intro g cap rest hcap)|(refine Gc ?_;intro ad cap)|refine Gl hdo ?_|(refine Ge ?_ ?_<;>(intro h;try (exfalso;omega)))|fail)
      all_goals first|(exfalso;omega)|skip
      refine St.f1 Tryz.func162 ⟨_,⟨ifv 351 S,bv,rfl,rfl⟩, ?_⟩
      exact Ent.trans (Ent.trans (Ent.of_take (p:=ScE S c s0) Take.go) (Ent.wsc (pv:=.slice pad progs.length pcap) (q:=q) (progs:=progs) (code:=p.code progs) s0 S)) Ent.go
    | false =>
      rw [if_neg (by decide)]
      refine Tri.of_body (vs:=[_]) Tryz.func162 rfl rfl fun w0 F=>?_
      repeat' (first|refine Ga ?_|(refine Gb ?_;intro b)|(refine Gd ?_;intro g cap rest hcap)|(refine Gc ?_;intro ad cap)|refine Gl hdo ?_|(refine Ge ?_ ?_<;>(intro h;try (exfalso;omega)))|fail)
      all_goals first|(exfalso;omega)|skip
      refine St.f1 Tryz.func162 ⟨_,⟨ifv 351 S,bv,rfl,rfl⟩, ?_⟩
      exact Ent.trans (Ent.trans (Ent.of_take (p:=ScE S c s0) Take.go) (Ent.wsc (pv:=.slice pad progs.length pcap) (q:=q) (progs:=progs) (code:=p.code progs) s0 S)) Ent.go
end
end Go.Proofs.YthmbgodcpgkkeaaGreat
