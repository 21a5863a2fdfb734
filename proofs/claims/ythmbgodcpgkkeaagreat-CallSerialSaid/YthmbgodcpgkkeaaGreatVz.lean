/-
  Package call: Ask, New, Rows. Package call: Rows, New. Packages call, tumblerref07, tumblerref15, tumblerlaw15: the bound.
-/
import Derived.Test.YthmbgodcpgkkeaaGreatVf
import Derived.Test.YthmbgodcpgkkeaaGreatRowq
section
namespace Go.Proofs.YthmbgodcpgkkeaaGreat
set_option maxRecDepth 100000
theorem crows_len {c:Cfg} (hc:Small c) {p:Cp} {progs:Progs} {m:Cm} (h:Cinv c p progs m):m.rows.length≤1000:=by
  unfold Cm.rows
  split
  · rename_i hd
    obtain ⟨bt,hb,hi⟩:=h.did hd
    rw [hb]
    have:=hi.rows;have:=hi.u;have:=hc.t1
    dsimp only
    omega
  · exact Nat.zero_le _
theorem valueof_r (n:Int) (h:5≤n∧n≤7):RTri Tryz.prog 157 #[.int .i64 n] [] (.int .i64 (n - 5)):=by
  apply RTri.of_pure
  refine Tri.of_body (vs:=[_]) Tryz.func157 rfl rfl fun w0 F=>?_
  repeat' (first|refine Ga ?_|(refine Gb ?_;intro b)|(refine Gd ?_;intro g cap rest hcap)|(refine Gc ?_;intro ad cap) |(refine Ge ?_ ?_<;>(intro h;try (exfalso;omega)))|fail)
  (first|refine St.dn Tryz.func157 ⟨?_,rfl⟩ Ent.go|refine St.fl Tryz.func157 ⟨?_,rfl⟩ Ent.go)
  rfl
section
variable (Cb:Nat) (c:Cfg) (hc:Small c) (pv:Value) (p:Cp) (q:HProp) (progs:Progs) (hpv:ProgsR q pv progs) (hwho:0≤p.who∧p.who≤1000) (hlast:c.last≤140737488355328)
include hc hwho hlast in
set_option maxHeartbeats 2000000 in
theorem cask_r (m:Cm) (hi:Cinv c p progs m):RTri Tryz.prog 63 #[.pointer (some ⟨Cb,0,none⟩)] [ClE Cb c pv p q progs m] (.tuple ⟨[.agg ⟨(m.ask c p).1.v⟩, .bool (m.ask c p).2]⟩):=by
  have hnx:=hi.nx
  obtain ⟨s,work,b0⟩:=m
  refine RTri.of_exact fun W0 hs=>?_
  obtain ⟨⟨wv,bv⟩,hs⟩:=sat_ex hs
  have hH:=RdC.exact hs (ReadsC.here RdC.bl)
  have how0:=(cowner_r Cb c pv p wv bv s hc).ent (M:=clL Cb c pv p q progs ⟨s,work,b0⟩ (wv,bv)++[]) (by unfold clL;exact Ent.go)
  have how:=how0.of_read (p:=exact' W0) (fun k hk=>by rw [show k=hpOf W0 from hk];exact hs)
  have htk:=take_cl c pv p wv bv s
  dsimp only at hnx
  have hat:=fun k i j=>at_r c hc k i j
  unfold Cm.ask
  dsimp only at hH htk⊢
  by_cases h0:s.next=0
  · rw [if_pos h0]
    have hg:=hi.given h0
    dsimp only at hg
    have ha:=hat 2 p.who s.given
    unfold MOp.v
    have hn:NthN (28+s.given.toNat * 1) (clV c pv p wv bv s) (.int .u64 ((p.args.getD s.given.toNat 0:Nat):Int)):=by
      have:s.given=0∨s.given=1∨s.given=2∨s.given=3:=by omega
      rcases this with e|e|e|e<;>rw [e]<;>exact NthN.of rfl
    refine Tri.of_body (vs:=[_]) Tryz.func63 rfl rfl fun w0 F=>?_
    repeat' (first|refine Ga ?_|(refine Gb ?_;intro b)|(refine Gd ?_;intro g cap rest hcap)|(refine Gc ?_;intro ad cap)|(refine St.draw (id:=3) [(0,0),(1,0),(2,0),(3,1),(4,0),(5,0),(6,0),(7,1),(8,0),(9,0),(10,0),(11,1),(12,1),(13,0),(14,0),(15,0),(16,0),(17,1),(18,0),(19,0),(20,0),(21,0),(22,1),(23,0),(24,0),(25,3),(26,0)] [25] mixed (by kernel_rfl) ?_)|(refine St.draw (id:=5) [(0,0),(1,0),(2,0),(3,1),(4,0),(5,0),(6,0),(7,1),(8,1),(9,0),(10,0),(11,0),(12,0),(13,1),(14,0),(15,0),(16,0),(17,0),(18,1),(19,0),(20,0),(21,3),(22,0)] [21] mixed (by kernel_rfl) ?_)|(refine St.draw (id:=9) [(0,0),(1,0),(2,0),(3,1),(4,0),(5,1),(6,1),(7,0),(8,3),(9,0)] [8] mixed (by kernel_rfl) ?_)|(refine St.draw (id:=13) [(0,0),(1,0),(2,0),(3,1),(4,0),(5,0),(6,0),(7,1),(8,1),(9,0),(10,0),(11,0),(12,0),(13,1),(14,1),(15,0),(16,3),(17,0)] [16] mixed (by kernel_rfl) ?_)|(refine St.draw (id:=21) [(0,0),(1,0),(2,0),(3,1),(4,1),(5,0),(6,0),(7,0),(8,1),(9,0),(10,0),(11,0),(12,1),(13,0),(14,0),(15,0),(16,0),(17,0),(18,1),(19,0),(20,0),(21,0),(22,3),(23,0)] [22] mixed (by kernel_rfl) ?_)| refine Gl ha ?_|(refine Ge ?_ ?_<;>(intro h;try (exfalso;omega)))|fail)
    all_goals first|(exfalso;omega)|skip
    refine St.d1 Tryz.func63 ⟨_,⟨rfl,rfl⟩,Ent.go⟩
  rw [if_neg h0]
  by_cases h1:s.next=1
  · rw [if_pos h1]
    have ha:=hat 1 p.who 0
    have e1:((IntKind.u64.wrap p.prog).toNat:Int)=IntKind.u64.wrap p.prog:=Int.toNat_of_nonneg (u64_nn _)
    unfold MOp.v
    dsimp only
    rw [e1]
    refine Tri.of_body (vs:=[_]) Tryz.func63 rfl rfl fun w0 F=>?_
    repeat' (first|refine Ga ?_|(refine Gb ?_;intro b)|(refine Gd ?_;intro g cap rest hcap)|(refine Gc ?_;intro ad cap)|(refine St.draw (id:=3) [(0,0),(1,0),(2,0),(3,1),(4,0),(5,0),(6,0),(7,1),(8,0),(9,0),(10,0),(11,1),(12,1),(13,0),(14,0),(15,0),(16,0),(17,1),(18,0),(19,0),(20,0),(21,0),(22,1),(23,0),(24,0),(25,3),(26,0)] [25] mixed (by kernel_rfl) ?_)|(refine St.draw (id:=5) [(0,0),(1,0),(2,0),(3,1),(4,0),(5,0),(6,0),(7,1),(8,1),(9,0),(10,0),(11,0),(12,0),(13,1),(14,0),(15,0),(16,0),(17,0),(18,1),(19,0),(20,0),(21,3),(22,0)] [21] mixed (by kernel_rfl) ?_)|(refine St.draw (id:=9) [(0,0),(1,0),(2,0),(3,1),(4,0),(5,1),(6,1),(7,0),(8,3),(9,0)] [8] mixed (by kernel_rfl) ?_)|(refine St.draw (id:=13) [(0,0),(1,0),(2,0),(3,1),(4,0),(5,0),(6,0),(7,1),(8,1),(9,0),(10,0),(11,0),(12,0),(13,1),(14,1),(15,0),(16,3),(17,0)] [16] mixed (by kernel_rfl) ?_)|(refine St.draw (id:=21) [(0,0),(1,0),(2,0),(3,1),(4,1),(5,0),(6,0),(7,0),(8,1),(9,0),(10,0),(11,0),(12,1),(13,0),(14,0),(15,0),(16,0),(17,0),(18,1),(19,0),(20,0),(21,0),(22,3),(23,0)] [22] mixed (by kernel_rfl) ?_)| refine Gl ha ?_|(refine Ge ?_ ?_<;>(intro h;try (exfalso;omega)))|fail)
    all_goals first|(exfalso;omega)|skip
    refine St.d1 Tryz.func63 ⟨_,⟨rfl,rfl⟩,Ent.go⟩
  rw [if_neg h1]
  by_cases h2:s.next=2
  · rw [if_pos h2]
    have ha:=hat 0 0 0
    unfold mop MOp.v
    refine Tri.of_body (vs:=[_]) Tryz.func63 rfl rfl fun w0 F=>?_
    repeat' (first|refine Ga ?_|(refine Gb ?_;intro b)|(refine Gd ?_;intro g cap rest hcap)|(refine Gc ?_;intro ad cap)|(refine St.draw (id:=3) [(0,0),(1,0),(2,0),(3,1),(4,0),(5,0),(6,0),(7,1),(8,0),(9,0),(10,0),(11,1),(12,1),(13,0),(14,0),(15,0),(16,0),(17,1),(18,0),(19,0),(20,0),(21,0),(22,1),(23,0),(24,0),(25,3),(26,0)] [25] mixed (by kernel_rfl) ?_)|(refine St.draw (id:=5) [(0,0),(1,0),(2,0),(3,1),(4,0),(5,0),(6,0),(7,1),(8,1),(9,0),(10,0),(11,0),(12,0),(13,1),(14,0),(15,0),(16,0),(17,0),(18,1),(19,0),(20,0),(21,3),(22,0)] [21] mixed (by kernel_rfl) ?_)|(refine St.draw (id:=9) [(0,0),(1,0),(2,0),(3,1),(4,0),(5,1),(6,1),(7,0),(8,3),(9,0)] [8] mixed (by kernel_rfl) ?_)|(refine St.draw (id:=13) [(0,0),(1,0),(2,0),(3,1),(4,0),(5,0),(6,0),(7,1),(8,1),(9,0),(10,0),(11,0),(12,0),(13,1),(14,1),(15,0),(16,3),(17,0)] [16] mixed (by kernel_rfl) ?_)|(refine St.draw (id:=21) [(0,0),(1,0),(2,0),(3,1),(4,1),(5,0),(6,0),(7,0),(8,1),(9,0),(10,0),(11,0),(12,1),(13,0),(14,0),(15,0),(16,0),(17,0),(18,1),(19,0),(20,0),(21,0),(22,3),(23,0)] [22] mixed (by kernel_rfl) ?_)| refine Gl ha ?_|(refine Ge ?_ ?_<;>(intro h;try (exfalso;omega)))|fail)
    all_goals first|(exfalso;omega)|skip
    refine St.d1 Tryz.func63 ⟨_,⟨rfl,rfl⟩,Ent.go⟩
  rw [if_neg h2]
  by_cases h3:s.next=3
  · rw [if_pos h3]
    have ha:=hat 4 (s.owner c) 0
    unfold mop MOp.v
    refine Tri.of_body (vs:=[_]) Tryz.func63 rfl rfl fun w0 F=>?_
    repeat' (first|refine Ga ?_|(refine Gb ?_;intro b)|(refine Gd ?_;intro g cap rest hcap)|(refine Gc ?_;intro ad cap)|(refine St.draw (id:=3) [(0,0),(1,0),(2,0),(3,1),(4,0),(5,0),(6,0),(7,1),(8,0),(9,0),(10,0),(11,1),(12,1),(13,0),(14,0),(15,0),(16,0),(17,1),(18,0),(19,0),(20,0),(21,0),(22,1),(23,0),(24,0),(25,3),(26,0)] [25] mixed (by kernel_rfl) ?_)|(refine St.draw (id:=5) [(0,0),(1,0),(2,0),(3,1),(4,0),(5,0),(6,0),(7,1),(8,1),(9,0),(10,0),(11,0),(12,0),(13,1),(14,0),(15,0),(16,0),(17,0),(18,1),(19,0),(20,0),(21,3),(22,0)] [21] mixed (by kernel_rfl) ?_)|(refine St.draw (id:=9) [(0,0),(1,0),(2,0),(3,1),(4,0),(5,1),(6,1),(7,0),(8,3),(9,0)] [8] mixed (by kernel_rfl) ?_)|(refine St.draw (id:=13) [(0,0),(1,0),(2,0),(3,1),(4,0),(5,0),(6,0),(7,1),(8,1),(9,0),(10,0),(11,0),(12,0),(13,1),(14,1),(15,0),(16,3),(17,0)] [16] mixed (by kernel_rfl) ?_)|(refine St.draw (id:=21) [(0,0),(1,0),(2,0),(3,1),(4,1),(5,0),(6,0),(7,0),(8,1),(9,0),(10,0),(11,0),(12,1),(13,0),(14,0),(15,0),(16,0),(17,0),(18,1),(19,0),(20,0),(21,0),(22,3),(23,0)] [22] mixed (by kernel_rfl) ?_)| refine Gl ha ?_|refine Gl how ?_|(refine Ge ?_ ?_<;>(intro h;try (exfalso;omega)))|fail)
    all_goals first|(exfalso;omega)|skip
    refine St.d1 Tryz.func63 ⟨_,⟨rfl,rfl⟩,Ent.go⟩
  rw [if_neg h3]
  by_cases h5:s.next=5∨s.next=6∨s.next=7
  · rw [if_pos h5]
    have ha:=hat (7+(s.next - 5)) p.who 0
    have hvo:=valueof_r s.next (by omega)
    unfold mop MOp.v
    rcases h5 with h5|h5|h5
    all_goals refine Tri.of_body (vs:=[_]) Tryz.func63 rfl rfl fun w0 F=>?_
    all_goals repeat' (first|refine Ga ?_|(refine Gb ?_;intro b)|(refine Gd ?_;intro g cap rest hcap)|(refine Gc ?_;intro ad cap)|(refine St.draw (id:=3) [(0,0),(1,0),(2,0),(3,1),(4,0),(5,0),(6,0),(7,1),(8,0),(9,0),(10,0),(11,1),(12,1),(13,0),(14,0),(15,0),(16,0),(17,1),(18,0),(19,0),(20,0),(21,0),(22,1),(23,0),(24,0),(25,3),(26,0)] [25] mixed (by kernel_rfl) ?_)|(refine St.draw (id:=5) [(0,0),(1,0),(2,0),(3,1),(4,0),(5,0),(6,0),(7,1),(8,1),(9,0),(10,0),(11,0),(12,0),(13,1),(14,0),(15,0),(16,0),(17,0),(18,1),(19,0),(20,0),(21,3),(22,0)] [21] mixed (by kernel_rfl) ?_)|(refine St.draw (id:=9) [(0,0),(1,0),(2,0),(3,1),(4,0),(5,1),(6,1),(7,0),(8,3),(9,0)] [8] mixed (by kernel_rfl) ?_)|(refine St.draw (id:=13) [(0,0),(1,0),(2,0),(3,1),(4,0),(5,0),(6,0),(7,1),(8,1),(9,0),(10,0),(11,0),(12,0),(13,1),(14,1),(15,0),(16,3),(17,0)] [16] mixed (by kernel_rfl) ?_)|(refine St.draw (id:=21) [(0,0),(1,0),(2,0),(3,1),(4,1),(5,0),(6,0),(7,0),(8,1),(9,0),(10,0),(11,0),(12,1),(13,0),(14,0),(15,0),(16,0),(17,0),(18,1),(19,0),(20,0),(21,0),(22,3),(23,0)] [22] mixed (by kernel_rfl) ?_)| refine Gl ha ?_|refine Gl hvo ?_|(refine Ge ?_ ?_<;>(intro h;try (exfalso;omega)))|fail)
    all_goals first|(exfalso;omega)|skip
    all_goals refine St.d1 Tryz.func63 ⟨_,⟨rfl,rfl⟩,Ent.go⟩
  rw [if_neg h5]
  by_cases hw:s.next=4∨s.next=12∨s.next=8∨s.next=9∨s.next=10
  · rw [if_pos hw]
    have hsw:=hs.tail
    unfold clL at hsw
    dsimp only at hsw
    rcases (by omega:(s.next=4∨s.next=12)∨s.next=8∨s.next=9∨s.next=10) with e|e|e|e
    · obtain ⟨x0,hw0,hh,_⟩:=hi.hp e
      dsimp only at hw0
      subst hw0
      unfold WkP at hsw
      obtain ⟨⟨H,rfl⟩,hsw⟩:=sat_ex hsw
      have hk:=((hask_r H c hc x0 hh.1).ent (M:=[HpE H c x0]++([BkP c pv q progs bv b0]++[])) Ent.go).of_read (p:=exact' W0) (fun k hk=>by rw [show k=hpOf W0 from hk];exact hsw)
      unfold Wk.ask
      dsimp only
      unfold MOp.v at hk⊢
      generalize x0.ask c=y0 at hk⊢
      obtain ⟨⟨yk,ya,⟨yo,yp⟩,⟨yn,ym⟩⟩,yb⟩:=y0
      dsimp only at hk⊢
      refine Tri.of_body (vs:=[_]) Tryz.func63 rfl rfl fun w0 F=>?_
      repeat' (first|refine Ga ?_|(refine Gb ?_;intro b)|(refine Gd ?_;intro g cap rest hcap)|(refine Gc ?_;intro ad cap)|(refine St.draw (id:=3) [(0,0),(1,0),(2,0),(3,1),(4,0),(5,0),(6,0),(7,1),(8,0),(9,0),(10,0),(11,1),(12,1),(13,0),(14,0),(15,0),(16,0),(17,1),(18,0),(19,0),(20,0),(21,0),(22,1),(23,0),(24,0),(25,3),(26,0)] [25] mixed (by kernel_rfl) ?_)|(refine St.draw (id:=5) [(0,0),(1,0),(2,0),(3,1),(4,0),(5,0),(6,0),(7,1),(8,1),(9,0),(10,0),(11,0),(12,0),(13,1),(14,0),(15,0),(16,0),(17,0),(18,1),(19,0),(20,0),(21,3),(22,0)] [21] mixed (by kernel_rfl) ?_)|(refine St.draw (id:=9) [(0,0),(1,0),(2,0),(3,1),(4,0),(5,1),(6,1),(7,0),(8,3),(9,0)] [8] mixed (by kernel_rfl) ?_)|(refine St.draw (id:=13) [(0,0),(1,0),(2,0),(3,1),(4,0),(5,0),(6,0),(7,1),(8,1),(9,0),(10,0),(11,0),(12,0),(13,1),(14,1),(15,0),(16,3),(17,0)] [16] mixed (by kernel_rfl) ?_)|(refine St.draw (id:=21) [(0,0),(1,0),(2,0),(3,1),(4,1),(5,0),(6,0),(7,0),(8,1),(9,0),(10,0),(11,0),(12,1),(13,0),(14,0),(15,0),(16,0),(17,0),(18,1),(19,0),(20,0),(21,0),(22,3),(23,0)] [22] mixed (by kernel_rfl) ?_)| refine Ka (OpC.ifc (by rfl) Evs.go (by intro w;kernel_rfl)) hk Oh ?_|refine Kb rfl (OpC.ifc (by rfl) Evs.go (by intro w;kernel_rfl)) hk Oi ?_|(refine Ge ?_ ?_<;>(intro h;try (exfalso;omega)))|fail)
      all_goals first|(exfalso;omega)|skip
      all_goals refine St.d1 Tryz.func63 ⟨_,⟨rfl,rfl⟩,Ent.go⟩
    · obtain ⟨x0,hw0,hx0,n,hS,hX⟩:=hi.ex e
      dsimp only at hw0
      subst hw0
      have hnum:=hX.num hS
      unfold WkP at hsw
      obtain ⟨⟨⟨X,V,Pb,W,cv,hins⟩,rfl⟩,hsw⟩:=sat_ex hsw
      have hk:=((xask_s X V Pb W c hc cv x0 (by omega)).ent (M:=exL c q (p.code progs) x0 ⟨X,V,Pb,W,cv,hins⟩++([BkP c pv q progs bv b0]++[])) (by unfold exL;exact Ent.go)).of_read (p:=exact' W0) (fun k hk=>by rw [show k=hpOf W0 from hk];exact hsw)
      unfold Wk.ask
      dsimp only
      unfold MOp.v at hk⊢
      generalize x0.ask c=y0 at hk⊢
      obtain ⟨⟨yk,ya,⟨yo,yp⟩,⟨yn,ym⟩⟩,yb⟩:=y0
      dsimp only at hk⊢
      refine Tri.of_body (vs:=[_]) Tryz.func63 rfl rfl fun w0 F=>?_
      repeat' (first|refine Ga ?_|(refine Gb ?_;intro b)|(refine Gd ?_;intro g cap rest hcap)|(refine Gc ?_;intro ad cap)|(refine St.draw (id:=3) [(0,0),(1,0),(2,0),(3,1),(4,0),(5,0),(6,0),(7,1),(8,0),(9,0),(10,0),(11,1),(12,1),(13,0),(14,0),(15,0),(16,0),(17,1),(18,0),(19,0),(20,0),(21,0),(22,1),(23,0),(24,0),(25,3),(26,0)] [25] mixed (by kernel_rfl) ?_)|(refine St.draw (id:=5) [(0,0),(1,0),(2,0),(3,1),(4,0),(5,0),(6,0),(7,1),(8,1),(9,0),(10,0),(11,0),(12,0),(13,1),(14,0),(15,0),(16,0),(17,0),(18,1),(19,0),(20,0),(21,3),(22,0)] [21] mixed (by kernel_rfl) ?_)|(refine St.draw (id:=9) [(0,0),(1,0),(2,0),(3,1),(4,0),(5,1),(6,1),(7,0),(8,3),(9,0)] [8] mixed (by kernel_rfl) ?_)|(refine St.draw (id:=13) [(0,0),(1,0),(2,0),(3,1),(4,0),(5,0),(6,0),(7,1),(8,1),(9,0),(10,0),(11,0),(12,0),(13,1),(14,1),(15,0),(16,3),(17,0)] [16] mixed (by kernel_rfl) ?_)|(refine St.draw (id:=21) [(0,0),(1,0),(2,0),(3,1),(4,1),(5,0),(6,0),(7,0),(8,1),(9,0),(10,0),(11,0),(12,1),(13,0),(14,0),(15,0),(16,0),(17,0),(18,1),(19,0),(20,0),(21,0),(22,3),(23,0)] [22] mixed (by kernel_rfl) ?_)| refine Ka (OpC.ifc (by rfl) Evs.go (by intro w;kernel_rfl)) hk Oh ?_|refine Kb rfl (OpC.ifc (by rfl) Evs.go (by intro w;kernel_rfl)) hk Oi ?_|(refine Ge ?_ ?_<;>(intro h;try (exfalso;omega)))|fail)
      all_goals first|(exfalso;omega)|skip
      all_goals refine St.d1 Tryz.func63 ⟨_,⟨rfl,rfl⟩,Ent.go⟩
    · obtain ⟨_,x0,hw0,hb,_⟩:=hi.bd e
      dsimp only at hw0
      subst hw0
      unfold WkP at hsw
      obtain ⟨⟨B,rfl⟩,hsw⟩:=sat_ex hsw
      have hk:=((bask_r B c hc pv q progs x0 hb).ent (M:=[Bd B c pv q progs x0]++([BkP c pv q progs bv b0]++[])) Ent.go).of_read (p:=exact' W0) (fun k hk=>by rw [show k=hpOf W0 from hk];exact hsw)
      unfold Wk.ask
      dsimp only
      unfold MOp.v at hk⊢
      generalize x0.ask c=y0 at hk⊢
      obtain ⟨⟨yk,ya,⟨yo,yp⟩,⟨yn,ym⟩⟩,yb⟩:=y0
      dsimp only at hk⊢
      refine Tri.of_body (vs:=[_]) Tryz.func63 rfl rfl fun w0 F=>?_
      repeat' (first|refine Ga ?_|(refine Gb ?_;intro b)|(refine Gd ?_;intro g cap rest hcap)|(refine Gc ?_;intro ad cap)|(refine St.draw (id:=3) [(0,0),(1,0),(2,0),(3,1),(4,0),(5,0),(6,0),(7,1),(8,0),(9,0),(10,0),(11,1),(12,1),(13,0),(14,0),(15,0),(16,0),(17,1),(18,0),(19,0),(20,0),(21,0),(22,1),(23,0),(24,0),(25,3),(26,0)] [25] mixed (by kernel_rfl) ?_)|(refine St.draw (id:=5) [(0,0),(1,0),(2,0),(3,1),(4,0),(5,0),(6,0),(7,1),(8,1),(9,0),(10,0),(11,0),(12,0),(13,1),(14,0),(15,0),(16,0),(17,0),(18,1),(19,0),(20,0),(21,3),(22,0)] [21] mixed (by kernel_rfl) ?_)|(refine St.draw (id:=9) [(0,0),(1,0),(2,0),(3,1),(4,0),(5,1),(6,1),(7,0),(8,3),(9,0)] [8] mixed (by kernel_rfl) ?_)|(refine St.draw (id:=13) [(0,0),(1,0),(2,0),(3,1),(4,0),(5,0),(6,0),(7,1),(8,1),(9,0),(10,0),(11,0),(12,0),(13,1),(14,1),(15,0),(16,3),(17,0)] [16] mixed (by kernel_rfl) ?_)|(refine St.draw (id:=21) [(0,0),(1,0),(2,0),(3,1),(4,1),(5,0),(6,0),(7,0),(8,1),(9,0),(10,0),(11,0),(12,1),(13,0),(14,0),(15,0),(16,0),(17,0),(18,1),(19,0),(20,0),(21,0),(22,3),(23,0)] [22] mixed (by kernel_rfl) ?_)| refine Ka (OpC.ifc (by rfl) Evs.go (by intro w;kernel_rfl)) hk Oh ?_|refine Kb rfl (OpC.ifc (by rfl) Evs.go (by intro w;kernel_rfl)) hk Oi ?_|(refine Ge ?_ ?_<;>(intro h;try (exfalso;omega)))|fail)
      all_goals first|(exfalso;omega)|skip
      all_goals refine St.d1 Tryz.func63 ⟨_,⟨rfl,rfl⟩,Ent.go⟩
    · obtain ⟨_,⟨x0,hw0,hk0,_⟩,_⟩:=hi.sc e
      dsimp only at hw0
      subst hw0
      unfold WkP at hsw
      obtain ⟨⟨S,rfl⟩,hsw⟩:=sat_ex hsw
      have hk:=((sask_r S c hc x0 hk0.1 (by have:=hk0.1;have:=hk0.2;omega)).ent (M:=[ScE S c x0]++([BkP c pv q progs bv b0]++[])) Ent.go).of_read (p:=exact' W0) (fun k hk=>by rw [show k=hpOf W0 from hk];exact hsw)
      unfold Wk.ask
      dsimp only
      unfold MOp.v at hk⊢
      generalize x0.ask c=y0 at hk⊢
      obtain ⟨⟨yk,ya,⟨yo,yp⟩,⟨yn,ym⟩⟩,yb⟩:=y0
      dsimp only at hk⊢
      refine Tri.of_body (vs:=[_]) Tryz.func63 rfl rfl fun w0 F=>?_
      repeat' (first|refine Ga ?_|(refine Gb ?_;intro b)|(refine Gd ?_;intro g cap rest hcap)|(refine Gc ?_;intro ad cap)|(refine St.draw (id:=3) [(0,0),(1,0),(2,0),(3,1),(4,0),(5,0),(6,0),(7,1),(8,0),(9,0),(10,0),(11,1),(12,1),(13,0),(14,0),(15,0),(16,0),(17,1),(18,0),(19,0),(20,0),(21,0),(22,1),(23,0),(24,0),(25,3),(26,0)] [25] mixed (by kernel_rfl) ?_)|(refine St.draw (id:=5) [(0,0),(1,0),(2,0),(3,1),(4,0),(5,0),(6,0),(7,1),(8,1),(9,0),(10,0),(11,0),(12,0),(13,1),(14,0),(15,0),(16,0),(17,0),(18,1),(19,0),(20,0),(21,3),(22,0)] [21] mixed (by kernel_rfl) ?_)|(refine St.draw (id:=9) [(0,0),(1,0),(2,0),(3,1),(4,0),(5,1),(6,1),(7,0),(8,3),(9,0)] [8] mixed (by kernel_rfl) ?_)|(refine St.draw (id:=13) [(0,0),(1,0),(2,0),(3,1),(4,0),(5,0),(6,0),(7,1),(8,1),(9,0),(10,0),(11,0),(12,0),(13,1),(14,1),(15,0),(16,3),(17,0)] [16] mixed (by kernel_rfl) ?_)|(refine St.draw (id:=21) [(0,0),(1,0),(2,0),(3,1),(4,1),(5,0),(6,0),(7,0),(8,1),(9,0),(10,0),(11,0),(12,1),(13,0),(14,0),(15,0),(16,0),(17,0),(18,1),(19,0),(20,0),(21,0),(22,3),(23,0)] [22] mixed (by kernel_rfl) ?_)| refine Ka (OpC.ifc (by rfl) Evs.go (by intro w;kernel_rfl)) hk Oh ?_|refine Kb rfl (OpC.ifc (by rfl) Evs.go (by intro w;kernel_rfl)) hk Oi ?_|(refine Ge ?_ ?_<;>(intro h;try (exfalso;omega)))|fail)
      all_goals first|(exfalso;omega)|skip
      all_goals refine St.d1 Tryz.func63 ⟨_,⟨rfl,rfl⟩,Ent.go⟩
  rw [if_neg hw]
  by_cases h11:s.next=11
  · rw [if_pos h11]
    have ha:=hat 0 0 0
    obtain ⟨hsq,_⟩:=hi.sw h11
    dsimp only at hsq
    have e1:((p.who.toNat:Nat):Int)=p.who:=by omega
    unfold MOp.v
    dsimp only
    rw [e1]
    refine Tri.of_body (vs:=[_]) Tryz.func63 rfl rfl fun w0 F=>?_
    repeat' (first|refine Ga ?_|(refine Gb ?_;intro b)|(refine Gd ?_;intro g cap rest hcap)|(refine Gc ?_;intro ad cap)|(refine St.draw (id:=3) [(0,0),(1,0),(2,0),(3,1),(4,0),(5,0),(6,0),(7,1),(8,0),(9,0),(10,0),(11,1),(12,1),(13,0),(14,0),(15,0),(16,0),(17,1),(18,0),(19,0),(20,0),(21,0),(22,1),(23,0),(24,0),(25,3),(26,0)] [25] mixed (by kernel_rfl) ?_)|(refine St.draw (id:=5) [(0,0),(1,0),(2,0),(3,1),(4,0),(5,0),(6,0),(7,1),(8,1),(9,0),(10,0),(11,0),(12,0),(13,1),(14,0),(15,0),(16,0),(17,0),(18,1),(19,0),(20,0),(21,3),(22,0)] [21] mixed (by kernel_rfl) ?_)|(refine St.draw (id:=9) [(0,0),(1,0),(2,0),(3,1),(4,0),(5,1),(6,1),(7,0),(8,3),(9,0)] [8] mixed (by kernel_rfl) ?_)|(refine St.draw (id:=13) [(0,0),(1,0),(2,0),(3,1),(4,0),(5,0),(6,0),(7,1),(8,1),(9,0),(10,0),(11,0),(12,0),(13,1),(14,1),(15,0),(16,3),(17,0)] [16] mixed (by kernel_rfl) ?_)|(refine St.draw (id:=21) [(0,0),(1,0),(2,0),(3,1),(4,1),(5,0),(6,0),(7,0),(8,1),(9,0),(10,0),(11,0),(12,1),(13,0),(14,0),(15,0),(16,0),(17,0),(18,1),(19,0),(20,0),(21,0),(22,3),(23,0)] [22] mixed (by kernel_rfl) ?_)| refine Gl ha ?_|(refine Ge ?_ ?_<;>(intro h;try (exfalso;omega)))|fail)
    all_goals first|(exfalso;omega)|skip
    refine St.d1 Tryz.func63 ⟨_,⟨rfl,rfl⟩,Ent.go⟩
  · rw [if_neg h11]
    unfold mop MOp.v
    refine Tri.of_body (vs:=[_]) Tryz.func63 rfl rfl fun w0 F=>?_
    repeat' (first|refine Ga ?_|(refine Gb ?_;intro b)|(refine Gd ?_;intro g cap rest hcap)|(refine Gc ?_;intro ad cap)|(refine St.draw (id:=3) [(0,0),(1,0),(2,0),(3,1),(4,0),(5,0),(6,0),(7,1),(8,0),(9,0),(10,0),(11,1),(12,1),(13,0),(14,0),(15,0),(16,0),(17,1),(18,0),(19,0),(20,0),(21,0),(22,1),(23,0),(24,0),(25,3),(26,0)] [25] mixed (by kernel_rfl) ?_)|(refine St.draw (id:=5) [(0,0),(1,0),(2,0),(3,1),(4,0),(5,0),(6,0),(7,1),(8,1),(9,0),(10,0),(11,0),(12,0),(13,1),(14,0),(15,0),(16,0),(17,0),(18,1),(19,0),(20,0),(21,3),(22,0)] [21] mixed (by kernel_rfl) ?_)|(refine St.draw (id:=9) [(0,0),(1,0),(2,0),(3,1),(4,0),(5,1),(6,1),(7,0),(8,3),(9,0)] [8] mixed (by kernel_rfl) ?_)|(refine St.draw (id:=13) [(0,0),(1,0),(2,0),(3,1),(4,0),(5,0),(6,0),(7,1),(8,1),(9,0),(10,0),(11,0),(12,0),(13,1),(14,1),(15,0),(16,3),(17,0)] [16] mixed (by kernel_rfl) ?_)|(refine St.draw (id:=21) [(0,0),(1,0),(2,0),(3,1),(4,1),(5,0),(6,0),(7,0),(8,1),(9,0),(10,0),(11,0),(12,1),(13,0),(14,0),(15,0),(16,0),(17,0),(18,1),(19,0),(20,0),(21,0),(22,3),(23,0)] [22] mixed (by kernel_rfl) ?_)|(refine Ge ?_ ?_<;>(intro h;try (exfalso;omega)))|fail)
    all_goals first|(exfalso;omega)|skip
    refine St.d1 Tryz.func63 ⟨_,⟨rfl,rfl⟩,Ent.go⟩
end
end Go.Proofs.YthmbgodcpgkkeaaGreat
end
section
namespace Go.Proofs.YthmbgodcpgkkeaaGreat
set_option maxRecDepth 100000
structure RwH (v:Value) (rows:List BRow) where
 ad:Option Addr
 cap:Nat
 rs:List RowH
 h:rs.map (·.1)=rows
 e:v=.slice ad rows.length cap
def RwE (v:Value) (rows:List BRow):HProp:=ex (ι:=RwH v rows) fun x=>[Row v 128 5 rows.length (x.rs.flatMap rowV),star (x.rs.map rowP)]
theorem Ent.rw {L:List HProp} {ad:Option Addr} {cap:Nat} {rows:List BRow} (rs:List RowH) (h:rs.map (·.1)=rows):Ent (Row (.slice ad rows.length cap) 128 5 rows.length (rs.flatMap rowV)::star (rs.map rowP)::L) (RwE (.slice ad rows.length cap) rows::L):=Ent.ex_in (Ls:=fun x:RwH (.slice ad rows.length cap) rows=>[Row (.slice ad rows.length cap) 128 5 rows.length (x.rs.flatMap rowV),star (x.rs.map rowP)]) ⟨ad,cap,rs,h,rfl⟩
theorem Ent.rw0 {L:List HProp}:Ent L (RwE (.slice none 0 0) []::L):=by
 refine Ent.trans (Ent.row_nil 128 5) (Ent.trans ?_ (Ent.rw (ad:=none) (cap:=0) (rows:=[]) [] rfl))
 exact Ent.cons (Ent.star_in [])
section
variable (Cb:Nat) (c:Cfg) (hc:Small c) (pv:Value) (p:Cp) (q:HProp) (progs:Progs) (hpv:ProgsR q pv progs)
include hc hpv in
theorem crows_t (m:Cm) (hi:Cinv c p progs m):Tri Tryz.prog 67 #[.pointer (some ⟨Cb,0,none⟩)] [ClE Cb c pv p q progs m]
  fun r L=>∃ ad cap,r=.slice ad m.rows.length cap∧L=[ClE Cb c pv p q progs m,RwE (.slice ad m.rows.length cap) m.rows]:=by
 obtain ⟨s,work,b0⟩:=m
 refine Tri.ex_out ?_
 rintro ⟨wv,bv⟩
 have hdid:=hi.did
 obtain ⟨pad,pcap,rfl,_⟩:=hpv
 unfold clL
 dsimp only at hdid⊢
 unfold Cm.rows
 dsimp only
 cases hd:s.did with
 | false =>
  rw [if_neg (by decide)]
  refine Tri.of_body (vs:=[_]) Tryz.func67 rfl rfl fun w0 F=>?_
  repeat' (first|refine Ga ?_|(refine Gb ?_;intro b)|(refine Gd ?_;intro g cap rest hcap)|(refine Gc ?_;intro ad cap) |(refine Ge ?_ ?_<;>(intro h;try (exfalso;omega)))|fail)
  all_goals first|(exact absurd h (by rw [hd];decide))|skip
  refine St.d1 Tryz.func67 ⟨_,⟨none,0,rfl,rfl⟩, ?_⟩
  refine Ent.trans ?_ (Ent.cons Ent.rw0)
  exact Ent.cl Cb c _ p q progs ⟨s,work,b0⟩ wv bv
 | true =>
  rw [if_pos rfl]
  obtain ⟨bt,hb,hbi⟩:=hdid hd
  subst hb
  unfold BkP
  refine Tri.ent (Tri.ex_out (L:=[bl Cb 263 (clV c (.slice pad progs.length pcap) p wv bv s),WkP c (.slice pad progs.length pcap) q progs (p.code progs) wv work]) ?_) (Ent.of_take (.there (.there .here)))
  rintro ⟨B,rfl⟩
  dsimp only
  have hrw:=brows_t B c hc (.slice pad progs.length pcap) q progs bt hbi
  refine Tri.of_body (vs:=[_]) Tryz.func67 rfl rfl fun w0 F=>?_
  repeat' (first|refine Ga ?_|(refine Gb ?_;intro b)|(refine Gd ?_;intro g cap rest hcap)|(refine Gc ?_;intro ad cap) |(refine Gt hrw ?_;rintro _ _ ⟨rad,rcap,rs,hrs,rfl,rfl⟩)|(refine Ge ?_ ?_<;>(intro h;try (exfalso;omega)))|fail)
  all_goals first|(exact absurd h (by rw [hd];decide))|skip
  refine St.d1 Tryz.func67 ⟨_,⟨rad,rcap,rfl,rfl⟩, ?_⟩
  refine Ent.trans (M:=Row (.slice rad bt.rows.length rcap) 128 5 bt.rows.length (rs.flatMap rowV)::star (rs.map rowP)::Bd B c (.slice pad progs.length pcap) q progs bt::bl Cb 263 (clV c (.slice pad progs.length pcap) p wv (.pointer (some ⟨B,0,none⟩)) s)::WkP c (.slice pad progs.length pcap) q progs (p.code progs) wv work::F) Ent.go ?_
  refine Ent.trans (Ent.rw rs hrs) ?_
  refine Ent.trans (M:=Bd B c (.slice pad progs.length pcap) q progs bt::RwE (.slice rad bt.rows.length rcap) bt.rows::bl Cb 263 (clV c (.slice pad progs.length pcap) p wv (.pointer (some ⟨B,0,none⟩)) s)::WkP c (.slice pad progs.length pcap) q progs (p.code progs) wv work::F) Ent.go ?_
  refine Ent.trans (Ent.bbd bt B) ?_
  refine Ent.trans (M:=bl Cb 263 (clV c (.slice pad progs.length pcap) p wv (.pointer (some ⟨B,0,none⟩)) s)::WkP c (.slice pad progs.length pcap) q progs (p.code progs) wv work::BkP c (.slice pad progs.length pcap) q progs (.pointer (some ⟨B,0,none⟩)) (some bt)::RwE (.slice rad bt.rows.length rcap) bt.rows::F) Ent.go ?_
  exact Ent.cl Cb c _ p q progs ⟨s,work,some bt⟩ wv (.pointer (some ⟨B,0,none⟩))
end
set_option maxHeartbeats 1000000 in
theorem cnew_t (c:Cfg) (_hc:Small c) (pv:Value) (p:Cp) (q:HProp) (progs:Progs) (hpv:ProgsR q pv progs):Tri Tryz.prog 61 #[.agg ⟨c.m⟩, .int .i64 p.who, .int .u64 (p.tag:Int),pv, .agg ⟨.int .i64 p.prog::g4 p.args⟩] [q]
  fun r L=>∃ Cb,r=.pointer (some ⟨Cb,0,none⟩)∧L=[ClE Cb c pv p q progs (Cm.new p progs),q]:=by
 obtain ⟨cv,hins,hcode⟩:=ccode_e q pv progs hpv p
 have hri:=right_rr q cv (p.code progs) hins
 have hc1:=fun Cb=>hcode Cb c .nilIface (.pointer none) ⟨0,0,0,false,⟨0,0⟩,false,false,0,0,0,0,false⟩
 have hro:=fun hr:rightB (p.code progs)=true=>reads_r q cv (p.code progs) hins (by have:=(right_at hr).2.1;omega)
 have shut:∀ (Cb:Nat) (m:Cm),m.work=.none→m.b=none→∀ {M:List HProp},Ent (bl Cb 263 (clV c pv p .nilIface (.pointer none) m.s)::M) (ClE Cb c pv p q progs m::M):=fun Cb m h1 h2 M=>by
  have:=Ent.cl Cb c pv p q progs m .nilIface (.pointer none) (L:=M)
  rw [h1,h2] at this
  exact Ent.trans (Ent.cons (Ent.trans (Ent.star_in []) (Ent.cons (Ent.star_in [])))) this
 unfold clV at hc1
 dsimp only at hc1
 have hm:Cfg.m c=Cfg.m c:=rfl
 obtain ⟨cad,ccap,rfl,_⟩:=hins
 obtain ⟨pad,pcap,rfl,_⟩:=hpv
 have hnew:∀ r o:Bool,rightB (p.code progs)=r→onlyB (p.code progs)=o→Cm.new p progs=⟨⟨if r=true∧o=false then 0 else 2,0,0,false,⟨0,0⟩,false,false,0,0,0,0,false⟩, .none,none⟩:=fun r o h1 h2=>by subst h1;subst h2;rfl
 unfold g4
 cases hr:rightB (p.code progs) with
 | false =>
  rw [hr] at hri
  clear hro
  rw [hnew false _ hr rfl,if_neg (by simp)]
  refine Tri.of_body (vs:=[_,_,_,_,_]) Tryz.func61 rfl rfl fun w0 F=>?_
  repeat' (first|refine Ga ?_|(refine Gb ?_;intro b)|(refine Gd ?_;intro g cap rest hcap)|(refine Gc ?_;intro ad cap)|refine Gl (hc1 _) ?_|refine Gl hri ?_|(refine Ge ?_ ?_<;>(intro h;try (exfalso;omega)))|fail)
  all_goals first|(exfalso;omega)|skip
  refine St.d1 Tryz.func61 ⟨_,⟨_,rfl,rfl⟩, ?_⟩
  exact Ent.trans (Ent.trans Ent.go (shut _ ⟨⟨2,0,0,false,⟨0,0⟩,false,false,0,0,0,0,false⟩, .none,none⟩ rfl rfl)) Ent.go
 | true =>
  rw [hr] at hri
  have hro:=hro hr
  cases ho:onlyB (p.code progs) with
  | true =>
   rw [ho] at hro
   rw [hnew true true hr ho,if_neg (by simp)]
   refine Tri.of_body (vs:=[_,_,_,_,_]) Tryz.func61 rfl rfl fun w0 F=>?_
   repeat' (first|refine Ga ?_|(refine Gb ?_;intro b)|(refine Gd ?_;intro g cap rest hcap)|(refine Gc ?_;intro ad cap)|refine Gl (hc1 _) ?_|refine Gl hri ?_|refine Gl hro ?_|(refine Ge ?_ ?_<;>(intro h;try (exfalso;omega)))|fail)
   all_goals first|(exfalso;omega)|skip
   refine St.d1 Tryz.func61 ⟨_,⟨_,rfl,rfl⟩, ?_⟩
   exact Ent.trans (Ent.trans Ent.go (shut _ ⟨⟨2,0,0,false,⟨0,0⟩,false,false,0,0,0,0,false⟩, .none,none⟩ rfl rfl)) Ent.go
  | false =>
   rw [ho] at hro
   rw [hnew true false hr ho,if_pos ⟨rfl,rfl⟩]
   refine Tri.of_body (vs:=[_,_,_,_,_]) Tryz.func61 rfl rfl fun w0 F=>?_
   repeat' (first|refine Ga ?_|(refine Gb ?_;intro b)|(refine Gd ?_;intro g cap rest hcap)|(refine Gc ?_;intro ad cap)|refine Gl (hc1 _) ?_|refine Gl hri ?_|refine Gl hro ?_|(refine Ge ?_ ?_<;>(intro h;try (exfalso;omega)))|fail)
   all_goals first|(exfalso;omega)|skip
   refine St.d1 Tryz.func61 ⟨_,⟨_,rfl,rfl⟩, ?_⟩
   exact Ent.trans (Ent.trans Ent.go (shut _ ⟨⟨0,0,0,false,⟨0,0⟩,false,false,0,0,0,0,false⟩, .none,none⟩ rfl rfl)) Ent.go
end Go.Proofs.YthmbgodcpgkkeaaGreat
end
section
namespace Go.Proofs.YthmbgodcpgkkeaaGreat
set_option maxRecDepth 100000
def boundN (c:Cfg):Int:=if c.right=true then 5+5 * (10 * c.cap+c.threads * (3 * c.fuel+7)+c.limit+14) else 0
structure Bd15 (c:Cfg):Prop where
 small:Small c
 f:1≤c.fuel∧c.fuel≤1000
 p:0≤c.threads * (3 * c.fuel+7)∧c.threads * (3 * c.fuel+7)≤24056
theorem bd15 {c:Cfg} (h:c.right=true):Bd15 c:=by
 have hs:=Cfg.small h
 have h:=of_decide_eq_true h
 have h0:=hs.t0;have h1:=hs.t1
 have f0:1≤c.fuel:=by omega
 have f1:c.fuel≤1000:=by omega
 refine ⟨hs,⟨f0,f1⟩,Int.mul_nonneg (by omega) (by omega), ?_⟩
 have:=Int.mul_le_mul (a:=c.threads) (b:=3 * c.fuel+7) (c:=8) (d:=3007) h1 (by omega) (by omega) (by omega)
 omega
theorem bound_r (c:Cfg):RTri Tryz.prog 84 #[.agg ⟨c.v⟩] [] (.int .i64 (boundN c)):=by
 apply RTri.of_pure
 have hof:=of_r c
 unfold Cfg.ofV at hof
 unfold boundN
 cases hr:c.right with
 | true =>
  rw [hr] at hof
  obtain ⟨hc,hf,hp⟩:=bd15 hr
  have hcap:=hc.cap;have hlim:=hc.limit
  have hcp:=cap_r c hc c.fr rfl
  have hlm:=limit_r c hc c.fr
  rw [if_pos rfl]
  refine Tri.of_body (vs:=[_]) Tryz.func84 rfl rfl fun w0 F=>?_
  repeat' (first|refine Ga ?_|(refine Gb ?_;intro b)|(refine Gd ?_;intro g cap rest hcap)|(refine Gc ?_;intro ad cap)|(refine St.draw (id:=4) [(0,1),(1,1),(2,0),(3,0),(4,1),(5,0),(6,1),(7,0),(8,0),(9,0),(10,0),(11,1),(12,1),(13,0),(14,0),(15,0),(16,0),(17,0)] [] mixed (by kernel_rfl) ?_)| refine Gl hof ?_|refine Gl hcp ?_|refine Gl hlm ?_|(refine Ge ?_ ?_<;>(intro h;try (exfalso;omega)))|fail)
  all_goals (first|refine St.dn Tryz.func84 ⟨?_,rfl⟩ Ent.go|refine St.fl Tryz.func84 ⟨?_,rfl⟩ Ent.go)
  all_goals rfl
 | false =>
  rw [hr] at hof
  rw [if_neg (by decide)]
  refine Tri.of_body (vs:=[_]) Tryz.func84 rfl rfl fun w0 F=>?_
  repeat' (first|refine Ga ?_|(refine Gb ?_;intro b)|(refine Gd ?_;intro g cap rest hcap)|(refine Gc ?_;intro ad cap)|(refine St.draw (id:=4) [(0,1),(1,1),(2,0),(3,0),(4,1),(5,0),(6,1),(7,0),(8,0),(9,0),(10,0),(11,1),(12,1),(13,0),(14,0),(15,0),(16,0),(17,0)] [] mixed (by kernel_rfl) ?_)| refine Gl hof ?_|(refine Ge ?_ ?_<;>(intro h;try (exfalso;omega)))|fail)
  all_goals (first|refine St.dn Tryz.func84 ⟨?_,rfl⟩ Ent.go|refine St.fl Tryz.func84 ⟨?_,rfl⟩ Ent.go)
  all_goals rfl
theorem bound_pos {c:Cfg} (h:c.right=true):0<boundN c∧boundN c≤1000000:=by
 obtain ⟨hc,hf,hp⟩:=bd15 h
 have hcap:=hc.cap;have hlim:=hc.limit
 unfold boundN
 rw [if_pos h]
 omega
theorem bound_no {c:Cfg} (h:c.right=false):boundN c=0:=by
 unfold boundN
 rw [h];rfl
theorem bound_nn (c:Cfg):0≤boundN c∧boundN c≤1000000:=by
 cases h:c.right with
 | true=>have:=bound_pos h;omega
 | false=>have:=bound_no h;omega
end Go.Proofs.YthmbgodcpgkkeaaGreat
end
