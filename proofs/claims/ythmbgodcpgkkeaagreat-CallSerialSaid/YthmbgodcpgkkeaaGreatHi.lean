/-
  Package help: Tell, Own. Package scribe: New, Done, Ask, Tell; Help, Scribe sealed.
-/
import Derived.Test.YthmbgodcpgkkeaaGreatHf
section
namespace Go.Proofs.YthmbgodcpgkkeaaGreat
set_option maxRecDepth 100000
theorem place_r (seq:Nat):RTri Tryz.prog 346 #[.int .u64 (seq:Int)] [] (.int .i64 (placeOf seq)):=by
  apply RTri.of_pure
  unfold placeOf
  by_cases h:65536≤seq
  · rw [if_pos h]
    refine Tri.of_body (vs:=[_]) Tryz.func346 rfl rfl fun w0 F=>?_
    repeat' (first|refine Ga ?_|(refine Gb ?_;intro b)|(refine Gd ?_;intro g cap rest hcap)|(refine Gc ?_;intro ad cap) |(refine Ge ?_ ?_<;>(intro h;try (exfalso;omega)))|fail)
    all_goals first|(exfalso;omega)|skip
    refine St.d1 Tryz.func346 ⟨_,⟨rfl,rfl⟩,Ent.go⟩
  · rw [if_neg h]
    refine Tri.of_body (vs:=[_]) Tryz.func346 rfl rfl fun w0 F=>?_
    repeat' (first|refine Ga ?_|(refine Gb ?_;intro b)|(refine Gd ?_;intro g cap rest hcap)|(refine Gc ?_;intro ad cap) |(refine Ge ?_ ?_<;>(intro h;try (exfalso;omega)))|fail)
    all_goals first|(exfalso;omega)|skip
    refine St.d1 Tryz.func346 ⟨_,⟨rfl,rfl⟩,Ent.go⟩
theorem cell_eq (x:Cell) (s:Nat):((x.val:Int) == 1 && ((x.seq:Int) == (s:Int) && true))=decide (x=⟨1,s⟩):=by
  obtain ⟨v,q⟩:=x
  rw [Bool.eq_iff_iff]
  simp
  omega
theorem entV_snoc (l:List (Int×Nat)) (a:Int) (v:Nat):(l++[(a,v)]).flatMap entV=l.flatMap entV++[.int .i64 a, .int .u64 (v:Int)]:=by rw [List.flatMap_append];rfl
theorem hread_raw (H:Nat) (c:Cfg) (y:Hm) (lad:Option Addr) (lcap:Nat):Tri Tryz.prog 344 #[.pointer (some ⟨H,0,none⟩)] [bl H 392 (hpV c (.slice lad y.list.length lcap) y),Row (.slice lad y.list.length lcap) 119 2 y.list.length (y.list.flatMap entV)] fun r L=>r=.tuple ⟨[]⟩∧L=[HpE H c y.read]:=(hread_t H c y).ent Ent.hp
theorem hentry_raw (H:Nat) (c:Cfg) (hc:Small c) (y:Hm) (lad:Option Addr) (lcap:Nat) (hl:y.list.length≤1000000) (k:Nat) (hk:k≤1000001):Tri Tryz.prog 274 #[.pointer (some ⟨H,0,none⟩), .int .i64 (k:Int)] [bl H 392 (hpV c (.slice lad y.list.length lcap) y),Row (.slice lad y.list.length lcap) 119 2 y.list.length (y.list.flatMap entV)] fun r L=>r=.tuple ⟨[]⟩∧L=[HpE H c (y.entry c k)]:=(hentry_t H c hc y hl k hk).ent Ent.hp
theorem hopen_raw (H:Nat) (c:Cfg) (hc:Small c) (y:Hm) (lad:Option Addr) (lcap:Nat):RTri Tryz.prog 345 #[.pointer (some ⟨H,0,none⟩)] [bl H 392 (hpV c (.slice lad y.list.length lcap) y),Row (.slice lad y.list.length lcap) 119 2 y.list.length (y.list.flatMap entV)] (.tuple ⟨[.int .i64 (c.at 4 y.owner 0), .agg ⟨[.int .u64 1, .int .u64 (y.seq:Int)]⟩]⟩):=(hopen_r H c hc y).ent Ent.hp
set_option maxHeartbeats 2000000 in
theorem htell_t (H:Nat) (c:Cfg) (hc:Small c) (y:Hm) (hi:Hinv c y) (o:Out):Tri Tryz.prog 343 #[.pointer (some ⟨H,0,none⟩), .agg ⟨o.v⟩] [HpE H c y] fun r L=>r=.tuple ⟨[]⟩∧L=[HpE H c (y.tell c o)]:=by
  have hnx:=hi.nx
  have hll:=hi.l
  have hcap:=hc.cap
  have hln:=hi.ln
  have hn1:=hi.n1
  have hkk:=hi.k
  obtain ⟨⟨wv,ws⟩,ok⟩:=o
  unfold Out.v
  refine Tri.ex_out ?_
  rintro ⟨lad,lcap⟩
  unfold hpL
  dsimp only
  have hop:=hopen_raw H c hc y lad lcap
  have hce:=cell_eq ⟨wv,ws⟩ y.seq
  dsimp only at hce
  have hcp:=cap_r c hc c.fr rfl
  have htk:=take_h c (.slice lad y.list.length lcap) y
  unfold Hm.tell
  dsimp only
  rcases (by omega:y.next=0∨y.next=1∨y.next=2∨y.next=3∨y.next=4∨y.next=5∨y.next=6∨y.next=7∨y.next=8) with e|e|e|e|e|e|e|e|e
  · rw [if_pos e]
    have hr:=hread_raw H c { y with n:=if c.cap<(wv:Int) then c.cap else (wv:Int) } lad lcap
    try dsimp only at hr
    refine Tri.of_body (vs:=[_,_]) Tryz.func343 rfl rfl fun w0 F=>?_
    repeat' (first|refine Ga ?_|(refine Gb ?_;intro b)|(refine Gd ?_;intro g cap rest hcap)|(refine Gc ?_;intro ad cap)|(refine St.draw (id:=5) [(0,0),(1,0),(2,1),(3,0),(4,0),(5,0),(6,1),(7,1),(8,0),(9,0),(10,0),(11,0),(12,0),(13,3)] [13] mixed (by kernel_rfl) ?_)|(refine St.draw (id:=8) [(0,0),(1,0),(2,0),(3,0),(4,1),(5,0),(6,1),(7,1),(8,0),(9,1),(10,0),(11,2),(12,3),(13,0),(14,0),(15,3)] [12,15] mixed (by kernel_rfl) ?_)|(refine St.draw (id:=16) [(0,0),(1,0),(2,0),(3,0),(4,1),(5,0),(6,0),(7,0),(8,1),(9,0),(10,0),(11,0),(12,1),(13,0),(14,0),(15,1),(16,1),(17,0),(18,0),(19,0),(20,0),(21,0),(22,0),(23,3)] [23] mixed (by kernel_rfl) ?_)|(refine St.draw (id:=21) [(0,0),(1,1),(2,0),(3,0),(4,0),(5,1),(6,0)] [] mixed (by kernel_rfl) ?_)| refine Gl hop ?_|refine Gl hcp ?_|(refine Gt hr ?_;rintro _ _ ⟨rfl,rfl⟩)|(refine Ge ?_ ?_<;>(intro h;try (exfalso;omega)))|fail)
    all_goals first|(exfalso;omega)|skip
    refine St.f1 Tryz.func343 ⟨_,⟨rfl,rfl⟩,Ent.go⟩
  · rw [if_neg (by omega),if_pos e]
    have hln:=hln e
    have hpl:=place_r ws
    have hr:=fun lad lcap=>hread_raw H c { y with list:=y.list++[(placeOf ws,wv)] } lad lcap
    try dsimp only at hr
    rw [List.length_append,List.length_singleton,entV_snoc] at hr
    refine Tri.of_body (vs:=[_,_]) Tryz.func343 rfl rfl fun w0 F=>?_
    repeat' (first|refine Ga ?_|(refine Gb ?_;intro b)|(refine Gd ?_;intro g cap rest hcap)|(refine Gc ?_;intro ad cap)|(refine St.draw (id:=5) [(0,0),(1,0),(2,1),(3,0),(4,0),(5,0),(6,1),(7,1),(8,0),(9,0),(10,0),(11,0),(12,0),(13,3)] [13] mixed (by kernel_rfl) ?_)|(refine St.draw (id:=8) [(0,0),(1,0),(2,0),(3,0),(4,1),(5,0),(6,1),(7,1),(8,0),(9,1),(10,0),(11,2),(12,3),(13,0),(14,0),(15,3)] [12,15] mixed (by kernel_rfl) ?_)|(refine St.draw (id:=16) [(0,0),(1,0),(2,0),(3,0),(4,1),(5,0),(6,0),(7,0),(8,1),(9,0),(10,0),(11,0),(12,1),(13,0),(14,0),(15,1),(16,1),(17,0),(18,0),(19,0),(20,0),(21,0),(22,0),(23,3)] [23] mixed (by kernel_rfl) ?_)|(refine St.draw (id:=21) [(0,0),(1,1),(2,0),(3,0),(4,0),(5,1),(6,0)] [] mixed (by kernel_rfl) ?_)| refine Gl hop ?_|refine Gl hpl ?_|(refine Gt (hr _ _) ?_;rintro _ _ ⟨rfl,rfl⟩)|(refine Ge ?_ ?_<;>(intro h;try (exfalso;omega)))|fail)
    all_goals first|(exfalso;omega)|skip
    refine St.f1 Tryz.func343 ⟨_,⟨rfl,rfl⟩,Ent.go⟩
  · rw [if_neg (by omega),if_neg (by omega),if_pos e]
    have he:=hentry_raw H c hc y lad lcap hll 0 (Nat.zero_le _)
    have hu:=fun is=>hunless_t H c (y.entry c 0) is
    refine Tri.of_body (vs:=[_,_]) Tryz.func343 rfl rfl fun w0 F=>?_
    repeat' (first|refine Ga ?_|(refine Gb ?_;intro b)|(refine Gd ?_;intro g cap rest hcap)|(refine Gc ?_;intro ad cap)|(refine St.draw (id:=5) [(0,0),(1,0),(2,1),(3,0),(4,0),(5,0),(6,1),(7,1),(8,0),(9,0),(10,0),(11,0),(12,0),(13,3)] [13] mixed (by kernel_rfl) ?_)|(refine St.draw (id:=8) [(0,0),(1,0),(2,0),(3,0),(4,1),(5,0),(6,1),(7,1),(8,0),(9,1),(10,0),(11,2),(12,3),(13,0),(14,0),(15,3)] [12,15] mixed (by kernel_rfl) ?_)|(refine St.draw (id:=16) [(0,0),(1,0),(2,0),(3,0),(4,1),(5,0),(6,0),(7,0),(8,1),(9,0),(10,0),(11,0),(12,1),(13,0),(14,0),(15,1),(16,1),(17,0),(18,0),(19,0),(20,0),(21,0),(22,0),(23,3)] [23] mixed (by kernel_rfl) ?_)|(refine St.draw (id:=21) [(0,0),(1,1),(2,0),(3,0),(4,0),(5,1),(6,0)] [] mixed (by kernel_rfl) ?_)| refine Gl hop ?_|(refine Gt he ?_;rintro _ _ ⟨rfl,rfl⟩)|(refine Gt (hu _) ?_;rintro _ _ ⟨rfl,rfl⟩)|(refine Ge ?_ ?_<;>(intro h;try (exfalso;omega)))|fail)
    all_goals first|(exfalso;omega)|skip
    rw [hce]
    refine St.f1 Tryz.func343 ⟨_,⟨rfl,rfl⟩,Ent.go⟩
  · rw [if_neg (by omega),if_neg (by omega),if_neg (by omega),if_pos e]
    refine Tri.of_body (vs:=[_,_]) Tryz.func343 rfl rfl fun w0 F=>?_
    repeat' (first|refine Ga ?_|(refine Gb ?_;intro b)|(refine Gd ?_;intro g cap rest hcap)|(refine Gc ?_;intro ad cap)|(refine St.draw (id:=5) [(0,0),(1,0),(2,1),(3,0),(4,0),(5,0),(6,1),(7,1),(8,0),(9,0),(10,0),(11,0),(12,0),(13,3)] [13] mixed (by kernel_rfl) ?_)|(refine St.draw (id:=8) [(0,0),(1,0),(2,0),(3,0),(4,1),(5,0),(6,1),(7,1),(8,0),(9,1),(10,0),(11,2),(12,3),(13,0),(14,0),(15,3)] [12,15] mixed (by kernel_rfl) ?_)|(refine St.draw (id:=16) [(0,0),(1,0),(2,0),(3,0),(4,1),(5,0),(6,0),(7,0),(8,1),(9,0),(10,0),(11,0),(12,1),(13,0),(14,0),(15,1),(16,1),(17,0),(18,0),(19,0),(20,0),(21,0),(22,0),(23,3)] [23] mixed (by kernel_rfl) ?_)|(refine St.draw (id:=21) [(0,0),(1,1),(2,0),(3,0),(4,0),(5,1),(6,0)] [] mixed (by kernel_rfl) ?_)| refine Gl hop ?_|(refine Ge ?_ ?_<;>(intro h;try (exfalso;omega)))|fail)
    all_goals first|(exfalso;omega)|skip
    refine St.f1 Tryz.func343 ⟨_,⟨rfl,rfl⟩, ?_⟩
    exact Ent.trans Ent.go (Ent.hp (ad:=lad) (cap:=lcap) (y:={ y with held := -1,next:=4 }))
  · rw [if_neg (by omega),if_neg (by omega),if_neg (by omega),if_neg (by omega),if_pos e]
    have hk:=hkk (by omega)
    have hat:=Hm.at_eq hk.1 hk.2
    have hw:=what_r c hc y.at_.1
    refine Tri.of_body (vs:=[_,_]) Tryz.func343 rfl rfl fun w0 F=>?_
    refine St.conv ?_ (Sub.refl _) (Ent.of_take (p:=Row (.slice lad y.list.length lcap) 119 2 y.list.length (y.list.flatMap entV)) Take.go)
    refine St.rowF (by omega) fun g cap rest hv hrf=>?_
    injection hv with hv1 hv2 hv3
    subst hv1 hv3
    have hsh:∀ (h':Hm),h'.list=y.list→∀ {M:List HProp},Ent (bl H 392 (hpV c (.slice (some ⟨g,0,none⟩) y.list.length lcap) h')::bl g 119 (y.list.flatMap entV++rest)::M) (HpE H c h'::M):=fun h' e1 M=>by
      refine Ent.trans ?_ (Ent.hp (ad:=some ⟨g,0,none⟩) (cap:=lcap) (y:=h'))
      rw [e1]
      exact Ent.trans (Ent.of_take (p:=bl g 119 (y.list.flatMap entV++rest)) Take.go) (Ent.trans (Ent.rowF hrf) Ent.go)
    have hop2:=(hopen_r H c hc y).ent (hsh y rfl (M:=[]))
    obtain ⟨hn0,hn1⟩:=ent_at (l:=y.list) (k:=y.k.toNat) (by omega) rest
    rw [←hat,show ((y.k.toNat:Nat):Int).toNat=y.k.toNat by omega] at hn0 hn1
    have hu:=fun is=>(hunless_t H c { y with held:=(c.what y.at_.1).2.1,next:=5 } is).ent (hsh { y with held:=(c.what y.at_.1).2.1,next:=5 } rfl (M:=[]))
    try dsimp only at hu
    repeat' (first|refine Ga ?_|(refine Gb ?_;intro b)|(refine Gd ?_;intro g cap rest hcap)|(refine Gc ?_;intro ad cap)|(refine St.draw (id:=5) [(0,0),(1,0),(2,1),(3,0),(4,0),(5,0),(6,1),(7,1),(8,0),(9,0),(10,0),(11,0),(12,0),(13,3)] [13] mixed (by kernel_rfl) ?_)|(refine St.draw (id:=8) [(0,0),(1,0),(2,0),(3,0),(4,1),(5,0),(6,1),(7,1),(8,0),(9,1),(10,0),(11,2),(12,3),(13,0),(14,0),(15,3)] [12,15] mixed (by kernel_rfl) ?_)|(refine St.draw (id:=16) [(0,0),(1,0),(2,0),(3,0),(4,1),(5,0),(6,0),(7,0),(8,1),(9,0),(10,0),(11,0),(12,1),(13,0),(14,0),(15,1),(16,1),(17,0),(18,0),(19,0),(20,0),(21,0),(22,0),(23,3)] [23] mixed (by kernel_rfl) ?_)|(refine St.draw (id:=21) [(0,0),(1,1),(2,0),(3,0),(4,0),(5,1),(6,0)] [] mixed (by kernel_rfl) ?_)| refine Gl hop2 ?_|refine Gl hw ?_|(refine Gt (hu _) ?_;rintro _ _ ⟨rfl,rfl⟩)|(refine Ge ?_ ?_<;>(intro h;try (exfalso;omega)))|fail)
    all_goals first|(exfalso;omega)|skip
    rw [hce]
    refine St.f1 Tryz.func343 ⟨_,⟨rfl,rfl⟩,Ent.go⟩
  · rw [if_neg (by omega),if_neg (by omega),if_neg (by omega),if_neg (by omega),if_neg (by omega),if_pos e]
    have hk:=hkk (by omega)
    have e1:((y.k+1).toNat:Int)=y.k+1:=by omega
    have he:=hentry_raw H c hc { y with cell:=⟨wv,ws⟩,next:=6 } lad lcap hll (y.k+1).toNat (by omega)
    rw [e1] at he
    try dsimp only at he
    by_cases hle:y.seq≤ws
    · rw [if_pos hle]
      refine Tri.of_body (vs:=[_,_]) Tryz.func343 rfl rfl fun w0 F=>?_
      repeat' (first|refine Ga ?_|(refine Gb ?_;intro b)|(refine Gd ?_;intro g cap rest hcap)|(refine Gc ?_;intro ad cap)|(refine St.draw (id:=5) [(0,0),(1,0),(2,1),(3,0),(4,0),(5,0),(6,1),(7,1),(8,0),(9,0),(10,0),(11,0),(12,0),(13,3)] [13] mixed (by kernel_rfl) ?_)|(refine St.draw (id:=8) [(0,0),(1,0),(2,0),(3,0),(4,1),(5,0),(6,1),(7,1),(8,0),(9,1),(10,0),(11,2),(12,3),(13,0),(14,0),(15,3)] [12,15] mixed (by kernel_rfl) ?_)|(refine St.draw (id:=16) [(0,0),(1,0),(2,0),(3,0),(4,1),(5,0),(6,0),(7,0),(8,1),(9,0),(10,0),(11,0),(12,1),(13,0),(14,0),(15,1),(16,1),(17,0),(18,0),(19,0),(20,0),(21,0),(22,0),(23,3)] [23] mixed (by kernel_rfl) ?_)|(refine St.draw (id:=21) [(0,0),(1,1),(2,0),(3,0),(4,0),(5,1),(6,0)] [] mixed (by kernel_rfl) ?_)| refine Gl hop ?_|(refine Gt he ?_;rintro _ _ ⟨rfl,rfl⟩)|(refine Ge ?_ ?_<;>(intro h;try (exfalso;omega)))|fail)
      all_goals first|(exfalso;omega)|skip
      refine St.f1 Tryz.func343 ⟨_,⟨rfl,rfl⟩,Ent.go⟩
    · rw [if_neg hle]
      clear he
      refine Tri.of_body (vs:=[_,_]) Tryz.func343 rfl rfl fun w0 F=>?_
      repeat' (first|refine Ga ?_|(refine Gb ?_;intro b)|(refine Gd ?_;intro g cap rest hcap)|(refine Gc ?_;intro ad cap)|(refine St.draw (id:=5) [(0,0),(1,0),(2,1),(3,0),(4,0),(5,0),(6,1),(7,1),(8,0),(9,0),(10,0),(11,0),(12,0),(13,3)] [13] mixed (by kernel_rfl) ?_)|(refine St.draw (id:=8) [(0,0),(1,0),(2,0),(3,0),(4,1),(5,0),(6,1),(7,1),(8,0),(9,1),(10,0),(11,2),(12,3),(13,0),(14,0),(15,3)] [12,15] mixed (by kernel_rfl) ?_)|(refine St.draw (id:=16) [(0,0),(1,0),(2,0),(3,0),(4,1),(5,0),(6,0),(7,0),(8,1),(9,0),(10,0),(11,0),(12,1),(13,0),(14,0),(15,1),(16,1),(17,0),(18,0),(19,0),(20,0),(21,0),(22,0),(23,3)] [23] mixed (by kernel_rfl) ?_)|(refine St.draw (id:=21) [(0,0),(1,1),(2,0),(3,0),(4,0),(5,1),(6,0)] [] mixed (by kernel_rfl) ?_)| refine Gl hop ?_|(refine Ge ?_ ?_<;>(intro h;try (exfalso;omega)))|fail)
      all_goals first|(exfalso;omega)|skip
      refine St.f1 Tryz.func343 ⟨_,⟨rfl,rfl⟩, ?_⟩
      exact Ent.trans Ent.go (Ent.hp (ad:=lad) (cap:=lcap) (y:={ y with cell:=⟨wv,ws⟩,next:=6 }))
  · rw [if_neg (by omega),if_neg (by omega),if_neg (by omega),if_neg (by omega),if_neg (by omega),if_neg (by omega),if_pos e]
    have hk:=hkk (by omega)
    have e1:((y.k+1).toNat:Int)=y.k+1:=by omega
    have he:=hentry_raw H c hc y lad lcap hll (y.k+1).toNat (by omega)
    rw [e1] at he
    refine Tri.of_body (vs:=[_,_]) Tryz.func343 rfl rfl fun w0 F=>?_
    repeat' (first|refine Ga ?_|(refine Gb ?_;intro b)|(refine Gd ?_;intro g cap rest hcap)|(refine Gc ?_;intro ad cap)|(refine St.draw (id:=5) [(0,0),(1,0),(2,1),(3,0),(4,0),(5,0),(6,1),(7,1),(8,0),(9,0),(10,0),(11,0),(12,0),(13,3)] [13] mixed (by kernel_rfl) ?_)|(refine St.draw (id:=8) [(0,0),(1,0),(2,0),(3,0),(4,1),(5,0),(6,1),(7,1),(8,0),(9,1),(10,0),(11,2),(12,3),(13,0),(14,0),(15,3)] [12,15] mixed (by kernel_rfl) ?_)|(refine St.draw (id:=16) [(0,0),(1,0),(2,0),(3,0),(4,1),(5,0),(6,0),(7,0),(8,1),(9,0),(10,0),(11,0),(12,1),(13,0),(14,0),(15,1),(16,1),(17,0),(18,0),(19,0),(20,0),(21,0),(22,0),(23,3)] [23] mixed (by kernel_rfl) ?_)|(refine St.draw (id:=21) [(0,0),(1,1),(2,0),(3,0),(4,0),(5,1),(6,0)] [] mixed (by kernel_rfl) ?_)| refine Gl hop ?_|(refine Gt he ?_;rintro _ _ ⟨rfl,rfl⟩)|(refine Ge ?_ ?_<;>(intro h;try (exfalso;omega)))|fail)
    all_goals first|(exfalso;omega)|skip
    refine St.f1 Tryz.func343 ⟨_,⟨rfl,rfl⟩,Ent.go⟩
  · rw [if_neg (by omega),if_neg (by omega),if_neg (by omega),if_neg (by omega),if_neg (by omega),if_neg (by omega),if_neg (by omega),if_pos e]
    refine Tri.of_body (vs:=[_,_]) Tryz.func343 rfl rfl fun w0 F=>?_
    repeat' (first|refine Ga ?_|(refine Gb ?_;intro b)|(refine Gd ?_;intro g cap rest hcap)|(refine Gc ?_;intro ad cap)|(refine St.draw (id:=5) [(0,0),(1,0),(2,1),(3,0),(4,0),(5,0),(6,1),(7,1),(8,0),(9,0),(10,0),(11,0),(12,0),(13,3)] [13] mixed (by kernel_rfl) ?_)|(refine St.draw (id:=8) [(0,0),(1,0),(2,0),(3,0),(4,1),(5,0),(6,1),(7,1),(8,0),(9,1),(10,0),(11,2),(12,3),(13,0),(14,0),(15,3)] [12,15] mixed (by kernel_rfl) ?_)|(refine St.draw (id:=16) [(0,0),(1,0),(2,0),(3,0),(4,1),(5,0),(6,0),(7,0),(8,1),(9,0),(10,0),(11,0),(12,1),(13,0),(14,0),(15,1),(16,1),(17,0),(18,0),(19,0),(20,0),(21,0),(22,0),(23,3)] [23] mixed (by kernel_rfl) ?_)|(refine St.draw (id:=21) [(0,0),(1,1),(2,0),(3,0),(4,0),(5,1),(6,0)] [] mixed (by kernel_rfl) ?_)| refine Gl hop ?_|(refine Ge ?_ ?_<;>(intro h;try (exfalso;omega)))|fail)
    all_goals first|(exfalso;omega)|skip
    refine St.f1 Tryz.func343 ⟨_,⟨rfl,rfl⟩, ?_⟩
    exact Ent.trans Ent.go (Ent.hp (ad:=lad) (cap:=lcap) (y:={ y with next:=8 }))
  · rw [if_neg (by omega),if_neg (by omega),if_neg (by omega),if_neg (by omega),if_neg (by omega),if_neg (by omega),if_neg (by omega),if_neg (by omega)]
    refine Tri.of_body (vs:=[_,_]) Tryz.func343 rfl rfl fun w0 F=>?_
    repeat' (first|refine Ga ?_|(refine Gb ?_;intro b)|(refine Gd ?_;intro g cap rest hcap)|(refine Gc ?_;intro ad cap)|(refine St.draw (id:=5) [(0,0),(1,0),(2,1),(3,0),(4,0),(5,0),(6,1),(7,1),(8,0),(9,0),(10,0),(11,0),(12,0),(13,3)] [13] mixed (by kernel_rfl) ?_)|(refine St.draw (id:=8) [(0,0),(1,0),(2,0),(3,0),(4,1),(5,0),(6,1),(7,1),(8,0),(9,1),(10,0),(11,2),(12,3),(13,0),(14,0),(15,3)] [12,15] mixed (by kernel_rfl) ?_)|(refine St.draw (id:=16) [(0,0),(1,0),(2,0),(3,0),(4,1),(5,0),(6,0),(7,0),(8,1),(9,0),(10,0),(11,0),(12,1),(13,0),(14,0),(15,1),(16,1),(17,0),(18,0),(19,0),(20,0),(21,0),(22,0),(23,3)] [23] mixed (by kernel_rfl) ?_)|(refine St.draw (id:=21) [(0,0),(1,1),(2,0),(3,0),(4,0),(5,1),(6,0)] [] mixed (by kernel_rfl) ?_)| refine Gl hop ?_|(refine Ge ?_ ?_<;>(intro h;try (exfalso;omega)))|fail)
    all_goals first|(exfalso;omega)|skip
    refine St.f1 Tryz.func343 ⟨_,⟨rfl,rfl⟩, ?_⟩
    exact Ent.trans Ent.go (Ent.hp (ad:=lad) (cap:=lcap) (y:=y))
theorem hown_t (c:Cfg) (hc:Small c) (who:Int) (seq:Nat) (list:List (Int×Nat)) (hl:list.length≤1000000) (ad:Option Addr) (cap:Nat):Tri Tryz.prog 226 #[.agg ⟨c.m⟩, .int .i64 who, .int .u64 (seq:Int), .slice ad list.length cap] [Row (.slice ad list.length cap) 119 2 list.length (list.flatMap entV)]
    fun r L=>∃ H,r=.pointer (some ⟨H,0,none⟩)∧L=[HpE H c (Hm.own c who seq list)]:=by
  have he:=fun H lad lcap=>hentry_raw H c hc ⟨who,who,seq,list,0,0,-1,⟨0,0⟩,0⟩ lad lcap hl 0 (Nat.zero_le _)
  try dsimp only at he
  have hone:(list.flatMap entV).all one=true:=entV_one list
  refine Tri.of_body (vs:=[_,_,_,_]) Tryz.func226 rfl rfl fun w0 F=>?_
  refine St.rowC (fun hv h0 hx=>?_) (fun g lcp rest hv hrf=>?_)
  · injection hv with hv1 hv2 hv3
    subst hv1 hv3
    obtain rfl:=List.eq_nil_of_length_eq_zero h0
    repeat' (first|refine Ga ?_|(refine Gb ?_;intro b)|(refine Gd ?_;intro g cap rest hcap)|(refine Gc ?_;intro ad cap)|(refine St.draw (id:=1) [(0,1),(1,0),(2,0),(3,0),(4,0),(5,0),(6,0),(7,2),(8,0)] [] mixed (by kernel_rfl) ?_)|(refine Gt (he _ _ _) ?_;rintro _ _ ⟨rfl,rfl⟩)|(refine Ge ?_ ?_<;>(intro h;try (exfalso;omega)))|fail)
    (apply StD.v0;rfl;(apply OpV.appendZ;rfl;rfl);rfl)
    repeat' (first|refine Ga ?_|(refine Gb ?_;intro b)|(refine Gd ?_;intro g cap rest hcap)|(refine Gc ?_;intro ad cap)|(refine St.draw (id:=1) [(0,1),(1,0),(2,0),(3,0),(4,0),(5,0),(6,0),(7,2),(8,0)] [] mixed (by kernel_rfl) ?_)|(refine Ge ?_ ?_<;>(intro h;try (exfalso;omega)))|fail)
    refine StL.conv ?_ (Sub.refl _) (Ent.row_nil 119 2)
    repeat' (first|refine Ga ?_|(refine Gb ?_;intro b)|(refine Gd ?_;intro g cap rest hcap)|(refine Gc ?_;intro ad cap)|(refine St.draw (id:=1) [(0,1),(1,0),(2,0),(3,0),(4,0),(5,0),(6,0),(7,2),(8,0)] [] mixed (by kernel_rfl) ?_)|(refine Gt (he _ _ _) ?_;rintro _ _ ⟨rfl,rfl⟩)|(refine Ge ?_ ?_<;>(intro h;try (exfalso;omega)))|fail)
    refine St.d1 Tryz.func226 ⟨_,⟨_,rfl,rfl⟩,Ent.go⟩
  · injection hv with hv1 hv2 hv3
    subst hv1 hv3
    have htk:TakeN (list.length * 2) (list.flatMap entV++rest) (list.flatMap entV):=by rw [←hrf.len];exact TakeN.app _ _
    repeat' (first|refine Ga ?_|(refine Gb ?_;intro b)|(refine Gd ?_;intro g cap rest hcap)|(refine Gc ?_;intro ad cap)|(refine St.draw (id:=1) [(0,1),(1,0),(2,0),(3,0),(4,0),(5,2),(6,0),(7,2),(8,0)] [] mixed (by kernel_rfl) ?_)|(refine Gt (he _ _ _) ?_;rintro _ _ ⟨rfl,rfl⟩)|(refine Gu (he _ _ _) ?_;rintro _ _ ⟨rfl,rfl⟩;refine ⟨Ent.go, ?_⟩)|(refine Ge ?_ ?_<;>(intro h;try (exfalso;omega)))|fail)
    (apply StD.ok2;rfl;(apply OpOk.appendNl;rfl;rfl;(focus (repeat first|exact ReadsC.here RdC.bl|exact ReadsC.here (by assumption)|apply ReadsC.there));(focus (first|assumption|(repeat constructor)));(focus (first|assumption|(repeat constructor)));assumption;rfl;rfl;omega;omega);rfl;rintro _ _ ⟨ad,cap,rfl,rfl⟩;refine ⟨Ent.go, ?_⟩)
    repeat' (first|refine Ga ?_|(refine Gb ?_;intro b)|(refine Gd ?_;intro g cap rest hcap)|(refine Gc ?_;intro ad cap)|(refine St.draw (id:=1) [(0,1),(1,0),(2,0),(3,0),(4,0),(5,2),(6,0),(7,2),(8,0)] [] mixed (by kernel_rfl) ?_)|(refine Gt (he _ _ _) ?_;rintro _ _ ⟨rfl,rfl⟩)|(refine Gu (he _ _ _) ?_;rintro _ _ ⟨rfl,rfl⟩;refine ⟨Ent.go, ?_⟩)|(refine Ge ?_ ?_<;>(intro h;try (exfalso;omega)))|fail)
    refine St.d1 Tryz.func226 ⟨_,⟨_,rfl,rfl⟩,Ent.go⟩
end Go.Proofs.YthmbgodcpgkkeaaGreat
end
section
namespace Go.Proofs.YthmbgodcpgkkeaaGreat
set_option maxRecDepth 100000
theorem St.rowLe {P:Program} {C:Cx} {k:List Item} {E:Env} {ad:Option Addr} {cap e sz n:Nat} {xs:List Value} {L:List HProp} (h:n≤cap→St P C k E (Row (.slice ad n cap) e sz n xs::L)):St P C k E (Row (.slice ad n cap) e sz n xs::L):=by
  unfold St at *
  intro a w ha hs ho
  have hs0:=hs
  obtain ⟨h1,h2,hd,hor,hrow,hL⟩:=sat_cons.1 hs
  unfold Row at hrow
  obtain ⟨hl,hr⟩:=hrow
  refine h ?_ a w ha hs0 ho
  rcases hr with ⟨hv,hn⟩|⟨g,cap',cur,hv,hc,_⟩
  · omega
  · injection hv with _ _ hv3
    omega
theorem take_ents (l:List (Int×Nat)) (k:Nat):(l.flatMap entV).take (k * 2)=(l.take k).flatMap entV:=by
  induction l generalizing k with
  | nil=>simp
  | cons x l ih =>
    cases k with
    | zero=>simp
    | succ k =>
      rw [List.take_succ_cons,List.flatMap_cons,List.flatMap_cons,←ih k,show (k+1) * 2=k * 2+2 by omega]
      rfl
theorem u64_nn (x:Int):0≤IntKind.u64.wrap x:=by
  simp only [IntKind.wrap,IntKind.bits,IntKind.signed]
  simp
  omega
theorem clone_pre (ad:Option Addr) (cap n k:Nat) (l:List (Int×Nat)) (hl:l.length=n) (hk:k≤n) (hn:n≤1000000000):Tri Tryz.prog 165 #[.slice ad k cap] [Row (.slice ad n cap) 119 2 n (l.flatMap entV)]
    fun r L=>∃ ad' cap',r=.slice ad' k cap'∧L=[Row (.slice ad n cap) 119 2 n (l.flatMap entV),Row (.slice ad' k cap') 119 2 k ((l.take k).flatMap entV)]:=by
  have hone:=entV_one (l.take k)
  refine Tri.of_body (vs:=[_]) Tryz.func165 rfl rfl fun w0 F=>?_
  refine St.rowC (fun hv h0 hx=>?_) (fun g lcp rest hv hrf=>?_)
  · injection hv with hv1 hv2 hv3
    subst hv1 hv3
    obtain rfl:k=0:=by omega
    subst h0
    rw [hx]
    repeat' (first|refine Ga ?_|(refine Gb ?_;intro b)|(refine Gd ?_;intro g cap rest hcap)|(refine Gc ?_;intro ad cap) |(refine Ge ?_ ?_<;>(intro h;try (exfalso;omega)))|fail)
    refine St.d1 Tryz.func165 ⟨_,⟨none,0,rfl,rfl⟩, ?_⟩
    exact Ent.trans (Ent.row_nil 119 2) (Ent.trans (Ent.row_nil 119 2) Ent.go)
  · injection hv with hv1 hv2 hv3
    subst hv1 hv3
    have hlen:=hrf.len
    have htk:TakeN (k * 2) (l.flatMap entV++rest) ((l.take k).flatMap entV):=by
      rw [←take_ents,←List.take_append_of_le_length (l₂:=rest) (by omega)]
      exact TakeN.of (by rw [List.length_append];omega)
    repeat' (first|refine Ga ?_|(refine Gb ?_;intro b)|(refine Gd ?_;intro g cap rest hcap)|(refine Gc ?_;intro ad cap) |(refine Ge ?_ ?_<;>(intro h;try (exfalso;omega)))|fail)
    refine St.d1 Tryz.func165 ⟨_,⟨_,_,rfl,rfl⟩, ?_⟩
    refine Ent.trans (Ent.of_take (p:=bl g 119 (l.flatMap entV++rest)) Take.go) (Ent.trans (Ent.rowF hrf) Ent.go)
def scV (c:Cfg) (lv:Value) (s:Sm):List Value:=c.m++[.int .i64 s.who, .int .u64 (s.seq:Int),lv, .int .i64 (s.done:Int)]
theorem take_s (c:Cfg) (lv:Value) (s:Sm):TakeN 24 (scV c lv s) c.m:=TakeN.app c.m _
def scL (S:Nat) (c:Cfg) (s:Sm) (a:Option Addr×Nat):List HProp:=[bl S 395 (scV c (.slice a.1 s.list.length a.2) s),Row (.slice a.1 s.list.length a.2) 119 2 s.list.length (s.list.flatMap entV)]
def ScE (S:Nat) (c:Cfg) (s:Sm):HProp:=ex (scL S c s)
theorem Ent.sc {S:Nat} {c:Cfg} {s:Sm} {ad:Option Addr} {cap:Nat} {L:List HProp}:Ent (bl S 395 (scV c (.slice ad s.list.length cap) s)::Row (.slice ad s.list.length cap) 119 2 s.list.length (s.list.flatMap entV)::L) (ScE S c s::L):=Ent.ex_in (Ls:=scL S c s) (ad,cap)
set_option maxHeartbeats 1000000 in
theorem snew_t (c:Cfg) (hc:Small c) (who:Int) (seq:Nat) (list:List (Int×Nat)) (hl:list.length≤1000000) (ad:Option Addr) (cap:Nat):Tri Tryz.prog 275 #[.agg ⟨c.m⟩, .int .i64 who, .int .u64 (seq:Int), .slice ad list.length cap] [Row (.slice ad list.length cap) 119 2 list.length (list.flatMap entV)]
    fun r L=>∃ S,r=.pointer (some ⟨S,0,none⟩)∧L=[ScE S c (Sm.new c who seq list)]:=by
  have hcp:=cap_r c hc c.fr rfl
  have hcap:=hc.cap
  generalize hk:min list.length c.cap.toNat=k
  have hkl:(list.take k).length=k:=by rw [List.length_take];omega
  have e0:Sm.new c who seq list=⟨who,seq,list.take k,0⟩:=by unfold Sm.new;rw [hk]
  rw [e0]
  have hcl:=clone_pre ad cap list.length k list rfl (by omega) (by omega)
  have shut:∀ {S:Nat} {ad:Option Addr} {cap:Nat} {L:List HProp},Ent (bl S 395 (scV c (.slice ad k cap) ⟨who,seq,list.take k,0⟩)::Row (.slice ad k cap) 119 2 k ((list.take k).flatMap entV)::L) (ScE S c ⟨who,seq,list.take k,0⟩::L):=fun {S ad cap L}=>by
    have:=Ent.sc (S:=S) (c:=c) (s:=⟨who,seq,list.take k,0⟩) (ad:=ad) (cap:=cap) (L:=L)
    dsimp only at this
    rw [hkl] at this
    exact this
  have ek:(if c.cap<(list.length:Int) then c.cap else (list.length:Int)).toNat=k:=by split<;>omega
  rw [←ek] at hcl shut⊢
  refine Tri.of_body (vs:=[_,_,_,_]) Tryz.func275 rfl rfl fun w0 F=>?_
  refine St.rowLe fun hle=>?_
  repeat' (first|refine Ga ?_|(refine Gb ?_;intro b)|(refine Gd ?_;intro g cap rest hcap)|(refine Gc ?_;intro ad cap)|(refine St.draw (id:=1) [(0,1),(1,0),(2,0),(3,0),(4,0),(5,0),(6,1),(7,1),(8,0),(9,0),(10,2),(11,0),(12,2),(13,0)] [] mixed (by kernel_rfl) ?_)| refine Gl hcp ?_|(refine Gt hcl ?_;rintro _ _ ⟨ad2,cap2,rfl,rfl⟩)|(refine Gu hcl ?_;rintro _ _ ⟨ad2,cap2,rfl,rfl⟩;refine ⟨Ent.go, ?_⟩)|(refine Ge ?_ ?_<;>(intro h;try (exfalso;omega)))|fail)
  refine St.d1 Tryz.func275 ⟨_,⟨_,rfl,rfl⟩, ?_⟩
  refine Ent.trans ?_ (shut (ad:=ad2) (cap:=cap2))
  exact Ent.go
theorem sdone_r (S:Nat) (c:Cfg) (s:Sm) (hl:s.list.length≤1000000) (_hd:s.done≤1000010):RTri Tryz.prog 230 #[.pointer (some ⟨S,0,none⟩)] [ScE S c s] (.bool s.over):=by
  refine RTri.of_exact fun W0 hs=>?_
  obtain ⟨⟨lad,lcap⟩,hs⟩:=sat_ex hs
  have hH:=RdC.exact hs (ReadsC.here RdC.bl)
  refine Tri.of_body (vs:=[_]) Tryz.func230 rfl rfl fun w0 F=>?_
  repeat' (first|refine Ga ?_|(refine Gb ?_;intro b)|(refine Gd ?_;intro g cap rest hcap)|(refine Gc ?_;intro ad cap)|(refine St.draw (id:=1) [(0,0),(1,0),(2,0),(3,1),(4,0),(5,0),(6,0),(7,1),(8,0),(9,0),(10,0),(11,0)] [] mixed (by kernel_rfl) ?_)|(refine Ge ?_ ?_<;>(intro h;try (exfalso;omega)))|fail)
  (first|refine St.dn Tryz.func230 ⟨?_,rfl⟩ Ent.go|refine St.fl Tryz.func230 ⟨?_,rfl⟩ Ent.go)
  refine congrArg Value.bool ?_
  unfold Sm.over
  rw [decide_eq_decide]
  omega
set_option maxHeartbeats 1000000 in
theorem sask_r (S:Nat) (c:Cfg) (hc:Small c) (s:Sm) (hl:s.list.length≤1000000) (hd:s.done≤1000010):RTri Tryz.prog 348 #[.pointer (some ⟨S,0,none⟩)] [ScE S c s] (.tuple ⟨[.agg ⟨(s.ask c).1.v⟩, .bool (s.ask c).2]⟩):=by
  have hdo:=sdone_r S c s hl hd
  refine RTri.of_exact fun W0 hs=>?_
  have hdo:=hdo.of_read (p:=exact' W0) (fun k hk=>by rw [show k=hpOf W0 from hk];exact hs)
  obtain ⟨⟨lad,lcap⟩,hs⟩:=sat_ex hs
  have hH:=RdC.exact hs (ReadsC.here RdC.bl)
  have htk:=take_s c (.slice lad s.list.length lcap) s
  unfold Sm.over at hdo
  unfold Sm.ask
  by_cases h1:s.list.length+1<s.done
  · rw [if_pos h1]
    rw [decide_eq_true h1] at hdo
    unfold mop MOp.v
    refine Tri.of_body (vs:=[_]) Tryz.func348 rfl rfl fun w0 F=>?_
    repeat' (first|refine Ga ?_|(refine Gb ?_;intro b)|(refine Gd ?_;intro g cap rest hcap)|(refine Gc ?_;intro ad cap)|(refine St.draw (id:=5) [(0,0),(1,0),(2,0),(3,1),(4,0),(5,0),(6,0),(7,1),(8,0),(9,0),(10,0)] [] mixed (by kernel_rfl) ?_)|(refine St.draw (id:=6) [(0,0),(1,0),(2,0),(3,1),(4,0),(5,0),(6,0),(7,1),(8,0),(9,1),(10,2),(11,3)] [11] mixed (by kernel_rfl) ?_)|(refine St.drawT (id:=7) [(0,0),(1,0),(2,0),(3,1),(4,0),(5,0),(6,0),(7,1),(8,0),(9,0),(10,0),(11,1),(12,1),(13,0),(15,0),(19,0)] (.pick [(14,2)] (.pick [(16,2),(17,0),(18,0),(20,3),(21,0),(22,3)] .done (.pick [(20,3),(16,2),(17,0),(18,0),(21,0),(22,3)] .done .nope)) (.pick [(16,2),(17,0)] (.pick [(14,2),(18,0),(20,3),(21,0),(22,3)] .done (.pick [(20,3),(14,2),(18,0),(21,0),(22,3)] .done .nope)) (.pick [(20,3)] (.pick [(14,2),(16,2),(17,0),(18,0),(21,0),(22,3)] .done (.pick [(16,2),(17,0),(14,2),(18,0),(21,0),(22,3)] .done .nope)) .nope))) [20,22] mixed (by kernel_rfl) ?_)|(refine St.draw (id:=8) [(0,0),(1,0),(2,0),(3,1),(4,0),(5,0),(6,0),(7,1),(8,0),(9,0),(10,0)] [] mixed (by kernel_rfl) ?_)|(refine St.drawT (id:=9) [(0,0),(1,0),(2,0),(3,1),(4,0),(5,0),(6,0),(7,1),(8,1),(9,0),(10,0),(11,0),(16,0)] (.pick [(12,2),(13,0),(14,0),(15,0),(17,3),(18,0),(19,3)] .done (.pick [(17,3),(12,2),(13,0),(14,0),(15,0),(18,0),(19,3)] .done .nope)) [17,19] mixed (by kernel_rfl) ?_)|(refine St.drawT (id:=2) [(0,0),(1,0),(2,0),(3,1),(4,0),(5,0),(6,0),(7,1),(8,1),(9,0),(10,0),(11,0),(14,0)] (.pick [(12,2),(13,0),(15,3),(16,0),(17,3)] .done (.pick [(15,3),(12,2),(13,0),(16,0),(17,3)] .done .nope)) [15,17] mixed (by kernel_rfl) ?_)|apply StD.pick|exact StD.nope|refine Gl hdo ?_|(apply Zq;rfl;exact Ob;exact Ent.go)|(refine Ge ?_ ?_<;>(intro h;try (exfalso;omega)))|fail)
    all_goals refine St.d1 Tryz.func348 ⟨_,⟨rfl,rfl⟩,Ent.go⟩
  rw [if_neg h1]
  rw [decide_eq_false h1] at hdo
  by_cases h2:s.done<s.list.length
  · rw [if_pos h2]
    have hsw:=hs.swap
    obtain ⟨g,cap,rest,hv,hs2⟩:=sat_rowF (by omega) hsw
    injection hv with hv1 hv2 hv3
    subst hv1 hv3
    have hG:=RdC.exact hs2 (ReadsC.here RdC.bl)
    have ha:=at_r c hc 6 s.who s.done
    have e0:s.list.getD s.done (0,0)=s.list[s.done]:=by rw [List.getD_eq_getElem?_getD,List.getElem?_eq_getElem h2];rfl
    have hd2:DropN ((s.done:Int).toNat * 2) (s.list.flatMap entV++rest) (entV s.list[s.done]++((s.list.drop (s.done+1)).flatMap entV++rest)):=by
      rw [←List.append_assoc,Int.toNat_natCast];exact (DropN.flat entV_len h2).more rest
    rw [e0]
    have htke:TakeN 2 (entV s.list[s.done]++((s.list.drop (s.done+1)).flatMap entV++rest)) (entV s.list[s.done]):=TakeN.app (entV s.list[s.done]) _
    generalize s.list[s.done]=e at hd2 htke⊢
    obtain ⟨ek,ev⟩:=e
    have e1:((IntKind.u64.wrap ek).toNat:Int)=IntKind.u64.wrap ek:=Int.toNat_of_nonneg (u64_nn ek)
    unfold MOp.v
    dsimp only
    rw [e1]
    refine Tri.of_body (vs:=[_]) Tryz.func348 rfl rfl fun w0 F=>?_
    repeat' (first|refine Ga ?_|(refine Gb ?_;intro b)|(refine Gd ?_;intro g cap rest hcap)|(refine Gc ?_;intro ad cap)|(refine St.draw (id:=5) [(0,0),(1,0),(2,0),(3,1),(4,0),(5,0),(6,0),(7,1),(8,0),(9,0),(10,0)] [] mixed (by kernel_rfl) ?_)|(refine St.draw (id:=6) [(0,0),(1,0),(2,0),(3,1),(4,0),(5,0),(6,0),(7,1),(8,0),(9,1),(10,2),(11,3)] [11] mixed (by kernel_rfl) ?_)|(refine St.drawT (id:=7) [(0,0),(1,0),(2,0),(3,1),(4,0),(5,0),(6,0),(7,1),(8,0),(9,0),(10,0),(11,1),(12,1),(13,0),(15,0),(19,0)] (.pick [(14,2)] (.pick [(16,2),(17,0),(18,0),(20,3),(21,0),(22,3)] .done (.pick [(20,3),(16,2),(17,0),(18,0),(21,0),(22,3)] .done .nope)) (.pick [(16,2),(17,0)] (.pick [(14,2),(18,0),(20,3),(21,0),(22,3)] .done (.pick [(20,3),(14,2),(18,0),(21,0),(22,3)] .done .nope)) (.pick [(20,3)] (.pick [(14,2),(16,2),(17,0),(18,0),(21,0),(22,3)] .done (.pick [(16,2),(17,0),(14,2),(18,0),(21,0),(22,3)] .done .nope)) .nope))) [20,22] mixed (by kernel_rfl) ?_)|(refine St.draw (id:=8) [(0,0),(1,0),(2,0),(3,1),(4,0),(5,0),(6,0),(7,1),(8,0),(9,0),(10,0)] [] mixed (by kernel_rfl) ?_)|(refine St.drawT (id:=9) [(0,0),(1,0),(2,0),(3,1),(4,0),(5,0),(6,0),(7,1),(8,1),(9,0),(10,0),(11,0),(16,0)] (.pick [(12,2),(13,0),(14,0),(15,0),(17,3),(18,0),(19,3)] .done (.pick [(17,3),(12,2),(13,0),(14,0),(15,0),(18,0),(19,3)] .done .nope)) [17,19] mixed (by kernel_rfl) ?_)|(refine St.drawT (id:=2) [(0,0),(1,0),(2,0),(3,1),(4,0),(5,0),(6,0),(7,1),(8,1),(9,0),(10,0),(11,0),(14,0)] (.pick [(12,2),(13,0),(15,3),(16,0),(17,3)] .done (.pick [(15,3),(12,2),(13,0),(16,0),(17,3)] .done .nope)) [15,17] mixed (by kernel_rfl) ?_)|apply StD.pick|exact StD.nope|refine Gl hdo ?_|refine Gl ha ?_|(apply Zq;rfl;exact Ob;exact Ent.go)|(refine Ge ?_ ?_<;>(intro h;try (exfalso;omega)))|fail)
    all_goals refine St.d1 Tryz.func348 ⟨_,⟨rfl,rfl⟩,Ent.go⟩
  rw [if_neg h2]
  by_cases h3:s.done=s.list.length
  · rw [if_pos h3]
    have ha:=at_r c hc 5 s.who 0
    unfold MOp.v
    refine Tri.of_body (vs:=[_]) Tryz.func348 rfl rfl fun w0 F=>?_
    repeat' (first|refine Ga ?_|(refine Gb ?_;intro b)|(refine Gd ?_;intro g cap rest hcap)|(refine Gc ?_;intro ad cap)|(refine St.draw (id:=5) [(0,0),(1,0),(2,0),(3,1),(4,0),(5,0),(6,0),(7,1),(8,0),(9,0),(10,0)] [] mixed (by kernel_rfl) ?_)|(refine St.draw (id:=6) [(0,0),(1,0),(2,0),(3,1),(4,0),(5,0),(6,0),(7,1),(8,0),(9,1),(10,2),(11,3)] [11] mixed (by kernel_rfl) ?_)|(refine St.drawT (id:=7) [(0,0),(1,0),(2,0),(3,1),(4,0),(5,0),(6,0),(7,1),(8,0),(9,0),(10,0),(11,1),(12,1),(13,0),(15,0),(19,0)] (.pick [(14,2)] (.pick [(16,2),(17,0),(18,0),(20,3),(21,0),(22,3)] .done (.pick [(20,3),(16,2),(17,0),(18,0),(21,0),(22,3)] .done .nope)) (.pick [(16,2),(17,0)] (.pick [(14,2),(18,0),(20,3),(21,0),(22,3)] .done (.pick [(20,3),(14,2),(18,0),(21,0),(22,3)] .done .nope)) (.pick [(20,3)] (.pick [(14,2),(16,2),(17,0),(18,0),(21,0),(22,3)] .done (.pick [(16,2),(17,0),(14,2),(18,0),(21,0),(22,3)] .done .nope)) .nope))) [20,22] mixed (by kernel_rfl) ?_)|(refine St.draw (id:=8) [(0,0),(1,0),(2,0),(3,1),(4,0),(5,0),(6,0),(7,1),(8,0),(9,0),(10,0)] [] mixed (by kernel_rfl) ?_)|(refine St.drawT (id:=9) [(0,0),(1,0),(2,0),(3,1),(4,0),(5,0),(6,0),(7,1),(8,1),(9,0),(10,0),(11,0),(16,0)] (.pick [(12,2),(13,0),(14,0),(15,0),(17,3),(18,0),(19,3)] .done (.pick [(17,3),(12,2),(13,0),(14,0),(15,0),(18,0),(19,3)] .done .nope)) [17,19] mixed (by kernel_rfl) ?_)|(refine St.drawT (id:=2) [(0,0),(1,0),(2,0),(3,1),(4,0),(5,0),(6,0),(7,1),(8,1),(9,0),(10,0),(11,0),(14,0)] (.pick [(12,2),(13,0),(15,3),(16,0),(17,3)] .done (.pick [(15,3),(12,2),(13,0),(16,0),(17,3)] .done .nope)) [15,17] mixed (by kernel_rfl) ?_)|apply StD.pick|exact StD.nope|refine Gl hdo ?_|refine Gl ha ?_|(apply Zq;rfl;exact Ob;exact Ent.go)|(refine Ge ?_ ?_<;>(intro h;try (exfalso;omega)))|fail)
    all_goals first|(exfalso;omega)|skip
    all_goals refine St.d1 Tryz.func348 ⟨_,⟨rfl,rfl⟩,Ent.go⟩
  · rw [if_neg h3]
    have ha:=at_r c hc 4 s.who 0
    unfold MOp.v
    refine Tri.of_body (vs:=[_]) Tryz.func348 rfl rfl fun w0 F=>?_
    repeat' (first|refine Ga ?_|(refine Gb ?_;intro b)|(refine Gd ?_;intro g cap rest hcap)|(refine Gc ?_;intro ad cap)|(refine St.draw (id:=5) [(0,0),(1,0),(2,0),(3,1),(4,0),(5,0),(6,0),(7,1),(8,0),(9,0),(10,0)] [] mixed (by kernel_rfl) ?_)|(refine St.draw (id:=6) [(0,0),(1,0),(2,0),(3,1),(4,0),(5,0),(6,0),(7,1),(8,0),(9,1),(10,2),(11,3)] [11] mixed (by kernel_rfl) ?_)|(refine St.drawT (id:=7) [(0,0),(1,0),(2,0),(3,1),(4,0),(5,0),(6,0),(7,1),(8,0),(9,0),(10,0),(11,1),(12,1),(13,0),(15,0),(19,0)] (.pick [(14,2)] (.pick [(16,2),(17,0),(18,0),(20,3),(21,0),(22,3)] .done (.pick [(20,3),(16,2),(17,0),(18,0),(21,0),(22,3)] .done .nope)) (.pick [(16,2),(17,0)] (.pick [(14,2),(18,0),(20,3),(21,0),(22,3)] .done (.pick [(20,3),(14,2),(18,0),(21,0),(22,3)] .done .nope)) (.pick [(20,3)] (.pick [(14,2),(16,2),(17,0),(18,0),(21,0),(22,3)] .done (.pick [(16,2),(17,0),(14,2),(18,0),(21,0),(22,3)] .done .nope)) .nope))) [20,22] mixed (by kernel_rfl) ?_)|(refine St.draw (id:=8) [(0,0),(1,0),(2,0),(3,1),(4,0),(5,0),(6,0),(7,1),(8,0),(9,0),(10,0)] [] mixed (by kernel_rfl) ?_)|(refine St.drawT (id:=9) [(0,0),(1,0),(2,0),(3,1),(4,0),(5,0),(6,0),(7,1),(8,1),(9,0),(10,0),(11,0),(16,0)] (.pick [(12,2),(13,0),(14,0),(15,0),(17,3),(18,0),(19,3)] .done (.pick [(17,3),(12,2),(13,0),(14,0),(15,0),(18,0),(19,3)] .done .nope)) [17,19] mixed (by kernel_rfl) ?_)|(refine St.drawT (id:=2) [(0,0),(1,0),(2,0),(3,1),(4,0),(5,0),(6,0),(7,1),(8,1),(9,0),(10,0),(11,0),(14,0)] (.pick [(12,2),(13,0),(15,3),(16,0),(17,3)] .done (.pick [(15,3),(12,2),(13,0),(16,0),(17,3)] .done .nope)) [15,17] mixed (by kernel_rfl) ?_)|apply StD.pick|exact StD.nope|refine Gl hdo ?_|refine Gl ha ?_|(apply Zq;rfl;exact Ob;exact Ent.go)|(refine Ge ?_ ?_<;>(intro h;try (exfalso;omega)))|fail)
    all_goals first|(exfalso;omega)|skip
    all_goals refine St.d1 Tryz.func348 ⟨_,⟨rfl,rfl⟩,Ent.go⟩
theorem stell_t (S:Nat) (c:Cfg) (s:Sm) (hl:s.list.length≤1000000) (hd:s.done≤1000010) (o:Out):Tri Tryz.prog 349 #[.pointer (some ⟨S,0,none⟩), .agg ⟨o.v⟩] [ScE S c s] fun r L=>r=.tuple ⟨[]⟩∧L=[ScE S c s.tell]:=by
  have hdo:=sdone_r S c s hl hd
  refine Tri.ex_out ?_
  rintro ⟨lad,lcap⟩
  have hdo:=hdo.ent (M:=scL S c s (lad,lcap)) Ent.sc
  unfold scL at hdo⊢
  unfold Sm.over at hdo
  unfold Sm.tell
  dsimp only at hdo⊢
  by_cases h1:s.list.length+1<s.done
  · rw [if_pos h1]
    rw [decide_eq_true h1] at hdo
    refine Tri.of_body (vs:=[_,_]) Tryz.func349 rfl rfl fun w0 F=>?_
    repeat' (first|refine Ga ?_|(refine Gb ?_;intro b)|(refine Gd ?_;intro g cap rest hcap)|(refine Gc ?_;intro ad cap)|refine Gl hdo ?_|(refine Ge ?_ ?_<;>(intro h;try (exfalso;omega)))|fail)
    refine St.f1 Tryz.func349 ⟨_,⟨rfl,rfl⟩, ?_⟩
    exact Ent.trans Ent.go (Ent.sc (ad:=lad) (cap:=lcap) (s:=s))
  · rw [if_neg h1]
    rw [decide_eq_false h1] at hdo
    refine Tri.of_body (vs:=[_,_]) Tryz.func349 rfl rfl fun w0 F=>?_
    repeat' (first|refine Ga ?_|(refine Gb ?_;intro b)|(refine Gd ?_;intro g cap rest hcap)|(refine Gc ?_;intro ad cap)|refine Gl hdo ?_|(refine Ge ?_ ?_<;>(intro h;try (exfalso;omega)))|fail)
    refine St.f1 Tryz.func349 ⟨_,⟨rfl,rfl⟩, ?_⟩
    exact Ent.trans Ent.go (Ent.sc (ad:=lad) (cap:=lcap) (s:={ s with done:=s.done+1 }))
end Go.Proofs.YthmbgodcpgkkeaaGreat
end
