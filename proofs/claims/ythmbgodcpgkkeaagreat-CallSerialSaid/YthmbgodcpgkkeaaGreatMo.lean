/-
  Package model: a state; New, Root, Block, Clone.
-/
import Derived.Test.YthmbgodcpgkkeaaGreatExc
import Derived.Test.YthmbgodcpgkkeaaGreatInsc
namespace Go.Proofs.YthmbgodcpgkkeaaGreat
theorem OpOk.mclone {P:Program} {n':Fi} {E:Env} {L:List HProp} {ty:TypeId} {g:FuncId} {fn:Func} {u:TypeId} {x:Operand} {ats:Array TypeId} {b:Nat} {κ β:Type} {enc:κ→Value} {f:β→Value} {m:List (κ×β)} {L1:List HProp} (hf:P.funcs[g]? = some fn) (h1:(fn.name == "runtime.NumGoroutine")=false) (h2:fn.body.isNone=true) (h3:Extern.findNext fn=none)
    (h4:Extern.find fn=some Extern.MapsClone.clone) (hx:ev E x=some (.iface u (.map (some b)))) (ht:Take (Mp b enc f m) L L1) :
    OpOk P n' (.call { callee:=.value (.func g),args:=⟨[x]⟩,argTypes:=ats }) ty E L (fun v L'=>∃ c,v=.iface u (.map (some c))∧L'=Mp c enc f m::Mp b enc f m::L1):=by
  unfold OpOk
  intro d ps af gd a w ha X hs
  have hs1:=(ht.app X).sat hs
  obtain ⟨es,ck,hmi,hs2⟩:=Mp.open hs1
  have hb:w.heap[b]? = some (.map ⟨es⟩ ck):=(Reads.here Rd.pt).sat hs2
  have e1:=run_callFunc_extern (P:=P) hf h1 h2 h3 (e:=Extern.MapsClone.clone) h4
  have e2:(Extern.MapsClone.clone #[.iface u (.map (some b))]).run P w=.ok (.iface u (.map (some w.heap.size))) (w.alloc (.map ⟨es⟩ ck)):=by
    have e:Extern.MapsClone.clone #[.iface u (.map (some b))]=(getObj b >>= fun o=>match o with
      | .map entries clock=>(newObj (.map entries clock) >>= fun n=>pure (.iface u (.map (some n))))
      | _=>stuck "maps.clone: a map expected"):=rfl
    rw [e]
    simp [getObj,newObj,Sem.run,hb]
  have e3:=e1 #[.iface u (.map (some b))] w
  rw [e2] at e3
  refine ⟨.iface u (.map (some w.heap.size)),w.alloc (.map ⟨es⟩ ck),Mp w.heap.size enc f m::Mp b enc f m::L1, .inl ?_,⟨_,rfl,rfl⟩,Mp.shut hmi (sat_alloc hs1 _),⟨rfl,rfl,rfl⟩⟩
  have e4:a.eval x=.iface u (.map (some b)):=ha.ev hx
  have e5:a.eval (.func g)=.func (.func g) #[] #[]:=rfl
  simp [execOp,resolve,invoke,Deferred.ofValue,e4,e5,e3]
set_option maxRecDepth 100000
def zero8:List Nat:=[0,0,0,0,0,0,0,0]
def aggL (l:List Nat):Value:=.agg ⟨u64s l⟩
abbrev u64K:Int→Value:=Value.int .u64
instance mapBlocks:MapTy Tryz.prog 248 Int (List Nat) u64K aggL zero8:=MapTy.int (kt:=22) (et:=257) (by kernel_rfl) (by kernel_rfl) (fun w=>by rfl)
theorem eight_of {α:Type} {l:List α} (h:l.length=8):∃ x0 x1 x2 x3 x4 x5 x6 x7,l=[x0,x1,x2,x3,x4,x5,x6,x7]:=by
  match l,h with
  | [x0,x1,x2,x3,x4,x5,x6,x7],_=>exact ⟨_,_,_,_,_,_,_,_,rfl⟩
theorem mget_mem {κ β:Type} [DecidableEq κ] {k:κ} {x:β}:∀ {m:List (κ×β)},mget m k=some x→(k,x)∈m
  | [],h=>by cases h
  | (y,z)::m,h=>by
    unfold mget at h
    split at h
    · injection h with h;subst h;subst y;simp
    · exact List.mem_cons_of_mem _ (mget_mem h)
structure Ms where
  roots:List Nat
  blocks:List (Int×List Nat)
structure MsOk (m:Ms):Prop where
  r:m.roots.length=16
  b:∀ p∈m.blocks,p.2.length=8
def stV (roots:List Nat) (mb:Nat):List Value:=g16 roots++[.map (some mb)]
def msL (S:Nat) (m:Ms) (mb:Nat):List HProp:=[bl S 250 (stV m.roots mb),Mp mb u64K aggL m.blocks]
def MsE (S:Nat) (m:Ms):HProp:=ex (msL S m)
theorem Ent.ms {S mb:Nat} {m:Ms} {L:List HProp}:Ent (bl S 250 (stV m.roots mb)::Mp mb u64K aggL m.blocks::L) (MsE S m::L):=Ent.ex_in (Ls:=msL S m) mb
theorem g16_at {l:List Nat} (rest:List Value) {a:Int} (h0:0≤a) (h1:a<16):NthN (0+0+a.toNat * 1) (g16 l++rest) (.int .u64 ((l.getD a.toNat 0:Nat):Int)):=by
  have h:a=0∨a=1∨a=2∨a=3∨a=4∨a=5∨a=6∨a=7∨a=8∨a=9∨a=10∨a=11∨a=12∨a=13∨a=14∨a=15:=by omega
  rcases h with rfl|rfl|rfl|rfl|rfl|rfl|rfl|rfl|rfl|rfl|rfl|rfl|rfl|rfl|rfl|rfl<;>exact NthN.of rfl
def ms0:Ms:=⟨[0,0,0,0,0,0,0,0,0,0,0,0,0,0,0,0],[]⟩
theorem mnew_t:Tri Tryz.prog 55 #[] [] fun v L=>∃ S,v=.pointer (some ⟨S,0,none⟩)∧L=[MsE S ms0]:=by
  refine Tri.of_body (vs:=[]) Tryz.func55 rfl rfl fun w0 F=>?_
  repeat' (first|refine Ga ?_|(refine Gb ?_;intro b)|(refine Gd ?_;intro g cap rest hcap)|(refine Gc ?_;intro ad cap) |(refine Ge ?_ ?_<;>(intro h;try (exfalso;omega)))|fail)
  rename_i mb
  refine St.d1 Tryz.func55 ⟨_,⟨b,rfl,rfl⟩,Ent.trans ?_ (Ent.ms (mb:=mb))⟩
  exact Ent.go
theorem OpV.eqM0 {P:Program} {n':Fi} {E:Env} {L:List HProp} {ty:TypeId} {t t' kt et:Nat} {x y:Operand} {b:Nat} [hu:Und P t (.map kt et)] (hx:ev E x=some (.map (some b))) (hy:ev E y=some (.map none)):OpV P n' (.binOp .eql t x y t') ty E L (.bool false):=by
  unfold OpV
  exact (fun _ _ _ _ a w ha _=>by
    have h0:∀ d,(Op.equalIn (d+1) t (.map (some b)) (.map none)).run P w=.ok false w:=fun d=>by simp [Op.equalIn,run_underlying hu.h]
    have h1:=h0 9999
    simp only [execOp,ha.ev hx,ha.ev hy,Sem.run_bind,eqGuard,binOp,Op.equal,Op.maxDepth]
    simp [h1])
set_option maxHeartbeats 1000000 in
theorem mapsClone_t (mb:Nat) (m:List (Int×List Nat)):Tri Tryz.prog 206 #[.map (some mb)] [Mp mb u64K aggL m] fun v L=>∃ c,v=.map (some c)∧L=[Mp c u64K aggL m,Mp mb u64K aggL m]:=by
  refine Tri.of_body (vs:=[_]) Tryz.func206 rfl rfl fun w0 F=>?_
  repeat' (first|refine Ga ?_|(refine Gb ?_;intro b)|(refine Gd ?_;intro g cap rest hcap)|(refine Gc ?_;intro ad cap) |(refine Ge ?_ ?_<;>(intro h;try (exfalso;omega)))|fail)
  (apply StL.v;(apply OpV.eqM0;rfl;rfl);rfl)
  repeat' (first|refine Ga ?_|(refine Gb ?_;intro b)|(refine Gd ?_;intro g cap rest hcap)|(refine Gc ?_;intro ad cap) |(refine Ge ?_ ?_<;>(intro h;try (exfalso;omega)))|fail)
  (apply StL.ok;(apply OpOk.mclone (fn:=Tryz.f268) Tryz.func268 (by kernel_rfl) rfl (by kernel_rfl) (by kernel_rfl) rfl Take.go);rfl;rintro _ _ ⟨c,rfl,rfl⟩)
  repeat' (first|refine Ga ?_|(refine Gb ?_;intro b)|(refine Gd ?_;intro g cap rest hcap)|(refine Gc ?_;intro ad cap) |(refine Ge ?_ ?_<;>(intro h;try (exfalso;omega)))|fail)
  refine St.d1 Tryz.func206 ⟨_,⟨c,rfl,rfl⟩,Ent.go⟩
theorem mclone_t (S:Nat) (m:Ms):Tri Tryz.prog 144 #[.pointer (some ⟨S,0,none⟩)] [MsE S m] fun v L=>∃ S',v=.pointer (some ⟨S',0,none⟩)∧L=[MsE S' m,MsE S m]:=by
  refine Tri.ex_out fun mb=>?_
  unfold msL
  have hc:=mapsClone_t mb m.blocks
  have htk:TakeN 16 (stV m.roots mb) (g16 m.roots):=TakeN.app (g16 m.roots) _
  have hdr:DropN (0+0) (stV m.roots mb) (stV m.roots mb):=.zero
  have hgl:(g16 m.roots).length=16:=rfl
  refine Tri.of_body (vs:=[_]) Tryz.func144 rfl rfl fun w0 F=>?_
  repeat' (first|refine Ga ?_|(refine Gb ?_;intro b)|(refine Gd ?_;intro g cap rest hcap)|(refine Gc ?_;intro ad cap)|(refine St.draw (id:=1) [(0,0),(1,0),(2,0),(3,1),(4,0),(5,0),(6,0),(7,1),(8,2),(9,0),(10,2),(11,0)] [] mixed (by kernel_rfl) ?_)|(refine Gt hc ?_;rintro _ _ ⟨c,rfl,rfl⟩)|(refine Gu hc ?_;rintro _ _ ⟨c,rfl,rfl⟩;refine ⟨Ent.go, ?_⟩)|(refine Ge ?_ ?_<;>(intro h;try (exfalso;omega)))|fail)
  refine St.d1 Tryz.func144 ⟨_,⟨b,rfl,rfl⟩, ?_⟩
  refine Ent.trans ?_ (Ent.ms (S:=b) (mb:=c) (m:=m) (L:=MsE S m::F))
  refine Ent.trans ?_ (Ent.cons (Ent.cons (Ent.ms (S:=S) (mb:=mb) (m:=m) (L:=F))))
  exact Ent.go
end Go.Proofs.YthmbgodcpgkkeaaGreat
