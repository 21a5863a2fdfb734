/-
  A small separation logic over the model's machine: heap assertions, frames of slots, one rule an operation. Generic over the program.
-/
import Derived.Tactics
import Derived.Orders
import Derived.Below
import Derived.Laws.Entries
import Derived.Laws.Cells
import Derived.Laws.CopyRow
import Derived.Laws.Tables
import Derived.Laws.StructEq
import Derived.IntWalk
import Derived.Laws.Strings
import Derived.Maps.AppendAt
import Derived.Laws.MakeOwn
import Derived.RangeFuncRecord
import Derived.RangeFuncSeq
import Derived.TacticsIn
import Derived.Laws.Externs
namespace Go.Proofs.YthmbgodcpgkkeaaGreat
abbrev Hp:=Nat→Option Obj
def Disj (h k:Hp):Prop:=∀ b,h b=none∨k b=none
abbrev HProp:=Hp→Prop
def Sat:List HProp→Hp→Prop
  | [],_=>True
  | p::L,h=>∃ h1 h2:Hp,Disj h1 h2∧(∀ b,h b=(h1 b).or (h2 b))∧p h1∧Sat L h2
theorem sat_cons {p:HProp} {L:List HProp} {h:Hp}:Sat (p::L) h↔∃ h1 h2:Hp,Disj h1 h2∧(∀ b,h b=(h1 b).or (h2 b))∧p h1∧Sat L h2:=Iff.rfl
def pt (b:Nat) (o:Obj):HProp:=fun h=>∀ x,h x=if x=b then some o else none
def hpOf (w:World):Hp:=fun b=>w.heap[b]?
def upd (h:Hp) (b:Nat) (o:Obj):Hp:=fun x=>if x=b then some o else h x
theorem or_none' {α:Type} (x:Option α):x.or none=x:=by cases x<;>rfl
theorem Sat.mono {L:List HProp}:∀ {h k:Hp},Sat L h→(∀ b o,h b=some o→k b=some o)→Sat L k:=by
  induction L with
  | nil=>intro h k _ _;trivial
  | cons p L ih =>
    rintro h k ⟨h1,h2,hd,hu,hp,hL⟩ hk
    refine ⟨h1,fun b=>if (h1 b).isSome then none else k b, ?_, ?_,hp, ?_⟩
    · intro b
      cases e:h1 b with
      | none=>exact .inl rfl
      | some o=>exact .inr (by simp [e])
    · intro b
      cases e:h1 b with
      | none=>simp [e]
      | some o =>
        have h3:h b=some o:=by rw [hu b,e];rfl
        simp [hk b o h3]
    · refine ih hL fun b o hb=>?_
      have h1n:h1 b=none:=(hd b).resolve_right (by rw [hb];simp)
      have h3:h b=some o:=by rw [hu b,h1n,hb];rfl
      simp [h1n,hk b o h3]
theorem Sat.congr {L:List HProp} {h k:Hp} (hs:Sat L h) (e:∀ b,k b=h b):Sat L k:=hs.mono fun b o hb=>by rw [e b,hb]
theorem Sat.tail {p:HProp} {L:List HProp} {h:Hp} (hs:Sat (p::L) h):Sat L h:=by
  obtain ⟨h1,h2,hd,hu,_,hL⟩:=hs
  exact hL.mono fun b o hb=>by
    have h1n:h1 b=none:=(hd b).resolve_right (by rw [hb];simp)
    rw [hu b,h1n,hb];rfl
theorem Sat.swap {p q:HProp} {L:List HProp} {h:Hp} (hs:Sat (p::q::L) h):Sat (q::p::L) h:=by
  obtain ⟨h1,h2,hd,hu,hp,k1,k2,kd,ku,hq,hL⟩:=hs
  refine ⟨k1,fun b=>(h1 b).or (k2 b), ?_, ?_,hq,h1,k2, ?_,fun _=>rfl,hp,hL⟩
  · intro b
    have a:=hd b;have c:=kd b;have d:=ku b
    cases e1:h1 b<;>cases e2:k1 b<;>cases e3:k2 b<;>simp_all
  · intro b
    have a:=hd b;have c:=kd b;have d:=ku b;have u:=hu b
    cases e1:h1 b<;>cases e2:k1 b<;>cases e3:k2 b<;>simp_all
  · intro b
    have a:=hd b;have c:=kd b;have d:=ku b
    cases e1:h1 b<;>cases e2:k1 b<;>cases e3:k2 b<;>simp_all
theorem Sat.cons_mono {p:HProp} {L M:List HProp} {h:Hp} (hs:Sat (p::L) h) (hm:∀ k,Sat L k→Sat M k):Sat (p::M) h:=by
  obtain ⟨h1,h2,hd,hu,hp,hL⟩:=hs
  exact ⟨h1,h2,hd,hu,hp,hm _ hL⟩
def Ent (L M:List HProp):Prop:=∀ h,Sat L h→Sat M h
inductive Take:HProp→List HProp→List HProp→Prop
  | here {p:HProp} {L:List HProp}:Take p (p::L) L
  | there {p q:HProp} {L L':List HProp}:Take p L L'→Take p (q::L) (q::L')
theorem Take.sat {p:HProp} {L L':List HProp} (t:Take p L L'):∀ {h:Hp},Sat L h→Sat (p::L') h:=by
  induction t with
  | here=>exact id
  | there _ ih=>exact fun hs=>(hs.cons_mono fun _=>ih).swap
theorem Ent.refl (L:List HProp):Ent L L:=fun _ h=>h
theorem Ent.trans {L M N:List HProp} (a:Ent L M) (b:Ent M N):Ent L N:=fun _ h=>b _ (a _ h)
theorem Ent.nil (L:List HProp):Ent L []:=fun _ _=>trivial
theorem Ent.drop {p:HProp} {L M:List HProp} (a:Ent L M):Ent (p::L) M:=fun _ h=>a _ h.tail
theorem Ent.take {p:HProp} {L L' M:List HProp} (t:Take p L L') (a:Ent L' M):Ent L (p::M):=fun _ h=>(t.sat h).cons_mono a
theorem Ent.cons {p:HProp} {L M:List HProp} (a:Ent L M):Ent (p::L) (p::M):=fun _ h=>h.cons_mono a
theorem Ent.of_take {p:HProp} {L L':List HProp} (t:Take p L L'):Ent L (p::L'):=fun _ h=>t.sat h
theorem Ent.head {p q:HProp} {L:List HProp} (a:∀ h,p h→q h):Ent (p::L) (q::L):=by
  rintro h ⟨h1,h2,hd,hu,hp,hL⟩
  exact ⟨h1,h2,hd,hu,a _ hp,hL⟩
theorem Sat.app_split {N:List HProp}:∀ (L:List HProp) (h:Hp),Sat (L++N) h→∃ h1 h2,Disj h1 h2∧(∀ b,h b=(h1 b).or (h2 b))∧Sat L h1∧Sat N h2:=by
  intro L
  induction L with
  | nil=>intro h hs;exact ⟨fun _=>none,h,fun _=>.inl rfl,fun _=>by simp,trivial,hs⟩
  | cons p L ih =>
    rintro h ⟨h1,h2,hd,hu,hp,hL⟩
    obtain ⟨k1,k2,kd,ku,s1,s2⟩:=ih h2 hL
    refine ⟨fun b=>(h1 b).or (k1 b),k2, ?_, ?_,⟨h1,k1, ?_,fun _=>rfl,hp,s1⟩,s2⟩
    · intro b
      have a:=hd b;have c:=kd b;have d:=ku b
      cases e1:h1 b<;>cases e2:k1 b<;>cases e3:k2 b<;>simp_all
    · intro b
      have a:=hd b;have c:=kd b;have d:=ku b;have u:=hu b
      cases e1:h1 b<;>cases e2:k1 b<;>cases e3:k2 b<;>simp_all
    · intro b
      have a:=hd b;have c:=kd b;have d:=ku b
      cases e1:h1 b<;>cases e2:k1 b<;>cases e3:k2 b<;>simp_all
theorem Sat.app_join {N:List HProp}:∀ (M:List HProp) (h h1 h2:Hp),Disj h1 h2→(∀ b,h b=(h1 b).or (h2 b))→Sat M h1→Sat N h2→Sat (M++N) h:=by
  intro M
  induction M with
  | nil =>
    intro h h1 h2 hd hu _ s2
    exact s2.mono fun b o hb=>by
      have h1n:h1 b=none:=(hd b).resolve_right (by rw [hb];simp)
      rw [hu b,h1n,hb];rfl
  | cons p M ih =>
    rintro h h1 h2 hd hu ⟨k1,k2,kd,ku,hp,s1⟩ s2
    refine ⟨k1,fun b=>(k2 b).or (h2 b), ?_, ?_,hp,ih _ k2 h2 ?_ (fun _=>rfl) s1 s2⟩
    · intro b
      have a:=hd b;have c:=kd b;have d:=ku b
      cases e1:h2 b<;>cases e2:k1 b<;>cases e3:k2 b<;>simp_all
    · intro b
      have a:=hd b;have c:=kd b;have d:=ku b;have u:=hu b
      cases e1:h2 b<;>cases e2:k1 b<;>cases e3:k2 b<;>simp_all
    · intro b
      have a:=hd b;have c:=kd b;have d:=ku b
      cases e1:h2 b<;>cases e2:k1 b<;>cases e3:k2 b<;>simp_all
theorem Ent.app {L M N:List HProp} (a:Ent L M):Ent (L++N) (M++N):=by
  intro h hs
  obtain ⟨h1,h2,hd,hu,s1,s2⟩:=Sat.app_split L h hs
  exact Sat.app_join M h h1 h2 hd hu (a _ s1) s2
theorem Sat.head_of {L N:List HProp} {h:Hp} (hs:Sat (L++N) h):Sat L h:=by
  obtain ⟨h1,h2,hd,hu,s1,_⟩:=Sat.app_split L h hs
  exact s1.mono fun b o hb=>by rw [hu b,hb];rfl
def Rd (p:HProp) (b:Nat) (o:Obj):Prop:=∀ h,p h→h b=some o
theorem Rd.pt {b:Nat} {o:Obj}:Rd (pt b o) b o:=fun h hp=>by simp [hp b]
inductive Reads:List HProp→Nat→Obj→Prop
  | here {p:HProp} {L:List HProp} {b:Nat} {o:Obj}:Rd p b o→Reads (p::L) b o
  | there {p:HProp} {L:List HProp} {b:Nat} {o:Obj}:Reads L b o→Reads (p::L) b o
theorem Reads.sat {L:List HProp} {b:Nat} {o:Obj} (r:Reads L b o):∀ {h:Hp},Sat L h→h b=some o:=by
  induction r with
  | here hr=>rintro h ⟨h1,h2,hd,hu,hp,_⟩;rw [hu,hr _ hp];rfl
  | there _ ih=>exact fun hs=>ih hs.tail
inductive Turn (b:Nat) (o o':Obj):List HProp→List HProp→Prop
  | here {L:List HProp}:Turn b o o' (pt b o::L) (pt b o'::L)
  | there {p:HProp} {L L':List HProp}:Turn b o o' L L'→Turn b o o' (p::L) (p::L')
theorem Turn.look {b:Nat} {o o':Obj} {L L':List HProp} (t:Turn b o o' L L'):∀ {h:Hp},Sat L h→h b=some o:=by
  induction t with
  | here=>intro h hs;exact (Reads.here Rd.pt).sat hs
  | there _ ih=>exact fun hs=>ih hs.tail
theorem Turn.sat {b:Nat} {o o':Obj} {L L':List HProp} (t:Turn b o o' L L'):∀ {h:Hp},Sat L h→Sat L' (upd h b o'):=by
  induction t with
  | here =>
    rintro h ⟨h1,h2,hd,hu,hp,hL⟩
    refine ⟨upd h1 b o',h2, ?_, ?_, ?_,hL⟩
    · intro x
      by_cases e:x=b
      · subst e
        exact .inr ((hd x).resolve_left (by rw [hp x];simp))
      · have:=hd x;simpa [upd,e] using this
    · intro x
      by_cases e:x=b
      · simp [upd,e]
      · simpa [upd,e] using hu x
    · intro x
      by_cases e:x=b
      · simp [upd,e]
      · have:=hp x;simp [e] at this;simp [upd,e,this]
  | there t ih =>
    rintro h ⟨h1,h2,hd,hu,hp,hL⟩
    have hb:=t.look hL
    refine ⟨h1,upd h2 b o', ?_, ?_,hp,ih hL⟩
    · intro x
      by_cases e:x=b
      · subst e
        exact .inl ((hd x).resolve_right (by rw [hb];simp))
      · have:=hd x;simpa [upd,e] using this
    · intro x
      by_cases e:x=b
      · subst e
        have hn:h1 x=none:=(hd x).resolve_right (by rw [hb];simp)
        simp [upd,hn]
      · simpa [upd,e] using hu x
theorem Sat.new {L:List HProp} {h:Hp} {b:Nat} (o:Obj) (hs:Sat L h) (hb:h b=none):Sat (pt b o::L) (upd h b o):=by
  refine ⟨fun x=>if x=b then some o else none,h, ?_, ?_,fun _=>rfl,hs⟩
  · intro x
    by_cases e:x=b
    · subst e;exact .inr hb
    · exact .inl (by simp [e])
  · intro x
    by_cases e:x=b<;>simp [upd,e]
def bl (b:Nat) (t:TypeId) (l:List Value):HProp:=pt b (.cells ⟨l⟩ t (0,0))
structure Old (w w':World):Prop where
  os:w'.os=w.os
  tape:w'.tape=w.tape
  output:w'.output=w.output
theorem Old.refl (w:World):Old w w:=⟨rfl,rfl,rfl⟩
theorem Old.trans {a b c:World} (h:Old a b) (k:Old b c):Old a c:=⟨k.os.trans h.os,k.tape.trans h.tape,k.output.trans h.output⟩
theorem hpOf_alloc (w:World) (o:Obj):∀ b,hpOf (w.alloc o) b=upd (hpOf w) w.heap.size o b:=by
  intro b
  show (w.heap.push o)[b]? = _
  rw [Array.getElem?_push]
  by_cases e:b=w.heap.size<;>simp [upd,hpOf,e]
theorem hpOf_new (w:World):hpOf w w.heap.size=none:=by simp [hpOf]
theorem sat_alloc {L:List HProp} {w:World} (hs:Sat L (hpOf w)) (o:Obj):Sat (pt w.heap.size o::L) (hpOf (w.alloc o)) :=
  (hs.new o (hpOf_new w)).congr (hpOf_alloc w o)
theorem hpOf_setCell {w:World} {b off:Nat} {cs:Array Value} {t:TypeId} {fz:Nat×Nat} (v:Value) (h:hpOf w b=some (.cells cs t fz)) :
    ∀ x,hpOf (w.setCell ⟨b,off,none⟩ v) x=upd (hpOf w) b (.cells (cs.setIfInBounds off v) t fz) x:=by
  intro x
  simp only [hpOf,World.setCell,Array.getElem?_modify,upd]
  by_cases e:x=b
  · subst e
    simp only [hpOf] at h
    simp [h]
  · have e':¬ b=x:=fun h=>e h.symm
    simp [e,e']
theorem cell_hp {w:World} {b off:Nat} {cs:Array Value} {t:TypeId} {fz:Nat×Nat} (h:hpOf w b=some (.cells cs t fz)):w.cell? ⟨b,off,none⟩=cs[off]? := by
  simp only [hpOf] at h
  simp [World.cell?,h]
theorem frozen_hp {w:World} {b off:Nat} {cs:Array Value} {t:TypeId} (h:hpOf w b=some (.cells cs t (0,0))):w.frozen? ⟨b,off,none⟩=false:=by
  simp only [hpOf] at h
  simp [World.frozen?,h]
abbrev Env:=List (Nat×Value)
def get:Env→Nat→Option Value
  | [],_=>none
  | (k,v)::E,t=>match Nat.beq k t with
    | true=>some v
    | false=>get E t
def ev (E:Env):Operand→Option Value
  | .tmp t=>get E t
  | .const v=>some v
  | .global g=>some (.pointer (some ⟨g,0,none⟩))
  | .func f=>some (.func (.func f) #[] #[])
abbrev Fi:=Nat×List Nat
def markD (D:Nat):Deferred:={ target:=.collected D,args:=#[] }
structure AOk (n:Fi) (E:Env) (a:Act):Prop where
  size:a.tmps.size=n.1
  defers:a.defers=n.2.map markD
  at_:∀ t v,get E t=some v→a.tmps[t]? = some v
theorem AOk.ev {n:Fi} {E:Env} {a:Act} (h:AOk n E a) {x:Operand} {v:Value} (hx:ev E x=some v):a.eval x=v:=by
  cases x with
  | tmp t =>
    have hv:=h.at_ t v hx
    simp only [Act.eval,Array.getD_eq_getD_getElem?,hv,Option.getD_some]
  | const u=>simpa [Go.Proofs.YthmbgodcpgkkeaaGreat.ev,Act.eval] using hx
  | global g=>simpa [Go.Proofs.YthmbgodcpgkkeaaGreat.ev,Act.eval] using hx
  | func f=>simpa [Go.Proofs.YthmbgodcpgkkeaaGreat.ev,Act.eval] using hx
def putE (E:Env):Option Tmp→Value→Env
  | some d,v=>(d,v)::E
  | none,_=>E
def inF (n:Fi):Option Tmp→Bool
  | some d=>Nat.blt d n.1
  | none=>true
theorem AOk.put {n:Fi} {E:Env} {a:Act} (h:AOk n E a) {d:Option Tmp} (hd:inF n d=true) (v:Value):AOk n (putE E d v) (a.put d v):=by
  cases d with
  | none=>exact h
  | some d =>
    have hlt:d<n.1:=Nat.le_of_ble_eq_true hd
    refine ⟨by simp [Act.put,h.size],h.defers,fun t u ht=>?_⟩
    simp only [putE,get] at ht
    by_cases e:d=t
    · subst e
      simp only [Nat.beq_refl] at ht
      have:v=u:=by simpa using ht
      subst this
      simp [Act.put,h.size,hlt]
    · have hb:Nat.beq d t=false:=by
        cases hbb:Nat.beq d t
        · rfl
        · exact absurd (Nat.eq_of_beq_eq_true hbb) e
      rw [hb] at ht
      have:=h.at_ t u ht
      simp only [Act.put]
      rw [Array.getElem?_setIfInBounds_ne e]
      exact this
def Sub (E E':Env):Prop:=∀ t v,get E' t=some v→get E t=some v
theorem AOk.sub {n:Fi} {E E':Env} {a:Act} (h:AOk n E a) (s:Sub E E'):AOk n E' a:=⟨h.size,h.defers,fun t v hv=>h.at_ t v (s t v hv)⟩
theorem Sub.refl (E:Env):Sub E E:=fun _ _ h=>h
theorem Sub.nil (E:Env):Sub E []:=fun _ _ h=>by simp [get] at h
theorem Sub.cons {E E':Env} {t:Nat} {v:Value} (h:get E t=some v) (s:Sub E E'):Sub E ((t,v)::E'):=by
  intro u x hx
  simp only [get] at hx
  cases hb:Nat.beq t u with
  | true =>
    rw [hb] at hx
    have e:=Nat.eq_of_beq_eq_true hb
    subst e
    have:v=x:=by simpa using hx
    subst this
    exact h
  | false=>rw [hb] at hx;exact s u x hx
structure Cx where
  f:FuncId
  fn:Func
  w0:World
  Q:Value→List HProp→Prop
  F:List HProp
  ds:List Nat
def Cx.nt (C:Cx):Fi:=(C.fn.ntmps,C.ds)
def Cx.post (C:Cx) (e:Ending) (w':World):Prop:=∃ v L',e=.returned v∧C.Q v L'∧Sat (L'++C.F) (hpOf w')∧Old C.w0 w'
def Fin' (P:Program) (C:Cx) (k:List Item) (a:Act) (w:World):Prop :=
  ∀ (b:Frame) (cs:List Frame),b.fn=C.f→b.kind=.normal→
    ∃ e w' fr,C.post e w'∧Comes P (lone (b.at a k) cs w) (lone fr cs w') e∧fr.fn=C.f∧fr.leaving P w' e
def St (P:Program) (C:Cx) (k:List Item) (E:Env) (L:List HProp):Prop :=
  ∀ a w,AOk C.nt E a→Sat L (hpOf w)→Old C.w0 w→Fin' P C k a w
def Tri (P:Program) (f:FuncId) (args:Array Value) (L:List HProp) (Q:Value→List HProp→Prop):Prop :=
  ∀ (w:World) (F:List HProp),Sat (L++F) (hpOf w)→Calls P f args w fun e w'=>∃ v L',e=.returned v∧Q v L'∧Sat (L'++F) (hpOf w')∧Old w w'
def envOf:Nat→List Value→Env
  | _,[]=>[]
  | i,v::vs=>(i,v)::envOf (i+1) vs
theorem get_envOf:∀ (vs:List Value) (i t:Nat) (v:Value),get (envOf i vs) t=some v→i≤t∧vs[t - i]? = some v:=by
  intro vs
  induction vs with
  | nil=>intro i t v h;simp [envOf,get] at h
  | cons x vs ih =>
    intro i t v h
    simp only [envOf,get] at h
    cases hb:Nat.beq i t with
    | true =>
      rw [hb] at h
      have e:=Nat.eq_of_beq_eq_true hb
      subst e
      have:x=v:=by simpa using h
      subst this
      exact ⟨Nat.le_refl _,by simp⟩
    | false =>
      rw [hb] at h
      obtain ⟨h1,h2⟩:=ih (i+1) t v h
      refine ⟨by omega, ?_⟩
      have:t - i=(t - (i+1))+1:=by omega
      rw [this]
      simpa using h2
theorem Tri.of_body {P:Program} {f:FuncId} {fn:Func} {c:Code} {vs:List Value} {L:List HProp} {Q:Value→List HProp→Prop}
    (hf:P.funcs[f]? = some fn) (hb:fn.body=some c) (hn0:Nat.ble vs.length fn.ntmps=true)
    (h:∀ (w0:World) (F:List HProp),St P ⟨f,fn,w0,Q,F,[]⟩ [.code c] (envOf 0 vs) (L++F)):Tri P f vs.toArray L Q:=by
  have hn:=Nat.le_of_ble_eq_true hn0
  intro w F hs cs
  let b:Frame:={ (default:Frame) with fn:=f,kind:=.normal }
  have henter:Frame.enter P f vs.toArray .normal =
      b.at { tmps:=vs.toArray++Array.replicate (fn.ntmps - vs.toArray.size) undef,defers:=[] } [.code c]:=by
    simp [Frame.enter,Frame.at,hf,hb,b]
  obtain ⟨e,w',fr,⟨v,L',he,hq,hs',ho⟩,hc,hfn,hl⟩:=h w F { tmps:=vs.toArray++Array.replicate (fn.ntmps - vs.toArray.size) undef,defers:=[] } w
    ⟨by simp [Cx.nt];omega,rfl,fun t v ht=>by
      obtain ⟨_,h2⟩:=get_envOf vs 0 t v ht
      have hlt:t<vs.length:=(List.getElem?_eq_some_iff.1 h2).1
      rw [Array.getElem?_append_left (by simpa using hlt)]
      simpa using h2⟩ hs (Old.refl w) b cs rfl rfl
  refine ⟨e,w',fr,⟨v,L',he,hq,hs',ho⟩, ?_,hfn,hl⟩
  rw [henter]
  exact hc
section control
variable {P:Program} {C:Cx} {k:List Item} {E:Env} {L:List HProp}
theorem St.step {k':List Item} (hst:∀ (b:Frame) (a:Act) (cs:List Frame) (w:World),step P (lone (b.at a k) cs w)=.next (lone (b.at a k') cs w)) (h:St P C k' E L):St P C k E L:=by
  intro a w ha hs ho b cs hb hk
  obtain ⟨e,w',fr,hp,hc,h1,h2⟩:=h a w ha hs ho b cs hb hk
  exact ⟨e,w',fr,hp,Comes.of_steps (.one (hst b a cs w)) hc,h1,h2⟩
theorem St.skip (h:St P C k E L):St P C (.code .skip::k) E L:=St.step (fun _ _ _ _=>step_skip) h
theorem St.inBlock {id:Nat} (h:St P C k E L):St P C (.inBlock id::k) E L:=St.step (fun _ _ _ _=>step_inBlock) h
theorem St.seq {x y:Code} (h:St P C (.code x::.code y::k) E L):St P C (.code (.seq x y)::k) E L:=St.step (fun _ _ _ _=>step_seq) h
theorem St.block {id:Nat} {c:Code} (h:St P C (.code c::.inBlock id::k) E L):St P C (.code (.block id c)::k) E L:=St.step (fun _ _ _ _=>step_block) h
theorem St.exit {id:Nat} {k':List Item} (he:exitTo id k=some k') (h:St P C k' E L):St P C (.code (.exit id)::k) E L:=St.step (fun _ _ _ _=>step_exit he) h
theorem St.cond {c:Operand} {x y:Code} {t:Bool} (hc:ev E c=some (.bool t)) (ht:t=true→St P C (.code x::k) E L) (hf:t=false→St P C (.code y::k) E L) :
    St P C (.code (.cond c x y)::k) E L:=by
  intro a w ha hs ho b cs hb hk
  have e1:=ha.ev hc
  cases t with
  | true =>
    obtain ⟨e,w',fr,hp,hcm,h1,h2⟩:=ht rfl a w ha hs ho b cs hb hk
    exact ⟨e,w',fr,hp,Comes.of_steps (.one (step_cond e1)) hcm,h1,h2⟩
  | false =>
    obtain ⟨e,w',fr,hp,hcm,h1,h2⟩:=hf rfl a w ha hs ho b cs hb hk
    exact ⟨e,w',fr,hp,Comes.of_steps (.one (step_cond e1)) hcm,h1,h2⟩
theorem St.cond_t {c:Operand} {x y:Code} (hc:ev E c=some (.bool true)) (h:St P C (.code x::k) E L):St P C (.code (.cond c x y)::k) E L :=
  St.cond hc (fun _=>h) (fun h=>by cases h)
theorem St.cond_f {c:Operand} {x y:Code} (hc:ev E c=some (.bool false)) (h:St P C (.code y::k) E L):St P C (.code (.cond c x y)::k) E L :=
  St.cond hc (fun h=>by cases h) (fun _=>h)
theorem St.conv {E':Env} {L':List HProp} (h:St P C k E' L') (hE:Sub E E') (hL:Ent L L'):St P C k E L :=
  fun a w ha hs ho=>h a w (ha.sub hE) (hL _ hs) ho
theorem St.loop {ι:Type} {c:Code} (μ:ι→Nat) (Ei:ι→Env) (Li:ι→List HProp) (i0:ι) (hE:Sub E (Ei i0)) (hL:Ent L (Li i0))
    (round:∀ i,(∀ j,μ j<μ i→St P C (.inLoop c::k) (Ei j) (Li j))→St P C (.code c::.inLoop c::k) (Ei i) (Li i)) :
    St P C (.code (.loop c)::k) E L:=by
  have key:∀ n i,μ i=n→St P C (.code c::.inLoop c::k) (Ei i) (Li i):=by
    intro n
    induction n using Nat.strongRecOn with
    | _ n ih =>
      intro i hi
      exact round i fun j hj=>St.step (fun _ _ _ _=>step_inLoop) (ih (μ j) (hi▸hj) j rfl)
  exact (St.step (fun _ _ _ _=>step_loop) (key _ i0 rfl)).conv hE hL
theorem St.loop1 {c:Code} (h:St P C (.code c::.inLoop c::k) E L):St P C (.code (.loop c)::k) E L:=St.step (fun _ _ _ _=>step_loop) h
theorem St.inLoop1 {c:Code} (h:St P C (.code c::.inLoop c::k) E L):St P C (.inLoop c::k) E L:=St.step (fun _ _ _ _=>step_inLoop) h
theorem St.ret {v:Value} {L':List HProp} (hds:C.ds=[])
    (hr:∀ a w,AOk C.nt E a→Sat L (hpOf w)→(results C.fn a.tmps).run P w=.ok v w) (hf:P.funcs[C.f]? = some C.fn)
    (hQ:C.Q v L') (hL:Ent L (L'++C.F)):St P C (.code .ret::k) E L:=by
  intro a w ha hs ho b cs hb hk
  refine ⟨.returned v,w,_,⟨v,L',rfl,hQ,hL _ hs,ho⟩,Steps.one step_ret,hb,rfl,by have:=ha.defers;rw [show C.nt.2=[] from hds] at this;exact this,hk,C.fn, ?_,hr a w ha hs⟩
  show P.funcs[b.fn]? = _
  rw [hb];exact hf
theorem St.end_ {v:Value} {L':List HProp} (hds:C.ds=[])
    (hr:∀ a w,AOk C.nt E a→Sat L (hpOf w)→(results C.fn a.tmps).run P w=.ok v w) (hf:P.funcs[C.f]? = some C.fn)
    (hQ:C.Q v L') (hL:Ent L (L'++C.F)):St P C [] E L:=by
  intro a w ha hs ho b cs hb hk
  refine ⟨.returned v,w,_,⟨v,L',rfl,hQ,hL _ hs,ho⟩,Steps.one step_end,hb,rfl,by have:=ha.defers;rw [show C.nt.2=[] from hds] at this;exact this,hk,C.fn, ?_,hr a w ha hs⟩
  show P.funcs[b.fn]? = _
  rw [hb];exact hf
def Qk (P:Program) (C:Cx) (k:List Item):Exit→Act→World→Prop
  | .normal,a,w=>Fin' P C k a w
  | _,_,_=>False
theorem fin_of_wp {c:Code} {a:Act} {w:World} (h:c.wp P (Qk P C k) a w):Fin' P C (.code c::k) a w:=by
  intro b cs hb hk
  obtain ⟨e,a',w',hq,harr⟩:=h b k cs
  cases e<;>simp only [Qk] at hq
  case normal =>
    obtain ⟨e,w'',fr,hp,hc,h1,h2⟩:=hq b cs hb hk
    exact ⟨e,w'',fr,hp,Comes.of_steps harr hc,h1,h2⟩
end control
def StL (P:Program) (C:Cx) (ops:Array Oper) (l:List Oper) (k:List Item) (E:Env) (L:List HProp):Prop :=
  ∀ a w,AOk C.nt E a→Sat L (hpOf w)→Old C.w0 w→wpList P ops (Qk P C k) l a w
section region
variable {P:Program} {C:Cx} {k:List Item} {E:Env} {L:List HProp} {ops:Array Oper}
theorem St.region {id:Nat} {l:List Oper} (h:StL P C l.toArray l k E L):St P C (.code (.region id l.toArray false)::k) E L :=
  fun a w ha hs ho=>fin_of_wp (wp_region_lit (h a w ha hs ho))
theorem StL.nil (h:St P C k E L):StL P C ops [] k E L:=fun a w ha hs ho=>h a w ha hs ho
theorem StL.conv {l:List Oper} {E':Env} {L':List HProp} (h:StL P C ops l k E' L') (hE:Sub E E') (hL:Ent L L'):StL P C ops l k E L :=
  fun a w ha hs ho=>h a w (ha.sub hE) (hL _ hs) ho
def OpOk (P:Program) (n:Fi) (op:Op) (ty:TypeId) (E:Env) (L:List HProp) (Φ:Value→List HProp→Prop):Prop :=
  ∀ (d:Option Tmp) (ps:String) (af:Array Edge) (g:Option (Nat×Bool)) (a:Act) (w:World),AOk n E a→∀ X:List HProp,Sat (L++X) (hpOf w)→
    ∃ v w' L',((execOp a.eval ⟨d,op,ty,ps,af,g⟩).run P w=.ok (.value v) w'∨((execOp a.eval ⟨d,op,ty,ps,af,g⟩).run P w=.ok .skip w'∧v=undef))∧Φ v L'∧Sat (L'++X) (hpOf w')∧Old w w'
def OpV (P:Program) (n:Fi) (op:Op) (ty:TypeId) (E:Env) (L:List HProp) (v:Value):Prop :=
  ∀ (d:Option Tmp) (ps:String) (af:Array Edge) (g:Option (Nat×Bool)) (a:Act) (w:World),AOk n E a→Sat L (hpOf w)→(execOp a.eval ⟨d,op,ty,ps,af,g⟩).run P w=.ok (.value v) w
structure Grow (w w':World):Prop where
  heap:∀ b o,hpOf w b=some o→hpOf w' b=some o
  old:Old w w'
theorem Grow.refl (w:World):Grow w w:=⟨fun _ _ h=>h,Old.refl w⟩
theorem Grow.trans {a b c:World} (h:Grow a b) (k:Grow b c):Grow a c:=⟨fun x o hx=>k.heap x o (h.heap x o hx),h.old.trans k.old⟩
theorem Grow.sat {L:List HProp} {w w':World} (h:Grow w w') (hs:Sat L (hpOf w)):Sat L (hpOf w'):=hs.mono h.heap
def RTri (P:Program) (f:FuncId) (args:Array Value) (L:List HProp) (v:Value):Prop :=
  ∀ w,Sat L (hpOf w)→Calls P f args w fun e w'=>e=.returned v∧Grow w w'
theorem sat_exact (w:World):Sat [fun h=>h=hpOf w] (hpOf w):=⟨hpOf w,fun _=>none,fun _=>.inr rfl,fun _=>(or_none' _).symm,rfl,trivial⟩
theorem RTri.of_pure {P:Program} {f:FuncId} {args:Array Value} {v:Value} (h:Tri P f args [] fun v' L'=>v'=v∧L'=[]):RTri P f args [] v:=by
  intro w _
  refine (h w [fun h=>h=hpOf w] (sat_exact w)).mono fun e w' ⟨v',L',he,⟨h1,h2⟩,hs',ho⟩=>?_
  subst h1 h2
  refine ⟨he,⟨fun b o hb=>?_,ho⟩⟩
  obtain ⟨h1,h2,hd,hu,rfl,_⟩:=hs'
  rw [hu b,hb];rfl
theorem RTri.of_reads {P:Program} {f:FuncId} {args:Array Value} {v:Value} {L:List HProp} (h:∀ p:HProp,(∀ k,p k→Sat L k)→Tri P f args [p] fun v' L'=>v'=v∧L'=[p]):RTri P f args L v:=by
  intro w hs
  refine (h (fun h=>h=hpOf w) (fun k hk=>hk▸hs) w [] (sat_exact w)).mono fun e w' ⟨v',L',he,⟨h1,h2⟩,hs',ho⟩=>?_
  subst h1 h2
  refine ⟨he,⟨fun b o hb=>?_,ho⟩⟩
  obtain ⟨h1,h2,hd,hu,rfl,_⟩:=hs'
  rw [hu b,hb];rfl
theorem RTri.ent {P:Program} {f:FuncId} {args:Array Value} {v:Value} {L M:List HProp} (h:RTri P f args L v) (hm:Ent M L):RTri P f args M v:=fun w hs=>h w (hm _ hs)
theorem RTri.of_read {P:Program} {f:FuncId} {args:Array Value} {v:Value} {L:List HProp} {p:HProp} (h:RTri P f args L v) (hp:∀ k,p k→Sat L k):RTri P f args [p] v:=fun w hs=>h w (by
  obtain ⟨h1,h2,hd,hu,hpp,_⟩:=hs
  exact (hp h1 hpp).mono fun b o hb=>by rw [hu b,hb];rfl)
theorem StL.ok {op:Op} {ty:TypeId} {ps:String} {af:Array Edge} {d:Option Tmp} {rest:List Oper} {Φ:Value→List HProp→Prop} (ho:OpOk P C.nt op ty E L Φ) (hd:inF C.nt d=true)
    (h:∀ v L',Φ v L'→StL P C ops rest k (putE E d v) L'):StL P C ops (⟨d,op,ty,ps,af,none⟩::rest) k E L:=by
  intro a w ha hs hold
  refine wpList_plain rfl fun K hK=>?_
  obtain ⟨v,w',L',hrun,hΦ,hs',ho'⟩:=ho d ps af none a w ha [] (by rw [List.append_nil];exact hs)
  rw [List.append_nil] at hs'
  rcases hrun with hrun|⟨hrun,rfl⟩<;>(unfold Oper.wp;rw [hrun])<;>exact hK _ _ (h _ L' hΦ _ w' (ha.put hd _) hs' (hold.trans ho'))
theorem StL.v {op:Op} {ty:TypeId} {ps:String} {af:Array Edge} {d:Tmp} {rest:List Oper} {v:Value} (ho:OpV P C.nt op ty E L v) (hd:inF C.nt (some d)=true)
    (h:StL P C ops rest k ((d,v)::E) L):StL P C ops (⟨some d,op,ty,ps,af,none⟩::rest) k E L :=
  StL.ok (Φ:=fun v' L'=>v'=v∧L'=L) (fun d ps af g a w ha X hs=>⟨v,w,L, .inl (ho d ps af g a w ha hs.head_of),⟨rfl,rfl⟩,hs,Old.refl w⟩) hd (by rintro v' L' ⟨rfl,rfl⟩;exact h)
def OpC (P:Program) (n:Fi) (op:Op) (ty:TypeId) (E:Env) (g:FuncId) (vs:Array Value):Prop :=
  ∀ (d:Option Tmp) (ps:String) (af:Array Edge) (gd:Option (Nat×Bool)) (a:Act) (w:World),AOk n E a→(execOp a.eval ⟨d,op,ty,ps,af,gd⟩).run P w=.ok (.enter g vs) w
theorem StL.callr {op:Op} {ty:TypeId} {ps:String} {af:Array Edge} {d:Tmp} {rest:List Oper} {g:FuncId} {vs:Array Value} {M:List HProp} {v:Value} (hop:OpC P C.nt op ty E g vs) (ht:RTri P g vs M v) (hL:Ent L M)
    (hd:inF C.nt (some d)=true) (h:StL P C ops rest k ((d,v)::E) L):StL P C ops (⟨some d,op,ty,ps,af,none⟩::rest) k E L:=by
  intro a w ha hs hold
  refine wpList_plain rfl fun K hK=>?_
  unfold Oper.wp
  rw [hop _ _ _ _ a w ha,Oper.upon_enter]
  refine (ht w (hL _ hs)).mono fun e w' ⟨he,hg⟩=>?_
  subst he
  exact hK _ _ (h _ w' (ha.put hd _) (hg.sat hs) (hold.trans hg.old))
theorem StL.callt {op:Op} {ty:TypeId} {ps:String} {af:Array Edge} {d:Option Tmp} {rest:List Oper} {g:FuncId} {vs:Array Value} {L1 F1:List HProp} {Φ:Value→List HProp→Prop} (hop:OpC P C.nt op ty E g vs) (ht:Tri P g vs L1 Φ) (hL:Ent L (L1++F1))
    (hd:inF C.nt d=true) (h:∀ v L',Φ v L'→StL P C ops rest k (putE E d v) (L'++F1)):StL P C ops (⟨d,op,ty,ps,af,none⟩::rest) k E L:=by
  intro a w ha hs hold
  refine wpList_plain rfl fun K hK=>?_
  unfold Oper.wp
  rw [hop _ _ _ _ a w ha,Oper.upon_enter]
  refine (ht w F1 (hL _ hs)).mono fun e w' ⟨v,L',he,hq,hs',ho'⟩=>?_
  subst he
  exact hK _ _ (h v L' hq _ w' (ha.put hd _) hs' (hold.trans ho'))
theorem StL.g_yes {op:Op} {ty:TypeId} {ps:String} {af:Array Edge} {d:Option Tmp} {rest:List Oper} {j t:Nat} {b:Bool} (hj:(ops[j]?).bind (·.dst)=some t)
    (hb:get E t=some (.bool b)) (h:StL P C ops (⟨d,op,ty,ps,af,none⟩::rest) k E L):StL P C ops (⟨d,op,ty,ps,af,some (j,b)⟩::rest) k E L:=by
  intro a w ha hs hold
  have hy:yielded ops a.tmps j=some b:=by
    simp only [yielded,hj,Option.bind_some]
    rw [ha.at_ t _ hb]
  have h1:=h a w ha hs hold
  simp only [wpList] at h1⊢
  rw [if_pos (by simp [Region.wanted])] at h1
  rw [if_pos (by simp [Region.wanted,hy])]
  exact h1
theorem StL.g_no {op:Op} {ty:TypeId} {ps:String} {af:Array Edge} {d:Option Tmp} {rest:List Oper} {j t:Nat} {b want:Bool} (hj:(ops[j]?).bind (·.dst)=some t)
    (hb:get E t=some (.bool b)) (hne:(b == want)=false) (hd:inF C.nt d=true) (h:StL P C ops rest k (putE E d undef) L):StL P C ops (⟨d,op,ty,ps,af,some (j,want)⟩::rest) k E L:=by
  intro a w ha hs hold
  have hy:yielded ops a.tmps j=some b:=by
    simp only [yielded,hj,Option.bind_some]
    rw [ha.at_ t _ hb]
  simp only [wpList]
  rw [if_neg (by simp only [Region.wanted,hy];cases b<;>cases want<;>simp_all)]
  exact h _ w (ha.put hd undef) hs hold
theorem StL.g_undef {op:Op} {ty:TypeId} {ps:String} {af:Array Edge} {d:Option Tmp} {rest:List Oper} {j t:Nat} {want:Bool} (hj:(ops[j]?).bind (·.dst)=some t)
    (hb:get E t=some undef) (hd:inF C.nt d=true) (h:StL P C ops rest k (putE E d undef) L):StL P C ops (⟨d,op,ty,ps,af,some (j,want)⟩::rest) k E L:=by
  intro a w ha hs hold
  have hy:yielded ops a.tmps j=none:=by
    simp only [yielded,hj,Option.bind_some]
    rw [ha.at_ t _ hb]
    rfl
  simp only [wpList]
  rw [if_neg (by simp [Region.wanted,hy])]
  exact h _ w (ha.put hd undef) hs hold
theorem StL.gsplit {op:Op} {ty:TypeId} {ps:String} {af:Array Edge} {d:Option Tmp} {rest:List Oper} {j t:Nat} {b want:Bool} (_hj:(ops[j]?).bind (·.dst)=some t) (hb:get E t=some (.bool b))
    (ht:b=true→StL P C ops (⟨d,op,ty,ps,af,some (j,want)⟩::rest) k ((t, .bool true)::E) L) (hf:b=false→StL P C ops (⟨d,op,ty,ps,af,some (j,want)⟩::rest) k ((t, .bool false)::E) L):StL P C ops (⟨d,op,ty,ps,af,some (j,want)⟩::rest) k E L:=by
  cases b with
  | true=>exact (ht rfl).conv (Sub.cons hb (Sub.refl _)) (Ent.refl _)
  | false=>exact (hf rfl).conv (Sub.cons hb (Sub.refl _)) (Ent.refl _)
end region
section draw
variable {P:Program} {ops:Array Oper} {Q:Exit→Act→World→Prop} {S:World→Prop} {bs:List Nat}
def Stab (P:Program) (ops:Array Oper) (S:World→Prop) (o:Oper) (v:Value) (a:Act):Prop :=
  (Region.wanted o (yielded ops a.tmps)=true∧∀ w,S w→
    ((execOp a.eval o).run P w=.ok (.value v) w∨∃ f args,(execOp a.eval o).run P w=.ok (.enter f args) w∧Calls P f args w fun e w'=>e=.returned v∧Grow w w'))∨
  (Region.wanted o (yielded ops a.tmps)=false∧v=undef)
theorem Stab.wpOp {i:Nat} {o:Oper} {v:Value} {a:Act} (hi:ops[i]? = some o) (hy:Stab P ops S o v a) {K:Act→World→Prop} {w:World} (hS:S w)
    (h:∀ w',Grow w w'→K (a.put o.dst v) w'):wpOp P ops Q i K a w:=by
  unfold Go.wpOp
  simp only [hi]
  rcases hy with ⟨hw,hv⟩|⟨hw,rfl⟩
  · simp only [hw,if_true,Oper.wp]
    rcases hv w hS with hv|⟨f,args,hv,hc⟩
    · simp only [hv,Oper.upon];exact .inl (h w (Grow.refl w))
    · simp only [hv,Oper.upon]
      exact .inl (hc.mono fun e w' ⟨he,hg⟩=>by subst he;exact h w' hg)
  · simp only [hw,Bool.false_eq_true,if_false];exact h w (Grow.refl w)
theorem Stab.of_same {o:Oper} {v:Value} {a a':Act} (hy:Stab P ops S o v a) (he:execOp a'.eval o=execOp a.eval o)
    (hw:Region.wanted o (yielded ops a'.tmps)=Region.wanted o (yielded ops a.tmps)):Stab P ops S o v a':=by
  unfold Stab at *
  rw [he,hw]
  exact hy
def NoOut (Q:Exit→Act→World→Prop):Prop:=∀ c a w,¬ Q (.panic c) a w
theorem wpOp_putS {j:Nat} {oi oj:Oper} {v:Value} (hQ:NoOut Q) (hj:ops[j]? = some oj) (hap:oi.apart ops oj=true)
    (hsi:∀ cs b,oi.op≠.select cs b) (hsj:∀ cs b,oj.op≠.select cs b) {K:Act→World→Prop} {a:Act} {w:World}
    (hy:Stab P ops S oi v a) (h:wpOp P ops Q j K (a.put oi.dst v) w) :
    wpOp P ops Q j (fun a' w'=>Stab P ops S oi v a'∧K (a'.put oi.dst v) w') a w:=by
  obtain ⟨h1,h2,h3⟩:=Oper.apart_spec hap
  have keep:∀ (a:Act),Stab P ops S oi v a→∀ u,Stab P ops S oi v (a.put oj.dst u):=fun a hy u =>
    hy.of_same (execOp_put oi hsi a oj.dst u h3) (wanted_put oi a oj.dst u h3)
  have keepD:∀ d,Stab P ops S oi v { a with defers:=d::a.defers }:=fun d=>hy.of_same rfl rfl
  unfold wpOp at *
  simp only [hj] at *
  rw [wanted_put oj a oi.dst v h1] at h
  split
  · rename_i hw
    simp only [hw,if_true] at h
    rcases h with h|⟨hasks,hlets⟩
    case inr=>exact .inr ⟨by unfold Oper.asks at *;rw [execOp_put oj hsj a oi.dst v h1] at hasks;exact hasks,hlets⟩
    refine .inl ?_
    unfold Oper.wp at *
    rw [execOp_put oj hsj a oi.dst v h1] at h
    generalize (execOp a.eval oj).run P w=r at *
    cases r with
    | ok n w' =>
      cases n<;>simp only [Oper.upon] at h⊢
      case value u=>exact ⟨keep a hy u,by rw [←Act.put_comm a v u h2];exact h⟩
      case skip=>exact ⟨keep a hy _,by rw [←Act.put_comm a v undef h2];exact h⟩
      case defer d =>
        refine ⟨keep _ (keepD d) _, ?_⟩
        rw [←Act.put_comm _ v undef h2,←Act.put_defers]
        exact h
      case enter f args =>
        refine Calls.mono h fun e w'' he=>?_
        cases e with
        | returned u=>exact ⟨keep a hy u,by rw [←Act.put_comm a v u h2];exact he⟩
        | panicked c=>exact absurd he (hQ _ _ _)
        | outgrown=>exact he
      case row row args=>exact Rows.mono h fun u w'' he=>⟨keep a hy u,by rw [←Act.put_comm a v u h2];exact he⟩
    | halt x w' =>
      cases x<;>simp only [Oper.upon] at h⊢
      case panic u=>exact absurd h (hQ _ _ _)
  · rename_i hw
    simp only [hw] at h
    exact ⟨keep a hy _,by rw [←Act.put_comm a v undef h2];exact h⟩
def anyP (P:Program) (ops:Array Oper) (Q:Exit→Act→World→Prop) (S:World→Prop) (bs:List Nat):Nat→Array Bool→Act→World→Prop
  | 0,listed,a,w=>∀ w',Grow w w'→Region.ready .any ops listed=[]∧Q .normal a w'
  | fuel+1,listed,a,w=>∀ w',Grow w w'→(Region.ready .any ops listed=[]→Q .normal a w')∧
      ∀ i∈Region.ready .any ops listed,wpOp P ops Q i (fun a' w''=>(i∉bs→S w'→S w'')∧anyP P ops Q S bs fuel (listed.setIfInBounds i true) a' w'') a w'
theorem anyP.grow {fuel:Nat} {listed:Array Bool} {a:Act} {w w':World} (h:anyP P ops Q S bs fuel listed a w) (hg:Grow w w'):anyP P ops Q S bs fuel listed a w':=by
  cases fuel with
  | zero=>exact fun w'' hg'=>h w'' (hg.trans hg')
  | succ fuel=>exact fun w'' hg'=>h w'' (hg.trans hg')
theorem wpAny_of_anyP:∀ (fuel:Nat) (listed:Array Bool) (a:Act) (w:World),anyP P ops Q S bs fuel listed a w→wpAny P .any ops Q fuel listed a w
  | 0,_,_,w,h=>h w (Grow.refl w)
  | fuel+1,_,_,w,h=>⟨(h w (Grow.refl w)).1,fun i hi=>wpOp_mono (fun a' w' h'=>wpAny_of_anyP fuel _ a' w' h'.2) ((h w (Grow.refl w)).2 i hi)⟩
def Dn (ops:Array Oper) (listed:Array Bool):Prop:=∀ j o,ops[j]? = some o→listed.getD j false=true→∀ e∈o.after,Region.binds .any e=true→listed.getD e.on false=true
def waits' (ops:Array Oper):Nat→Nat→Nat→Bool
  | 0,_,_=>false
  | n+1,j,i=>match ops[j]? with
    | none=>false
    | some o=>o.after.any (fun e=>Region.binds .any e && e.on == i) || o.after.any (fun e=>Region.binds .any e && waits' ops n e.on i)
theorem waits_listed {listed:Array Bool} (hd:Dn ops listed) {i:Nat}:∀ (n j:Nat) (o:Oper),waits' ops n j i=true→ops[j]? = some o→(∀ e∈o.after,Region.binds .any e=true→listed.getD e.on false=true)→listed.getD i false=true:=by
  intro n
  induction n with
  | zero=>intro j o h;simp [waits'] at h
  | succ n ih =>
    intro j o h ho hl
    simp only [waits',ho,Bool.or_eq_true] at h
    rcases h with h|h
    · obtain ⟨e,he,hb⟩:=Array.any_eq_true'.1 h
      simp only [Bool.and_eq_true,beq_iff_eq] at hb
      rw [←hb.2]
      exact hl e he hb.1
    · obtain ⟨e,he,hb⟩:=Array.any_eq_true'.1 h
      simp only [Bool.and_eq_true] at hb
      have hle:=hl e he hb.1
      cases ho':ops[e.on]? with
      | none =>
        have h2:=hb.2
        cases n with
        | zero=>simp [waits'] at h2
        | succ n=>simp [waits',ho'] at h2
      | some o'=>exact ih e.on o' hb.2 ho' (fun e' he' hb'=>hd e.on o' ho' hle e' he' hb')
theorem Dn.put {listed:Array Bool} (hd:Dn ops listed) {j:Nat} (hj:j∈Region.ready .any ops listed):Dn ops (listed.setIfInBounds j true):=by
  intro i o ho hl e he hb
  obtain ⟨_,oj,hoj,hall⟩:=mem_ready.1 hj
  by_cases hij:j=i
  · subst hij
    rw [hoj] at ho
    injection ho with ho
    subst ho
    exact getD_set_true (hall e he hb)
  · rw [getD_set_ne false hij] at hl
    exact getD_set_true (hd i o ho hl e he hb)
theorem anyP_take {i:Nat} {oi:Oper} {v:Value} {S':World→Prop} (hQ:NoOut Q) (hi:ops[i]? = some oi) (hsel:∀ (j:Nat) (o:Oper) cs b,ops[j]? = some o→o.op≠.select cs b)
    (hSg:∀ w w',Grow w w'→S w→S w') (hb:(∀ w,S' w)∨(S'=S∧∃ n,∀ j∈bs,waits' ops n j i=true)) :
    ∀ (fuel:Nat) (listed:Array Bool) (a:Act) (w:World),
      (∀ j oj,ops[j]? = some oj→j≠i→listed.getD j true=false→(∀ e∈oj.after,Region.binds .any e=true→e.on≠i)→oi.apart ops oj=true)→
      Dn ops listed→i∈Region.ready .any ops listed→Stab P ops S' oi v a→S' w→
      anyP P ops Q S bs fuel (listed.setIfInBounds i true) (a.put oi.dst v) w→anyP P ops Q S bs (fuel+1) listed a w:=by
  have hg':∀ w w',Grow w w'→S' w→S' w':=by
    intro w w' hg h
    rcases hb with hb|⟨hb,_⟩
    · exact hb w'
    · subst hb;exact hSg w w' hg h
  intro fuel
  induction fuel with
  | zero =>
    intro listed a w _ _ hr hy hS H w' hg
    refine ⟨fun h=>(by rw [h] at hr;cases hr),fun j hj=>?_⟩
    by_cases hji:j=i
    · subst hji
      exact hy.wpOp hi (hg' w w' hg hS) fun w'' hg2=>⟨fun _ hs=>hSg _ _ hg2 hs,H.grow (hg.trans hg2)⟩
    · have:=ready_mono hj hji
      rw [(H w' hg).1] at this
      cases this
  | succ fuel ih =>
    intro listed a w hfree hdn hr hy hS H w' hg
    refine ⟨fun h=>(by rw [h] at hr;cases hr),fun j hj=>?_⟩
    by_cases hji:j=i
    · subst hji
      exact hy.wpOp hi (hg' w w' hg hS) fun w'' hg2=>⟨fun _ hs=>hSg _ _ hg2 hs,H.grow (hg.trans hg2)⟩
    · have h1:=(H w' hg).2 j (ready_mono hj hji)
      obtain ⟨hjun,oj,hoj,hall⟩:=mem_ready.1 hj
      have hiun:=(mem_ready.1 hr).1
      have hilist:listed.getD i false=true→False:=fun h1=>by
        rcases Nat.lt_or_ge i listed.size with h'|h'
        · simp [h'] at hiun h1;rw [hiun] at h1;cases h1
        · simp [Array.getElem?_eq_none h'] at h1
      have hnot:∀ e∈oj.after,Region.binds .any e=true→e.on≠i:=fun e he hbd heq=>by
        have h1:=hall e he hbd
        rw [heq] at h1
        exact hilist h1
      have h2:=wpOp_putS hQ hoj (hfree j oj hoj hji hjun hnot) (fun cs b=>hsel i oi cs b hi) (fun cs b=>hsel j oj cs b hoj) hy h1
      have hfree':∀ k ok,ops[k]? = some ok→k≠i→(listed.setIfInBounds j true).getD k true=false→
          (∀ e∈ok.after,Region.binds .any e=true→e.on≠i)→oi.apart ops ok=true:=fun k ok hk hki hun hno=>by
        refine hfree k ok hk hki ?_ hno
        by_cases hjk:j=k
        · subst hjk;exact hjun
        · rw [getD_set_ne true hjk] at hun;exact hun
      refine wpOp_mono (fun a' w'' h3=>⟨h3.2.1,ih (listed.setIfInBounds j true) a' w'' hfree' (hdn.put hj) (ready_mono hr (Ne.symm hji)) h3.1 ?_ ?_⟩) h2
      · rcases hb with hb|⟨hb,n,hw⟩
        · exact hb w''
        · subst hb
          refine h3.2.1 (fun hjb=>?_) (hSg _ _ hg hS)
          exact hilist (waits_listed hdn n j oj (hw j hjb) hoj hall)
      · rw [Array.setIfInBounds_comm _ _ hji]
        exact h3.2.2
def Known (h:Hp) (w:World):Prop:=∀ b o,h b=some o→hpOf w b=some o
structure FrameP (h h':Hp) (w w':World):Prop where
  known:Known h' w'
  old:Old w w'
  rest:∀ b o,hpOf w b=some o→h b=none→hpOf w' b=some o∧h' b=none
def runA (P:Program) (ops:Array Oper) (Q:Exit→Act→World→Prop) (S:World→Prop) (w0:World) (K:Act→Hp→Prop):List (Nat×Nat)→Act→Hp→Prop
  | [],a,h=>K a h
  | (i,c)::r,a,h=>match ops[i]? with
    | none=>False
    | some o=>match c with
      | 0=>∃ v,Stab P ops (fun _=>True) o v a∧runA P ops Q S w0 K r (a.put o.dst v) h
      | 1=>∃ v,Stab P ops S o v a∧(∀ w,Known h w→S w)∧runA P ops Q S w0 K r (a.put o.dst v) h
      | 2=>∀ w,Known h w→Old w0 w→wpOp P ops Q i (fun a' w'=>∃ h',FrameP h h' w w'∧(S w→S w')∧runA P ops Q S w0 K r a' h') a w
      | _=>∀ w,Known h w→Old w0 w→wpOp P ops Q i (fun a' w'=>∃ h',FrameP h h' w w'∧runA P ops Q S w0 K r a' h') a w
def drawOk (ops:Array Oper) (bs:List Nat) (uu:List Nat):List (Nat×Nat)→Array Bool→Bool
  | [],listed=>Region.ready .any ops listed == uu
  | (i,c)::r,listed=>(match c with
      | 0=>Region.free .any ops listed i && (Region.ready .any ops listed).contains i
      | 1=>Region.free .any ops listed i && (Region.ready .any ops listed).contains i && bs.all (fun j=>waits' ops 8 j i)
      | 2=>Region.ready .any ops (uu.foldl (fun l u=>l.setIfInBounds u true) listed) == [i] && !bs.contains i
      | _=>Region.ready .any ops (uu.foldl (fun l u=>l.setIfInBounds u true) listed) == [i] && bs.contains i)
      && uu.all (fun u=>u != i && match ops[u]?,ops[i]? with|some ou,some oi=>ou.apart ops oi && oi.apart ops ou|_,_=>false)
      && drawOk ops bs uu r (listed.setIfInBounds i true)
theorem Known.grow {h:Hp} {w w':World} (hk:Known h w) (hg:Grow w w'):Known h w':=fun b o hb=>hg.heap b o (hk b o hb)
def Ends (Q:Exit→Act→World→Prop) (w0:World) (a:Act) (h:Hp):Prop:=∀ w,Known h w→Old w0 w→Q .normal a w
theorem anyP_of_run {w0:World} (hQ:NoOut Q) (hs:Region.noSelect ops=true) (hSg:∀ w w',Grow w w'→S w→S w'):∀ (acts:List (Nat×Nat)) (listed:Array Bool) (a:Act) (h:Hp) (w:World),
    drawOk ops bs [] acts listed=true→Dn ops listed→Known h w→Old w0 w→runA P ops Q S w0 (Ends Q w0) acts a h→anyP P ops Q S bs acts.length listed a w:=by
  intro acts
  induction acts with
  | nil =>
    intro listed a h w hok _ hk ho hr w' hg
    exact ⟨by simpa [drawOk] using hok,hr w' (hk.grow hg) (ho.trans hg.old)⟩
  | cons x r ih =>
    obtain ⟨i,c⟩:=x
    intro listed a h w hok hdn hk hold h1
    simp only [drawOk,Bool.and_eq_true,List.foldl_nil] at hok
    obtain ⟨⟨hc,_⟩,hr⟩:=hok
    simp only [runA] at h1
    cases ho:ops[i]? with
    | none=>rw [ho] at h1;exact h1.elim
    | some o =>
      rw [ho] at h1
      have two:Region.ready .any ops listed=[i]→∀ (S2:World→World→Prop),(i∉bs→∀ w w',S2 w w'→S w→S w')→
          (∀ w,Known h w→Old w0 w→wpOp P ops Q i (fun a' w'=>∃ h',FrameP h h' w w'∧S2 w w'∧runA P ops Q S w0 (Ends Q w0) r a' h') a w)→anyP P ops Q S bs (r.length+1) listed a w:=by
        intro hrd S2 h2 hw w' hg
        have hmem:i∈Region.ready .any ops listed:=by rw [hrd];simp
        refine ⟨fun h0=>(by rw [hrd] at h0;cases h0),fun j hj=>?_⟩
        rw [hrd] at hj
        simp only [List.mem_singleton] at hj
        subst hj
        exact wpOp_mono (fun a' w'' ⟨h',hf,hS2,hrun⟩=>⟨fun hb=>h2 hb _ _ hS2,ih _ a' h' w'' hr (hdn.put hmem) hf.known ((hold.trans hg.old).trans hf.old) hrun⟩) (hw w' (hk.grow hg) (hold.trans hg.old))
      match c,hc,h1 with
      | 0,hc,h1 =>
        obtain ⟨v,hy,h1⟩:=h1
        simp only [Bool.and_eq_true] at hc
        have hmem:i∈Region.ready .any ops listed:=by simpa using hc.2
        exact anyP_take hQ ho (Region.noSelect_spec hs) hSg (.inl fun _=>trivial) _ listed a w (Region.free_spec ho hc.1) hdn hmem hy trivial (ih _ _ h w hr (hdn.put hmem) hk hold h1)
      | 1,hc,h1 =>
        obtain ⟨v,hy,hSw,h1⟩:=h1
        simp only [Bool.and_eq_true] at hc
        have hmem:i∈Region.ready .any ops listed:=by simpa using hc.1.2
        exact anyP_take hQ ho (Region.noSelect_spec hs) hSg (.inr ⟨rfl,8,by simpa using hc.2⟩) _ listed a w (Region.free_spec ho hc.1.1) hdn hmem hy (hSw w hk) (ih _ _ h w hr (hdn.put hmem) hk hold h1)
      | 2,hc,h1 =>
        simp only [Bool.and_eq_true,beq_iff_eq] at hc
        exact two hc.1 (fun w w'=>S w→S w') (fun _ _ _ h=>h) h1
      | n+3,hc,h1 =>
        simp only [Bool.and_eq_true,beq_iff_eq] at hc
        have hb:i∈bs:=by simpa using hc.2
        exact two hc.1 (fun _ _=>True) (fun hn=>absurd hb hn) (fun w hk ho=>wpOp_mono (fun _ _ ⟨h',hf,hr⟩=>⟨h',hf,trivial,hr⟩) (h1 w hk ho))
end draw
inductive Then where
  | done
  | alloc (d:Tmp) (t:TypeId) (cs:List Value) (r2:List (Nat×Nat))
  | nope
  | pick (r:List (Nat×Nat)) (T:Then) (others:Then)
def Then.run (P:Program) (ops:Array Oper) (Q:Exit→Act→World→Prop) (S:World→Prop) (w0:World):Then→Act→Hp→Prop
  | .done=>Ends Q w0
  | .alloc d t cs r2=>fun a h=>∀ b,h b=none→runA P ops Q S w0 (Ends Q w0) r2 (a.put (some d) (.pointer (some ⟨b,0,none⟩))) (upd h b (.cells ⟨cs⟩ t))
  | .nope=>fun _ _=>True
  | .pick r T1 T2=>fun a h=>runA P ops Q S w0 (T1.run P ops Q S w0) r a h∧T2.run P ops Q S w0 a h
def Then.heads:Then→List Nat
  | .pick ((i,_)::_) _ T2=>i::T2.heads
  | _=>[]
def okA (ops:Array Oper) (bs:List Nat) (K:Nat→Array Bool→Bool):List (Nat×Nat)→Nat→Array Bool→Bool
  | [],n,l=>K n l
  | _::_,0,_=>false
  | (i,c)::r,n+1,l=>(match c with
      | 0=>Region.free .any ops l i && (Region.ready .any ops l).contains i
      | 1=>Region.free .any ops l i && (Region.ready .any ops l).contains i && bs.all (fun j=>waits' ops 8 j i)
      | 2=>Region.ready .any ops l == [i] && !bs.contains i
      | _=>Region.ready .any ops l == [i] && bs.contains i)
      && okA ops bs K r n (l.setIfInBounds i true)
def okT (ops:Array Oper) (bs:List Nat):Then→Bool→Nat→Array Bool→Bool
  | .done,top,_,l=>top && Region.ready .any ops l == []
  | .alloc ..,_,_,_=>false
  | .nope,top,_,_=>!top
  | .pick r T1 T2,top,n,l=>(!top || (Region.ready .any ops l).all fun i=>(Then.heads (.pick r T1 T2)).contains i) &&
      (match r,n with
       | (i,c)::r',n+1=>(Region.ready .any ops l).contains i && (match c with|2=>!bs.contains i|3=>bs.contains i|_=>false) && okA ops bs (okT ops bs T1 true) r' n (l.setIfInBounds i true)
       | _,_=>false) && okT ops bs T2 false n l
section picks
variable {P:Program} {ops:Array Oper} {Q:Exit→Act→World→Prop} {S:World→Prop} {bs:List Nat}
theorem anyP_of_runK {w0:World} {K:Act→Hp→Prop} {kb:Nat→Array Bool→Bool} (hQ:NoOut Q) (hs:Region.noSelect ops=true) (hSg:∀ w w',Grow w w'→S w→S w')
    (hK:∀ n listed a h w,kb n listed=true→Dn ops listed→Known h w→Old w0 w→K a h→anyP P ops Q S bs n listed a w):∀ (acts:List (Nat×Nat)) (n:Nat) (listed:Array Bool) (a:Act) (h:Hp) (w:World),
    okA ops bs kb acts n listed=true→Dn ops listed→Known h w→Old w0 w→runA P ops Q S w0 K acts a h→anyP P ops Q S bs n listed a w:=by
  intro acts
  induction acts with
  | nil=>intro n listed a h w hok hd hk ho hr;exact hK n listed a h w hok hd hk ho hr
  | cons x r ih =>
    obtain ⟨i,c⟩:=x
    intro n listed a h w hok hdn hk hold h1
    cases n with
    | zero=>simp [okA] at hok
    | succ n =>
    simp only [okA,Bool.and_eq_true] at hok
    obtain ⟨hc,hr⟩:=hok
    simp only [runA] at h1
    cases ho:ops[i]? with
    | none=>rw [ho] at h1;exact h1.elim
    | some o =>
      rw [ho] at h1
      have two:Region.ready .any ops listed=[i]→∀ (S2:World→World→Prop),(i∉bs→∀ w w',S2 w w'→S w→S w')→
          (∀ w,Known h w→Old w0 w→wpOp P ops Q i (fun a' w'=>∃ h',FrameP h h' w w'∧S2 w w'∧runA P ops Q S w0 K r a' h') a w)→anyP P ops Q S bs (n+1) listed a w:=by
        intro hrd S2 h2 hw w' hg
        have hmem:i∈Region.ready .any ops listed:=by rw [hrd];simp
        refine ⟨fun h0=>(by rw [hrd] at h0;cases h0),fun j hj=>?_⟩
        rw [hrd] at hj
        simp only [List.mem_singleton] at hj
        subst hj
        exact wpOp_mono (fun a' w'' ⟨h',hf,hS2,hrun⟩=>⟨fun hb=>h2 hb _ _ hS2,ih _ _ a' h' w'' hr (hdn.put hmem) hf.known ((hold.trans hg.old).trans hf.old) hrun⟩) (hw w' (hk.grow hg) (hold.trans hg.old))
      match c,hc,h1 with
      | 0,hc,h1 =>
        obtain ⟨v,hy,h1⟩:=h1
        simp only [Bool.and_eq_true] at hc
        have hmem:i∈Region.ready .any ops listed:=by simpa using hc.2
        exact anyP_take hQ ho (Region.noSelect_spec hs) hSg (.inl fun _=>trivial) _ listed a w (Region.free_spec ho hc.1) hdn hmem hy trivial (ih _ _ _ h w hr (hdn.put hmem) hk hold h1)
      | 1,hc,h1 =>
        obtain ⟨v,hy,hSw,h1⟩:=h1
        simp only [Bool.and_eq_true] at hc
        have hmem:i∈Region.ready .any ops listed:=by simpa using hc.1.2
        exact anyP_take hQ ho (Region.noSelect_spec hs) hSg (.inr ⟨rfl,8,by simpa using hc.2⟩) _ listed a w (Region.free_spec ho hc.1.1) hdn hmem hy (hSw w hk) (ih _ _ _ h w hr (hdn.put hmem) hk hold h1)
      | 2,hc,h1 =>
        simp only [Bool.and_eq_true,beq_iff_eq] at hc
        exact two hc.1 (fun w w'=>S w→S w') (fun _ _ _ h=>h) h1
      | n+3,hc,h1 =>
        simp only [Bool.and_eq_true,beq_iff_eq] at hc
        have hb:i∈bs:=by simpa using hc.2
        exact two hc.1 (fun _ _=>True) (fun hn=>absurd hb hn) (fun w hk ho=>wpOp_mono (fun _ _ ⟨h',hf,hr⟩=>⟨h',hf,trivial,hr⟩) (h1 w hk ho))
theorem anyP_of_runT {w0:World} (hQ:NoOut Q) (hs:Region.noSelect ops=true) (hSg:∀ w w',Grow w w'→S w→S w'):∀ (T:Then),
    (∀ n listed a h w,okT ops bs T true n listed=true→Dn ops listed→Known h w→Old w0 w→T.run P ops Q S w0 a h→anyP P ops Q S bs n listed a w)∧
    (∀ n listed a h w,okT ops bs T false n listed=true→Dn ops listed→Known h w→Old w0 w→T.run P ops Q S w0 a h→∀ i∈T.heads,∃ m,n=m+1∧i∈Region.ready .any ops listed∧∀ w',Grow w w'→wpOp P ops Q i (fun a' w''=>(i∉bs→S w'→S w'')∧anyP P ops Q S bs m (listed.setIfInBounds i true) a' w'') a w'):=by
  intro T
  induction T with
  | done =>
    refine ⟨?_,fun _ _ _ _ _ _ _ _ _ _ i hi=>by cases hi⟩
    intro n listed a h w hok _ hk ho hr
    have hrd:Region.ready .any ops listed=[]:=by simpa [okT] using hok
    cases n with
    | zero=>exact fun w' hg=>⟨hrd,hr w' (hk.grow hg) (ho.trans hg.old)⟩
    | succ n=>exact fun w' hg=>⟨fun _=>hr w' (hk.grow hg) (ho.trans hg.old),fun i hi=>by rw [hrd] at hi;cases hi⟩
  | alloc d t cs r2=>exact ⟨fun _ _ _ _ _ h=>by simp [okT] at h,fun _ _ _ _ _ h=>by simp [okT] at h⟩
  | nope=>exact ⟨fun _ _ _ _ _ h=>by simp [okT] at h,fun _ _ _ _ _ _ _ _ _ _ i hi=>by cases hi⟩
  | pick r T1 T2 ih1 ih2 =>
    have second:∀ n listed a h w,okT ops bs (.pick r T1 T2) false n listed=true→Dn ops listed→Known h w→Old w0 w→(Then.pick r T1 T2).run P ops Q S w0 a h→∀ i∈(Then.pick r T1 T2).heads,∃ m,n=m+1∧i∈Region.ready .any ops listed∧∀ w',Grow w w'→wpOp P ops Q i (fun a' w''=>(i∉bs→S w'→S w'')∧anyP P ops Q S bs m (listed.setIfInBounds i true) a' w'') a w':=by
      intro n listed a h w hok hdn hk hold hr i hi
      simp only [okT,Bool.and_eq_true] at hok
      obtain ⟨⟨_,hm⟩,h2⟩:=hok
      match r,n,hm,hr,hi with
      | (j,c)::r',n+1,hm,hr,hi =>
        simp only [Bool.and_eq_true] at hm
        obtain ⟨⟨hj,hc⟩,hA⟩:=hm
        simp only [Then.heads,List.mem_cons] at hi
        rcases hi with rfl|hi
        · have hmem:i∈Region.ready .any ops listed:=by simpa using hj
          refine ⟨n,rfl,hmem,fun w' hg=>?_⟩
          have h1:=hr.1
          simp only [runA] at h1
          cases ho:ops[i]? with
          | none=>rw [ho] at h1;exact h1.elim
          | some o =>
            rw [ho] at h1
            match c,hc,h1 with
            | 2,hc,h1 =>
              refine wpOp_mono (fun a' w'' ⟨h',hf,hS2,hrun⟩=>⟨fun _=>hS2, ?_⟩) (h1 w' (hk.grow hg) (hold.trans hg.old))
              exact anyP_of_runK hQ hs hSg (fun n l a h w hb hd hk ho hr=>ih1.1 n l a h w hb hd hk ho hr) r' n _ a' h' w'' hA (hdn.put hmem) hf.known ((hold.trans hg.old).trans hf.old) hrun
            | 3,hc,h1 =>
              have hb:i∈bs:=by simpa using hc
              refine wpOp_mono (fun a' w'' ⟨h',hf,hrun⟩=>⟨fun hn=>absurd hb hn, ?_⟩) (h1 w' (hk.grow hg) (hold.trans hg.old))
              exact anyP_of_runK hQ hs hSg (fun n l a h w hb hd hk ho hr=>ih1.1 n l a h w hb hd hk ho hr) r' n _ a' h' w'' hA (hdn.put hmem) hf.known ((hold.trans hg.old).trans hf.old) hrun
        · exact ih2.2 (n+1) listed a h w h2 hdn hk hold hr.2 i hi
    refine ⟨?_,second⟩
    intro n listed a h w hok hdn hk hold hr
    have hok':okT ops bs (.pick r T1 T2) false n listed=true:=by
      simp only [okT,Bool.and_eq_true] at hok⊢
      exact ⟨⟨rfl,hok.1.2⟩,hok.2⟩
    have hall:∀ i∈Region.ready .any ops listed,i∈(Then.pick r T1 T2).heads:=by
      simp only [okT,Bool.and_eq_true,Bool.not_true,Bool.false_or,List.all_eq_true] at hok
      intro i hi
      simpa using hok.1.1 i hi
    have hsec:=second n listed a h w hok' hdn hk hold hr
    match r,hok',hall,hsec with
    | [],hok',_,_=>simp [okT] at hok'
    | (j,c)::r',_,hall,hsec =>
      obtain ⟨m,rfl,hmem,_⟩:=hsec j (by simp [Then.heads])
      intro w' hg
      refine ⟨fun h0=>(by rw [h0] at hmem;cases hmem),fun i hi=>?_⟩
      obtain ⟨m',hm',_,hw⟩:=hsec i (hall i hi)
      injection hm' with hm'
      subst hm'
      exact hw w' hg
end picks
def StD (P:Program) (C:Cx) (ops:Array Oper) (L0:List HProp) (T:Then) (acts:List (Nat×Nat)) (k:List Item) (E:Env) (L:List HProp):Prop :=
  ∀ a h,AOk C.nt E a→Sat L h→runA P ops (Qk P C k) (fun w=>Sat L0 (hpOf w)) C.w0 (T.run P ops (Qk P C k) (fun w=>Sat L0 (hpOf w)) C.w0) acts a h
section drawn
variable {P:Program} {C:Cx} {k:List Item} {E:Env} {L L0:List HProp} {T:Then} {ops:Array Oper} {r:List (Nat×Nat)} {i:Nat}
theorem qk_noOut:NoOut (Qk P C k):=fun _ _ _ h=>h
theorem Dn.none (ops:Array Oper):Dn ops (Array.replicate ops.size false):=by
  intro j o _ h
  exfalso
  simp only [Array.getD_eq_getD_getElem?,Array.getElem?_replicate] at h
  split at h<;>simp at h
theorem Sat.known {L:List HProp} {h:Hp} {w:World} (hs:Sat L h) (hk:Known h w):Sat L (hpOf w):=hs.mono hk
theorem St.draw {id:Nat} {l:List Oper} (acts:List (Nat×Nat)) (bs:List Nat) (hm:P.follows .mixedOrders=true)
    (hok:(Region.noSelect l.toArray && (acts.length == l.toArray.size) && drawOk l.toArray bs [] acts (Array.replicate l.toArray.size false))=true)
    (h:StD P C l.toArray L .done acts k E L):St P C (.code (.region id l.toArray true)::k) E L:=by
  intro a w ha hs ho
  simp only [Bool.and_eq_true,beq_iff_eq] at hok
  refine fin_of_wp (wp_region_any hm (wpAny_of_anyP (bs:=bs) (S:=fun w=>Sat L (hpOf w)) _ _ _ _ ?_))
  have hh:=anyP_of_run (P:=P) (w0:=C.w0) (S:=fun w=>Sat L (hpOf w)) qk_noOut hok.1.1 (fun w w' hg hs=>hg.sat hs) acts _ a (hpOf w) { w with drawn:=w.drawn+1 } hok.2 (Dn.none _) (fun _ _ h=>h) ⟨ho.os,ho.tape,ho.output⟩ (h a (hpOf w) ha hs)
  rw [hok.1.2] at hh
  exact hh
theorem St.drawT {id:Nat} {l:List Oper} (acts:List (Nat×Nat)) (T:Then) (bs:List Nat) (hm:P.follows .mixedOrders=true)
    (hok:(Region.noSelect l.toArray && okA l.toArray bs (okT l.toArray bs T true) acts l.toArray.size (Array.replicate l.toArray.size false))=true)
    (h:StD P C l.toArray L T acts k E L):St P C (.code (.region id l.toArray true)::k) E L:=by
  intro a w ha hs ho
  simp only [Bool.and_eq_true] at hok
  refine fin_of_wp (wp_region_any hm (wpAny_of_anyP (bs:=bs) (S:=fun w=>Sat L (hpOf w)) _ _ _ _ ?_))
  exact anyP_of_runK (P:=P) (w0:=C.w0) (S:=fun w=>Sat L (hpOf w)) qk_noOut hok.1 (fun w w' hg hs=>hg.sat hs) (fun n l a h w hb hd hk ho hr=>(anyP_of_runT (w0:=C.w0) qk_noOut hok.1 (fun w w' hg hs=>hg.sat hs) T).1 n l a h w hb hd hk ho hr) acts _ _ a (hpOf w) { w with drawn:=w.drawn+1 } hok.2 (Dn.none _) (fun _ _ h=>h) ⟨ho.os,ho.tape,ho.output⟩ (h a (hpOf w) ha hs)
theorem StD.pick {r1:List (Nat×Nat)} {T1 T2:Then} (h1:StD P C ops L0 T1 r1 k E L) (h2:StD P C ops L0 T2 [] k E L):StD P C ops L0 (.pick r1 T1 T2) [] k E L:=fun a h ha hs=>⟨h1 a h ha hs,h2 a h ha hs⟩
theorem StD.nope:StD P C ops L0 .nope [] k E L:=fun _ _ _ _=>trivial
theorem StD.nil (h:St P C k E L):StD P C ops L0 .done [] k E L:=fun a _ ha hs w hk ho=>h a w ha (hs.known hk) ho
theorem StD.conv {E':Env} {L':List HProp} (h:StD P C ops L0 T r k E' L') (hE:Sub E E') (hL:Ent L L'):StD P C ops L0 T r k E L :=
  fun a g ha hs=>h a g (ha.sub hE) (hL _ hs)
theorem StD.v0 {op:Op} {ty:TypeId} {ps:String} {af:Array Edge} {d:Tmp} {v:Value} (hi:ops[i]? = some ⟨some d,op,ty,ps,af,none⟩) (ho:OpV P C.nt op ty E [] v) (hd:inF C.nt (some d)=true)
    (h:StD P C ops L0 T r k ((d,v)::E) L):StD P C ops L0 T ((i,0)::r) k E L:=by
  intro a hp ha hs
  simp only [runA,hi]
  exact ⟨v, .inl ⟨by simp [Region.wanted],fun w _=>.inl (ho _ _ _ _ a w ha trivial)⟩,h _ hp (ha.put hd v) hs⟩
theorem StD.v1 {op:Op} {ty:TypeId} {ps:String} {af:Array Edge} {d:Tmp} {v:Value} (hi:ops[i]? = some ⟨some d,op,ty,ps,af,none⟩) (ho:OpV P C.nt op ty E L0 v) (hL:Ent L L0) (hd:inF C.nt (some d)=true)
    (h:StD P C ops L0 T r k ((d,v)::E) L):StD P C ops L0 T ((i,1)::r) k E L:=by
  intro a hp ha hs
  simp only [runA,hi]
  exact ⟨v, .inl ⟨by simp [Region.wanted],fun w hs=>.inl (ho _ _ _ _ a w ha hs)⟩,fun _ hk=>(hL _ hs).known hk,h _ hp (ha.put hd v) hs⟩
theorem StD.callr {op:Op} {ty:TypeId} {ps:String} {af:Array Edge} {d:Tmp} {v:Value} {g:FuncId} {vs:Array Value} {M:List HProp} (hi:ops[i]? = some ⟨some d,op,ty,ps,af,none⟩) (hop:OpC P C.nt op ty E g vs) (ht:RTri P g vs M v) (hM:Ent L0 M) (hL:Ent L L0) (hd:inF C.nt (some d)=true)
    (h:StD P C ops L0 T r k ((d,v)::E) L):StD P C ops L0 T ((i,1)::r) k E L:=by
  intro a hp ha hs
  simp only [runA,hi]
  exact ⟨v, .inl ⟨by simp [Region.wanted],fun w hs=>.inr ⟨g,vs,hop _ _ _ _ a w ha,ht w (hM _ hs)⟩⟩,fun _ hk=>(hL _ hs).known hk,h _ hp (ha.put hd v) hs⟩
theorem StD.skip0 {op:Op} {ty:TypeId} {ps:String} {af:Array Edge} {d:Tmp} {j t:Nat} {b want:Bool} (hi:ops[i]? = some ⟨some d,op,ty,ps,af,some (j,want)⟩) (hj:(ops[j]?).bind (·.dst)=some t) (hb:get E t=some (.bool b)) (hne:(b == want)=false) (hd:inF C.nt (some d)=true)
    (h:StD P C ops L0 T r k ((d,undef)::E) L):StD P C ops L0 T ((i,0)::r) k E L:=by
  intro a hp ha hs
  have hy:yielded ops a.tmps j=some b:=by
    simp only [yielded,hj,Option.bind_some]
    rw [ha.at_ t _ hb]
  simp only [runA,hi]
  exact ⟨undef, .inr ⟨by simp only [Region.wanted,hy];cases b<;>cases want<;>simp_all,rfl⟩,h _ hp (ha.put hd undef) hs⟩
theorem StD.skip1 {op:Op} {ty:TypeId} {ps:String} {af:Array Edge} {d:Tmp} {j t:Nat} {b want:Bool} (hi:ops[i]? = some ⟨some d,op,ty,ps,af,some (j,want)⟩) (hj:(ops[j]?).bind (·.dst)=some t) (hb:get E t=some (.bool b)) (hne:(b == want)=false) (hL:Ent L L0) (hd:inF C.nt (some d)=true)
    (h:StD P C ops L0 T r k ((d,undef)::E) L):StD P C ops L0 T ((i,1)::r) k E L:=by
  intro a hp ha hs
  have hy:yielded ops a.tmps j=some b:=by
    simp only [yielded,hj,Option.bind_some]
    rw [ha.at_ t _ hb]
  simp only [runA,hi]
  exact ⟨undef, .inr ⟨by simp only [Region.wanted,hy];cases b<;>cases want<;>simp_all,rfl⟩,fun _ hk=>(hL _ hs).known hk,h _ hp (ha.put hd undef) hs⟩
theorem StD.g0 {op:Op} {ty:TypeId} {ps:String} {af:Array Edge} {d:Tmp} {v:Value} {j t:Nat} {b:Bool} (hi:ops[i]? = some ⟨some d,op,ty,ps,af,some (j,b)⟩) (hj:(ops[j]?).bind (·.dst)=some t) (hb:get E t=some (.bool b)) (ho:OpV P C.nt op ty E [] v) (hd:inF C.nt (some d)=true)
    (h:StD P C ops L0 T r k ((d,v)::E) L):StD P C ops L0 T ((i,0)::r) k E L:=by
  intro a hp ha hs
  have hy:yielded ops a.tmps j=some b:=by
    simp only [yielded,hj,Option.bind_some]
    rw [ha.at_ t _ hb]
  simp only [runA,hi]
  exact ⟨v, .inl ⟨by simp [Region.wanted,hy],fun w _=>.inl (ho _ _ _ _ a w ha trivial)⟩,h _ hp (ha.put hd v) hs⟩
theorem StD.g1 {op:Op} {ty:TypeId} {ps:String} {af:Array Edge} {d:Tmp} {v:Value} {j t:Nat} {b:Bool} (hi:ops[i]? = some ⟨some d,op,ty,ps,af,some (j,b)⟩) (hj:(ops[j]?).bind (·.dst)=some t) (hb:get E t=some (.bool b)) (ho:OpV P C.nt op ty E L0 v) (hL:Ent L L0) (hd:inF C.nt (some d)=true)
    (h:StD P C ops L0 T r k ((d,v)::E) L):StD P C ops L0 T ((i,1)::r) k E L:=by
  intro a hp ha hs
  have hy:yielded ops a.tmps j=some b:=by
    simp only [yielded,hj,Option.bind_some]
    rw [ha.at_ t _ hb]
  simp only [runA,hi]
  exact ⟨v, .inl ⟨by simp [Region.wanted,hy],fun w hs=>.inl (ho _ _ _ _ a w ha hs)⟩,fun _ hk=>(hL _ hs).known hk,h _ hp (ha.put hd v) hs⟩
theorem StD.gcallr {op:Op} {ty:TypeId} {ps:String} {af:Array Edge} {d:Tmp} {v:Value} {j t:Nat} {b:Bool} {g:FuncId} {vs:Array Value} {M:List HProp} (hi:ops[i]? = some ⟨some d,op,ty,ps,af,some (j,b)⟩) (hj:(ops[j]?).bind (·.dst)=some t) (hb:get E t=some (.bool b)) (hop:OpC P C.nt op ty E g vs) (ht:RTri P g vs M v) (hM:Ent L0 M) (hL:Ent L L0) (hd:inF C.nt (some d)=true)
    (h:StD P C ops L0 T r k ((d,v)::E) L):StD P C ops L0 T ((i,1)::r) k E L:=by
  intro a hp ha hs
  have hy:yielded ops a.tmps j=some b:=by
    simp only [yielded,hj,Option.bind_some]
    rw [ha.at_ t _ hb]
  simp only [runA,hi]
  exact ⟨v, .inl ⟨by simp [Region.wanted,hy],fun w hs=>.inr ⟨g,vs,hop _ _ _ _ a w ha,ht w (hM _ hs)⟩⟩,fun _ hk=>(hL _ hs).known hk,h _ hp (ha.put hd v) hs⟩
def beside (h:Hp) (w:World):Hp:=fun b=>match h b with|some _=>none|none=>hpOf w b
theorem sat_beside {L:List HProp} {h:Hp} {w:World} (hs:Sat L h) (hk:Known h w):Sat (L++[fun k=>k=beside h w]) (hpOf w):=by
  refine Sat.app_join L (hpOf w) h (beside h w) ?_ ?_ hs ⟨beside h w,fun _=>none,fun _=>.inr rfl,fun _=>(or_none' _).symm,rfl,trivial⟩
  · intro b;cases e:h b<;>simp [beside,e]
  · intro b
    cases e:h b with
    | none=>simp [beside,e]
    | some o=>simp [hk b o e]
theorem frame_beside {L':List HProp} {h:Hp} {w w':World} (ho:Old w w') (hs:Sat (L'++[fun k=>k=beside h w]) (hpOf w')):∃ h',FrameP h h' w w'∧Sat L' h':=by
  obtain ⟨h1,h2,hd,hu,s1,s2⟩:=Sat.app_split L' _ hs
  obtain ⟨k1,k2,kd,ku,rfl,_⟩:=s2
  refine ⟨h1,⟨fun b o hb=>by rw [hu b,hb];rfl,ho,fun b o hw hn=>?_⟩,s1⟩
  have e:beside h w b=some o:=by simp [beside,hn,hw]
  have e2:h2 b=some o:=by rw [ku b,e];rfl
  have e3:h1 b=none:=(hd b).resolve_right (by rw [e2];simp)
  exact ⟨by rw [hu b,e3,e2];rfl,e3⟩
theorem StD.ok2 {op:Op} {ty:TypeId} {ps:String} {af:Array Edge} {d:Option Tmp} {Φ:Value→List HProp→Prop} (hi:ops[i]? = some ⟨d,op,ty,ps,af,none⟩) (ho:OpOk P C.nt op ty E L Φ) (hd:inF C.nt d=true)
    (h:∀ v L',Φ v L'→Ent L' L0∧StD P C ops L0 T r k (putE E d v) L'):StD P C ops L0 T ((i,2)::r) k E L:=by
  intro a hp ha hs
  simp only [runA,hi]
  intro w hk hold
  obtain ⟨v,w2,L',hrun,hΦ,hs',ho'⟩:=ho d ps af none a w ha _ (sat_beside hs hk)
  obtain ⟨h',hf,hs2⟩:=frame_beside ho' hs'
  simp only [wpOp,hi,Region.wanted,if_true]
  refine .inl ?_
  rcases hrun with hrun|⟨hrun,rfl⟩<;>(unfold Oper.wp;rw [hrun])<;>exact ⟨h',hf,fun _=>((h _ L' hΦ).1 _ hs2).known hf.known,(h _ L' hΦ).2 _ h' (ha.put hd _) hs2⟩
theorem StD.v2 {op:Op} {ty:TypeId} {ps:String} {af:Array Edge} {d:Tmp} {v:Value} (hi:ops[i]? = some ⟨some d,op,ty,ps,af,none⟩) (ho:OpV P C.nt op ty E L v) (hd:inF C.nt (some d)=true) (h:StD P C ops L0 T r k ((d,v)::E) L):StD P C ops L0 T ((i,2)::r) k E L:=by
  intro a hp ha hs
  simp only [runA,hi]
  intro w hk _
  simp only [wpOp,hi,Region.wanted,if_true]
  refine .inl ?_
  unfold Oper.wp
  rw [ho _ ps af none a w ha (hs.known hk)]
  exact ⟨hp,⟨hk,Old.refl w,fun _ _ hw hn=>⟨hw,hn⟩⟩,id,h _ hp (ha.put hd v) hs⟩
theorem StD.ok3 {op:Op} {ty:TypeId} {ps:String} {af:Array Edge} {d:Option Tmp} {Φ:Value→List HProp→Prop} (hi:ops[i]? = some ⟨d,op,ty,ps,af,none⟩) (ho:OpOk P C.nt op ty E L Φ) (hd:inF C.nt d=true)
    (h:∀ v L',Φ v L'→StD P C ops L0 T r k (putE E d v) L'):StD P C ops L0 T ((i,3)::r) k E L:=by
  intro a hp ha hs
  simp only [runA,hi]
  intro w hk hold
  obtain ⟨v,w2,L',hrun,hΦ,hs',ho'⟩:=ho d ps af none a w ha _ (sat_beside hs hk)
  obtain ⟨h',hf,hs2⟩:=frame_beside ho' hs'
  simp only [wpOp,hi,Region.wanted,if_true]
  refine .inl ?_
  rcases hrun with hrun|⟨hrun,rfl⟩<;>(unfold Oper.wp;rw [hrun])<;>exact ⟨h',hf,h _ L' hΦ _ h' (ha.put hd _) hs2⟩
theorem StD.callt2 {op:Op} {ty:TypeId} {ps:String} {af:Array Edge} {d:Option Tmp} {g:FuncId} {vs:Array Value} {L1 F1:List HProp} {Φ:Value→List HProp→Prop} (hi:ops[i]? = some ⟨d,op,ty,ps,af,none⟩) (hop:OpC P C.nt op ty E g vs) (ht:Tri P g vs L1 Φ) (hL:Ent L (L1++F1)) (hd:inF C.nt d=true)
    (h:∀ v L',Φ v L'→Ent (L'++F1) L0∧StD P C ops L0 T r k (putE E d v) (L'++F1)):StD P C ops L0 T ((i,2)::r) k E L:=by
  intro a hp ha hs
  simp only [runA,hi]
  intro w hk hold
  simp only [wpOp,hi,Region.wanted,if_true]
  refine .inl ?_
  unfold Oper.wp
  rw [hop _ _ _ _ a w ha,Oper.upon_enter]
  have hs1:=sat_beside (hL _ hs) hk
  rw [List.append_assoc] at hs1
  refine (ht w _ hs1).mono fun e w' ⟨v,L',he,hq,hs',ho'⟩=>?_
  subst he
  rw [←List.append_assoc] at hs'
  obtain ⟨h',hf,hs2⟩:=frame_beside ho' hs'
  exact ⟨h',hf,fun _=>((h v L' hq).1 _ hs2).known hf.known,(h v L' hq).2 _ h' (ha.put hd _) hs2⟩
theorem StD.callt {op:Op} {ty:TypeId} {ps:String} {af:Array Edge} {d:Option Tmp} {g:FuncId} {vs:Array Value} {L1 F1:List HProp} {Φ:Value→List HProp→Prop} (hi:ops[i]? = some ⟨d,op,ty,ps,af,none⟩) (hop:OpC P C.nt op ty E g vs) (ht:Tri P g vs L1 Φ) (hL:Ent L (L1++F1)) (hd:inF C.nt d=true)
    (h:∀ v L',Φ v L'→StD P C ops L0 T r k (putE E d v) (L'++F1)):StD P C ops L0 T ((i,3)::r) k E L:=by
  intro a hp ha hs
  simp only [runA,hi]
  intro w hk hold
  simp only [wpOp,hi,Region.wanted,if_true]
  refine .inl ?_
  unfold Oper.wp
  rw [hop _ _ _ _ a w ha,Oper.upon_enter]
  have hs1:=sat_beside (hL _ hs) hk
  rw [List.append_assoc] at hs1
  refine (ht w _ hs1).mono fun e w' ⟨v,L',he,hq,hs',ho'⟩=>?_
  subst he
  rw [←List.append_assoc] at hs'
  obtain ⟨h',hf,hs2⟩:=frame_beside ho' hs'
  exact ⟨h',hf,h v L' hq _ h' (ha.put hd _) hs2⟩
theorem StD.gsplit {c:Nat} {op:Op} {ty:TypeId} {ps:String} {af:Array Edge} {d:Option Tmp} {j t:Nat} {b want:Bool} (_hi:ops[i]? = some ⟨d,op,ty,ps,af,some (j,want)⟩) (_hj:(ops[j]?).bind (·.dst)=some t) (hb:get E t=some (.bool b))
    (ht:b=true→StD P C ops L0 T ((i,c)::r) k ((t, .bool true)::E) L) (hf:b=false→StD P C ops L0 T ((i,c)::r) k ((t, .bool false)::E) L):StD P C ops L0 T ((i,c)::r) k E L:=by
  cases b with
  | true=>exact (ht rfl).conv (Sub.cons hb (Sub.refl _)) (Ent.refl _)
  | false=>exact (hf rfl).conv (Sub.cons hb (Sub.refl _)) (Ent.refl _)
end drawn
class Und (P:Program) (t:Nat) (d:outParam TypeDesc):Prop where
  h:P.underlying t=some d
class Siz (P:Program) (t:Nat) (n:outParam Nat):Prop where
  h:∀ w,(sizeOf t).run P w=.ok n w
class Zer (P:Program) (t:Nat) (v:outParam Value):Prop where
  h:∀ w,(zeroValue t).run P w=.ok v w
class IsAg (P:Program) (t:Nat) (b:outParam Bool):Prop where
  h:∀ w,(isAgg t).run P w=.ok b w
class Byt (P:Program) (t:Nat) (n:outParam Nat):Prop where
  h:∃ i,(∀ w,(typeInfo t).run P w=.ok i w)∧i.bytes=n
class Flds (P:Program) (t:Nat) (fs:outParam (List (Nat×Nat))):Prop where
  h:∃ a,P.underlying t=some (.struct a)∧a.toList.map (fun f=>(f.type,f.offset))=fs
theorem flds_of {P:Program} {t:Nat} {fs:List (Nat×Nat)} [hf:Flds P t fs] {i ft off:Nat} (h:fs[i]? = some (ft,off)) :
    ∃ a f,P.underlying t=some (.struct a)∧a[i]? = some f∧f.type=ft∧f.offset=off:=by
  obtain ⟨a,ha,rfl⟩:=hf.h
  rw [List.getElem?_map] at h
  cases e:a.toList[i]? with
  | none=>rw [e] at h;cases h
  | some f =>
    rw [e] at h
    have h':(f.type,f.offset)=(ft,off):=by simpa using h
    injection h' with h1 h2
    exact ⟨a,f,ha,by simpa using e,h1,h2⟩
class Enters (P:Program) (f:Nat):Prop where
  h:∀ args w,(callFunc f args).run P w=.ok (.enter f args) w
inductive NthN {α:Type}:Nat→List α→α→Prop
  | zero {x:α} {l:List α}:NthN 0 (x::l) x
  | succ {n:Nat} {x y:α} {l:List α}:NthN n l x→NthN (n+1) (y::l) x
inductive DropN {α:Type}:Nat→List α→List α→Prop
  | zero {l:List α}:DropN 0 l l
  | succ {n:Nat} {x:α} {l l':List α}:DropN n l l'→DropN (n+1) (x::l) l'
inductive TakeN {α:Type}:Nat→List α→List α→Prop
  | zero {l:List α}:TakeN 0 l []
  | succ {n:Nat} {x:α} {l l':List α}:TakeN n l l'→TakeN (n+1) (x::l) (x::l')
inductive SetN {α:Type} (v:α):Nat→List α→List α→Prop
  | zero {x:α} {l:List α}:SetN v 0 (x::l) (v::l)
  | succ {n:Nat} {x:α} {l l':List α}:SetN v n l l'→SetN v (n+1) (x::l) (x::l')
inductive OverN {α:Type}:List α→List α→List α→Prop
  | nil {l:List α}:OverN [] l l
  | cons {v x:α} {vs l l':List α}:OverN vs l l'→OverN (v::vs) (x::l) (v::l')
inductive SplN {α:Type} (vs:List α):Nat→List α→List α→Prop
  | zero {l l':List α}:OverN vs l l'→SplN vs 0 l l'
  | succ {n:Nat} {x:α} {l l':List α}:SplN vs n l l'→SplN vs (n+1) (x::l) (x::l')
theorem NthN.eq {α:Type} {n:Nat} {l:List α} {x:α} (h:NthN n l x):l[n]? = some x:=by
  induction h with
  | zero=>rfl
  | succ _ ih=>simpa using ih
theorem NthN.of {α:Type} {n:Nat} {l:List α} {x:α} (h:l[n]? = some x):NthN n l x:=by
  induction l generalizing n with
  | nil=>simp at h
  | cons y l ih =>
    cases n with
    | zero=>simp at h;subst h;exact .zero
    | succ n=>exact .succ (ih (by simpa using h))
theorem DropN.eq {α:Type} {n:Nat} {l l':List α} (h:DropN n l l'):l.drop n=l'∧n≤l.length:=by
  induction h with
  | zero=>simp
  | succ _ ih=>simpa using ih
theorem TakeN.eq {α:Type} {n:Nat} {l l':List α} (h:TakeN n l l'):l.take n=l'∧n≤l.length:=by
  induction h with
  | zero=>simp
  | succ _ ih=>simpa using ih
theorem SetN.of {α:Type} {v:α} {n:Nat} {l:List α} (h:n<l.length):SetN v n l (l.set n v):=by
  induction l generalizing n with
  | nil=>simp at h
  | cons y l ih =>
    cases n with
    | zero=>exact .zero
    | succ n=>exact .succ (ih (by simpa using h))
theorem OverN.eq {α:Type} {vs l l':List α} (h:OverN vs l l'):vs++l.drop vs.length=l'∧vs.length≤l.length:=by
  induction h with
  | nil=>simp
  | cons _ ih=>simpa using ih
theorem SplN.eq {α:Type} {vs:List α} {n:Nat} {l l':List α} (h:SplN vs n l l'):l.take n++(vs++l.drop (n+vs.length))=l'∧n+vs.length≤l.length:=by
  induction h with
  | zero h=>have:=h.eq;simpa using this
  | succ _ ih =>
    obtain ⟨h1,h2⟩:=ih
    refine ⟨?_,by simp only [List.length_cons];omega⟩
    rw [←h1]
    simp [Nat.succ_add]
theorem TakeN.app {α:Type}:∀ (xs ys:List α),TakeN xs.length (xs++ys) xs
  | [],_=>.zero
  | _::xs,ys=>.succ (TakeN.app xs ys)
theorem DropN.app {α:Type}:∀ (xs ys:List α),DropN xs.length (xs++ys) ys
  | [],_=>.zero
  | _::xs,ys=>.succ (DropN.app xs ys)
theorem DropN.of {α:Type} {n:Nat} {l:List α} (h:n≤l.length):DropN n l (l.drop n):=by
  have h1:=DropN.app (l.take n) (l.drop n)
  rw [List.length_take,Nat.min_eq_left h,List.take_append_drop] at h1
  exact h1
theorem TakeN.of {α:Type} {n:Nat} {l:List α} (h:n≤l.length):TakeN n l (l.take n):=by
  have h1:=TakeN.app (l.take n) (l.drop n)
  rw [List.length_take,Nat.min_eq_left h,List.take_append_drop] at h1
  exact h1
theorem flat_split {α:Type} (f:α→List Value) {l:List α} {i:Nat} (hi:i<l.length):l.flatMap f=(l.take i).flatMap f++(f l[i]++(l.drop (i+1)).flatMap f):=by
  have h1:l=l.take i++l[i]::l.drop (i+1):=by rw [List.getElem_cons_drop,List.take_append_drop]
  exact (congrArg (List.flatMap f) h1).trans (by rw [List.flatMap_append,List.flatMap_cons])
theorem flat_len {α:Type} {f:α→List Value} {sz:Nat} (hf:∀ x,(f x).length=sz):∀ l:List α,(l.flatMap f).length=l.length * sz
  | []=>by simp
  | x::l=>by rw [List.flatMap_cons,List.length_append,hf,flat_len hf l,List.length_cons,Nat.succ_mul];omega
theorem DropN.flat {α:Type} {f:α→List Value} {sz:Nat} (hf:∀ x,(f x).length=sz) {l:List α} {i:Nat} (hi:i<l.length):DropN (i * sz) (l.flatMap f) (f l[i]++(l.drop (i+1)).flatMap f):=by
  have h1:=DropN.app ((l.take i).flatMap f) (f l[i]++(l.drop (i+1)).flatMap f)
  rw [flat_len hf,List.length_take,Nat.min_eq_left (Nat.le_of_lt hi),←flat_split f hi] at h1
  exact h1
theorem NthN.app_right {α:Type} {n:Nat} {l:List α} {x:α} (h:NthN n l x):∀ m:List α,NthN (m.length+n) (m++l) x
  | []=>by rw [List.length_nil,Nat.zero_add];exact h
  | y::m=>by rw [List.length_cons,Nat.add_right_comm];exact .succ (h.app_right m)
theorem NthN.app_left {α:Type} {n:Nat} {l:List α} {x:α} (h:NthN n l x) (m:List α):NthN n (l++m) x:=by
  induction h with
  | zero=>exact .zero
  | succ _ ih=>exact .succ ih
theorem NthN.flat {α:Type} {f:α→List Value} {sz:Nat} (hf:∀ x,(f x).length=sz) {l:List α} {i j:Nat} {v:Value} (hi:i<l.length) (h:NthN j (f l[i]) v):NthN (i * sz+j) (l.flatMap f) v:=by
  have h1:=(h.app_left ((l.drop (i+1)).flatMap f)).app_right ((l.take i).flatMap f)
  rw [flat_len hf,List.length_take,Nat.min_eq_left (Nat.le_of_lt hi),←flat_split f hi] at h1
  exact h1
theorem OverN.app {α:Type}:∀ (vs xs ys:List α),vs.length=xs.length→OverN vs (xs++ys) (vs++ys)
  | [],[],_,_=>.nil
  | _::vs,_::xs,ys,h=>.cons (OverN.app vs xs ys (by simpa using h))
theorem SplN.app {α:Type} {vs:List α} {l l':List α} (h:OverN vs l l'):∀ m:List α,SplN vs m.length (m++l) (m++l')
  | []=>.zero h
  | _::m=>.succ (SplN.app h m)
theorem flat_set {α:Type} (f:α→List Value) {l:List α} {i:Nat} (hi:i<l.length) (x:α):(l.set i x).flatMap f=(l.take i).flatMap f++(f x++(l.drop (i+1)).flatMap f):=by
  rw [List.set_eq_take_append_cons_drop,if_pos hi,List.flatMap_append,List.flatMap_cons]
theorem SplN.flat {α:Type} {f:α→List Value} {sz:Nat} (hf:∀ x,(f x).length=sz) {l:List α} {i:Nat} (hi:i<l.length) (x:α):SplN (f x) (i * sz) (l.flatMap f) ((l.set i x).flatMap f):=by
  have h1:=SplN.app (OverN.app (f x) (f l[i]) ((l.drop (i+1)).flatMap f) (by rw [hf,hf])) ((l.take i).flatMap f)
  rw [flat_len hf,List.length_take,Nat.min_eq_left (Nat.le_of_lt hi),←flat_split f hi,←flat_set f hi] at h1
  exact h1
theorem SetN.app_right {α:Type} {v:α} {n:Nat} {l l':List α} (h:SetN v n l l'):∀ m:List α,SetN v (m.length+n) (m++l) (m++l')
  | []=>by rw [List.length_nil,Nat.zero_add];exact h
  | y::m=>by rw [List.length_cons,Nat.add_right_comm];exact .succ (h.app_right m)
theorem SetN.app_left {α:Type} {v:α} {n:Nat} {l l':List α} (h:SetN v n l l') (m:List α):SetN v n (l++m) (l'++m):=by
  induction h with
  | zero=>exact .zero
  | succ _ ih=>exact .succ ih
theorem SetN.flat {α:Type} {f:α→List Value} {sz:Nat} (hf:∀ x,(f x).length=sz) {l:List α} {i j:Nat} {v:Value} {x:α} (hi:i<l.length) (h:SetN v j (f l[i]) (f x)):SetN v (i * sz+j) (l.flatMap f) ((l.set i x).flatMap f):=by
  have h1:=(h.app_left ((l.drop (i+1)).flatMap f)).app_right ((l.take i).flatMap f)
  rw [flat_len hf,List.length_take,Nat.min_eq_left (Nat.le_of_lt hi),←flat_split f hi,←flat_set f hi] at h1
  exact h1
def RdC (p:HProp) (b:Nat) (l:List Value):Prop:=∃ t fz,Rd p b (.cells ⟨l⟩ t fz)
theorem RdC.bl {b:Nat} {t:TypeId} {l:List Value}:RdC (bl b t l) b l:=⟨t,(0,0),Rd.pt⟩
inductive ReadsC:List HProp→Nat→List Value→Prop
  | here {p:HProp} {L:List HProp} {b:Nat} {l:List Value}:RdC p b l→ReadsC (p::L) b l
  | there {p:HProp} {L:List HProp} {b:Nat} {l:List Value}:ReadsC L b l→ReadsC (p::L) b l
theorem ReadsC.sat {L:List HProp} {b:Nat} {l:List Value} (r:ReadsC L b l):∀ {w:World},Sat L (hpOf w)→∀ o,w.cell? ⟨b,o,none⟩=l[o]? := by
  have key:∀ {h:Hp},Sat L h→∃ t fz,h b=some (.cells ⟨l⟩ t fz):=by
    induction r with
    | here hr=>obtain ⟨t,fz,hr⟩:=hr;intro h hs;exact ⟨t,fz,(Reads.here hr).sat hs⟩
    | there _ ih=>exact fun hs=>ih hs.tail
  intro w hs o
  obtain ⟨t,fz,hb⟩:=key hs
  rw [cell_hp hb];simp
theorem RdC.of_sat {p:HProp} {L:List HProp} {b:Nat} {l:List Value} (hp:∀ k,p k→Sat L k) (r:ReadsC L b l):RdC p b l:=by
  have key:∃ t fz,∀ h,Sat L h→h b=some (.cells ⟨l⟩ t fz):=by
    clear hp
    induction r with
    | here hr=>obtain ⟨t,fz,hr⟩:=hr;exact ⟨t,fz,fun h hs=>(Reads.here hr).sat hs⟩
    | there _ ih=>obtain ⟨t,fz,ih⟩:=ih;exact ⟨t,fz,fun h hs=>ih h hs.tail⟩
  obtain ⟨t,fz,key⟩:=key
  exact ⟨t,fz,fun h hh=>key h (hp h hh)⟩
inductive TurnC (b:Nat) (l l':List Value):List HProp→List HProp→Prop
  | here {t:TypeId} {L:List HProp}:TurnC b l l' (bl b t l::L) (bl b t l'::L)
  | there {p:HProp} {L L':List HProp}:TurnC b l l' L L'→TurnC b l l' (p::L) (p::L')
theorem TurnC.turn {b:Nat} {l l':List Value} {L L':List HProp} (h:TurnC b l l' L L'):∃ t,Turn b (.cells ⟨l⟩ t (0,0)) (.cells ⟨l'⟩ t (0,0)) L L':=by
  induction h with
  | here=>exact ⟨_, .here⟩
  | there _ ih=>obtain ⟨t,ih⟩:=ih;exact ⟨t, .there ih⟩
theorem TurnC.app {b:Nat} {l l':List Value} {L L':List HProp} (h:TurnC b l l' L L') (X:List HProp):TurnC b l l' (L++X) (L'++X):=by
  induction h with
  | here=>exact .here
  | there _ ih=>exact .there ih
theorem oneCell_cells {v:Value} (h:v.oneCell'=true):v.cells=#[v]:=by cases v<;>first|rfl|simp [Value.oneCell'] at h
abbrev one (v:Value):Bool:=v.oneCell'
theorem run_store_one {P:Program} {w:World} {b o:Nat} {l:List Value} {t:TypeId} (hb:hpOf w b=some (.cells ⟨l⟩ t (0,0))) {v:Value} (hv:one v=true) (ho:o<l.length) :
    (store ⟨b,o,none⟩ v).run P w=.ok () (w.setCell ⟨b,o,none⟩ v):=by
  have hc:w.cell? ⟨b,o,none⟩=some l[o]:=by rw [cell_hp hb];simp [ho]
  have hf:w.frozen? ⟨b,o,none⟩=false:=frozen_hp hb
  unfold store
  cases v<;>simp_all [Sem.run,Value.oneCell']
theorem addr_add (b o n:Nat):Addr.add ⟨b,o,none⟩ n=⟨b,o+n,none⟩:=by
  unfold Addr.add;split<;>simp_all
theorem run_storeCells {P:Program} {b o:Nat} {t:TypeId}:∀ (vs:List Value) (i:Nat) (w:World) (l:List Value),hpOf w b=some (.cells ⟨l⟩ t (0,0))→o+i+vs.length≤l.length→vs.all one=true→
    ∃ w',(storeCells ⟨b,o,none⟩ vs i).run P w=.ok () w'∧hpOf w'=upd (hpOf w) b (.cells ⟨l.take (o+i)++(vs++l.drop (o+i+vs.length))⟩ t (0,0))∧Old w w':=by
  intro vs
  induction vs with
  | nil =>
    intro i w l hb _ _
    refine ⟨w,rfl, ?_,Old.refl w⟩
    funext x
    by_cases e:x=b
    · subst e;simp [upd,hb]
    · simp [upd,e]
  | cons v vs ih =>
    intro i w l hb hl h1
    simp only [List.all_cons,Bool.and_eq_true,List.length_cons] at h1 hl
    have ho:o+i<l.length:=by omega
    have hb1:hpOf (w.setCell ⟨b,o+i,none⟩ v) b=some (.cells ⟨l.set (o+i) v⟩ t (0,0)):=by
      rw [hpOf_setCell v hb];simp [upd]
    obtain ⟨w',hr,hh,hold⟩:=ih (i+1) (w.setCell ⟨b,o+i,none⟩ v) (l.set (o+i) v) hb1 (by simp;omega) h1.2
    refine ⟨w', ?_, ?_,⟨hold.os,hold.tape,hold.output⟩⟩
    · rw [storeCells,addr_add]
      show (Sem.bind _ _).run P w=_
      have:=run_store_one (P:=P) hb h1.1 ho
      rw [Sem.run_bind',this]
      exact hr
    · rw [hh]
      funext x
      by_cases e:x=b
      · subst e
        simp only [upd,if_true]
        congr 3
        have e1:o+(i+1)=o+i+1:=by omega
        rw [e1,List.take_set,List.drop_set_of_lt (by omega)]
        simp only [List.length_cons]
        have e2:o+i+1+vs.length=o+i+(vs.length+1):=by omega
        rw [e2,List.take_succ_eq_append_getElem ho,List.set_append_right _ _ (by simp;omega)]
        simp [List.length_take,Nat.min_eq_left (Nat.le_of_lt ho)]
      · simp only [upd,e,if_false]
        rw [hpOf_setCell v hb];simp [upd,e]
section rules
variable {P:Program} {n':Fi} {E:Env} {L:List HProp} {ty:TypeId}
theorem OpV.move {x:Operand} {v:Value} (hx:ev E x=some v):OpV P n' (.move x) ty E L (v) :=
  (fun _ _ _ _ a w ha _=>by simp [execOp,ha.ev hx])
theorem OpV.assign {x:Operand} {v:Value} (hx:ev E x=some v):OpV P n' (.assign x) ty E L (v) :=
  (fun _ _ _ _ a w ha _=>by simp [execOp,ha.ev hx])
theorem OpV.pick_t {c x y:Operand} {v:Value} (hc:ev E c=some (.bool true)) (hx:ev E x=some v):OpV P n' (.pick c x y) ty E L (v) :=
  (fun _ _ _ _ a w ha _=>by simp [execOp,ha.ev hc,ha.ev hx,asBool])
theorem OpV.pick_f {c x y:Operand} {v:Value} (hc:ev E c=some (.bool false)) (hy:ev E y=some v):OpV P n' (.pick c x y) ty E L (v) :=
  (fun _ _ _ _ a w ha _=>by simp [execOp,ha.ev hc,ha.ev hy,asBool])
def binI:BinOp→IntKind→Int→Int→Option Value
  | .add,k,a,b=>some (.int k (k.wrap (a+b)))
  | .sub,k,a,b=>some (.int k (k.wrap (a - b)))
  | .mul,k,a,b=>some (.int k (k.wrap (a * b)))
  | .eql,_,a,b=>some (.bool (a == b))
  | .neq,_,a,b=>some (.bool (a != b))
  | .lss,_,a,b=>some (.bool (decide (a<b)))
  | .leq,_,a,b=>some (.bool (decide (a≤b)))
  | .gtr,_,a,b=>some (.bool (decide (b<a)))
  | .geq,_,a,b=>some (.bool (decide (b≤a)))
  | .and,k,a,b=>some (.int k (k.wrap (BitVec.ofInt k.bits a &&& BitVec.ofInt k.bits b).toNat))
  | .or,k,a,b=>some (.int k (k.wrap (BitVec.ofInt k.bits a ||| BitVec.ofInt k.bits b).toNat))
  | .xor,k,a,b=>some (.int k (k.wrap (BitVec.ofInt k.bits a ^^^ BitVec.ofInt k.bits b).toNat))
  | _,_,_,_=>none
theorem run_binI {op:BinOp} {kd:IntKind} {a b:Int} {v:Value} (hv:binI op kd a b=some v) (t:TypeId) (w:World):(binOp op t (.int kd a) (.int kd b)).run P w=.ok v w:=by
  cases op<;>simp [binI] at hv<;>subst hv<;>simp [binOp,Op.intArith,Op.intCmp,Op.intBits,GT.gt,GE.ge]
theorem OpV.bin {op:BinOp} {t t':TypeId} {x y:Operand} {kd:IntKind} {a b:Int} {v:Value} (hx:ev E x=some (.int kd a)) (hy:ev E y=some (.int kd b)) (hv:binI op kd a b=some v)
    : OpV P n' (.binOp op t x y t') ty E L (v) :=
  (fun _ _ _ _ a' w ha _=>by
    have:=run_binI (P:=P) hv t w
    simp [execOp,ha.ev hx,ha.ev hy,eqGuard,this])
class Big (n:Int):Prop where
  t:True
instance:Big 65536:=⟨trivial⟩
def ltB (a b:Int):Bool:=decide (a<b)
theorem ltB_iff {a b:Int}:ltB a b=true↔a<b:=decide_eq_true_iff
attribute [irreducible] ltB
theorem OpV.geqBig {t t':TypeId} {x:Operand} {kd:IntKind} {a n:Int} [_hb:Big n] (hx:ev E x=some (.int kd a)):OpV P n' (.binOp .geq t x (.const (.int kd n)) t') ty E L (.bool (!(ltB a n))):=by
  have h:=OpV.bin (P:=P) (n':=n') (E:=E) (L:=L) (ty:=ty) (op:=.geq) (t:=t) (t':=t') (y:=.const (.int kd n)) hx rfl rfl
  rwa [show (!(ltB a n))=decide (n≤a) by rw [Bool.eq_iff_iff,Bool.not_eq_true',←Bool.not_eq_true,ltB_iff,decide_eq_true_iff];omega]
def fits:IntKind→Int→Prop
  | .i64,n=>-9223372036854775808≤n∧n≤9223372036854775807
  | .u64,n=>0≤n∧n≤18446744073709551615
  | .i32,n=>-2147483648≤n∧n≤2147483647
  | .u32,n=>0≤n∧n≤4294967295
  | .i16,n=>-32768≤n∧n≤32767
  | .u16,n=>0≤n∧n≤65535
  | .i8,n=>-128≤n∧n≤127
  | .u8,n=>0≤n∧n≤255
theorem wrap_fits {kd:IntKind} {n:Int} (h:fits kd n):kd.wrap n=n:=by
  cases kd<;>simp only [fits] at h<;>simp only [IntKind.wrap,IntKind.signed,IntKind.bits]<;>simp<;>omega
theorem OpV.add {t t':TypeId} {x y:Operand} {kd:IntKind} {a b:Int} (hx:ev E x=some (.int kd a)) (hy:ev E y=some (.int kd b)) (hf:fits kd (a+b))
    : OpV P n' (.binOp .add t x y t') ty E L (.int kd (a+b)) :=
  OpV.bin hx hy (by simp [binI,wrap_fits hf])
theorem OpV.sub {t t':TypeId} {x y:Operand} {kd:IntKind} {a b:Int} (hx:ev E x=some (.int kd a)) (hy:ev E y=some (.int kd b)) (hf:fits kd (a - b))
    : OpV P n' (.binOp .sub t x y t') ty E L (.int kd (a - b)) :=
  OpV.bin hx hy (by simp [binI,wrap_fits hf])
theorem OpV.mul {t t':TypeId} {x y:Operand} {kd:IntKind} {a b:Int} (hx:ev E x=some (.int kd a)) (hy:ev E y=some (.int kd b)) (hf:fits kd (a * b))
    : OpV P n' (.binOp .mul t x y t') ty E L (.int kd (a * b)) :=
  OpV.bin hx hy (by simp [binI,wrap_fits hf])
theorem OpV.quo {t t':TypeId} {x y:Operand} {kd:IntKind} {a b:Int} (hx:ev E x=some (.int kd a)) (hy:ev E y=some (.int kd b)) (h0:0≤a) (h1:0<b) (hf:fits kd (a / b))
    : OpV P n' (.binOp .quo t x y t') ty E L (.int kd (a / b)) :=
  (fun _ _ _ _ a' w ha _=>by
    have hb:¬ b=0:=by omega
    have e:a.tdiv b=a / b:=Int.tdiv_eq_ediv_of_nonneg h0
    simp [execOp,ha.ev hx,ha.ev hy,eqGuard,binOp,Op.intDiv,hb,e,wrap_fits hf])
theorem OpV.quo' {t t':TypeId} {x y:Operand} {kd:IntKind} {a b:Int} (hx:ev E x=some (.int kd a)) (hy:ev E y=some (.int kd b)) (h0:0≤a) (h1:0<b) (hf:fits kd a)
    : OpV P n' (.binOp .quo t x y t') ty E L (.int kd (a / b)) :=
  OpV.quo hx hy h0 h1 (by
    have h2:0≤a / b:=Int.ediv_nonneg h0 (by omega)
    have h3:a / b≤a:=Int.ediv_le_self _ h0
    cases kd<;>simp only [fits] at * <;> omega)
theorem OpV.rem {t t':TypeId} {x y:Operand} {kd:IntKind} {a b:Int} (hx:ev E x=some (.int kd a)) (hy:ev E y=some (.int kd b)) (h0:0≤a) (h1:0<b)
    : OpV P n' (.binOp .rem t x y t') ty E L (.int kd (a % b)) :=
  (fun _ _ _ _ a' w ha _=>by
    have hb:¬ b=0:=by omega
    have e:a.tmod b=a % b:=Int.tmod_eq_emod_of_nonneg h0
    simp [execOp,ha.ev hx,ha.ev hy,eqGuard,binOp,Op.intDiv,hb,e])
theorem OpV.not {t:TypeId} {x:Operand} {b:Bool} (hx:ev E x=some (.bool b)):OpV P n' (.unOp .not t x) ty E L (.bool (!b)) :=
  (fun _ _ _ _ a w ha _=>by simp [execOp,ha.ev hx,Op.unary])
theorem OpV.conv_int {s t:TypeId} {ds:TypeDesc} {x:Operand} {kd kd':IntKind} {n:Int} [hs:Und P s ds] [ht:Und P t (.int kd')] (hx:ev E x=some (.int kd n))
    : OpV P n' (.convert s t x) ty E L (.int kd' (kd'.wrap n)) :=
  (fun _ _ _ _ a w ha _=>by
    simp only [execOp,ha.ev hx,convert,Sem.run_bind,run_underlying hs.h,run_underlying ht.h,Result.andThen_ok,Conv.intToInt,Sem.run_pure])
theorem OpV.conv_fit {s t:TypeId} {ds:TypeDesc} {x:Operand} {kd kd':IntKind} {n:Int} [hs:Und P s ds] [ht:Und P t (.int kd')] (hx:ev E x=some (.int kd n)) (hf:fits kd' n)
    : OpV P n' (.convert s t x) ty E L (.int kd' n) :=
  by have h:=OpV.conv_int (P:=P) (n':=n') (E:=E) (L:=L) (ty:=ty) (s:=s) (t:=t) hx;rw [wrap_fits hf] at h;exact h
theorem OpV.extract {x:Operand} {i:Nat} {l:List Value} {v:Value} (hx:ev E x=some (.tuple ⟨l⟩)) (hn:NthN i l v):OpV P n' (.extract x i) ty E L (v) :=
  (fun _ _ _ _ a w ha _=>by
    have:=hn.eq
    simp [execOp,ha.ev hx,Instr.extract,this])
theorem OpV.field1 {t:TypeId} {x:Operand} {i ft off:Nat} {fs:List (Nat×Nat)} {l:List Value} {v:Value} [hu:Flds P t fs] (hx:ev E x=some (.agg ⟨l⟩)) (hf:NthN i fs (ft,off)) (ha1:IsAg P ft false)
    (hn:NthN off l v):OpV P n' (.field t x i) ty E L (v) :=
  (fun _ _ _ _ a w ha _=>by
    have h1:=hn.eq
    obtain ⟨fa,f,e1,e2,rfl,rfl⟩:=flds_of (P:=P) (t:=t) hf.eq
    simp only [execOp,ha.ev hx,Instr.field,Sem.run_bind,run_underlying e1,Result.andThen_ok,asAgg,part,Sem.run_pure,List.getElem?_toArray,e2,ha1.h,Bool.false_eq_true,if_false,h1])
theorem OpV.fieldAddr {t:TypeId} {x:Operand} {i b o n ft off:Nat} {fs:List (Nat×Nat)} [hu:Flds P t fs] (hx:ev E x=some (.pointer (some ⟨b,o,none⟩))) (hf:NthN i fs (ft,off)) (hz:Siz P ft n) (hn:Nat.blt 0 n=true)
    : OpV P n' (.fieldAddr t x i) ty E L (.pointer (some ⟨b,o+off,none⟩)) :=
  (fun _ _ _ _ a w ha _=>by
    obtain ⟨fa,f,e1,e2,rfl,rfl⟩:=flds_of (P:=P) (t:=t) hf.eq
    have hn0:¬ n=0:=by have:=Nat.le_of_ble_eq_true hn;omega
    simp only [execOp,ha.ev hx,Instr.fieldAt,Sem.run_bind,run_underlying e1,Result.andThen_ok,Instr.sureAddr,Sem.run_pure,e2,fieldPlace,hz.h,hn0,if_false,addr_add])
theorem OpV.nilCheck {x:Operand} {b:Addr} (hx:ev E x=some (.pointer (some b))):OpV P n' (.nilCheck x) ty E L (.pointer (some b)) :=
  (fun _ _ _ _ a w ha _=>by simp [execOp,ha.ev hx])
theorem OpV.idxArr {t:TypeId} {x y:Operand} {b o n e sz:Nat} {kd:IntKind} {i:Int} [hu:Und P t (.array n e)] [hz:Siz P e sz] (hx:ev E x=some (.pointer (some ⟨b,o,none⟩))) (hy:ev E y=some (.int kd i)) (h0:0≤i) (h1:i<n)
    : OpV P n' (.indexAddr t x y) ty E L (.pointer (some ⟨b,o+i.toNat * sz,none⟩)) :=
  (fun _ _ _ _ a w ha _=>by
    simp only [execOp,ha.ev hx,ha.ev hy,Instr.indexAt,Sem.run_bind,run_underlying hu.h,Result.andThen_ok,Instr.sureAddr,Sem.run_pure,asIntOf,h0,h1,and_self,if_true,hz.h,addr_add])
theorem OpV.idxSl {t:TypeId} {x y:Operand} {b o n c e sz:Nat} {kd:IntKind} {i:Int} [hu:Und P t (.slice e)] [hz:Siz P e sz] (hx:ev E x=some (.slice (some ⟨b,o,none⟩) n c)) (hy:ev E y=some (.int kd i)) (h0:0≤i) (h1:i<n)
    : OpV P n' (.indexAddr t x y) ty E L (.pointer (some ⟨b,o+i.toNat * sz,none⟩)) :=
  (fun _ _ _ _ a w ha _=>by
    simp only [execOp,ha.ev hx,ha.ev hy,Instr.indexAt,Sem.run_bind,run_underlying hu.h,Result.andThen_ok,Sem.run_pure,asIntOf,h0,h1,and_self,if_true,hz.h,addr_add])
theorem OpV.idxSl0 {t:TypeId} {x y:Operand} {b n c e sz:Nat} {kd:IntKind} {i:Int} [hu:Und P t (.slice e)] [hz:Siz P e sz] (hx:ev E x=some (.slice (some ⟨b,0,none⟩) n c)) (hy:ev E y=some (.int kd i)) (h0:0≤i) (h1:i<n)
    : OpV P n' (.indexAddr t x y) ty E L (.pointer (some ⟨b,i.toNat * sz,none⟩)):=by
  have h:=OpV.idxSl (P:=P) (n':=n') (E:=E) (L:=L) (ty:=ty) (t:=t) hx hy h0 h1
  rw [Nat.zero_add] at h
  exact h
theorem OpV.len_sl {t:TypeId} {x:Operand} {e n c:Nat} {ad:Option Addr} [hu:Und P t (.slice e)] (hx:ev E x=some (.slice ad n c)):OpV P n' (.call { callee:=.builtin .len,args:=#[x],argTypes:=#[t] }) ty E L (.int .i64 (n:Int)) :=
  (fun _ _ _ _ a w ha _=>by
    simp [execOp,resolve,invoke,builtin,Builtin.len_,ha.ev hx,run_underlying hu.h,goInt])
theorem loadCells_run {w:World} {b o n:Nat} {l l1 vs:List Value} (hc:∀ o,w.cell? ⟨b,o,none⟩=l[o]?) (hdr:DropN o l l1) (htk:TakeN n l1 vs):(loadCells ⟨b,o,none⟩ n).run P w=.ok ⟨vs⟩ w:=by
  obtain ⟨h3,h4⟩:=hdr.eq
  obtain ⟨h5,h6⟩:=htk.eq
  have hl:vs.length=n:=by rw [←h5,List.length_take];omega
  have:=run_loadCells_list (P:=P) (w:=w) ⟨b,o,none⟩ vs (fun j v hj=>by
    rw [addr_add,hc,←hj,←h5,List.getElem?_take,←h3]
    have hjl:j<vs.length:=(List.getElem?_eq_some_iff.1 hj).1
    rw [if_pos (by omega),List.getElem?_drop])
  rw [hl] at this
  exact this
theorem OpV.load1 {t:TypeId} {x:Operand} {b o:Nat} {l:List Value} {v:Value} [hu:IsAg P t false] (hx:ev E x=some (.pointer (some ⟨b,o,none⟩))) (hr:ReadsC L b l) (hn:NthN o l v):OpV P n' (.load t x) ty E L v :=
  (fun _ _ _ _ a w ha hs=>by
    have hc:=hr.sat hs o
    rw [hn.eq] at hc
    simp [execOp,ha.ev hx,Instr.loadAt,Instr.sureAddr,loadVar,hu.h,hc])
theorem OpV.loadW {t:TypeId} {x:Operand} {b n:Nat} {l:List Value} [hu:IsAg P t true] [hz:Siz P t n] (hx:ev E x=some (.pointer (some ⟨b,0,none⟩))) (hr:ReadsC L b l) (hl:l.length=n):OpV P n' (.load t x) ty E L (.agg ⟨l⟩) :=
  (fun _ _ _ _ a w ha hs=>by
    have hc:(loadCells ⟨b,0,none⟩ n).run P w=.ok ⟨l⟩ w:=by
      have:=run_loadCells_list (P:=P) (w:=w) ⟨b,0,none⟩ l (fun j v hj=>by rw [addr_add,hr.sat hs,Nat.zero_add];exact hj)
      rw [hl] at this
      exact this
    simp [execOp,ha.ev hx,Instr.loadAt,Instr.sureAddr,loadVar,hu.h,hz.h,hc])
theorem OpV.loadA {t:TypeId} {x:Operand} {b o n:Nat} {l l1 vs:List Value} [hu:IsAg P t true] [hz:Siz P t n] (hx:ev E x=some (.pointer (some ⟨b,o,none⟩))) (hr:ReadsC L b l) (hdr:DropN o l l1) (htk:TakeN n l1 vs):OpV P n' (.load t x) ty E L (.agg ⟨vs⟩) :=
  (fun _ _ _ _ a w ha hs=>by
    have hc:=loadCells_run (P:=P) (hr.sat hs) hdr htk
    simp [execOp,ha.ev hx,Instr.loadAt,Instr.sureAddr,loadVar,hu.h,hz.h,hc])
theorem store_ok {w:World} {L L':List HProp} {b o:Nat} {t:TypeId} {l l':List Value} {v:Value} {n:Nat} [hz:Siz P t n] (hs:Sat L (hpOf w)) (ht:TurnC b l l' L L') (hsz:v.cells.size=n) (h1:v.cells.toList.all one=true) (hsp:SplN v.cells.toList o l l') :
    ∃ w',(storeVar t ⟨b,o,none⟩ v).run P w=.ok () w'∧Sat L' (hpOf w')∧Old w w':=by
  obtain ⟨et,ht'⟩:=ht.turn
  obtain ⟨h2,h3⟩:=hsp.eq
  have hb:=ht'.look hs
  obtain ⟨w',hr,hh,ho⟩:=run_storeCells (P:=P) v.cells.toList 0 w l hb (by simpa using h3) h1
  refine ⟨w', ?_, ?_,ho⟩
  · simp only [storeVar,Sem.run_bind,hz.h,Result.andThen_ok,hsz]
    simp [hr]
  · rw [hh]
    simp only [Nat.add_zero,h2]
    exact ht'.sat hs
theorem SetN.spl {v:Value} {o:Nat} {l l':List Value} (h:SetN v o l l'):SplN [v] o l l':=by
  induction h with
  | zero=>exact .zero (.cons .nil)
  | succ _ ih=>exact .succ ih
theorem OpOk.store1 {t:TypeId} {x y:Operand} {b o:Nat} {l l':List Value} {v:Value} {L':List HProp} [hz:Siz P t 1] (hx:ev E x=some (.pointer (some ⟨b,o,none⟩))) (hy:ev E y=some v) (h1:one v=true) (_hr:ReadsC L b l) (hsp:SetN v o l l') (ht:TurnC b l l' L L') :
    OpOk P n' (.store t x y) ty E L (fun v' L1=>v'=undef∧L1=L') :=
  (fun _ _ _ _ a w ha X hs=>by
    have e:=oneCell_cells h1
    have hspl:SplN v.cells.toList o l l':=by rw [e];exact hsp.spl
    obtain ⟨w',hr,hs',ho⟩:=store_ok (P:=P) (t:=t) (n:=1) hs (ht.app X) (by rw [e];rfl) (by rw [e];simp [h1]) hspl
    exact ⟨undef,w',L', .inr ⟨by simp [execOp,ha.ev hx,ha.ev hy,Instr.storeAt,Instr.sureAddr,hr],rfl⟩,⟨rfl,rfl⟩,hs',ho⟩)
theorem OpOk.storeA {t:TypeId} {x y:Operand} {b o n:Nat} {l l' vs:List Value} {L':List HProp} [hz:Siz P t n] (hx:ev E x=some (.pointer (some ⟨b,o,none⟩))) (hy:ev E y=some (.agg ⟨vs⟩)) (hlen:vs.length=n) (h1:vs.all one=true) (_hr:ReadsC L b l) (hsp:SplN vs o l l') (ht:TurnC b l l' L L') :
    OpOk P n' (.store t x y) ty E L (fun v' L1=>v'=undef∧L1=L') :=
  (fun _ _ _ _ a w ha X hs=>by
    obtain ⟨w',hr,hs',ho⟩:=store_ok (P:=P) (t:=t) (n:=n) (v:=.agg ⟨vs⟩) hs (ht.app X) hlen h1 hsp
    exact ⟨undef,w',L', .inr ⟨by simp [execOp,ha.ev hx,ha.ev hy,Instr.storeAt,Instr.sureAddr,hr],rfl⟩,⟨rfl,rfl⟩,hs',ho⟩)
def Fresh (mk:Nat→Value) (t:TypeId) (cs:List Value) (L:List HProp) (v:Value) (L':List HProp):Prop:=∃ b,v=mk b∧L'=bl b t cs::L
theorem OpOk.fresh {op:Op} {t:TypeId} {cs:List Value} {mk:Nat→Value}
    (ho:∀ d ps af g a,AOk n' E a→∀ w,Sat L (hpOf w)→(execOp a.eval ⟨d,op,ty,ps,af,g⟩).run P w=.ok (.value (mk w.heap.size)) (w.alloc (.cells ⟨cs⟩ t))) :
    OpOk P n' op ty E L (Fresh mk t cs L) :=
  (fun d ps af g a w ha _ hs=>⟨_,_,_, .inl (ho d ps af g a ha w hs.head_of),⟨_,rfl,rfl⟩,sat_alloc hs _,⟨rfl,rfl,rfl⟩⟩)
theorem OpOk.boxA {t:TypeId} {x:Operand} {vs:List Value} (hx:ev E x=some (.agg ⟨vs⟩)):OpOk P n' (.box t x) ty E L (Fresh (fun b=>.pointer (some ⟨b,0,none⟩)) t vs L) :=
  OpOk.fresh (fun _ _ _ _ a ha w _=>by simp [execOp,ha.ev hx,Instr.box,newVar,newRow,Value.cells])
theorem OpOk.allocA {t:TypeId} {vs:List Value} [hz:Zer P t (.agg ⟨vs⟩)]:OpOk P n' (.alloc t) ty E L (Fresh (fun b=>.pointer (some ⟨b,0,none⟩)) t vs L) :=
  OpOk.fresh (fun _ _ _ _ a ha w _=>by simp [execOp,Instr.alloc,hz.h,newVar,newRow,Value.cells])
inductive Evp (E:Env):List (Nat×Operand)→List (Nat×Value)→Prop
  | nil:Evp E [] []
  | cons {i:Nat} {x:Operand} {v:Value} {xs:List (Nat×Operand)} {vs:List (Nat×Value)}:ev E x=some v→Evp E xs vs→Evp E ((i,x)::xs) ((i,v)::vs)
theorem Evp.eq {n:Fi} {a:Act} (ha:AOk n E a) {xs:List (Nat×Operand)} {vs:List (Nat×Value)} (h:Evp E xs vs):xs.map (fun p=>(p.1,a.eval p.2))=vs:=by
  induction h with
  | nil=>rfl
  | cons hx _ ih=>simp [ha.ev hx,ih]
def cl:Value→List Value
  | .agg ⟨l⟩=>l
  | v=>[v]
theorem cl_eq (v:Value):v.cells.toList=cl v:=by cases v<;>rfl
inductive Fill (P:Program) (pl:Nat→Nat→Nat→Prop):List (Nat×Value)→List Value→List Value→Prop
  | nil {l:List Value}:Fill P pl [] l l
  | cons {i off n:Nat} {v:Value} {vs:List (Nat×Value)} {l l1 l2:List Value}:pl i off n→(cl v).length=n→SplN (cl v) off l l1→Fill P pl vs l1 l2→Fill P pl ((i,v)::vs) l l2
theorem foldl_set (vs:List Value):∀ (l:List Value) (o k:Nat),o+k+vs.length≤l.length→
    ((vs.zipIdx k).foldl (fun (cs:Array Value) (p:Value×Nat)=>cs.setIfInBounds (o+p.2) p.1) ⟨l⟩)=⟨l.take (o+k)++(vs++l.drop (o+k+vs.length))⟩:=by
  induction vs with
  | nil=>intro l o k h;simp
  | cons v vs ih =>
    intro l o k h
    simp only [List.length_cons] at h
    simp only [List.zipIdx_cons,List.foldl_cons]
    have e:(Array.setIfInBounds (⟨l⟩:Array Value) (o+k) v)=⟨l.set (o+k) v⟩:=by simp
    rw [e,ih (l.set (o+k) v) o (k+1) (by simp;omega)]
    have ho:o+k<l.length:=by omega
    have e1:o+(k+1)=o+k+1:=by omega
    have e2:o+k+1+vs.length=o+k+(vs.length+1):=by omega
    rw [e1,List.take_set,List.drop_set_of_lt (by omega),e2,List.take_succ_eq_append_getElem ho,List.set_append_right _ _ (by simp;omega)]
    simp [List.length_take,Nat.min_eq_left (Nat.le_of_lt ho)]
theorem fill_eq {pl:Nat→Nat→Nat→Prop} {place:Nat→Option (Nat×Nat)} (hp:∀ i off n,pl i off n→place i=some (off,n)) {vs:List (Nat×Value)} {l l2:List Value} (h:Fill P pl vs l l2) :
    Instr.fill place ⟨l⟩ vs=some ⟨l2⟩:=by
  induction h with
  | nil=>rfl
  | @cons i off n v vs l l1 l2 h1 h2 h3 _ ih =>
    obtain ⟨h4,h5⟩:=h3.eq
    have hc:v.cells=⟨cl v⟩:=by cases v<;>rfl
    have hsz:v.cells.size=n:=by rw [hc];exact h2
    simp only [Instr.fill,hp i off n h1,hsz]
    have hle:¬ off+n > (⟨l⟩:Array Value).size:=by simp;omega
    simp only [ne_eq,not_true,decide_false,Bool.false_or]
    rw [if_neg (by simpa using hle)]
    have e:(v.cells.zipIdx.foldl (fun (cs:Array Value) (p:Value×Nat)=>cs.setIfInBounds (off+p.2) p.1) ⟨l⟩)=⟨l1⟩:=by
      rw [←Array.foldl_toList,Array.toList_zipIdx,hc,foldl_set _ _ _ _ (by simpa using h5),←h4]
      simp
    rw [e]
    exact ih
def PlS (P:Program) (fs:List (Nat×Nat)) (i off n:Nat):Prop:=∃ ft,NthN i fs (ft,off)∧Siz P ft n
theorem PlS.mk {fs:List (Nat×Nat)} {i off n ft:Nat} (h:NthN i fs (ft,off)) (hz:Siz P ft n):PlS P fs i off n:=⟨ft,h,hz⟩
inductive SizA (P:Program):List (Nat×Nat)→Prop
  | nil:SizA P []
  | cons {ft off n:Nat} {fs:List (Nat×Nat)}:Siz P ft n→SizA P fs→SizA P ((ft,off)::fs)
theorem OpV.buildS {t:TypeId} {parts:List (Nat×Operand)} {pvs:List (Nat×Value)} {fs:List (Nat×Nat)} {zs cs:List Value} [hu:Flds P t fs] [hz:Zer P t (.agg ⟨zs⟩)] (hsz:SizA P fs) (hp:Evp E parts pvs) (hf:Fill P (PlS P fs) pvs zs cs) :
    OpV P n' (.build t ⟨parts⟩) ty E L (.agg ⟨cs⟩) :=
  (fun _ _ _ _ a w ha _=>by
    obtain ⟨fa,e1,rfl⟩:=hu.h
    have hpl:∃ places:List (Nat×Nat),((fa.toList.mapM fun f=>do pure (f.offset,←sizeOf f.type)):Sem _).run P w=.ok places w∧∀ i off n,PlS P (fa.toList.map fun f=>(f.type,f.offset)) i off n→places[i]? = some (off,n):=by
      clear hf e1
      generalize fa.toList=fl at *
      induction fl with
      | nil=>exact ⟨[],by simp,by rintro i off n ⟨ft,h,_⟩;cases h⟩
      | cons f fl ih =>
        cases hsz with
        | cons hz1 hr =>
          obtain ⟨pl,h1,h2⟩:=ih hr
          rename_i n1
          refine ⟨(f.offset,n1)::pl, ?_, ?_⟩
          · simp only [List.mapM_cons,Sem.run_bind,hz1.h,Result.andThen_ok,Sem.run_pure]
            have:(Sem.run P (List.mapM (fun f=>do let __do_lift←sizeOf f.type;pure (f.offset,__do_lift)) fl) w)=.ok pl w:=h1
            rw [this]
            simp
          · rintro i off n ⟨ft,h,hs⟩
            cases h with
            | zero =>
              have e:=hs.h w
              rw [hz1.h w] at e
              injection e with e
              subst e
              rfl
            | succ h=>simpa using h2 _ off n ⟨ft,h,hs⟩
    obtain ⟨pl,h1,h2⟩:=hpl
    have e2:=fill_eq (P:=P) (place:=fun i=>pl[i]?) h2 hf
    have e3:=hp.eq ha
    simp only [execOp,Instr.build,Sem.run_bind,hz.h,Result.andThen_ok,run_underlying e1,Value.cells,Array.mapM_eq_mapM_toList]
    simp only [Sem.run_map,h1,Result.andThen_ok,List.getElem?_toArray,List.map_toArray,e3,e2,Sem.run_pure])
def PlA (sz:Nat) (i off n:Nat):Prop:=off=i * sz∧n=sz
theorem OpV.buildA {t:TypeId} {parts:List (Nat×Operand)} {pvs:List (Nat×Value)} {m e sz:Nat} {zs cs:List Value} [hu:Und P t (.array m e)] [hs:Siz P e sz] [hz:Zer P t (.agg ⟨zs⟩)] (hp:Evp E parts pvs) (hf:Fill P (PlA sz) pvs zs cs) :
    OpV P n' (.build t ⟨parts⟩) ty E L (.agg ⟨cs⟩) :=
  (fun _ _ _ _ a w ha _=>by
    have e2:=fill_eq (P:=P) (place:=fun i=>some (i * sz,sz)) (by rintro i off n ⟨rfl,rfl⟩;rfl) hf
    have e3:=hp.eq ha
    simp only [execOp,Instr.build,Sem.run_bind,hz.h,Result.andThen_ok,run_underlying hu.h,Value.cells,hs.h,List.map_toArray,e3,e2,Sem.run_pure])
inductive Seq (sz:Nat):Nat→List (Nat×Value)→List Value→Prop
  | nil {k:Nat}:Seq sz k [] []
  | cons {k:Nat} {v:Value} {vs:List (Nat×Value)} {cs:List Value}:(cl v).length=sz→Seq sz (k+1) vs cs→Seq sz k ((k,v)::vs) (cl v++cs)
theorem seq_fill {sz:Nat}:∀ {vs:List (Nat×Value)} {k:Nat} {cs l:List Value},Seq sz k vs cs→k * sz+vs.length * sz≤l.length→
    Instr.fill (fun i=>some (i * sz,sz)) ⟨l⟩ vs=some ⟨l.take (k * sz)++(cs++l.drop (k * sz+vs.length * sz))⟩:=by
  intro vs
  induction vs with
  | nil=>intro k cs l h _;cases h;simp [Instr.fill]
  | cons x vs ih =>
    intro k cs l h hl
    cases h with
    | @cons _ v _ cs h1 h2 =>
      simp only [List.length_cons] at hl
      have hc:v.cells=⟨cl v⟩:=by cases v<;>rfl
      have hsz:v.cells.size=sz:=by rw [hc];exact h1
      have hl':k * sz+(vs.length * sz+sz)≤l.length:=by rw [Nat.succ_mul] at hl;exact hl
      simp only [Instr.fill,hsz]
      have hle:¬ k * sz+sz > (⟨l⟩:Array Value).size:=by simp;omega
      simp only [ne_eq,not_true,decide_false,Bool.false_or]
      rw [if_neg (by simpa using hle)]
      have e:(v.cells.zipIdx.foldl (fun (cs:Array Value) (p:Value×Nat)=>cs.setIfInBounds (k * sz+p.2) p.1) ⟨l⟩)=⟨l.take (k * sz)++(cl v++l.drop (k * sz+sz))⟩:=by
        rw [←Array.foldl_toList,Array.toList_zipIdx,hc,foldl_set _ _ _ _ (by simp only [h1];omega),h1]
        simp
      rw [e,ih h2 (by simp only [List.length_append,List.length_take,List.length_drop,h1,Nat.succ_mul];omega)]
      have hlt:(l.take (k * sz)).length=k * sz:=by rw [List.length_take];omega
      have e1:(k+1) * sz=k * sz+sz:=Nat.succ_mul _ _
      have hab:(l.take (k * sz)++cl v).length=(k+1) * sz:=by rw [List.length_append,hlt,h1,e1]
      have e2:(l.take (k * sz)++(cl v++l.drop (k * sz+sz))).take ((k+1) * sz)=l.take (k * sz)++cl v:=by
        rw [←List.append_assoc,List.take_append_of_le_length (by omega),List.take_of_length_le (by omega)]
      have e3:(l.take (k * sz)++(cl v++l.drop (k * sz+sz))).drop ((k+1) * sz+vs.length * sz)=l.drop (k * sz+(vs.length+1) * sz):=by
        rw [←List.append_assoc,←hab,List.drop_length_add_append,List.drop_drop]
        congr 1
        rw [Nat.succ_mul];omega
      rw [e2,e3]
      simp
theorem OpOk.buildSl {t e sz m:Nat} {z:Value} {parts:List (Nat×Operand)} {pvs:List (Nat×Value)} {cs:List Value} [hu:Und P t (.slice e)] [hs:Siz P e sz] [hz:Zer P e z] (hp:Evp E parts pvs) (hq:Seq sz 0 pvs cs) (hm:pvs.length=m) (hb:Nat.ble (m * sz) 16777216=true) :
    OpOk P n' (.buildSlice t m ⟨parts⟩) ty E L (Fresh (fun b=>.slice (some ⟨b,0,none⟩) m m) e cs L) :=
  OpOk.fresh (fun _ _ _ _ a ha w _=>by
    have e3:=hp.eq ha
    have hle:=Nat.le_of_ble_eq_true hb
    have hno:¬ m * sz > 16777216:=by omega
    have key:∀ zero:Array Value,Instr.fill (fun i=>some (i * sz,sz)) ((Array.range (m * sz)).map (zero[· % zero.size]!)) pvs=some ⟨cs⟩:=by
      intro zero
      have hlen:((Array.range (m * sz)).map (zero[· % zero.size]!)).toList.length=m * sz:=by simp
      have:=seq_fill (l:=((Array.range (m * sz)).map (zero[· % zero.size]!)).toList) hq (by rw [hlen,hm];omega)
      rw [List.drop_of_length_le (by rw [hlen,hm];omega)] at this
      simp only [Nat.zero_mul,List.take_zero,List.nil_append,List.append_nil] at this
      exact this
    simp only [execOp,Instr.buildSlice,Sem.run_bind,run_underlying hu.h,Result.andThen_ok,hs.h,Nat.reducePow,hno,if_false,Sem.run_pure,List.map_toArray,e3]
    by_cases h0:m * sz=0
    · simp only [h0,if_true]
      have:=key #[]
      rw [h0] at this
      simp only [this,Sem.run_bind,newRow,run_newObj,Result.andThen_ok,Sem.run_pure]
      rfl
    · simp only [h0,if_false,Sem.run_bind,hz.h,Result.andThen_ok,Sem.run_pure,key,newRow,run_newObj]
      rfl)
inductive Evs (E:Env):List Operand→List Value→Prop
  | nil:Evs E [] []
  | cons {x:Operand} {v:Value} {xs:List Operand} {vs:List Value}:ev E x=some v→Evs E xs vs→Evs E (x::xs) (v::vs)
theorem Evs.eq {n:Fi} {a:Act} (ha:AOk n E a) {xs:List Operand} {vs:List Value} (h:Evs E xs vs):xs.map a.eval=vs:=by
  induction h with
  | nil=>rfl
  | cons hx _ ih=>simp [ha.ev hx,ih]
theorem OpC.func {g:FuncId} {xs:List Operand} {ats:Array TypeId} {vs:List Value} [he:Enters P g] (hx:Evs E xs vs) :
    OpC P n' (.call { callee:=.value (.func g),args:=⟨xs⟩,argTypes:=ats }) ty E g ⟨vs⟩ :=
  (fun _ _ _ _ a w ha=>by
    have e:=hx.eq ha
    have e3:∀ args:Array Value,(callFunc g args).run P w=.ok (.enter g args) w:=fun args=>he.h args w
    simp [execOp,resolve,invoke,Act.eval,Deferred.ofValue,e3]
    exact e)
def EqV (P:Program) (m:Nat) (t:TypeId) (x y:Value) (b:Bool):Prop:=∀ d w,(Op.equalIn (d+m) t x y).run P w=.ok b w
theorem OpV.min2 {x y:Operand} {ats:Array TypeId} {kd:IntKind} {a b:Int} (hx:ev E x=some (.int kd a)) (hy:ev E y=some (.int kd b)) :
    OpV P n' (.call { callee:=.builtin .min,args:=⟨[x,y]⟩,argTypes:=ats }) ty E L (.int kd (if b<a then b else a)) :=
  (fun _ _ _ _ a w ha _=>by simp [execOp,resolve,invoke,builtin,Builtin.min_,Builtin.min2,ha.ev hx,ha.ev hy])
theorem OpV.max2 {x y:Operand} {ats:Array TypeId} {kd:IntKind} {a b:Int} (hx:ev E x=some (.int kd a)) (hy:ev E y=some (.int kd b)) :
    OpV P n' (.call { callee:=.builtin .max,args:=⟨[x,y]⟩,argTypes:=ats }) ty E L (.int kd (if a<b then b else a)) :=
  (fun _ _ _ _ a w ha _=>by simp [execOp,resolve,invoke,builtin,Builtin.max_,Builtin.max2,ha.ev hx,ha.ev hy])
end rules
theorem tup3 {a b c a' b' c':Int} {k l m:IntKind} (h1:a=a') (h2:b=b') (h3:c=c'):Value.tuple ⟨[.int k a, .int l b, .int m c]⟩=.tuple ⟨[.int k a', .int l b', .int m c']⟩:=by rw [h1,h2,h3]
inductive Res (P:Program) (E:Env) (L:List HProp):List ResultVar→List Value→Prop
  | nil:Res P E L [] []
  | tmp {t:Tmp} {v:Value} {rs:List ResultVar} {vs:List Value}:get E t=some v→Res P E L rs vs→Res P E L (.tmp t::rs) (v::vs)
  | cell1 {a:Tmp} {t:TypeId} {b o:Nat} {v:Value} {l:List Value} {rs:List ResultVar} {vs:List Value}:IsAg P t false→get E a=some (.pointer (some ⟨b,o,none⟩))→ReadsC L b l→NthN o l v→Res P E L rs vs→Res P E L (.cell a t::rs) (v::vs)
  | cellA {a:Tmp} {t:TypeId} {b o n:Nat} {l l1 cs:List Value} {rs:List ResultVar} {vs:List Value}:IsAg P t true→Siz P t n→get E a=some (.pointer (some ⟨b,o,none⟩))→ReadsC L b l→DropN o l l1→TakeN n l1 cs→Res P E L rs vs→Res P E L (.cell a t::rs) (.agg ⟨cs⟩::vs)
theorem Res.cellW {P:Program} {E:Env} {L:List HProp} {a:Tmp} {t:TypeId} {b n:Nat} {l:List Value} {rs:List ResultVar} {vs:List Value} (h1:IsAg P t true) (h2:Siz P t n) (h3:get E a=some (.pointer (some ⟨b,0,none⟩))) (h4:ReadsC L b l) (h5:l.length=n) (h6:Res P E L rs vs):Res P E L (.cell a t::rs) (.agg ⟨l⟩::vs):=by
  subst h5
  have ht:∀ m:List Value,TakeN m.length m m:=by
    intro m
    induction m with
    | nil=>exact .zero
    | cons x m ih=>exact .succ ih
  exact .cellA h1 h2 h3 h4 .zero (ht l) h6
def resV:List Value→Value
  | [v]=>v
  | vs=>.tuple ⟨vs⟩
def resOf (tmps:Array Value):ResultVar→Sem Value
  | .tmp t=>pure (tmps.getD t undef)
  | .cell a t=>do loadVar t (←asAddr (tmps.getD a undef))
theorem Res.run {P:Program} {E:Env} {L:List HProp} {n:Fi} {rs:List ResultVar} {vs:List Value} (h:Res P E L rs vs) {a:Act} {w:World} (ha:AOk n E a) (hs:Sat L (hpOf w)) :
    (rs.mapM (resOf a.tmps)).run P w=.ok vs w:=by
  induction h with
  | nil=>simp
  | @tmp t v rs vs hg _ ih =>
    have e:=ha.at_ t v hg
    have h1:(resOf a.tmps (.tmp t)).run P w=.ok v w:=by simp [resOf,e]
    simp [h1,ih]
  | @cell1 x t b o v l rs vs hA hg hr hn _ ih =>
    have e:=ha.at_ x _ hg
    have hc:=hr.sat hs o
    rw [hn.eq] at hc
    have h1:(resOf a.tmps (.cell x t)).run P w=.ok v w:=by simp [resOf,e,asAddr,loadVar,hA.h,hc]
    simp [h1,ih]
  | @cellA x t b o n l l1 cs rs vs hA hz hg hr hdr htk _ ih =>
    have e:=ha.at_ x _ hg
    have hc:=loadCells_run (P:=P) (hr.sat hs) hdr htk
    have h1:(resOf a.tmps (.cell x t)).run P w=.ok (.agg ⟨cs⟩) w:=by simp [resOf,e,asAddr,loadVar,hA.h,hz.h,hc]
    simp [h1,ih]
theorem results_run {P:Program} {E:Env} {L:List HProp} {n:Fi} {fn:Func} {rs:List ResultVar} (hr:fn.results=⟨rs⟩) {vs:List Value} (h:Res P E L rs vs) {a:Act} {w:World} (ha:AOk n E a) (hs:Sat L (hpOf w)) :
    (results fn a.tmps).run P w=.ok (resV vs) w:=by
  have h1:=h.run ha hs
  have h2:(Array.mapM (resOf a.tmps) fn.results).run P w=.ok ⟨vs⟩ w:=by
    rw [hr,Array.mapM_eq_mapM_toList,Sem.run_map,h1]
    rfl
  show (Sem.bind (Array.mapM (resOf a.tmps) fn.results) _).run P w=_
  rw [Sem.run_bind',h2]
  match vs with
  | []=>rfl
  | [v]=>rfl
  | _::_::_=>simp [resV]
theorem St.done {P:Program} {C:Cx} {k:List Item} {E:Env} {L:List HProp} {rs:List ResultVar} {vs:List Value} {L':List HProp} (hres:C.fn.results=⟨rs⟩) (hr:Res P E L rs vs) (hf:P.funcs[C.f]? = some C.fn)
    (hQ:C.Q (resV vs) L') (hL:Ent L (L'++C.F)) (hds:C.ds=[]):St P C (.code .ret::k) E L :=
  St.ret hds (fun _ _ ha hs=>results_run hres hr ha hs) hf hQ hL
theorem St.fell {P:Program} {C:Cx} {E:Env} {L:List HProp} {rs:List ResultVar} {vs:List Value} {L':List HProp} (hres:C.fn.results=⟨rs⟩) (hr:Res P E L rs vs) (hf:P.funcs[C.f]? = some C.fn)
    (hQ:C.Q (resV vs) L') (hL:Ent L (L'++C.F)) (hds:C.ds=[]):St P C [] E L :=
  St.end_ hds (fun _ _ ha hs=>results_run hres hr ha hs) hf hQ hL
section slices
variable {P:Program} {n':Fi} {E:Env} {L:List HProp} {ty:TypeId}
theorem info_of {e sz by_:Nat} {z:Value} [hz:Zer P e z] [hs:Siz P e sz] [hb:Byt P e by_]:∃ i,P.info? e=some i∧i.zero=some z∧i.size=sz∧i.bytes=by_:=by
  obtain ⟨i,hi,hby⟩:=hb.h
  have w:World:=default
  have e1:P.info? e=some i:=by
    have:=hi w
    simp only [typeInfo,Sem.run_bind,run_program,Result.andThen_ok] at this
    cases h:P.info? e with
    | none=>rw [h] at this;simp at this
    | some j=>rw [h] at this;simp at this;rw [this]
  refine ⟨i,e1, ?_, ?_,hby⟩
  · have:=hz.h w
    simp only [zeroValue,Sem.run_bind,hi w,Result.andThen_ok] at this
    cases h:i.zero with
    | none=>rw [h] at this;simp at this
    | some j=>rw [h] at this;simp at this;rw [this]
  · have:=hs.h w
    simp only [sizeOf,Sem.run_bind,hi w,Result.andThen_ok,Sem.run_pure] at this
    injection this
def Row (v:Value) (e sz n:Nat) (xs:List Value):HProp:=fun h=>xs.length=n * sz∧
  ((v=.slice none 0 0∧n=0)∨∃ g cap cur,v=.slice (some ⟨g,0,none⟩) n cap∧n≤cap∧cap≤maxLen∧cur.size=cap * sz∧cur.toList.take (n * sz)=xs∧pt g (.cells cur e (0,0)) h)
theorem Take.app {p:HProp} {L L1:List HProp} (h:Take p L L1) (X:List HProp):Take p (L++X) (L1++X):=by
  induction h with
  | here=>exact .here
  | there _ ih=>exact .there ih
theorem Ent.row_nil (e sz:Nat) {L:List HProp}:Ent L (Row (.slice none 0 0) e sz 0 []::L):=fun h hs =>
  ⟨fun _=>none,h,fun _=>.inl rfl,fun _=>rfl,⟨by simp, .inl ⟨rfl,rfl⟩⟩,hs⟩
theorem Ent.row_bl {b e sz n:Nat} {l:List Value} {L:List HProp} (hl:l.length=n * sz) (hn:n≤maxLen):Ent (bl b e l::L) (Row (.slice (some ⟨b,0,none⟩) n n) e sz n l::L):=by
  refine Ent.head fun h hb=>⟨hl, .inr ⟨b,n,⟨l⟩,rfl,Nat.le_refl _,hn,hl, ?_,hb⟩⟩
  rw [←hl];exact List.take_length
structure RowF (n cap sz:Nat) (xs rest:List Value):Prop where
  le:n≤cap
  max:cap≤maxLen
  len:xs.length=n * sz
  tot:xs.length+rest.length=cap * sz
theorem St.rowF {P:Program} {C:Cx} {k:List Item} {E:Env} {v:Value} {e sz n:Nat} {xs:List Value} {L:List HProp} (hn:0<n)
    (h:∀ g cap rest,v=.slice (some ⟨g,0,none⟩) n cap→RowF n cap sz xs rest→St P C k E (bl g e (xs++rest)::L)):St P C k E (Row v e sz n xs::L):=by
  intro a w ha hs ho
  obtain ⟨h1,h2,hd,hor,⟨hl,hr⟩,hL⟩:=hs
  rcases hr with ⟨_,h0⟩|⟨g,cap,cur,rfl,hc,hm,hcs,htk,hp⟩
  · omega
  · refine h g cap (cur.toList.drop (n * sz)) rfl ⟨hc,hm,hl, ?_⟩ a w ha ⟨h1,h2,hd,hor, ?_,hL⟩ ho
    · rw [←hcs,←htk,←List.length_append,List.take_append_drop];simp
    · rw [←htk,List.take_append_drop]
      exact hp
theorem St.rowC {P:Program} {C:Cx} {k:List Item} {E:Env} {v:Value} {e sz n:Nat} {xs:List Value} {L:List HProp} (h0:v=.slice none 0 0→n=0→xs=[]→St P C k E L)
    (h:∀ g cap rest,v=.slice (some ⟨g,0,none⟩) n cap→RowF n cap sz xs rest→St P C k E (bl g e (xs++rest)::L)):St P C k E (Row v e sz n xs::L):=by
  intro a w ha hs ho
  have hs0:=hs
  obtain ⟨h1,h2,hd,hor,⟨hl,hr⟩,hL⟩:=hs
  rcases hr with ⟨hv,hn⟩|⟨g,cap,cur,rfl,hc,hm,hcs,htk,hp⟩
  · exact h0 hv hn (List.eq_nil_of_length_eq_zero (by rw [hl,hn,Nat.zero_mul])) a w ha hs0.tail ho
  · refine h g cap (cur.toList.drop (n * sz)) rfl ⟨hc,hm,hl, ?_⟩ a w ha ⟨h1,h2,hd,hor, ?_,hL⟩ ho
    · rw [←hcs,←htk,←List.length_append,List.take_append_drop];simp
    · rw [←htk,List.take_append_drop]
      exact hp
theorem Ent.rowF {g cap e sz n:Nat} {xs rest:List Value} {L:List HProp} (h:RowF n cap sz xs rest):Ent (bl g e (xs++rest)::L) (Row (.slice (some ⟨g,0,none⟩) n cap) e sz n xs::L):=by
  refine Ent.head fun k hb=>⟨h.len, .inr ⟨g,cap,⟨xs++rest⟩,rfl,h.le,h.max, ?_, ?_,hb⟩⟩
  · show (xs++rest).length=_
    rw [List.length_append];exact h.tot
  · rw [←h.len];exact List.take_left
theorem row_append {w:World} {t e sz by_ n m c bx ox:Nat} {z v:Value} {xs news blk r:List Value} {X:List HProp} [hu:Und P t (.slice e)] [hz:Zer P e z] [hs:Siz P e sz] [hb:Byt P e by_]
    (hsat:Sat (Row v e sz n xs::X) (hpOf w)) (hc:∀ o,w.cell? ⟨bx,o,none⟩=blk[o]?) (hdr:DropN ox blk r) (htk:TakeN (m * sz) r news) (h1:news.all one=true) (hzs:(cl z).length=sz) (hpos:0<sz) (h63:n+m≤9223372036854775807) (hby:(n+m) * by_≤140737488355328) :
    ∃ v' w',(Builtin.append_ #[t,t] ty #[v, .slice (some ⟨bx,ox,none⟩) m c]).run P w=.ok v' w'∧Sat (Row v' e sz (n+m) (xs++news)::X) (hpOf w')∧Old w w':=by
  obtain ⟨i,hi,hiz,his,hib⟩:=info_of (P:=P) (e:=e) (sz:=sz) (by_:=by_) (z:=z)
  obtain ⟨h1',h2',hd,hju,hrow,hX⟩:=hsat
  have hown:w.ownsRow 0 e sz v n xs:=by
    refine ⟨hrow.1, ?_⟩
    rcases hrow.2 with h|⟨g,cap,cur,hv,hnc,hcm,hcs,htk',hp⟩
    · exact .inl h
    · refine .inr ⟨g,cap,cur,hv,Nat.zero_le _, ?_,hnc,hcm,hcs,htk'⟩
      have:hpOf w g=some (.cells cur e (0,0)):=by rw [hju g,hp g];simp
      exact this
  obtain ⟨d1,d2⟩:=hdr.eq
  obtain ⟨k1,k2⟩:=htk.eq
  have hnl:news.length=m * sz:=by rw [←k1,List.length_take];omega
  obtain ⟨v',w',hrun,hown',hg,_,hat⟩:=run_append_own_at (P:=P) w 0 t ty e i z sz by_ hu.h hi hiz his hib (by rw [←Array.length_toList,cl_eq];exact hzs) hpos v n xs hown ⟨bx,ox,none⟩ m c news hnl
    (fun j u hj=>by
      rw [addr_add,hc,←hj,←k1,List.getElem?_take,←d1]
      have hjl:j<news.length:=(List.getElem?_eq_some_iff.1 hj).1
      rw [if_pos (by omega),List.getElem?_drop]) (by simpa using h1) (by simp only [maxLen];omega) hby (Nat.zero_le _)
  refine ⟨v',w',hrun, ?_,⟨hg.os,hg.tape,hg.output⟩⟩
  have hrest:∀ b o,h2' b=some o→hpOf w' b=some o∧v.ownBlock≠some b∧b<w.heap.size:=by
    intro b o hb
    have hn1:h1' b=none:=(hd b).resolve_right (by rw [hb];simp)
    have hwb:hpOf w b=some o:=by rw [hju b,hn1,hb];rfl
    have hlt:b<w.heap.size:=(Array.getElem?_eq_some_iff.1 hwb).1
    have hne:v.ownBlock≠some b:=by
      intro he
      rcases hrow.2 with ⟨rfl,_⟩|⟨g,cap,cur,rfl,_,_,_,_,hp⟩
      · simp [Value.ownBlock] at he
      · have:g=b:=by simpa [Value.ownBlock] using he
        subst this
        rw [hp g] at hn1
        simp at hn1
    exact ⟨(hg.block b hlt (fun h=>hne h.symm)).trans hwb,hne,hlt⟩
  rcases hown'.2 with ⟨hv',hn'⟩|⟨g,cap,cur,hv',_,hgb,hnc,hcm,hcs,htk'⟩
  · refine ⟨fun _=>none,hpOf w',fun _=>.inl rfl,fun _=>by simp,⟨hown'.1, .inl ⟨hv',hn'⟩⟩,hX.mono fun b o hb=>(hrest b o hb).1⟩
  · have hgn:∀ o,h2' g≠some o:=by
      intro o hb
      obtain ⟨_,h2,h3⟩:=hrest g o hb
      rw [hv'] at hat
      rcases hat with hat|hat
      · exact h2 (by rw [←hat];rfl)
      · have:g=w.heap.size:=by simpa [Value.ownBlock] using hat
        omega
    refine ⟨fun x=>if x=g then some (.cells cur e (0,0)) else none,fun x=>if x=g then none else hpOf w' x, ?_, ?_,⟨hown'.1, .inr ⟨g,cap,cur,hv',hnc,hcm,hcs,htk',fun _=>rfl⟩⟩,hX.mono fun b o hb=>?_⟩
    · intro x
      by_cases e:x=g<;>simp [e]
    · intro x
      by_cases e:x=g
      · subst e;simp;exact hgb
      · simp [e]
    · have hne:b≠g:=fun e=>hgn o (e▸hb)
      simp [hne,(hrest b o hb).1]
theorem OpOk.append {t e sz by_ n m c bx ox:Nat} {z v:Value} {s x:Operand} {xs news blk r:List Value} {L1:List HProp} [hu:Und P t (.slice e)] [hz:Zer P e z] [hs:Siz P e sz] [hb:Byt P e by_]
    (hv:ev E s=some v) (hx:ev E x=some (.slice (some ⟨bx,ox,none⟩) m c)) (ht:Take (Row v e sz n xs) L L1) (hr:ReadsC L bx blk) (hdr:DropN ox blk r) (htk:TakeN (m * sz) r news) (h1:news.all one=true) (hzs:(cl z).length=sz) (hpos:Nat.blt 0 sz=true) (h63:n+m≤9223372036854775807) (hby:(n+m) * by_≤140737488355328) :
    OpOk P n' (.call { callee:=.builtin .append,args:=⟨[s,x]⟩,argTypes:=⟨[t,t]⟩ }) ty E L (fun v' L'=>∃ ad cap,v'=.slice ad (n+m) cap∧L'=Row (.slice ad (n+m) cap) e sz (n+m) (xs++news)::L1) :=
  (fun _ _ _ _ a w ha X hsat=>by
    have htX:=ht.app X
    obtain ⟨v',w',hrun,hs',ho⟩:=row_append (P:=P) (ty:=ty) (t:=t) (e:=e) (sz:=sz) (by_:=by_) (n:=n) (m:=m) (c:=c) (z:=z) (htX.sat hsat) (hr.sat hsat.head_of) hdr htk h1 hzs (Nat.le_of_ble_eq_true hpos) h63 hby
    obtain ⟨ad,cap,rfl⟩:∃ ad cap,v'=.slice ad (n+m) cap:=by
      obtain ⟨_,_,_,_,hrow,_⟩:=hs'
      rcases hrow.2 with ⟨rfl,h0⟩|⟨_,_,_,rfl,_⟩
      · exact ⟨none,0,by rw [h0]⟩
      · exact ⟨_,_,rfl⟩
    refine ⟨.slice ad (n+m) cap,w',_, .inl ?_,⟨ad,cap,rfl,rfl⟩,hs',ho⟩
    simp [execOp,resolve,invoke,builtin,ha.ev hv,ha.ev hx,hrun])
theorem OpOk.appendC {t e sz by_ m c bx ox g0:Nat} {z:Value} {s x:Operand} {news blk r:List Value} {L1:List HProp} [hu:Und P t (.slice e)] [hz:Zer P e z] [hs:Siz P e sz] [hb:Byt P e by_]
    (hv:ev E s=some (.slice (some ⟨g0,0,none⟩) 0 0)) (hx:ev E x=some (.slice (some ⟨bx,ox,none⟩) m c)) (ht:Take (bl g0 e []) L L1) (hr:ReadsC L bx blk) (hdr:DropN ox blk r) (htk:TakeN (m * sz) r news) (h1:news.all one=true) (hzs:(cl z).length=sz) (hpos:Nat.blt 0 sz=true) (h63:m≤9223372036854775807) (hby:m * by_≤140737488355328) :
    OpOk P n' (.call { callee:=.builtin .append,args:=⟨[s,x]⟩,argTypes:=⟨[t,t]⟩ }) ty E L (fun v' L'=>∃ ad cap,v'=.slice ad m cap∧L'=Row (.slice ad m cap) e sz m news::L1) :=
  (fun _ _ _ _ a w ha X hsat=>by
    have htX:=ht.app X
    have hs0:=Ent.row_bl (sz:=sz) (n:=0) (l:=[]) (by simp) (Nat.zero_le _) _ (htX.sat hsat)
    obtain ⟨v',w',hrun,hs',ho⟩:=row_append (P:=P) (ty:=ty) (t:=t) (e:=e) (sz:=sz) (by_:=by_) (n:=0) (m:=m) (c:=c) (z:=z) hs0 (hr.sat hsat.head_of) hdr htk h1 hzs (Nat.le_of_ble_eq_true hpos) (by omega) (by rw [Nat.zero_add];exact hby)
    rw [Nat.zero_add,List.nil_append] at hs'
    obtain ⟨ad,cap,rfl⟩:∃ ad cap,v'=.slice ad m cap:=by
      obtain ⟨_,_,_,_,hrow,_⟩:=hs'
      rcases hrow.2 with ⟨rfl,h0⟩|⟨_,_,_,rfl,_⟩
      · exact ⟨none,0,by rw [h0]⟩
      · exact ⟨_,_,rfl⟩
    refine ⟨.slice ad m cap,w',_, .inl ?_,⟨ad,cap,rfl,rfl⟩,hs',ho⟩
    simp [execOp,resolve,invoke,builtin,ha.ev hv,ha.ev hx,hrun])
theorem OpV.eqSl {t e t':Nat} {x y:Operand} {ad:Option Addr} {n c:Nat} [hu:Und P t (.slice e)] (hx:ev E x=some (.slice ad n c)) (hy:ev E y=some (.slice none 0 0)):OpV P n' (.binOp .eql t x y t') ty E L (.bool ad.isNone) :=
  (fun _ _ _ _ a w ha _=>by
    have h0:∀ d,(Op.equalIn (d+1) t (.slice ad n c) (.slice none 0 0)).run P w=.ok ad.isNone w:=fun d=>by cases ad<;>simp [Op.equalIn,run_underlying hu.h]
    have h1:=h0 9999
    simp only [execOp,ha.ev hx,ha.ev hy,Sem.run_bind,eqGuard,binOp,Op.equal,Op.maxDepth]
    simp [h1])
theorem made_eq (z:List Value):∀ n:Nat,((List.range (n * z.length)).map fun i=>(⟨z⟩:Array Value)[i % z.length]!)=(List.replicate n z).flatten:=by
  intro n
  induction n with
  | zero=>simp
  | succ n ih =>
    rw [Nat.succ_mul,Nat.add_comm,List.range_add,List.map_append,List.replicate_succ,List.flatten_cons]
    congr 1
    · apply List.ext_getElem
      · simp
      · intro i h1 h2
        simp at h1
        simp [Nat.mod_eq_of_lt h1,h1]
    · rw [List.map_map,←ih]
      apply List.map_congr_left
      intro i _
      simp
theorem OpOk.make {t e sz by_:Nat} {z:Value} {l c:Operand} {kl kc:IntKind} {n:Int} [hu:Und P t (.slice e)] [hz:Zer P e z] [hs:Siz P e sz] [hb:Byt P e by_] (hl:ev E l=some (.int kl n)) (hc:ev E c=some (.int kc n)) (h0:0≤n) (hby:by_ * n≤140737488355328) (h63:n≤9223372036854775807) (hzs:(cl z).length=sz) :
    OpOk P n' (.makeSlice t l c) ty E L (Fresh (fun b=>.slice (some ⟨b,0,none⟩) n.toNat n.toNat) e (List.replicate n.toNat (cl z)).flatten L) :=
  OpOk.fresh (fun _ _ _ _ a ha w _=>by
    obtain ⟨i,hi,hiz,his,hib⟩:=info_of (P:=P) (e:=e) (sz:=sz) (by_:=by_) (z:=z)
    have hr:=run_make (P:=P) w t e i z hu.h hi hiz kl kc n n h0 (Int.le_refl _) (by rw [hib];omega) (by omega)
    have e1:z.cells=⟨cl z⟩:=by cases z<;>rfl
    have e2:madeCells z.cells (n.toNat * i.size)=⟨(List.replicate n.toNat (cl z)).flatten⟩:=by
      rw [←made_eq,his,←hzs,e1]
      apply Array.toList_inj.1
      unfold madeCells
      rw [Array.toList_map,Array.toList_range]
      rfl
    rw [e2] at hr
    simp only [execOp,ha.ev hl,ha.ev hc,Sem.run_bind,hr,Result.andThen_ok,Sem.run_pure])
class EqOk (P:Program) (t:Nat):Prop where
  h:P.eqGuardType P.depth t=false∧∀ a,P.underlying t=some (.struct a)→P.stoodInHeld t=false∧a.toList.all (fun f=>f.name != "_")=true
theorem EqV.int {m t:Nat} {k k':IntKind} {a b:Int} [hu:Und P t (.int k')]:EqV P (m+1) t (.int k a) (.int k b) (a == b):=fun d w=>run_equalIn_int w (d+m) t k k' a b hu.h
theorem EqV.bool {m t:Nat} {a b:Bool} [hu:Und P t .bool]:EqV P (m+1) t (.bool a) (.bool b) (a == b):=fun d w=>run_equalIn_bool w (d+m) t a b hu.h
inductive EqFs (P:Program) (m:Nat) (xs ys:List Value):List (Nat×Nat)→Bool→Prop
  | nil:EqFs P m xs ys [] true
  | one {ft off:Nat} {x y:Value} {b c:Bool} {fs:List (Nat×Nat)}:IsAg P ft false→NthN off xs x→NthN off ys y→EqV P m ft x y b→EqFs P m xs ys fs c→EqFs P m xs ys ((ft,off)::fs) (b && c)
  | agg {ft off sz:Nat} {x y x1 y1:List Value} {b c:Bool} {fs:List (Nat×Nat)}:IsAg P ft true→Siz P ft sz→DropN off xs x1→TakeN sz x1 x→DropN off ys y1→TakeN sz y1 y→EqV P m ft (.agg ⟨x⟩) (.agg ⟨y⟩) b→EqFs P m xs ys fs c→EqFs P m xs ys ((ft,off)::fs) (b && c)
theorem EqV.struct {m t:Nat} {fs:List (Nat×Nat)} {xs ys:List Value} {b:Bool} [hu:Flds P t fs] [he:EqOk P t] (h:EqFs P m xs ys fs b):EqV P (m+1) t (.agg ⟨xs⟩) (.agg ⟨ys⟩) b:=by
  intro d w
  obtain ⟨a,ha,rfl⟩:=hu.h
  obtain ⟨h1,h2⟩:=he.h.2 a ha
  have hf:P.fieldsOf t=a:=by simp [Program.fieldsOf,ha]
  rw [show d+(m+1)=(d+m)+1 by omega,run_equalIn_struct w (d+m) t ⟨xs⟩ ⟨ys⟩ (by rw [hf];exact ha) h1,hf]
  clear ha hf h1
  generalize a.toList=fl at *
  induction fl generalizing b with
  | nil=>cases h;simp [Op.eqFields]
  | cons f fl ih =>
    simp only [List.all_cons,Bool.and_eq_true] at h2
    have hne:f.name≠"_":=by simpa using h2.1
    simp only [List.map_cons] at h
    cases h with
    | @one _ _ x y b1 c _ hA hx hy hv hr =>
      have hx:=hx.eq;have hy:=hy.eq
      have hi:=ih hr h2.2
      simp only [Op.eqFields,hne,ne_eq,not_false_eq_true,if_true,Sem.run_bind,part,hA.h,Result.andThen_ok,Bool.false_eq_true,if_false,List.getElem?_toArray,hx,hy,Sem.run_pure,hv d w]
      cases b1<;>simp [hi]
    | @agg _ _ sz x y x1 y1 b1 c _ hA hz hdx htx hdy hty hv hr =>
      have ex:(List.toArray xs).extract f.offset (f.offset+sz)=⟨x⟩:=by simp [List.extract_toArray,List.extract_eq_take_drop,hdx.eq.1,htx.eq.1]
      have ey:(List.toArray ys).extract f.offset (f.offset+sz)=⟨y⟩:=by simp [List.extract_toArray,List.extract_eq_take_drop,hdy.eq.1,hty.eq.1]
      have hi:=ih hr h2.2
      simp only [Op.eqFields,hne,ne_eq,not_false_eq_true,if_true,Sem.run_bind,part,hA.h,hz.h,Result.andThen_ok,ex,ey,Sem.run_pure,hv d w]
      cases b1<;>simp [hi]
theorem OpV.eqA {m t t':Nat} {x y:Operand} {xs ys:Array Value} {b:Bool} [he:EqOk P t] (hx:ev E x=some (.agg xs)) (hy:ev E y=some (.agg ys)) (hv:EqV P m t (.agg xs) (.agg ys) b) (hm:Nat.ble m 10000=true):OpV P n' (.binOp .eql t x y t') ty E L (.bool b) :=
  (fun _ _ _ _ a w ha _=>by
    have h1:=hv (10000 - m) w
    rw [show 10000 - m+m=10000 by have:=Nat.le_of_ble_eq_true hm;omega] at h1
    simp only [execOp,ha.ev hx,ha.ev hy,Sem.run_bind,run_eqGuard_agg w .eql t x y xs ys he.h.1,Result.andThen_ok,run_eql_struct,h1,Sem.run_pure])
theorem OpV.neA {m t t':Nat} {x y:Operand} {xs ys:Array Value} {b:Bool} [he:EqOk P t] (hx:ev E x=some (.agg xs)) (hy:ev E y=some (.agg ys)) (hv:EqV P m t (.agg xs) (.agg ys) b) (hm:Nat.ble m 10000=true):OpV P n' (.binOp .neq t x y t') ty E L (.bool (!b)) :=
  (fun _ _ _ _ a w ha _=>by
    have h1:=hv (10000 - m) w
    rw [show 10000 - m+m=10000 by have:=Nat.le_of_ble_eq_true hm;omega] at h1
    simp only [execOp,ha.ev hx,ha.ev hy,Sem.run_bind,run_eqGuard_agg w .neq t x y xs ys he.h.1,Result.andThen_ok,run_neq_struct,h1,Sem.run_pure])
theorem OpV.eqB {t t':Nat} {x y:Operand} {p q:Bool} [hu:Und P t .bool] (hx:ev E x=some (.bool p)) (hy:ev E y=some (.bool q)):OpV P n' (.binOp .eql t x y t') ty E L (.bool (p == q)) :=
  (fun _ _ _ _ a w ha _=>by
    have h1:=(EqV.bool (P:=P) (m:=0) (t:=t) (a:=p) (b:=q)) 9999 w
    simp only [execOp,ha.ev hx,ha.ev hy,Sem.run_bind,eqGuard,binOp,Op.equal,Op.maxDepth]
    simp [h1])
theorem OpV.neB {t t':Nat} {x y:Operand} {p q:Bool} [hu:Und P t .bool] (hx:ev E x=some (.bool p)) (hy:ev E y=some (.bool q)):OpV P n' (.binOp .neq t x y t') ty E L (.bool (!(p == q))) :=
  (fun _ _ _ _ a w ha _=>by
    have h1:=(EqV.bool (P:=P) (m:=0) (t:=t) (a:=p) (b:=q)) 9999 w
    simp only [execOp,ha.ev hx,ha.ev hy,Sem.run_bind,eqGuard,binOp,Op.equal,Op.maxDepth]
    simp [h1])
theorem OpV.eqP {t e t':Nat} {x y:Operand} {p:Option Addr} [hu:Und P t (.pointer e)] (hx:ev E x=some (.pointer p)) (hy:ev E y=some (.pointer none)):OpV P n' (.binOp .eql t x y t') ty E L (.bool p.isNone) :=
  (fun _ _ _ _ a w ha _=>by
    have h0:∀ d,(Op.equalIn (d+1) t (.pointer p) (.pointer none)).run P w=.ok p.isNone w:=fun d=>by cases p<;>simp [Op.equalIn,run_underlying hu.h]
    have h1:=h0 9999
    simp only [execOp,ha.ev hx,ha.ev hy,Sem.run_bind,eqGuard,binOp,Op.equal,Op.maxDepth]
    simp [h1])
theorem OpV.slTo {t e sz:Nat} {x h:Operand} {ad:Option Addr} {len cap:Nat} {kd:IntKind} {i:Int} [hu:Und P t (.slice e)] [hs:Siz P e sz] (hx:ev E x=some (.slice ad len cap)) (hh:ev E h=some (.int kd i)) (h0:0≤i) (h1:i≤cap) :
    OpV P n' (.slice t x none (some h) none) ty E L (.slice ad i.toNat cap) :=
  (fun _ _ _ _ a w ha _=>by
    have e:(if cap=0 then ad else Option.map (fun x=>x.add 0) ad)=ad:=by cases ad<;>simp [Addr.add]
    simp [execOp,ha.ev hx,ha.ev hh,Instr.sliceAt,Instr.slice,run_underlying hu.h,Instr.sliceBounds,Instr.sliceBound,asIntOf,h0,h1,hs.h,e])
def tlA (ad:Option Addr) (cap sz:Nat):Option Addr:=if cap=1 then ad else ad.map (·.add sz)
theorem OpV.slFrom {t e sz:Nat} {x:Operand} {ad:Option Addr} {len cap:Nat} {kd:IntKind} [hu:Und P t (.slice e)] [hs:Siz P e sz] (hx:ev E x=some (.slice ad len cap)) (h1:1≤len) :
    OpV P n' (.slice t x (some (.const (.int kd 1))) none none) ty E L (.slice (tlA ad cap sz) (len - 1) (cap - 1)) :=
  (fun _ _ _ _ a w ha _=>by
    have h2:(1:Int)≤(len:Int):=by omega
    have hb:∀ c,(Instr.sliceBound (.int kd 1) len c).run P w=.ok 1 w:=fun c=>by
      unfold Instr.sliceBound
      simp only [asIntOf,Sem.run_bind,Sem.run_pure,Result.andThen_ok]
      rw [if_pos ⟨by decide,h2⟩]
      rfl
    have hcc:a.eval (.const (.int kd 1))=.int kd 1:=rfl
    simp [execOp,ha.ev hx,hcc,Instr.sliceAt,Instr.slice,run_underlying hu.h,Instr.sliceBounds,hb,hs.h,tlA])
end slices
theorem get_app {A B:Env} {t:Nat}:get (A++B) t=(get A t).or (get B t):=by
  induction A with
  | nil=>simp [get]
  | cons x A ih =>
    obtain ⟨k,v⟩:=x
    simp only [List.cons_append,get]
    cases Nat.beq k t with
    | true=>rfl
    | false=>exact ih
theorem Sub.app {E A B:Env} (h:Sub E A) (k:Sub E B):Sub E (A++B):=by
  unfold Sub at *
  intro t v ht
  rw [get_app] at ht
  cases hA:get A t with
  | none=>rw [hA] at ht;exact k t v ht
  | some u=>rw [hA] at ht;injection ht with ht;subst ht;exact h t u hA
def inK:List Nat→Nat→Bool
  | [],_=>false
  | k::ks,t=>match Nat.beq k t with
    | true=>true
    | false=>inK ks t
def strip:List Nat→Env→Env
  | _,[]=>[]
  | ks,(t,v)::E=>match inK ks t with
    | true=>strip ks E
    | false=>(t,v)::strip (t::ks) E
theorem get_stripN {t:Nat}:∀ {E:Env} {ks:List Nat},inK ks t=true→get (strip ks E) t=none
  | [],_,_=>rfl
  | (k,u)::E,ks,hk=>by
    simp only [strip]
    cases hb:inK ks k with
    | true=>exact get_stripN (E:=E) hk
    | false =>
      simp only [get]
      cases hb2:Nat.beq k t with
      | true=>rw [Nat.eq_of_beq_eq_true hb2,hk] at hb;cases hb
      | false =>
        refine get_stripN (E:=E) ?_
        simp only [inK,hb2];exact hk
theorem get_strip {t:Nat} {v:Value}:∀ {E:Env} {ks:List Nat},get (strip ks E) t=some v→get E t=some v
  | [],_,h=>h
  | (k,u)::E,ks,h=>by
    simp only [strip] at h
    simp only [get]
    cases hb:inK ks k with
    | true =>
      rw [hb] at h
      have h':get (strip ks E) t=some v:=h
      cases hb2:Nat.beq k t with
      | true =>
        rw [Nat.eq_of_beq_eq_true hb2] at hb
        rw [get_stripN hb] at h';cases h'
      | false=>exact get_strip h'
    | false =>
      rw [hb] at h
      simp only [get] at h
      cases hb2:Nat.beq k t with
      | true=>rw [hb2] at h;exact h
      | false=>rw [hb2] at h;exact get_strip (E:=E) h
theorem Sub.strip {ks:List Nat} {E:Env}:Sub E (strip ks E):=by
  unfold Sub
  exact fun t v h=>get_strip h
def keys:Env→List Nat
  | []=>[]
  | (t,_)::E=>t::keys E
theorem St.loopX {P:Program} {C:Cx} {k:List Item} {E:Env} {L:List HProp} {ι:Type} {c:Code} (μ:ι→Nat) (mods:ι→Env) (ps:ι→List HProp) (i0:ι) {Lr:List HProp} (hE:Sub E (mods i0)) (hL:Ent L (ps i0++Lr))
    (round:∀ i,(∀ (j:ι) {E':Env} {L':List HProp},μ j<μ i→Sub E' (mods j++strip (keys (mods i0)) E)→Ent L' (ps j++Lr)→St P C (.inLoop c::k) E' L')→St P C (.code c::.inLoop c::k) (mods i++strip (keys (mods i0)) E) (ps i++Lr)) :
    St P C (.code (.loop c)::k) E L :=
  St.loop μ (fun i=>mods i++Go.Proofs.YthmbgodcpgkkeaaGreat.strip (keys (mods i0)) E) (fun i=>ps i++Lr) i0 (Sub.app hE Sub.strip) hL fun i IH=>round i fun j _ _ hj hS hEn=>(IH j hj).conv hS hEn
inductive Takes:List HProp→List HProp→List HProp→Prop
  | nil {L:List HProp}:Takes [] L L
  | cons {p:HProp} {ps L L1 L2:List HProp}:Take p L L1→Takes ps L1 L2→Takes (p::ps) L L2
theorem Takes.ent {ps L Lr:List HProp} (h:Takes ps L Lr):Ent L (ps++Lr):=by
  induction h with
  | nil=>exact Ent.refl _
  | cons t _ ih=>exact Ent.take t ih
theorem St.loopY {P:Program} {C:Cx} {k:List Item} {E:Env} {L:List HProp} {ι:Type} {c:Code} (μ:ι→Nat) (mods:ι→Env) (ps:ι→List HProp) (i0:ι) {Lr:List HProp} (hE:Sub E (mods i0)) (hL:Takes (ps i0) L Lr)
    (round:∀ i,(∀ (j:ι) {E':Env} {L':List HProp},μ j<μ i→Sub E' (mods j++strip (keys (mods i0)) E)→Ent L' (ps j++Lr)→St P C (.inLoop c::k) E' L')→St P C (.code c::.inLoop c::k) (mods i++strip (keys (mods i0)) E) (ps i++Lr)) :
    St P C (.code (.loop c)::k) E L:=St.loopX μ mods ps i0 hE hL.ent round
def ex {ι:Type} (Ls:ι→List HProp):HProp:=fun h=>∃ x,Sat (Ls x) h
theorem Ent.ex_in {ι:Type} {Ls:ι→List HProp} {L:List HProp} (x:ι):Ent (Ls x++L) (ex Ls::L):=by
  unfold Ent
  intro h hs
  obtain ⟨h1,h2,hd,hu,s1,s2⟩:=Sat.app_split (Ls x) h hs
  rw [sat_cons]
  exact ⟨h1,h2,hd,hu,⟨x,s1⟩,s2⟩
theorem sat_ex {ι:Type} {Ls:ι→List HProp} {L:List HProp} {h:Hp} (hs:Sat (ex Ls::L) h):∃ x,Sat (Ls x++L) h:=by
  rw [sat_cons] at hs
  obtain ⟨h1,h2,hd,hu,⟨x,s1⟩,s2⟩:=hs
  exact ⟨x,Sat.app_join (Ls x) h h1 h2 hd hu s1 s2⟩
theorem St.ex_out {P:Program} {C:Cx} {k:List Item} {E:Env} {ι:Type} {Ls:ι→List HProp} {L:List HProp} (h:∀ x,St P C k E (Ls x++L)):St P C k E (ex Ls::L):=by
  unfold St at *
  intro a w ha hs ho
  obtain ⟨x,hs⟩:=sat_ex hs
  exact h x a w ha hs ho
theorem Tri.ex_out {P:Program} {f:FuncId} {args:Array Value} {Q:Value→List HProp→Prop} {ι:Type} {Ls:ι→List HProp} {L:List HProp} (h:∀ x,Tri P f args (Ls x++L) Q):Tri P f args (ex Ls::L) Q:=by
  unfold Tri at *
  intro w F hs
  obtain ⟨x,hs⟩:=sat_ex hs
  exact h x w F (by rw [List.append_assoc];exact hs)
theorem Tri.ent {P:Program} {f:FuncId} {args:Array Value} {Q:Value→List HProp→Prop} {L M:List HProp} (h:Tri P f args M Q) (he:Ent L M):Tri P f args L Q:=by
  unfold Tri at *
  intro w F hs
  refine h w F ?_
  have:=he.app (N:=F)
  unfold Ent at this
  exact this _ hs
def exact' (W:World):HProp:=fun h=>h=hpOf W
theorem RTri.of_exact {P:Program} {f:FuncId} {args:Array Value} {v:Value} {L:List HProp} (h:∀ W,Sat L (hpOf W)→Tri P f args [exact' W] fun v' L'=>v'=v∧L'=[exact' W]):RTri P f args L v:=by
  unfold RTri
  intro w hs
  have h1:=h w hs
  unfold Tri at h1
  refine (h1 w [] (sat_exact w)).mono fun e w' ⟨v',L',he,⟨h1,h2⟩,hs',ho⟩=>?_
  subst h1 h2
  refine ⟨he,⟨fun b o hb=>?_,ho⟩⟩
  rw [show [exact' w]++[]=[exact' w] from rfl,sat_cons] at hs'
  obtain ⟨h1,h2,hd,hu,h3,_⟩:=hs'
  rw [hu b,show h1=hpOf w from h3,hb];rfl
theorem RdC.exact {W:World} {L:List HProp} {b:Nat} {l:List Value} (hs:Sat L (hpOf W)) (r:ReadsC L b l):RdC (exact' W) b l :=
  RdC.of_sat (p:=exact' W) (fun k hk=>by rw [show k=hpOf W from hk];exact hs) r
def fromR (id:Nat):Code→Option Code
  | .seq (.region i ops d) y=>match Nat.beq i id with
    | true=>some (.seq (.region i ops d) y)
    | false=>fromR id y
  | .seq x y=>match fromR id x with
    | some c=>some c
    | none=>fromR id y
  | .block _ c=>fromR id c
  | .loop c=>fromR id c
  | .cond _ x y=>match fromR id x with
    | some c=>some c
    | none=>fromR id y
  | _=>none
def codeAt (f:Func) (id:Nat):Code:=match f.body with
  | some c=>match fromR id c with
    | some y=>y
    | none=>.skip
  | none=>.skip
def Halt (p:Prop):Prop:=p
theorem St.halt {P:Program} {C:Cx} {k:List Item} {E:Env} {L:List HProp} (id:Nat) {ops:Array Oper} {d:Bool} {y:Code} (h:Halt (St P C (.code (.seq (.region id ops d) y)::k) E L)):St P C (.code (.seq (.region id ops d) y)::k) E L:=h
theorem Halt.go {p:Prop} (h:p):Halt p:=h
section assoc
variable {κ β:Type} [DecidableEq κ]
def mget:List (κ×β)→κ→Option β
  | [],_=>none
  | (a,y)::m,k=>if a=k then some y else mget m k
def mput:List (κ×β)→κ→β→List (κ×β)
  | [],k,x=>[(k,x)]
  | (a,y)::m,k,x=>if a=k then (a,x)::m else (a,y)::mput m k x
def mdel:List (κ×β)→κ→List (κ×β)
  | [],_=>[]
  | (a,y)::m,k=>if a=k then m else (a,y)::mdel m k
end assoc
structure MapIs {κ β:Type} (enc:κ→Value) (f:β→Value) (m:List (κ×β)) (es:List MapEntry) (ck:Nat):Prop where
  kv:es.map (fun e=>(e.key,e.val))=m.map (fun p=>(enc p.1,f p.2))
  nd:(m.map (·.1)).Nodup
  born:(es.map (·.born)).Pairwise (·<·)
  clock:∀ e∈es,e.born<ck
def Mp {κ β:Type} (b:Nat) (enc:κ→Value) (f:β→Value) (m:List (κ×β)):HProp:=fun h=>∃ es ck,MapIs enc f m es ck∧pt b (.map ⟨es⟩ ck) h
def KeyEq (P:Program) (kt:Nat) {κ:Type} (enc:κ→Value):Prop:=∃ d,P.underlying kt=some d∧((∀ a b,(a=b→Instr.sameNow d (enc a) (enc b)=some true)∧(a≠b→Instr.sameNow d (enc a) (enc b)=some false))∨
  ((∀ a b,Instr.sameNow d (enc a) (enc b)=none)∧∀ a b w,(a=b→(Op.equal kt (enc a) (enc b)).run P w=.ok true w)∧(a≠b→(Op.equal kt (enc a) (enc b)).run P w=.ok false w)))
class MapTy (P:Program) (t:Nat) (κ β:outParam Type) (enc:outParam (κ→Value)) (f:outParam (β→Value)) (z:outParam β):Prop where
  h:∃ kt et,P.underlying t=some (.map kt et)∧KeyEq P kt enc∧
    (∀ e n a w,(Instr.checkKey e (n+2) kt (enc a)).run P w=.ok () w)∧(∀ n a,Instr.sameBits (n+1) (enc a) (enc a)=true)∧∀ w,(zeroValue et).run P w=.ok (f z) w
section maps
variable {P:Program} {n':Fi} {E:Env} {L:List HProp} {ty:TypeId} {κ β:Type} [DecidableEq κ] {enc:κ→Value} {f:β→Value} {z:β}
def FoundAt (enc:κ→Value) (f:β→Value) (k:κ) (m:List (κ×β)) (es:List MapEntry) (i:Nat) (r:Option (Nat×Value)):Prop:=(mget m k=none∧r=none)∨
    ∃ j x e,mget m k=some x∧r=some (i+j,f x)∧es[j]? = some e∧e.key=enc k∧e.val=f x∧
      (∀ y,(es.modify j fun e=>{ e with key:=enc k,val:=f y }).map (fun e=>(e.key,e.val))=(mput m k y).map (fun p=>(enc p.1,f p.2)))∧
      (es.eraseIdx j).map (fun e=>(e.key,e.val))=(mdel m k).map (fun p=>(enc p.1,f p.2))
theorem FoundAt.here {k:κ} {y:β} {m:List (κ×β)} {e:MapEntry} {es:List MapEntry} {i:Nat} (h1:e.key=enc k) (h2:e.val=f y) (h3:es.map (fun e=>(e.key,e.val))=m.map (fun p=>(enc p.1,f p.2))):FoundAt enc f k ((k,y)::m) (e::es) i (some (i,e.val)) :=
  .inr ⟨0,y,e,by simp [mget],by rw [h2];rfl,rfl,h1,h2,fun x=>by simp [mput,h3],by simp [mdel,h3]⟩
theorem FoundAt.next {k a:κ} {y:β} {m:List (κ×β)} {e:MapEntry} {es:List MapEntry} {i:Nat} {r:Option (Nat×Value)} (hak:¬ a=k) (h1:e.key=enc a) (h2:e.val=f y) (h:FoundAt enc f k m es (i+1) r):FoundAt enc f k ((a,y)::m) (e::es) i r:=by
  rcases h with ⟨g1,g2⟩|⟨j,x,e',g1,g2,g3,g4,g5,g6,g7⟩
  · exact .inl ⟨by simp [mget,hak,g1],g2⟩
  · refine .inr ⟨j+1,x,e',by simp [mget,hak,g1], ?_,by simpa using g3,g4,g5,fun y'=>?_, ?_⟩
    · rw [g2,show i+1+j=i+(j+1) by omega]
    · simp [mput,hak,h1,h2,g6 y']
    · simp [mdel,hak,h1,h2,g7]
theorem find_now {d:TypeDesc} (k:κ) (hd:∀ a b,(a=b→Instr.sameNow d (enc a) (enc b)=some true)∧(a≠b→Instr.sameNow d (enc a) (enc b)=some false)):∀ (m:List (κ×β)) (es:List MapEntry) (i:Nat),
    es.map (fun e=>(e.key,e.val))=m.map (fun p=>(enc p.1,f p.2))→∃ r,FoundAt enc f k m es i r∧Instr.findNow d (enc k) es i=some r
  | [],[],i,_=>⟨none, .inl ⟨rfl,rfl⟩,rfl⟩
  | [],_::_,i,h=>by simp at h
  | _::_,[],i,h=>by simp at h
  | (a,y)::m,e::es,i,h=>by
    simp only [List.map_cons,List.cons.injEq,Prod.mk.injEq] at h
    obtain ⟨⟨h1,h2⟩,h3⟩:=h
    by_cases hak:a=k
    · subst hak
      exact ⟨_, .here h1 h2 h3,by simp only [Instr.findNow,h1,(hd a a).1 rfl]⟩
    · obtain ⟨r,g1,g2⟩:=find_now k hd m es (i+1) h3
      exact ⟨r,g1.next hak h1 h2,by simp only [Instr.findNow,h1,(hd k a).2 (fun h=>hak h.symm),g2]⟩
theorem find_ask {kt:Nat} (k:κ) (hd:∀ a b w,(a=b→(Op.equal kt (enc a) (enc b)).run P w=.ok true w)∧(a≠b→(Op.equal kt (enc a) (enc b)).run P w=.ok false w)):∀ (m:List (κ×β)) (es:List MapEntry) (i:Nat),
    es.map (fun e=>(e.key,e.val))=m.map (fun p=>(enc p.1,f p.2))→∃ r,FoundAt enc f k m es i r∧∀ w,(Instr.findAsking kt (enc k) es i).run P w=.ok r w
  | [],[],i,_=>⟨none, .inl ⟨rfl,rfl⟩,fun w=>by simp [Instr.findAsking]⟩
  | [],_::_,i,h=>by simp at h
  | _::_,[],i,h=>by simp at h
  | (a,y)::m,e::es,i,h=>by
    simp only [List.map_cons,List.cons.injEq,Prod.mk.injEq] at h
    obtain ⟨⟨h1,h2⟩,h3⟩:=h
    by_cases hak:a=k
    · subst hak
      exact ⟨_, .here h1 h2 h3,fun w=>by simp [Instr.findAsking,Sem.run_bind,h1,(hd a a w).1 rfl]⟩
    · obtain ⟨r,g1,g2⟩:=find_ask k hd m es (i+1) h3
      exact ⟨r,g1.next hak h1 h2,fun w=>by simp [Instr.findAsking,Sem.run_bind,h1,(hd k a w).2 (fun h=>hak h.symm),g2 w]⟩
theorem find_spec {kt:Nat} (hk:KeyEq P kt enc) (k:κ) (m:List (κ×β)) (es:List MapEntry) (h:es.map (fun e=>(e.key,e.val))=m.map (fun p=>(enc p.1,f p.2))) :
    (mget m k=none∧∀ w,(Instr.findKey kt (enc k) es).run P w=.ok none w)∨∃ j x e,mget m k=some x∧(∀ w,(Instr.findKey kt (enc k) es).run P w=.ok (some (0+j,f x)) w)∧es[j]? = some e∧e.key=enc k∧e.val=f x∧
      (∀ y,(es.modify j fun e=>{ e with key:=enc k,val:=f y }).map (fun e=>(e.key,e.val))=(mput m k y).map (fun p=>(enc p.1,f p.2)))∧
      (es.eraseIdx j).map (fun e=>(e.key,e.val))=(mdel m k).map (fun p=>(enc p.1,f p.2)):=by
  obtain ⟨d,hu,hd⟩:=hk
  have key:∃ r,FoundAt enc f k m es 0 r∧∀ w,(Instr.findKey kt (enc k) es).run P w=.ok r w:=by
    rcases hd with hd|⟨hn,hd⟩
    · obtain ⟨r,g1,g2⟩:=find_now (f:=f) k hd m es 0 h
      exact ⟨r,g1,fun w=>by simp only [Instr.findKey,Sem.run_bind,run_underlying hu,Result.andThen_ok,g2,Sem.run_pure]⟩
    · obtain ⟨r,g1,g2⟩:=find_ask (f:=f) k hd m es 0 h
      refine ⟨r,g1,fun w=>?_⟩
      match m,es,h with
      | [],[],_ =>
        have e:Instr.findNow d (enc k) [] 0=some none:=rfl
        have:=g2 w
        simp only [Instr.findAsking,Sem.run_pure] at this
        simp only [Instr.findKey,Sem.run_bind,run_underlying hu,Result.andThen_ok,e,Sem.run_pure]
        exact this
      | (a,y)::m,e::es,h =>
        simp only [List.map_cons,List.cons.injEq,Prod.mk.injEq] at h
        have en:Instr.findNow d (enc k) (e::es) 0=none:=by simp only [Instr.findNow,h.1.1,hn]
        simp only [Instr.findKey,Sem.run_bind,run_underlying hu,Result.andThen_ok,en,g2 w]
  obtain ⟨r,g1,g2⟩:=key
  rcases g1 with ⟨g1,rfl⟩|⟨j,x,e,g1,rfl,g3⟩
  · exact .inl ⟨g1,g2⟩
  · exact .inr ⟨j,x,e,g1,g2,g3⟩
def RdM (p:HProp) (b:Nat) (enc:κ→Value) (f:β→Value) (m:List (κ×β)):Prop:=∀ h,p h→∃ es ck,MapIs enc f m es ck∧h b=some (.map ⟨es⟩ ck)
omit [DecidableEq κ] in
theorem RdM.mp {b:Nat} {m:List (κ×β)}:RdM (Mp b enc f m) b enc f m:=fun h ⟨es,ck,h1,h2⟩=>⟨es,ck,h1,by rw [h2 b,if_pos rfl]⟩
inductive ReadsM (b:Nat) (enc:κ→Value) (f:β→Value) (m:List (κ×β)):List HProp→Prop
  | here {p:HProp} {L:List HProp}:RdM p b enc f m→ReadsM b enc f m (p::L)
  | there {p:HProp} {L:List HProp}:ReadsM b enc f m L→ReadsM b enc f m (p::L)
omit [DecidableEq κ] in
theorem ReadsM.sat {b:Nat} {m:List (κ×β)} {L:List HProp} (r:ReadsM b enc f m L):∀ {h:Hp},Sat L h→∃ es ck,MapIs enc f m es ck∧h b=some (.map ⟨es⟩ ck):=by
  induction r with
  | here hr =>
    intro h hs
    rw [sat_cons] at hs
    obtain ⟨h1,h2,hd,hu,hp,_⟩:=hs
    obtain ⟨es,ck,hm,hb⟩:=hr _ hp
    exact ⟨es,ck,hm,by rw [hu,hb];rfl⟩
  | there _ ih=>exact fun hs=>ih hs.tail
theorem hpOf_setObj {w:World} {b:Nat} {o o':Obj} (h:hpOf w b=some o):∀ x,hpOf { w with heap:=w.heap.setIfInBounds b o' } x=upd (hpOf w) b o' x:=by
  intro x
  have hlt:b<w.heap.size:=(Array.getElem?_eq_some_iff.1 h).1
  simp only [hpOf,upd]
  by_cases e:x=b
  · subst e;simp [hlt]
  · rw [Array.getElem?_setIfInBounds_ne (fun h=>e h.symm),if_neg e]
theorem sat_setObj {w:World} {b:Nat} {o o':Obj} {X:List HProp} (hs:Sat (pt b o::X) (hpOf w)):hpOf w b=some o∧Sat (pt b o'::X) (hpOf { w with heap:=w.heap.setIfInBounds b o' }):=by
  have h1:hpOf w b=some o:=(Reads.here Rd.pt).sat hs
  exact ⟨h1,((Turn.here (b:=b) (o:=o) (o':=o')).sat hs).congr (hpOf_setObj h1)⟩
omit [DecidableEq κ] in
theorem Mp.open {b:Nat} {m:List (κ×β)} {X:List HProp} {h:Hp} (hs:Sat (Mp b enc f m::X) h):∃ es ck,MapIs enc f m es ck∧Sat (pt b (.map ⟨es⟩ ck)::X) h:=by
  rw [sat_cons] at hs
  obtain ⟨h1,h2,hd,hu,⟨es,ck,hm,hp⟩,hX⟩:=hs
  refine ⟨es,ck,hm, ?_⟩
  rw [sat_cons]
  exact ⟨h1,h2,hd,hu,hp,hX⟩
omit [DecidableEq κ] in
theorem Mp.shut {b:Nat} {m:List (κ×β)} {es:List MapEntry} {ck:Nat} {X:List HProp} {h:Hp} (hm:MapIs enc f m es ck) (hs:Sat (pt b (.map ⟨es⟩ ck)::X) h):Sat (Mp b enc f m::X) h:=by
  rw [sat_cons] at hs⊢
  obtain ⟨h1,h2,hd,hu,hp,hX⟩:=hs
  exact ⟨h1,h2,hd,hu,⟨es,ck,hm,hp⟩,hX⟩
theorem mput_keys:∀ (m:List (κ×β)) (k:κ) (x y:β),mget m k=some y→(mput m k x).map (·.1)=m.map (·.1)
  | [],k,x,y,h=>by simp [mget] at h
  | (a,u)::m,k,x,y,h=>by
    by_cases hak:a=k
    · simp [mput,hak]
    · simp only [mget,hak,if_false] at h
      simp [mput,hak,mput_keys m k x y h]
theorem mput_new:∀ (m:List (κ×β)) (k:κ) (x:β),mget m k=none→mput m k x=m++[(k,x)]
  | [],k,x,h=>rfl
  | (a,u)::m,k,x,h=>by
    by_cases hak:a=k
    · simp [mget,hak] at h
    · simp only [mget,hak,if_false] at h
      simp [mput,hak,mput_new m k x h]
theorem mget_none {m:List (κ×β)} {k:κ} (h:mget m k=none):k∉m.map (·.1):=by
  induction m with
  | nil=>simp
  | cons p m ih =>
    obtain ⟨a,u⟩:=p
    by_cases hak:a=k
    · simp [mget,hak] at h
    · simp only [mget,hak,if_false] at h
      simp only [List.map_cons,List.mem_cons,not_or]
      exact ⟨fun h=>hak h.symm,ih h⟩
theorem mdel_sub:∀ (m:List (κ×β)) (k:κ),((mdel m k).map (·.1)).Sublist (m.map (·.1))
  | [],k=>by simp [mdel]
  | (a,u)::m,k=>by
    by_cases hak:a=k
    · simp [mdel,hak]
    · simp [mdel,hak,mdel_sub m k]
theorem MapIs.push {m:List (κ×β)} {es:List MapEntry} {ck:Nat} (h:MapIs enc f m es ck) {k:κ} (hk:mget m k=none) (x:β):MapIs enc f (mput m k x) (es++[{ key:=enc k,val:=f x,born:=ck }]) (ck+1) where
  kv:=by rw [mput_new m k x hk,List.map_append,List.map_append,h.kv];rfl
  nd:=by
    rw [mput_new m k x hk,List.map_append]
    refine List.nodup_append.2 ⟨h.nd,by simp, ?_⟩
    intro a ha b hb
    simp only [List.map_cons,List.map_nil,List.mem_singleton] at hb
    subst hb
    exact fun e=>mget_none hk (e▸ha)
  born:=by
    rw [List.map_append]
    refine List.pairwise_append.2 ⟨h.born,by simp, ?_⟩
    intro a ha b hb
    simp only [List.map_cons,List.map_nil,List.mem_singleton] at hb
    subst hb
    obtain ⟨e,he,rfl⟩:=List.mem_map.1 ha
    exact h.clock e he
  clock:=by
    intro e he
    rcases List.mem_append.1 he with he|he
    · have:=h.clock e he;omega
    · simp only [List.mem_singleton] at he;subst he;exact Nat.lt_succ_self _
theorem modify_born {es:List MapEntry} {j:Nat} {g:MapEntry→MapEntry} (hg:∀ e,(g e).born=e.born):(es.modify j g).map (·.born)=es.map (·.born):=by
  induction es generalizing j with
  | nil=>simp
  | cons e es ih=>cases j<;>simp [hg,ih]
omit [DecidableEq κ] in
theorem MapIs.turn {m m':List (κ×β)} {es:List MapEntry} {ck j:Nat} {g:MapEntry→MapEntry} (h:MapIs enc f m es ck) (hg:∀ e,(g e).born=e.born) (hkv:(es.modify j g).map (fun e=>(e.key,e.val))=m'.map (fun p=>(enc p.1,f p.2))) (hn:m'.map (·.1)=m.map (·.1)):MapIs enc f m' (es.modify j g) ck where
  kv:=hkv
  nd:=by rw [hn];exact h.nd
  born:=by rw [modify_born hg];exact h.born
  clock:=by
    intro e he
    have:e.born∈(es.modify j g).map (·.born):=List.mem_map_of_mem he
    rw [modify_born hg] at this
    obtain ⟨e',he',hb⟩:=List.mem_map.1 this
    rw [←hb];exact h.clock e' he'
omit [DecidableEq κ] in
theorem MapIs.erase {m m':List (κ×β)} {es:List MapEntry} {ck j:Nat} (h:MapIs enc f m es ck) (hkv:(es.eraseIdx j).map (fun e=>(e.key,e.val))=m'.map (fun p=>(enc p.1,f p.2))) (hn:(m'.map (·.1)).Sublist (m.map (·.1))):MapIs enc f m' (es.eraseIdx j) ck where
  kv:=hkv
  nd:=hn.nodup h.nd
  born:=List.Pairwise.sublist ((List.eraseIdx_sublist es j).map _) h.born
  clock:=fun e he=>h.clock e ((List.eraseIdx_sublist es j).mem he)
omit [DecidableEq κ] in
theorem OpOk.makeMap {t:TypeId} [_hm:MapTy P t κ β enc f z]:OpOk P n' (.makeMap t none) ty E L (fun v L'=>∃ b,v=.map (some b)∧L'=Mp b enc f ([]:List (κ×β))::L):=by
  unfold OpOk
  intro d ps af g a w ha X hs
  refine ⟨.map (some w.heap.size),w.alloc (.map #[] 0),Mp w.heap.size enc f ([]:List (κ×β))::L, .inl ?_,⟨_,rfl,rfl⟩,Mp.shut (es:=[]) (ck:=0) ⟨rfl,by simp,by simp,by simp⟩ (sat_alloc hs _),⟨rfl,rfl,rfl⟩⟩
  simp [execOp,Instr.makeMap]
theorem OpV.lookupI {t:TypeId} {x y:Operand} {ok:Bool} {b:Nat} {k:κ} {m:List (κ×β)} [hm:MapTy P t κ β enc f z] (hx:ev E x=some (.map (some b))) (hy:ev E y=some (enc k)) (hr:ReadsM b enc f m L) :
    OpV P n' (.lookup t x y ok) ty E L (if ok then .tuple #[f ((mget m k).getD z), .bool (mget m k).isSome] else f ((mget m k).getD z)):=by
  unfold OpV
  intro d ps af g a w ha hs
  obtain ⟨kt,et,h1,h3,h4,h5,h6⟩:=hm.h
  obtain ⟨es,ck,hmi,hb⟩:=hr.sat hs
  have hb':w.heap[b]? = some (.map ⟨es⟩ ck):=hb
  rcases find_spec (f:=f) h3 k m es hmi.kv with ⟨g1,hf⟩|⟨j,x',e',g1,hf,_⟩
  · have hck:=h4 (⟨es⟩:Array MapEntry).isEmpty 9998 k
    simp only [execOp,ha.ev hx,ha.ev hy,Instr.lookup,Sem.run_bind,run_underlying h1,Result.andThen_ok,getObj,Sem.run,hb',Sem.run_pure,hck,hf,h6,g1]
    cases ok<;>rfl
  · have hck:=h4 (⟨es⟩:Array MapEntry).isEmpty 9998 k
    simp only [execOp,ha.ev hx,ha.ev hy,Instr.lookup,Sem.run_bind,run_underlying h1,Result.andThen_ok,getObj,Sem.run,hb',Sem.run_pure,hck,hf,g1]
    cases ok<;>rfl
theorem OpV.lookup1 {t:TypeId} {x y:Operand} {b:Nat} {k:κ} {m:List (κ×β)} [hm:MapTy P t κ β enc f z] (hx:ev E x=some (.map (some b))) (hy:ev E y=some (enc k)) (hr:ReadsM b enc f m L) :
    OpV P n' (.lookup t x y false) ty E L (f ((mget m k).getD z)):=OpV.lookupI (ok:=false) hx hy hr
theorem OpV.lookup2 {t:TypeId} {x y:Operand} {b:Nat} {k:κ} {m:List (κ×β)} [hm:MapTy P t κ β enc f z] (hx:ev E x=some (.map (some b))) (hy:ev E y=some (enc k)) (hr:ReadsM b enc f m L) :
    OpV P n' (.lookup t x y true) ty E L (.tuple ⟨[f ((mget m k).getD z), .bool (mget m k).isSome]⟩):=OpV.lookupI (ok:=true) hx hy hr
theorem OpOk.mapPut {op:Op} {t:TypeId} {x y v:Operand} {b:Nat} {k:κ} {u:β} {m:List (κ×β)} {L1:List HProp} [hm:MapTy P t κ β enc f z] (hop:op=.mapUpdate t x y v∨op=.insert t x y v) (hx:ev E x=some (.map (some b))) (hy:ev E y=some (enc k)) (hv:ev E v=some (f u)) (ht:Take (Mp b enc f m) L L1) :
    OpOk P n' op ty E L (fun v' L'=>v'=undef∧L'=Mp b enc f (mput m k u)::L1):=by
  unfold OpOk
  intro d ps af g a w ha X hs
  obtain ⟨kt,et,h1,h3,h4,h5,h6⟩:=hm.h
  obtain ⟨es,ck,hmi,hs1⟩:=Mp.open ((ht.app X).sat hs)
  have hb:hpOf w b=some (.map ⟨es⟩ ck):=(Reads.here Rd.pt).sat hs1
  have hb':w.heap[b]? = some (.map ⟨es⟩ ck):=hb
  rcases find_spec (f:=f) h3 k m es hmi.kv with ⟨g1,hf⟩|⟨j,x',e',g1,hf,g3,g4,g5,g6,g7⟩
  · have hf:=hf w
    have hck:=h4 false 9998 k w
    have hrun:(Instr.mapUpdate t (.map (some b)) (enc k) (f u)).run P w=.ok () { w with heap:=w.heap.setIfInBounds b (.map ⟨es++[{ key:=enc k,val:=f u,born:=ck }]⟩ (ck+1)) }:=by
      simp only [Instr.mapUpdate,Sem.run_bind,run_underlying h1,Result.andThen_ok,getObj,Sem.run,hb',hck,hf,setObj]
      simp
    refine ⟨undef,_,_, .inr ⟨?_,rfl⟩,⟨rfl,rfl⟩,Mp.shut (hmi.push g1 u) (sat_setObj hs1).2,⟨rfl,rfl,rfl⟩⟩
    rcases hop with rfl|rfl<;>simp [execOp,ha.ev hx,ha.ev hy,ha.ev hv,hrun]
  · have hf:=hf w
    have hck:=h4 false 9998 k w
    have hj:(⟨es⟩:Array MapEntry)[0+j]? = some e':=by simpa using g3
    have hkt:(Instr.keyThatStays (enc k) (enc k)).run P w=.ok (enc k) w:=by simp [Instr.keyThatStays,h5]
    have hrun:(Instr.mapUpdate t (.map (some b)) (enc k) (f u)).run P w=.ok () { w with heap:=w.heap.setIfInBounds b (.map ⟨es.modify j fun e=>{ e with key:=enc k,val:=f u }⟩ ck) }:=by
      simp only [Instr.mapUpdate,Sem.run_bind,run_underlying h1,Result.andThen_ok,getObj,Sem.run,hb',hck,hf,setObj,hj,Option.map_some,Option.getD_some,g4,hkt]
      simp
    refine ⟨undef,_,_, .inr ⟨?_,rfl⟩,⟨rfl,rfl⟩,Mp.shut (hmi.turn (g:=fun e=>{ e with key:=enc k,val:=f u }) (fun _=>rfl) (g6 u) (mput_keys m k u x' g1)) (sat_setObj hs1).2,⟨rfl,rfl,rfl⟩⟩
    rcases hop with rfl|rfl<;>simp [execOp,ha.ev hx,ha.ev hy,ha.ev hv,hrun]
theorem OpOk.mapUpdate {t:TypeId} {x y v:Operand} {b:Nat} {k:κ} {u:β} {m:List (κ×β)} {L1:List HProp} [hm:MapTy P t κ β enc f z] (hx:ev E x=some (.map (some b))) (hy:ev E y=some (enc k)) (hv:ev E v=some (f u)) (ht:Take (Mp b enc f m) L L1) :
    OpOk P n' (.mapUpdate t x y v) ty E L (fun v' L'=>v'=undef∧L'=Mp b enc f (mput m k u)::L1):=OpOk.mapPut (.inl rfl) hx hy hv ht
theorem OpOk.delete {t t2:TypeId} {x y:Operand} {b:Nat} {k:κ} {m:List (κ×β)} {L1:List HProp} [hm:MapTy P t κ β enc f z] (hx:ev E x=some (.map (some b))) (hy:ev E y=some (enc k)) (ht:Take (Mp b enc f m) L L1) :
    OpOk P n' (.call { callee:=.builtin .delete,args:=⟨[x,y]⟩,argTypes:=⟨[t,t2]⟩ }) ty E L (fun v' L'=>v'=.tuple #[]∧L'=Mp b enc f (mdel m k)::L1):=by
  unfold OpOk
  intro d ps af g a w ha X hs
  obtain ⟨kt,et,h1,h3,h4,h5,h6⟩:=hm.h
  obtain ⟨es,ck,hmi,hs1⟩:=Mp.open ((ht.app X).sat hs)
  have hb:hpOf w b=some (.map ⟨es⟩ ck):=(Reads.here Rd.pt).sat hs1
  have hb':w.heap[b]? = some (.map ⟨es⟩ ck):=hb
  have hck:=h4 (⟨es⟩:Array MapEntry).isEmpty 9998 k w
  rcases find_spec (f:=f) h3 k m es hmi.kv with ⟨g1,hf⟩|⟨j,x',e',g1,hf,g3,g4,g5,g6,g7⟩
  · have hf:=hf w
    have hd:mdel m k=m:=by
      clear hmi hf ht
      induction m with
      | nil=>rfl
      | cons p m ih =>
        obtain ⟨a,y⟩:=p
        by_cases hak:a=k
        · simp [mget,hak] at g1
        · simp only [mget,hak,if_false] at g1
          simp [mdel,hak,ih g1]
    have hrun:(Builtin.delete_ ⟨[t,t2]⟩ ty #[.map (some b),enc k]).run P w=.ok (.tuple #[]) { w with heap:=w.heap.setIfInBounds b (.map ⟨es⟩ ck) }:=by
      simp only [Builtin.delete_,List.getElem?_toArray,List.getElem?_cons_zero,List.getElem?_cons_succ,Sem.run_bind,run_underlying h1,Result.andThen_ok,getObj,Sem.run,hb',Sem.run_pure,hck,hf,setObj]
    rw [hd]
    refine ⟨.tuple #[],_,_, .inl ?_,⟨rfl,rfl⟩,Mp.shut hmi (sat_setObj hs1).2,⟨rfl,rfl,rfl⟩⟩
    simp [execOp,resolve,invoke,builtin,ha.ev hx,ha.ev hy,hrun]
  · have hf:=hf w
    have hrun:(Builtin.delete_ ⟨[t,t2]⟩ ty #[.map (some b),enc k]).run P w=.ok (.tuple #[]) { w with heap:=w.heap.setIfInBounds b (.map ⟨es.eraseIdx j⟩ ck) }:=by
      simp only [Builtin.delete_,List.getElem?_toArray,List.getElem?_cons_zero,List.getElem?_cons_succ,Sem.run_bind,run_underlying h1,Result.andThen_ok,getObj,Sem.run,hb',Sem.run_pure,hck,hf,setObj]
      simp
    refine ⟨.tuple #[],_,_, .inl ?_,⟨rfl,rfl⟩,Mp.shut (hmi.erase g7 (mdel_sub m k)) (sat_setObj hs1).2,⟨rfl,rfl,rfl⟩⟩
    simp [execOp,resolve,invoke,builtin,ha.ev hx,ha.ev hy,hrun]
end maps
theorem MapTy.int {P:Program} {t kt et:Nat} {k:IntKind} {β:Type} {f:β→Value} {z:β} (h1:P.underlying t=some (.map kt et)) (h2:P.underlying kt=some (.int k)) (h3:∀ w,(zeroValue et).run P w=.ok (f z) w):MapTy P t Int β (Value.int k) f z :=
  ⟨kt,et,h1,⟨.int k,h2, .inl fun a b=>⟨fun h=>by simp [Instr.sameNow,h],fun h=>by simp [Instr.sameNow,h]⟩⟩,fun e n a w=>by simp [Instr.checkKey,run_underlying h2],fun n a=>by simp [Instr.sameBits],h3⟩
section strs
variable {P:Program} {n':Fi} {E:Env} {L:List HProp} {ty:TypeId}
theorem OpV.neS {t t':Nat} {x y:Operand} {a b:ByteArray} (hx:ev E x=some (.string a)) (hy:ev E y=some (.string b)):OpV P n' (.binOp .neq t x y t') ty E L (.bool (!(a.data.toList == b.data.toList))) :=
  (fun _ _ _ _ ac w ha _=>by simp [execOp,ha.ev hx,ha.ev hy,eqGuard,binOp,Op.stringOp,ByteArray.toList_eq])
def si (r:Nat) (s:ByteArray) (pos:Nat):HProp:=pt r (.stringIter s pos)
theorem OpOk.rangeS {t:TypeId} {x:Operand} {s:ByteArray} [hu:Und P t .string] (hx:ev E x=some (.string s)):OpOk P n' (.range t x) ty E L (fun v L'=>∃ b,v=.pointer (some ⟨b,0,none⟩)∧L'=si b s 0::L) :=
  (fun d ps af g a w ha X hs=>⟨.pointer (some ⟨w.heap.size,0,none⟩),w.alloc (.stringIter s 0),si w.heap.size s 0::L, .inl (by simp [execOp,ha.ev hx,Instr.range,run_underlying hu.h]),⟨_,rfl,rfl⟩,sat_alloc hs _,⟨rfl,rfl,rfl⟩⟩)
theorem OpOk.nextS {x:Operand} {r pos c wd:Nat} {s:ByteArray} {L1:List HProp} (hx:ev E x=some (.pointer (some ⟨r,0,none⟩))) (ht:Take (si r s pos) L L1) (hlt:pos<s.data.size) (hd:Utf8.decode s pos=(c,wd)) :
    OpOk P n' (.next x true) ty E L (fun v L'=>v=.tuple ⟨[.bool true, .int .i64 (pos:Int), .int .i32 (c:Int)]⟩∧L'=si r s (pos+wd)::L1) :=
  (fun d ps af g a w ha X hs=>by
    have hs1:=(ht.app X).sat hs
    have hb:hpOf w r=some (.stringIter s pos):=(Reads.here Rd.pt).sat hs1
    have hb':w.heap[r]? = some (.stringIter s pos):=hb
    have hlt':pos<s.size:=hlt
    refine ⟨.tuple ⟨[.bool true, .int .i64 (pos:Int), .int .i32 (c:Int)]⟩,{ w with heap:=w.heap.setIfInBounds r (.stringIter s (pos+wd)) },_, .inl ?_,⟨rfl,rfl⟩,(sat_setObj hs1).2,⟨rfl,rfl,rfl⟩⟩
    simp [execOp,ha.ev hx,Instr.next,getObj,setObj,Sem.run,hb',hlt',hd,goInt])
theorem OpOk.nextE {x:Operand} {r pos:Nat} {s:ByteArray} {L1:List HProp} (hx:ev E x=some (.pointer (some ⟨r,0,none⟩))) (ht:Take (si r s pos) L L1) (hge:s.data.size≤pos) :
    OpOk P n' (.next x true) ty E L (fun v L'=>v=.tuple ⟨[.bool false]⟩∧L'=si r s pos::L1) :=
  (fun d ps af g a w ha X hs=>by
    have hs1:=(ht.app X).sat hs
    have hb:hpOf w r=some (.stringIter s pos):=(Reads.here Rd.pt).sat hs1
    have hb':w.heap[r]? = some (.stringIter s pos):=hb
    have hge':¬ pos<s.size:=Nat.not_lt.2 hge
    refine ⟨.tuple ⟨[.bool false]⟩,w,_, .inl ?_,⟨rfl,rfl⟩,hs1,Old.refl w⟩
    simp [execOp,ha.ev hx,Instr.next,getObj,Sem.run,hb',hge'])
theorem OpV.mkI {t:TypeId} {x:Operand} {v:Value} {d:TypeDesc} [hu:Und P t d] (hd:(match d with|.interface _=>false|_=>true)=true) (hx:ev E x=some v):OpV P n' (.makeInterface t x) ty E L (.iface t v):=by
  unfold OpV
  exact (fun _ _ _ _ a w ha _=>by
    simp only [execOp,ha.ev hx,Instr.makeInterface,Sem.run_bind,run_underlying hu.h,Result.andThen_ok]
    cases d<;>first|(cases hd;done)|simp)
theorem OpV.asT2 {t u:TypeId} {x:Operand} {v:Value} {d:TypeDesc} [hu:Und P u d] (hd:(match d with|.interface _=>false|_=>true)=true) (hx:ev E x=some (.iface u v)) :
    OpV P n' (.typeAssert x t u true) ty E L (.tuple ⟨[v, .bool true]⟩):=by
  unfold OpV
  exact (fun _ _ _ _ a w ha _=>by
    simp only [execOp,ha.ev hx,Instr.typeAssert,Sem.run_bind,run_underlying hu.h,Result.andThen_ok]
    cases d<;>first|(cases hd;done)|simp)
theorem OpV.asT1 {t u:TypeId} {x:Operand} {v:Value} {d:TypeDesc} [hu:Und P u d] (hd:(match d with|.interface _=>false|_=>true)=true) (hx:ev E x=some (.iface u v)) :
    OpV P n' (.typeAssert x t u false) ty E L v:=by
  unfold OpV
  exact (fun _ _ _ _ a w ha _=>by
    simp only [execOp,ha.ev hx,Instr.typeAssert,Sem.run_bind,run_underlying hu.h,Result.andThen_ok]
    cases d<;>first|(cases hd;done)|simp)
theorem OpV.asF {t u u':TypeId} {x:Operand} {v z:Value} {d:TypeDesc} [hu:Und P u d] [hz:Zer P u z] (hd:(match d with|.interface _=>false|_=>true)=true) (hx:ev E x=some (.iface u' v)) (hne:Nat.beq u' u=false) :
    OpV P n' (.typeAssert x t u true) ty E L (.tuple ⟨[z, .bool false]⟩):=by
  unfold OpV
  exact (fun _ _ _ _ a w ha _=>by
    have h1:¬ u'=u:=fun e=>by subst e;simp at hne
    simp only [execOp,ha.ev hx,Instr.typeAssert,Sem.run_bind,run_underlying hu.h,Result.andThen_ok]
    cases d<;>first|(cases hd;done)|simp [h1,hz.h])
end strs
def AndIs (k:IntKind) (a b c:Int):Prop:=k.wrap ((BitVec.ofInt k.bits a &&& BitVec.ofInt k.bits b).toNat:Int)=c
theorem OpV.andF {P:Program} {n':Fi} {E:Env} {L:List HProp} {ty t t':TypeId} {x y:Operand} {kd:IntKind} {a b c:Int} (hx:ev E x=some (.int kd a)) (hy:ev E y=some (.int kd b)) (hf:AndIs kd a b c)
    : OpV P n' (.binOp .and t x y t') ty E L (.int kd c) :=
  OpV.bin hx hy (by simp only [binI];rw [hf])
theorem OpV.shrU {P:Program} {n':Fi} {E:Env} {L:List HProp} {ty t t':TypeId} {x y:Operand} {kd kd':IntKind} {a b:Int} (hx:ev E x=some (.int kd a)) (hy:ev E y=some (.int kd' b)) (h1:0≤b) (hb:Nat.ble b.toNat kd.bits=true)
    : OpV P n' (.binOp .shr t x y t') ty E L (.int kd (a / 2 ^ b.toNat)) :=
  (fun d ps af g ac w ha _=>by
    have h2:¬ b<0:=by omega
    have h3:min b.toNat kd.bits=b.toNat:=Nat.min_eq_left (Nat.le_of_ble_eq_true hb)
    have e:Int.fdiv a (2 ^ b.toNat)=a / 2 ^ b.toNat:=Int.fdiv_eq_ediv_of_nonneg _ (Int.pow_nonneg (by decide))
    simp [execOp,ha.ev hx,ha.ev hy,eqGuard,binOp,Op.shift,h2,h3,e])
theorem AndIs.mask {k:IntKind} {a:Int} {p:Nat} (hk:k=.i64∨k=.u64) (h0:0≤a) (hp:p≤62) (h1:a<9223372036854775808):AndIs k a (((2 ^ p - 1:Nat):Int)) ((a.toNat % 2 ^ p:Nat):Int):=by
  have hpp:2 ^ p≤2 ^ 62:=Nat.pow_le_pow_right (by decide) hp
  have e0:(2:Nat) ^ 62=4611686018427387904:=by decide
  have hpos:0<2 ^ p:=Nat.two_pow_pos p
  have e1:∀ b:Nat,b<2 ^ 63→(BitVec.ofInt 64 (b:Int)).toNat=b:=by
    intro b hb
    rw [BitVec.toNat_ofInt]
    have:(2:Nat) ^ 63=9223372036854775808:=by decide
    have:(2:Nat) ^ 64=18446744073709551616:=by decide
    omega
  have e3:(BitVec.ofInt 64 a).toNat=a.toNat:=by
    have:=e1 a.toNat (by omega)
    rw [show ((a.toNat:Nat):Int)=a by omega] at this
    exact this
  have e2:(BitVec.ofInt 64 a &&& BitVec.ofInt 64 ((2 ^ p - 1:Nat):Int)).toNat=a.toNat % 2 ^ p:=by
    rw [BitVec.toNat_and,e3,e1 _ (by omega),Nat.and_two_pow_sub_one_eq_mod]
  have hm:a.toNat % 2 ^ p<2 ^ p:=Nat.mod_lt _ hpos
  unfold AndIs
  generalize hmm:a.toNat % 2 ^ p=m at e2 hm⊢
  rcases hk with rfl|rfl
  · rw [show IntKind.i64.bits=64 from rfl,e2]
    exact wrap_fits (by simp only [fits];omega)
  · rw [show IntKind.u64.bits=64 from rfl,e2]
    exact wrap_fits (by simp only [fits];omega)
section rounds
variable {P:Program} {ro:Option Nat} {nt:Fi} {w0:World} {ops:Array Oper} {Q:Exit→Act→World→Prop} {E:Env} {L:List HProp} {rest:List Oper} {ps:String} {af:Array Edge} {op:Op} {ty:TypeId}
theorem Ent.mid {p:HProp} {B:List HProp}:∀ {A:List HProp},Ent (p::(A++B)) (A++p::B)
  | []=>Ent.refl _
  | q::_=>Ent.trans (L:=p::q::_) (M:=q::p::_) (fun _ h=>h.swap) (Ent.cons Ent.mid)
theorem Ent.mid' {p:HProp} {B:List HProp}:∀ {A:List HProp},Ent (A++p::B) (p::(A++B))
  | []=>Ent.refl _
  | _::_=>Ent.trans (Ent.cons Ent.mid') (fun _ h=>h.swap)
end rounds
section auto
variable {P:Program} {C:Cx} {E:Env} {L:List HProp} {n:Fi} {op:Op} {ty:TypeId} {v:Value} {Φ:Value→List HProp→Prop}
theorem Take.go {p:HProp} {L':List HProp} (h:Take p L L':=by first|(((focus (repeat first|exact Take.here|apply Take.there)));done)|fail):Take p L L':=h
theorem Takes.go {ps Lr:List HProp} (h:Takes ps L Lr:=by first|(((focus (repeat (first|exact Takes.nil|(apply Takes.cons;(focus (repeat first|exact Take.here|apply Take.there)))))));done)|fail):Takes ps L Lr:=h
theorem Ent.go {M:List HProp} (h:Ent L M:=by first|(((focus (repeat first|exact Ent.refl _|exact Ent.nil _|(apply Ent.take;(focus (repeat first|exact Take.here|apply Take.there)))|apply Ent.drop)));done)|fail):Ent L M:=h
theorem Sub.go {E':Env} (h:Sub E E':=by first|(((focus (repeat (first|exact Sub.nil _|(apply Sub.cons;rfl)))));done)|fail):Sub E E':=h
theorem Evs.go {xs:List Operand} {vs:List Value} (h:Evs E xs vs:=by first|(((focus (repeat (first|rfl|constructor))));done)|fail):Evs E xs vs:=h
theorem OpV.go (h:OpV P n op ty E L v:=by first|((first|(apply OpV.move;rfl)|(apply OpV.assign;rfl)|(apply OpV.fieldAddr;rfl;(focus (first|assumption|(repeat constructor)));infer_instance;rfl)|(apply OpV.load1;rfl;(focus (repeat first|exact ReadsC.here RdC.bl|exact ReadsC.here (by assumption)|apply ReadsC.there));(focus (first|assumption|(repeat constructor))))|(apply OpV.add;rfl;rfl;(simp only [fits];omega))|(apply OpV.sub;rfl;rfl;(simp only [fits];omega))|(apply OpV.mul;rfl;rfl;(simp only [fits];omega))|(apply OpV.andF;rfl;rfl;assumption)|(apply OpV.lssBig;rfl)|(apply OpV.geqBig;rfl)|(apply OpV.bin;rfl;rfl;rfl)|(apply OpV.extract;rfl;(focus (first|assumption|(repeat constructor))))|(apply OpV.loadW;rfl;(focus (repeat first|exact ReadsC.here RdC.bl|exact ReadsC.here (by assumption)|apply ReadsC.there));first|rfl|assumption)|(apply OpV.loadA;rfl;(focus (repeat first|exact ReadsC.here RdC.bl|exact ReadsC.here (by assumption)|apply ReadsC.there));(focus (first|assumption|(repeat constructor)));(focus (first|assumption|(repeat constructor))))|(apply OpV.nilCheck;rfl)|(apply OpV.field1;rfl;(focus (first|assumption|(repeat constructor)));infer_instance;(focus (first|assumption|(repeat constructor))))|(apply OpV.fieldA;rfl;(focus (first|assumption|(repeat constructor)));infer_instance;infer_instance;(focus (first|assumption|(repeat constructor)));(focus (first|assumption|(repeat constructor))))|(apply OpV.pick_t;rfl;rfl)|(apply OpV.pick_f;rfl;rfl)|(apply OpV.idxSl0;rfl;rfl;omega;omega)|(apply OpV.idxSl;rfl;rfl;omega;omega)|(apply OpV.idxArr;rfl;rfl;omega;omega)|(apply OpV.len_sl;rfl)|(apply OpV.buildS;(focus (repeat (first|exact SizA.nil|(apply SizA.cons;infer_instance))));(focus (repeat (first|rfl|constructor)));(focus (repeat (first|exact Fill.nil|(apply Fill.cons;(apply PlS.mk;(focus (first|assumption|(repeat constructor)));infer_instance);rfl;(focus (first|assumption|(repeat constructor))))))))|(apply OpV.quo';rfl;rfl;omega;omega;(simp only [fits];omega))|(apply OpV.rem;rfl;rfl;omega;omega)|(apply OpV.conv_fit;rfl;(simp only [fits];omega))|(apply OpV.conv_int;rfl)|(apply OpV.not;rfl)|(apply OpV.shrU;rfl;rfl;decide;rfl)|(apply OpV.eqA (m:=4);rfl;rfl;(focus (repeat (first|exact EqFs.nil|apply EqV.int|apply EqV.bool|assumption|apply EqV.struct|(apply EqFs.one;infer_instance;(focus (first|assumption|(repeat constructor)));(focus (first|assumption|(repeat constructor))))|(apply EqFs.agg;infer_instance;infer_instance;(focus (first|assumption|(repeat constructor)));(focus (first|assumption|(repeat constructor)));(focus (first|assumption|(repeat constructor)));(focus (first|assumption|(repeat constructor)))))));rfl)|(apply OpV.neA (m:=4);rfl;rfl;(focus (repeat (first|exact EqFs.nil|apply EqV.int|apply EqV.bool|assumption|apply EqV.struct|(apply EqFs.one;infer_instance;(focus (first|assumption|(repeat constructor)));(focus (first|assumption|(repeat constructor))))|(apply EqFs.agg;infer_instance;infer_instance;(focus (first|assumption|(repeat constructor)));(focus (first|assumption|(repeat constructor)));(focus (first|assumption|(repeat constructor)));(focus (first|assumption|(repeat constructor)))))));rfl)|(apply OpV.eqB;rfl;rfl)|(apply OpV.eqSl;rfl;rfl)|(apply OpV.neSl;rfl;rfl)|(apply OpV.neB;rfl;rfl)|(apply OpV.eqP;rfl;rfl)|(apply OpV.neP;rfl;rfl)|(apply OpV.slTo;rfl;rfl;omega;omega)|(apply OpV.slFrom;rfl;omega)|(apply OpV.lookup1;rfl;rfl;(focus (repeat first|exact ReadsM.here RdM.mp|exact ReadsM.here (by assumption)|apply ReadsM.there)))|(apply OpV.lookup2;rfl;rfl;(focus (repeat first|exact ReadsM.here RdM.mp|exact ReadsM.here (by assumption)|apply ReadsM.there)))|(apply OpV.len_map;rfl;(focus (repeat first|exact ReadsM.here RdM.mp|exact ReadsM.here (by assumption)|apply ReadsM.there)))|(apply OpV.len_str;rfl)|(apply OpV.eqS;rfl;rfl)|(apply OpV.neS;rfl;rfl)|(apply OpV.min2;rfl;rfl)|(apply OpV.max2;rfl;rfl)|(apply OpV.entryM;rfl;(focus (repeat first|exact Take.here|apply Take.there)))|(apply OpV.idxStr;rfl;rfl;omega;omega)|(apply OpV.makeFunc;(focus (repeat (first|rfl|constructor))))|(apply OpV.buildA;(focus (repeat (first|rfl|constructor)));(focus (repeat (first|exact Fill.nil|(apply Fill.cons;(apply PlS.mk;(focus (first|assumption|(repeat constructor)));infer_instance);rfl;(focus (first|assumption|(repeat constructor))))))))|(apply OpV.slStr;rfl;rfl;rfl;(first|omega|decide);(first|omega|decide);(first|omega|decide))|(apply OpV.addS;rfl;rfl;first|omega|decide)|(apply OpV.runeS;rfl)|(apply OpV.mkI;rfl;rfl)|(apply OpV.mkIs;rfl)|(apply OpV.asT2;rfl;rfl)|(apply OpV.asT2s;rfl)|(apply OpV.asT1s;rfl)|(apply OpV.asFs;rfl;rfl)|(apply OpV.asT1;rfl;rfl)|(apply OpV.asF;rfl;rfl;rfl)|(apply OpV.eqI0;rfl)|(apply OpV.eqI1;rfl;rfl));done)|fail):OpV P n op ty E L v:=h
theorem OpOk.gt (h:OpOk P n op ty E L Φ:=by first|((first|(apply OpOk.store1;rfl;rfl;(first|rfl|assumption);(focus (repeat first|exact ReadsC.here RdC.bl|exact ReadsC.here (by assumption)|apply ReadsC.there));(focus (first|assumption|(repeat constructor)));(focus (repeat first|exact TurnC.here|apply TurnC.there)))|(apply OpOk.storeA;rfl;rfl;(first|rfl|assumption);(first|rfl|assumption);(focus (repeat first|exact ReadsC.here RdC.bl|exact ReadsC.here (by assumption)|apply ReadsC.there));(focus (first|assumption|(repeat constructor)));(focus (repeat first|exact TurnC.here|apply TurnC.there)))|(apply OpOk.mapUpdate;rfl;rfl;rfl;(focus (repeat first|exact Take.here|apply Take.there)))|(apply OpOk.insert;rfl;rfl;rfl;(focus (repeat first|exact Take.here|apply Take.there)))|(apply OpOk.delete;rfl;rfl;(focus (repeat first|exact Take.here|apply Take.there)))|(apply OpOk.entryStore;rfl;rfl;rfl;(focus (repeat first|exact Take.here|apply Take.there)))|(apply OpOk.nextS;rfl;(focus (repeat first|exact Take.here|apply Take.there));(first|decide|omega);(first|assumption|rfl))|(apply OpOk.nextE;rfl;(focus (repeat first|exact Take.here|apply Take.there));(first|decide|omega))|(apply OpOk.nextM0;rfl;(focus (repeat first|exact Take.here|apply Take.there))));done)|fail):OpOk P n op ty E L Φ:=h
theorem OpOk.gf (h:OpOk P n op ty E L Φ:=by first|((first|(apply OpOk.boxA;rfl)|(apply OpOk.box1;rfl;rfl)|apply OpOk.allocA|(apply OpOk.make;rfl;rfl;omega;omega;omega;rfl)|(apply OpOk.buildSl;(focus (repeat (first|rfl|constructor)));(focus (repeat (first|exact Seq.nil|(apply Seq.cons;rfl))));rfl;rfl)|(apply OpOk.alloc1;rfl)|apply OpOk.makeMap|(apply OpOk.mapEntry;rfl;rfl;(focus (repeat first|exact Take.here|apply Take.there)))|(apply OpOk.rangeS;rfl)|(apply OpOk.rangeM;rfl;(focus (repeat first|exact Take.here|apply Take.there))));done)|fail):OpOk P n op ty E L Φ:=h
theorem OpOk.ga (h:OpOk P n op ty E L Φ:=by first|((first|(apply OpOk.append;rfl;rfl;(focus (repeat first|exact Take.here|apply Take.there));(focus (repeat first|exact ReadsC.here RdC.bl|exact ReadsC.here (by assumption)|apply ReadsC.there));(focus (first|assumption|(repeat constructor)));(focus (first|assumption|(repeat constructor)));(first|rfl|assumption);rfl;rfl;omega;omega)|(apply OpOk.appendC;rfl;rfl;(focus (repeat first|exact Take.here|apply Take.there));(focus (repeat first|exact ReadsC.here RdC.bl|exact ReadsC.here (by assumption)|apply ReadsC.there));(focus (first|assumption|(repeat constructor)));(focus (first|assumption|(repeat constructor)));(first|rfl|assumption);rfl;rfl;omega;omega));done)|fail):OpOk P n op ty E L Φ:=h
theorem St.dn {k:List Item} {rs:List ResultVar} {vs:List Value} {L':List HProp} (hf:P.funcs[C.f]? = some C.fn) (hQ:C.Q (resV vs) L') (qL:Ent L (L'++C.F)) (hres:C.fn.results=⟨rs⟩:=by rfl) (hr:Res P E L rs vs:=by first|(((focus (repeat (first|exact Res.nil|(apply Res.tmp;rfl)|(apply Res.cellW;infer_instance;infer_instance;rfl;(focus (repeat first|exact ReadsC.here RdC.bl|exact ReadsC.here (by assumption)|apply ReadsC.there));first|rfl|assumption)|(apply Res.cellA;infer_instance;infer_instance;rfl;(focus (repeat first|exact ReadsC.here RdC.bl|exact ReadsC.here (by assumption)|apply ReadsC.there));(focus (first|assumption|(repeat constructor)));(focus (first|assumption|(repeat constructor))))|(apply Res.cell1;infer_instance;rfl;(focus (repeat first|exact ReadsC.here RdC.bl|exact ReadsC.here (by assumption)|apply ReadsC.there));(focus (first|assumption|(repeat constructor))))))));done)|fail) (hds:C.ds=[]:=by rfl):St P C (.code .ret::k) E L:=St.done hres hr hf hQ qL hds
theorem St.d1 {k:List Item} {rs:List ResultVar} {vs:List Value} (hf:P.funcs[C.f]? = some C.fn) (hQ:∃ L',C.Q (resV vs) L'∧Ent L (L'++C.F)) (hres:C.fn.results=⟨rs⟩:=by rfl) (hr:Res P E L rs vs:=by first|(((focus (repeat (first|exact Res.nil|(apply Res.tmp;rfl)|(apply Res.cellW;infer_instance;infer_instance;rfl;(focus (repeat first|exact ReadsC.here RdC.bl|exact ReadsC.here (by assumption)|apply ReadsC.there));first|rfl|assumption)|(apply Res.cellA;infer_instance;infer_instance;rfl;(focus (repeat first|exact ReadsC.here RdC.bl|exact ReadsC.here (by assumption)|apply ReadsC.there));(focus (first|assumption|(repeat constructor)));(focus (first|assumption|(repeat constructor))))|(apply Res.cell1;infer_instance;rfl;(focus (repeat first|exact ReadsC.here RdC.bl|exact ReadsC.here (by assumption)|apply ReadsC.there));(focus (first|assumption|(repeat constructor))))))));done)|fail) (hds:C.ds=[]:=by rfl):St P C (.code .ret::k) E L:=let ⟨_,h1,h2⟩:=hQ;St.done hres hr hf h1 h2 hds
theorem St.f1 {rs:List ResultVar} {vs:List Value} (hf:P.funcs[C.f]? = some C.fn) (hQ:∃ L',C.Q (resV vs) L'∧Ent L (L'++C.F)) (hres:C.fn.results=⟨rs⟩:=by rfl) (hr:Res P E L rs vs:=by first|(((focus (repeat (first|exact Res.nil|(apply Res.tmp;rfl)|(apply Res.cellW;infer_instance;infer_instance;rfl;(focus (repeat first|exact ReadsC.here RdC.bl|exact ReadsC.here (by assumption)|apply ReadsC.there));first|rfl|assumption)|(apply Res.cellA;infer_instance;infer_instance;rfl;(focus (repeat first|exact ReadsC.here RdC.bl|exact ReadsC.here (by assumption)|apply ReadsC.there));(focus (first|assumption|(repeat constructor)));(focus (first|assumption|(repeat constructor))))|(apply Res.cell1;infer_instance;rfl;(focus (repeat first|exact ReadsC.here RdC.bl|exact ReadsC.here (by assumption)|apply ReadsC.there));(focus (first|assumption|(repeat constructor))))))));done)|fail) (hds:C.ds=[]:=by rfl):St P C [] E L:=let ⟨_,h1,h2⟩:=hQ;St.fell hres hr hf h1 h2 hds
def Nrm (b:Bool) (p q:Prop):Prop:=(b=true→p)∧(b=false→q)
theorem Nrm.dec {p:Prop} [Decidable p]:Nrm (decide p) p (¬ p):=⟨of_decide_eq_true,of_decide_eq_false⟩
theorem Nrm.bne {α:Type} [BEq α] [LawfulBEq α] {x y:α}:Nrm (x != y) (x≠y) (x=y):=⟨bne_iff_ne.1,bne_eq_false_iff_eq.1⟩
theorem Nrm.geB {x y:Int}:Nrm (!(Go.Proofs.YthmbgodcpgkkeaaGreat.ltB x y)) (y≤x) (¬ y≤x):=by
  have h1:=@ltB_iff x y
  generalize Go.Proofs.YthmbgodcpgkkeaaGreat.ltB x y=b at *
  cases b with
  | true=>exact ⟨fun h=>(by cases h),fun _=>(by have:=h1.1 rfl;omega)⟩
  | false=>exact ⟨fun _=>Int.not_lt.1 fun h=>(by cases h1.2 h),fun h=>(by cases h)⟩
theorem Nrm.id {b:Bool}:Nrm b (b=true) (b=false):=⟨fun h=>h,fun h=>h⟩
section rules
variable {k:List Item} {ops:Array Oper} {rest:List Oper} {ps:String} {af:Array Edge} {L0 L1:List HProp} {T:Then} {r:List (Nat×Nat)} {i j t:Nat} {ι:Sort _} {d:Tmp} {e:Option Tmp} {g:FuncId} {vs:Array Value} {M F1:List HProp} {vf:ι→Value} {Lf:ι→List HProp} {m te:Nat} {La:Option Addr→Nat→List HProp} {news:List Value} {u want:Bool} {p q:Prop}
theorem Oa (h1:OpV P n op ty E L v:=by exact OpV.go) (h2:inF n (some d)=true:=by rfl):OpV P n op ty E L v∧inF n (some d)=true:=⟨h1,h2⟩
theorem Ob (h1:OpOk P n op ty E L (fun v' L'=>v'=v∧L'=L1):=by exact OpOk.gt) (h2:inF n e=true:=by rfl):OpOk P n op ty E L (fun v' L'=>v'=v∧L'=L1)∧inF n e=true:=⟨h1,h2⟩
theorem Oc (h1:OpOk P n op ty E L (fun v' L'=>∃ b,v'=vf b∧L'=Lf b):=by exact OpOk.gf) (h2:inF n e=true:=by rfl):OpOk P n op ty E L (fun v' L'=>∃ b,v'=vf b∧L'=Lf b)∧inF n e=true:=⟨h1,h2⟩
theorem Od (h1:OpOk P n op ty E L (fun v' L'=>∃ ad cap,v'=.slice ad m cap∧L'=La ad cap):=by exact OpOk.ga) (h2:inF n e=true:=by rfl):OpOk P n op ty E L (fun v' L'=>∃ ad cap,v'=.slice ad m cap∧L'=La ad cap)∧inF n e=true:=⟨h1,h2⟩
theorem On (h:Nrm u p q:=by first|exact Nrm.ltB|exact Nrm.geB|exact Nrm.dec|exact Nrm.beq|exact Nrm.bne|exact Nrm.id):Nrm u p q:=h
theorem Og {vl:List Value} (h:OpC P n op ty E g ⟨vl⟩:=by apply OpC.func;exact Evs.go):OpC P n op ty E g ⟨vl⟩:=h
theorem Oh (h1:Ent L M:=by first|(((focus (repeat first|exact Ent.refl _|exact Ent.nil _|(apply Ent.take;(focus (repeat first|exact Take.here|apply Take.there)))|apply Ent.drop)));done)|fail) (h2:inF n e=true:=by rfl):Ent L M∧inF n e=true:=⟨h1,h2⟩
theorem Oi (h1:Ent L0 M:=by first|(((focus (repeat first|exact Ent.refl _|exact Ent.nil _|(apply Ent.take;(focus (repeat first|exact Take.here|apply Take.there)))|apply Ent.drop)));done)|fail) (h3:Ent L L0:=by first|(((focus (repeat first|exact Ent.refl _|exact Ent.nil _|(apply Ent.take;(focus (repeat first|exact Take.here|apply Take.there)))|apply Ent.drop)));done)|fail) (h2:inF n e=true:=by rfl):Ent L0 M∧Ent L L0∧inF n e=true:=⟨h1,h3,h2⟩
theorem Oj (hj:(ops[j]?).bind (·.dst)=some t:=by rfl) (hb:get E t=some v:=by rfl):(ops[j]?).bind (·.dst)=some t∧get E t=some v:=⟨hj,hb⟩
theorem Ya (ho:OpV P C.nt op ty E L v∧inF C.nt (some d)=true) (h:StL P C ops rest k ((d,v)::E) L):StL P C ops (⟨some d,op,ty,ps,af,none⟩::rest) k E L:=StL.v ho.1 ho.2 h
theorem Yb (ho:OpOk P C.nt op ty E L (fun v' L'=>v'=v∧L'=L1)∧inF C.nt e=true) (h:StL P C ops rest k (putE E e v) L1):StL P C ops (⟨e,op,ty,ps,af,none⟩::rest) k E L:=StL.ok ho.1 ho.2 (by rintro _ _ ⟨rfl,rfl⟩;exact h)
theorem Yc (ho:OpOk P C.nt op ty E L (fun v' L'=>∃ b,v'=vf b∧L'=Lf b)∧inF C.nt e=true) (h:∀ b,StL P C ops rest k (putE E e (vf b)) (Lf b)):StL P C ops (⟨e,op,ty,ps,af,none⟩::rest) k E L:=StL.ok ho.1 ho.2 (by rintro _ _ ⟨b,rfl,rfl⟩;exact h b)
theorem Yd (ho:OpOk P C.nt op ty E L (fun v' L'=>∃ ad cap,v'=.slice ad m cap∧L'=La ad cap)∧inF C.nt e=true) (h:∀ ad cap,StL P C ops rest k (putE E e (.slice ad m cap)) (La ad cap)):StL P C ops (⟨e,op,ty,ps,af,none⟩::rest) k E L:=StL.ok ho.1 ho.2 (by rintro _ _ ⟨ad,cap,rfl,rfl⟩;exact h ad cap)
theorem Yf (hg:(ops[j]?).bind (·.dst)=some t∧get E t=some (.bool u)) (h:StL P C ops (⟨e,op,ty,ps,af,none⟩::rest) k E L):StL P C ops (⟨e,op,ty,ps,af,some (j,u)⟩::rest) k E L:=StL.g_yes hg.1 hg.2 h
theorem Yg (hg:(ops[j]?).bind (·.dst)=some t∧get E t=some (.bool u)) (hne:(u == want)=false∧inF C.nt e=true) (h:StL P C ops rest k (putE E e undef) L):StL P C ops (⟨e,op,ty,ps,af,some (j,want)⟩::rest) k E L:=StL.g_no hg.1 hg.2 hne.1 hne.2 h
theorem Yh (hg:(ops[j]?).bind (·.dst)=some t∧get E t=some undef) (hd:inF C.nt e=true) (h:StL P C ops rest k (putE E e undef) L):StL P C ops (⟨e,op,ty,ps,af,some (j,want)⟩::rest) k E L:=StL.g_undef hg.1 hg.2 hd h
theorem Yi (hg:(ops[j]?).bind (·.dst)=some t∧get E t=some (.bool u)) (hn:Nrm u p q) (ht:p→StL P C ops (⟨e,op,ty,ps,af,some (j,want)⟩::rest) k ((t, .bool true)::E) L) (hf:q→StL P C ops (⟨e,op,ty,ps,af,some (j,want)⟩::rest) k ((t, .bool false)::E) L):StL P C ops (⟨e,op,ty,ps,af,some (j,want)⟩::rest) k E L:=StL.gsplit hg.1 hg.2 (fun h=>ht (hn.1 h)) (fun h=>hf (hn.2 h))
theorem Ud {c:Operand} {x y:Code} (hc:ev E c=some (.bool u)) (hn:Nrm u p q) (ht:p→St P C (.code x::k) E L) (hf:q→St P C (.code y::k) E L):St P C (.code (.cond c x y)::k) E L:=St.cond hc (fun h=>ht (hn.1 h)) (fun h=>hf (hn.2 h))
theorem Za (hi:ops[i]? = some ⟨some d,op,ty,ps,af,none⟩) (ho:OpV P C.nt op ty E [] v∧inF C.nt (some d)=true) (h:StD P C ops L0 T r k ((d,v)::E) L):StD P C ops L0 T ((i,0)::r) k E L:=StD.v0 hi ho.1 ho.2 h
theorem Zb (hi:ops[i]? = some ⟨some d,op,ty,ps,af,none⟩) (ho:OpV P C.nt op ty E L0 v∧inF C.nt (some d)=true) (qL:Ent L L0) (h:StD P C ops L0 T r k ((d,v)::E) L):StD P C ops L0 T ((i,1)::r) k E L:=StD.v1 hi ho.1 qL ho.2 h
theorem Zp (hi:ops[i]? = some ⟨some d,op,ty,ps,af,none⟩) (ho:OpV P C.nt op ty E L v∧inF C.nt (some d)=true) (h:StD P C ops L0 T r k ((d,v)::E) L):StD P C ops L0 T ((i,2)::r) k E L:=StD.v2 hi ho.1 ho.2 h
theorem Zc (hi:ops[i]? = some ⟨e,op,ty,ps,af,none⟩) (ho:OpOk P C.nt op ty E L (fun v' L'=>v'=v∧L'=L1)∧inF C.nt e=true) (h:StD P C ops L0 T r k (putE E e v) L1):StD P C ops L0 T ((i,3)::r) k E L:=StD.ok3 hi ho.1 ho.2 (by rintro _ _ ⟨rfl,rfl⟩;exact h)
theorem Zd (hi:ops[i]? = some ⟨e,op,ty,ps,af,none⟩) (ho:OpOk P C.nt op ty E L (fun v' L'=>∃ b,v'=vf b∧L'=Lf b)∧inF C.nt e=true) (h:∀ b,Ent (Lf b) L0∧StD P C ops L0 T r k (putE E e (vf b)) (Lf b)):StD P C ops L0 T ((i,2)::r) k E L:=StD.ok2 hi ho.1 ho.2 (by rintro _ _ ⟨b,rfl,rfl⟩;exact h b)
theorem Zg (hi:ops[i]? = some ⟨e,op,ty,ps,af,none⟩) (ho:OpOk P C.nt op ty E L (fun v' L'=>∃ ad cap,v'=.slice ad m cap∧L'=La ad cap)∧inF C.nt e=true) (h:∀ ad cap,StD P C ops L0 T r k (putE E e (.slice ad m cap)) (La ad cap)):StD P C ops L0 T ((i,3)::r) k E L:=StD.ok3 hi ho.1 ho.2 (by rintro _ _ ⟨ad,cap,rfl,rfl⟩;exact h ad cap)
theorem Zi (hi:ops[i]? = some ⟨some d,op,ty,ps,af,some (j,u)⟩) (hg:(ops[j]?).bind (·.dst)=some t∧get E t=some (.bool u)) (ho:OpV P C.nt op ty E [] v∧inF C.nt (some d)=true) (h:StD P C ops L0 T r k ((d,v)::E) L):StD P C ops L0 T ((i,0)::r) k E L:=StD.g0 hi hg.1 hg.2 ho.1 ho.2 h
theorem Zj (hi:ops[i]? = some ⟨some d,op,ty,ps,af,some (j,u)⟩) (hg:(ops[j]?).bind (·.dst)=some t∧get E t=some (.bool u)) (ho:OpV P C.nt op ty E L0 v∧inF C.nt (some d)=true) (qL:Ent L L0) (h:StD P C ops L0 T r k ((d,v)::E) L):StD P C ops L0 T ((i,1)::r) k E L:=StD.g1 hi hg.1 hg.2 ho.1 qL ho.2 h
theorem Zk (hi:ops[i]? = some ⟨some d,op,ty,ps,af,some (j,want)⟩) (hg:(ops[j]?).bind (·.dst)=some t∧get E t=some (.bool u)) (hne:(u == want)=false∧inF C.nt (some d)=true) (h:StD P C ops L0 T r k ((d,undef)::E) L):StD P C ops L0 T ((i,0)::r) k E L:=StD.skip0 hi hg.1 hg.2 hne.1 hne.2 h
theorem Zl (hi:ops[i]? = some ⟨some d,op,ty,ps,af,some (j,want)⟩) (hg:(ops[j]?).bind (·.dst)=some t∧get E t=some (.bool u)) (hne:(u == want)=false∧inF C.nt (some d)=true) (qL:Ent L L0) (h:StD P C ops L0 T r k ((d,undef)::E) L):StD P C ops L0 T ((i,1)::r) k E L:=StD.skip1 hi hg.1 hg.2 hne.1 qL hne.2 h
theorem Zo {c:Nat} (hi:ops[i]? = some ⟨e,op,ty,ps,af,some (j,want)⟩) (hg:(ops[j]?).bind (·.dst)=some t∧get E t=some (.bool u)) (hn:Nrm u p q) (ht:p→StD P C ops L0 T ((i,c)::r) k ((t, .bool true)::E) L) (hf:q→StD P C ops L0 T ((i,c)::r) k ((t, .bool false)::E) L):StD P C ops L0 T ((i,c)::r) k E L:=StD.gsplit hi hg.1 hg.2 (fun h=>ht (hn.1 h)) (fun h=>hf (hn.2 h))
theorem Ka (hop:OpC P C.nt op ty E g vs) (ht:RTri P g vs M v) (qL:Ent L M∧inF C.nt (some d)=true) (h:StL P C ops rest k ((d,v)::E) L):StL P C ops (⟨some d,op,ty,ps,af,none⟩::rest) k E L:=StL.callr hop ht qL.1 qL.2 h
theorem Kb (hi:ops[i]? = some ⟨some d,op,ty,ps,af,none⟩) (hop:OpC P C.nt op ty E g vs) (ht:RTri P g vs M v) (qL:Ent L0 M∧Ent L L0∧inF C.nt (some d)=true) (h:StD P C ops L0 T r k ((d,v)::E) L):StD P C ops L0 T ((i,1)::r) k E L:=StD.callr hi hop ht qL.1 qL.2.1 qL.2.2 h
theorem Kc (hi:ops[i]? = some ⟨some d,op,ty,ps,af,some (j,u)⟩) (hg:(ops[j]?).bind (·.dst)=some t∧get E t=some (.bool u)) (hop:OpC P C.nt op ty E g vs) (ht:RTri P g vs M v) (qL:Ent L0 M∧Ent L L0∧inF C.nt (some d)=true) (h:StD P C ops L0 T r k ((d,v)::E) L):StD P C ops L0 T ((i,1)::r) k E L:=StD.gcallr hi hg.1 hg.2 hop ht qL.1 qL.2.1 qL.2.2 h
theorem Kd (hop:OpC P C.nt op ty E g vs) (ht:Tri P g vs M Φ) (qL:Ent L (M++F1)∧inF C.nt e=true) (h:∀ v L',Φ v L'→StL P C ops rest k (putE E e v) (L'++F1)):StL P C ops (⟨e,op,ty,ps,af,none⟩::rest) k E L:=StL.callt hop ht qL.1 qL.2 h
theorem Ke (hi:ops[i]? = some ⟨e,op,ty,ps,af,none⟩) (hop:OpC P C.nt op ty E g vs) (ht:Tri P g vs M Φ) (qL:Ent L (M++F1)∧inF C.nt e=true) (h:∀ v L',Φ v L'→StD P C ops L0 T r k (putE E e v) (L'++F1)):StD P C ops L0 T ((i,3)::r) k E L:=StD.callt hi hop ht qL.1 qL.2 h
theorem Kf (hi:ops[i]? = some ⟨e,op,ty,ps,af,none⟩) (hop:OpC P C.nt op ty E g vs) (ht:Tri P g vs M Φ) (qL:Ent L (M++F1)∧inF C.nt e=true) (h:∀ v L',Φ v L'→Ent (L'++F1) L0∧StD P C ops L0 T r k (putE E e v) (L'++F1)):StD P C ops L0 T ((i,2)::r) k E L:=StD.callt2 hi hop ht qL.1 qL.2 h
end rules
end auto
section walks
structure Hid (p:Prop):Prop where
  go:p
variable {X Y A B:Prop}
theorem Ga (hy:Y) (h:Hid Y→X:=by intro y;first|(apply Ya;exact Oa;exact y.go)|(apply Yb;exact Ob;exact y.go)|(apply Yf;exact Oj;exact y.go)|(apply Yg;exact Oj;exact ⟨rfl,rfl⟩;exact y.go)|(apply Yh;exact Oj;rfl;exact y.go)|(apply StL.nil;exact y.go)|(apply St.region;exact y.go)|(apply St.seq;exact y.go)|(apply St.block;exact y.go)|(apply St.inBlock;exact y.go)|(apply St.skip;exact y.go)|(apply St.exit;rfl;exact y.go)|(apply St.cond_t;rfl;exact y.go)|(apply St.cond_f;rfl;exact y.go)|(apply Za;rfl;exact Oa;exact y.go)|(apply Zb;rfl;exact Oa;exact Ent.go;exact y.go)|(apply Zc;rfl;exact Ob;exact y.go)|(apply Zp;rfl;exact Oa;exact y.go)|(apply StD.nil;exact y.go)|(apply Zi;rfl;exact Oj;exact Oa;exact y.go)|(apply Zj;rfl;exact Oj;exact Oa;exact Ent.go;exact y.go)|(apply Zk;rfl;exact Oj;exact ⟨rfl,rfl⟩;exact y.go)|(apply Zl;rfl;exact Oj;exact ⟨rfl,rfl⟩;exact Ent.go;exact y.go)|(apply Zm;rfl;exact Oj;rfl;exact y.go)|(apply Zn;rfl;exact Oj;exact Ent.go;rfl;exact y.go)):X:=h ⟨hy⟩
theorem Gb {Y:Nat→Prop} (hy:∀ b,Y b) (h:Hid (∀ b,Y b)→X:=by intro y;first|(apply Yc;exact Oc;exact y.go)|(apply Zd;rfl;exact Oc;intro b;exact ⟨Ent.go,y.go b⟩)|(apply Ze;rfl;exact Oc;exact y.go)|(apply StD.claim;rfl;exact y.go)):X:=h ⟨hy⟩
theorem Gc {Y:Option Addr→Nat→Prop} (hy:∀ ad cap,Y ad cap) (h:Hid (∀ ad cap,Y ad cap)→X:=by intro y;first|(apply Yd;exact Od;exact y.go)|(apply Zg;rfl;exact Od;exact y.go)):X:=h ⟨hy⟩
theorem Ge {p q:Prop} (ha:p→A) (hb:q→B) (h:Hid (p→A)→Hid (q→B)→X:=by intro y z;first|(apply Yi;exact Oj;exact On;exact y.go;exact z.go)|(apply Ud;rfl;exact On;exact y.go;exact z.go)|(apply Zo;rfl;exact Oj;exact On;exact y.go;exact z.go)):X:=h ⟨ha⟩ ⟨hb⟩
variable {P:Program} {g:FuncId} {vs:Array Value} {M:List HProp} {v:Value} {Φ:Value→List HProp→Prop}
theorem Gl (t:RTri P g vs M v) (hy:Y) (h:RTri P g vs M v→Hid Y→X:=by intro t y;first|(apply Ka;exact Og;exact t;exact Oh;exact y.go)|(apply Kb;rfl;exact Og;exact t;exact Oi;exact y.go)|(apply Kc;rfl;exact Oj;exact Og;exact t;exact Oi;exact y.go)|(apply Kg;rfl;exact Og;exact t;exact Oh;exact y.go)):X:=h t ⟨hy⟩
theorem Gt {Y:Value→List HProp→Prop} (t:Tri P g vs M Φ) (hy:∀ v L,Φ v L→Y v L) (h:Tri P g vs M Φ→Hid (∀ v L,Φ v L→Y v L)→X:=by intro t y;first|(apply Kd;exact Og;exact t;exact Oh;exact y.go)|(apply Ke;rfl;exact Og;exact t;exact Oh;exact y.go)):X:=h t ⟨hy⟩
theorem Gu {Y:Value→List HProp→Prop} (t:Tri P g vs M Φ) (hy:∀ v L,Φ v L→Y v L) (h:Tri P g vs M Φ→Hid (∀ v L,Φ v L→Y v L)→X:=by intro t y;apply Kf;rfl;exact Og;exact t;exact Oh;exact y.go):X:=h t ⟨hy⟩
end walks
attribute [irreducible] Halt St StL StD Tri RTri Ent Sub Sat Fin' OpOk OpV OpC EqV
end Go.Proofs.YthmbgodcpgkkeaaGreat
