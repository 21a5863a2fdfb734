/-
  Packages instr, check and model: Plain, Fault, Reckon. Packages check and model: Fault, Right, Reckon.
-/
import Derived.Test.YthmbgodcpgkkeaaGreatIns
section
namespace Go.Proofs.YthmbgodcpgkkeaaGreat
theorem uses_r (op:Int):RTri Tryz.prog 306 #[.int .i64 op] [] (usesV (usesN op)):=by
  apply RTri.of_pure
  by_cases hk:0≤op∧op≤21
  · have h17:op=0∨op=1∨op=2∨op=3∨op=4∨op=5∨op=6∨op=7∨op=8∨op=9∨op=10∨op=11∨op=12∨op=13∨op=14∨op=15∨op=16∨op=17∨op=18∨op=19∨op=20∨op=21:=by omega
    rcases h17 with rfl|rfl|rfl|rfl|rfl|rfl|rfl|rfl|rfl|rfl|rfl|rfl|rfl|rfl|rfl|rfl|rfl|rfl|rfl|rfl|rfl|rfl
    · exact uses_0
    · exact uses_1
    · exact uses_2
    · exact uses_3
    · exact uses_4
    · exact uses_5
    · exact uses_6
    · exact uses_7
    · exact uses_8
    · exact uses_9
    · exact uses_10
    · exact uses_11
    · exact uses_12
    · exact uses_13
    · exact uses_14
    · exact uses_15
    · exact uses_16
    · exact uses_17
    · exact uses_18
    · exact uses_19
    · exact uses_20
    · exact uses_21
  · have ho:=form_r op
    have e1:formOf op=([],[]):=by unfold formOf;repeat rw [if_neg (by omega)]
    have e2:usesN op=0:=by unfold usesN;repeat rw [if_neg (by omega)]
    rw [e1] at ho
    rw [e2]
    refine Tri.of_body (vs:=[_]) Tryz.func306 rfl rfl fun w0 F=>?_
    repeat' (first|(apply St.loop1)|(apply St.inLoop1)|refine Ga ?_|(refine Gb ?_;intro b)|(refine Gd ?_;intro g cap rest hcap)|(refine Gc ?_;intro ad cap)|refine Gl ho ?_|(refine Ge ?_ ?_<;>(intro h;try (exfalso;omega)))|fail)
    all_goals (first|refine St.dn Tryz.func306 ⟨?_,rfl⟩ Ent.go|refine St.fl Tryz.func306 ⟨?_,rfl⟩ Ent.go)
    all_goals rfl
def fieldOk (n:Int) (used:Bool):Bool:=n == 0 || (used && (decide (0<n) && decide (n<16)))
theorem field_r (n:Int) (u:Bool):RTri Tryz.prog 308 #[.int .i64 n, .bool u] [] (.bool (fieldOk n u)):=by
  apply RTri.of_pure
  refine Tri.of_body (vs:=[_,_]) Tryz.func308 rfl rfl fun w0 F=>?_
  repeat' (first|refine Ga ?_|(refine Gb ?_;intro b)|(refine Gd ?_;intro g cap rest hcap)|(refine Gc ?_;intro ad cap) |(refine Ge ?_ ?_<;>(intro h;try (exfalso;omega)))|fail)
  all_goals (first|refine St.dn Tryz.func308 ⟨?_,rfl⟩ Ent.go|refine St.fl Tryz.func308 ⟨?_,rfl⟩ Ent.go)
  all_goals refine congrArg Value.bool ?_
  all_goals unfold fieldOk
  all_goals simp [*]
def usA (op:Int):Bool:=decide (usesN op % 2=1)
def usB (op:Int):Bool:=decide (usesN op / 2 % 2=1)
def usC (op:Int):Bool:=decide (usesN op / 4 % 2=1)
def usI (op:Int):Bool:=decide (usesN op / 8 % 2=1)
def Ins.plain (i:Ins):Bool:=(decide (0≤i.op∧i.op≤21) && (fieldOk i.a (usA i.op) && (fieldOk i.b (usB i.op) && (fieldOk i.c (usC i.op) && (usI i.op || ((i.imm:Int) == 0))))))
theorem formOf_ne (op:Int):((formOf op).1 == []) = !(decide (0≤op∧op≤21)):=by
  by_cases hk:0≤op∧op≤21
  · have h17:op=0∨op=1∨op=2∨op=3∨op=4∨op=5∨op=6∨op=7∨op=8∨op=9∨op=10∨op=11∨op=12∨op=13∨op=14∨op=15∨op=16∨op=17∨op=18∨op=19∨op=20∨op=21:=by omega
    rcases h17 with rfl|rfl|rfl|rfl|rfl|rfl|rfl|rfl|rfl|rfl|rfl|rfl|rfl|rfl|rfl|rfl|rfl|rfl|rfl|rfl|rfl|rfl<;>rfl
  · have e1:formOf op=([],[]):=by unfold formOf;repeat rw [if_neg (by omega)]
    rw [e1,decide_eq_false hk];rfl
theorem plain_r (i:Ins):RTri Tryz.prog 280 #[.agg ⟨i.v⟩] [] (.bool i.plain):=by
  apply RTri.of_pure
  have hu:RTri Tryz.prog 306 #[.int .i64 i.op] [] (.tuple ⟨[.bool (usA i.op), .bool (usB i.op), .bool (usC i.op), .bool (usI i.op)]⟩):=uses_r i.op
  have hn:=name_r i.op
  by_cases h0:0≤i.op∧i.op≤21
  · have hf:(formOf i.op).1≠[]:=by
      have:=formOf_ne i.op
      rw [decide_eq_true h0] at this
      simpa using this
    refine Tri.of_body (vs:=[_]) Tryz.func280 rfl rfl fun w0 F=>?_
    repeat' (first|refine Ga ?_|(refine Gb ?_;intro b)|(refine Gd ?_;intro g cap rest hcap)|(refine Gc ?_;intro ad cap)|refine Gl hu ?_|refine Gl hn ?_|refine Gl (field_r i.a (usA i.op)) ?_|refine Gl (field_r i.b (usB i.op)) ?_|refine Gl (field_r i.c (usC i.op)) ?_|(refine Ge ?_ ?_<;>(intro h;try (exfalso;omega)))|fail)
    all_goals first|(exfalso;simp_all;done)|skip
    all_goals (first|refine St.dn Tryz.func280 ⟨?_,rfl⟩ Ent.go|refine St.fl Tryz.func280 ⟨?_,rfl⟩ Ent.go)
    all_goals refine congrArg Value.bool ?_
    all_goals unfold Ins.plain
    all_goals rw [decide_eq_true h0]
    all_goals first|(simp_all;done)|(simp_all [usI];done)
  · have hf:(formOf i.op).1=[]:=by
      have:=formOf_ne i.op
      rw [decide_eq_false h0] at this
      simpa using this
    rw [hf] at hn
    refine Tri.of_body (vs:=[_]) Tryz.func280 rfl rfl fun w0 F=>?_
    repeat' (first|refine Ga ?_|(refine Gb ?_;intro b)|(refine Gd ?_;intro g cap rest hcap)|(refine Gc ?_;intro ad cap)|refine Gl hu ?_|refine Gl hn ?_|(refine Ge ?_ ?_<;>(intro h;try (exfalso;omega)))|fail)
    all_goals (first|refine St.dn Tryz.func280 ⟨?_,rfl⟩ Ent.go|refine St.fl Tryz.func280 ⟨?_,rfl⟩ Ent.go)
    all_goals refine congrArg Value.bool ?_
    all_goals unfold Ins.plain
    all_goals rw [decide_eq_false h0]
    all_goals rfl
theorem ends_r (op:Int):RTri Tryz.prog 235 #[.int .i64 op] [] (.bool (op == 20 || op == 21)):=by
  apply RTri.of_pure
  refine Tri.of_body (vs:=[_]) Tryz.func235 rfl rfl fun w0 F=>?_
  repeat' (first|refine Ga ?_|(refine Gb ?_;intro b)|(refine Gd ?_;intro g cap rest hcap)|(refine Gc ?_;intro ad cap) |(refine Ge ?_ ?_<;>(intro h;try (exfalso;omega)))|fail)
  all_goals (first|refine St.dn Tryz.func235 ⟨?_,rfl⟩ Ent.go|refine St.fl Tryz.func235 ⟨?_,rfl⟩ Ent.go)
  all_goals refine congrArg Value.bool ?_
  all_goals simp [*]
def costs (op:Int):Int:=if op=10∨op=13∨op=14 then 1 else if op=16 then 2 else if op=15 then 9 else 0
theorem costs_r (op:Int):RTri Tryz.prog 289 #[.int .i64 op] [] (.int .i64 (costs op)):=by
  apply RTri.of_pure
  refine Tri.of_body (vs:=[_]) Tryz.func289 rfl rfl fun w0 F=>?_
  repeat' (first|refine Ga ?_|(refine Gb ?_;intro b)|(refine Gd ?_;intro g cap rest hcap)|(refine Gc ?_;intro ad cap) |(refine Ge ?_ ?_<;>(intro h;try (exfalso;omega)))|fail)
  all_goals (first|refine St.dn Tryz.func289 ⟨?_,rfl⟩ Ent.go|refine St.fl Tryz.func289 ⟨?_,rfl⟩ Ent.go)
  all_goals refine congrArg (Value.int .i64) ?_
  all_goals unfold costs
  all_goals (repeat (first|rw [if_pos (by omega)]|rw [if_neg (by omega)]))
def InsR (q:HProp) (v:Value) (code:List Ins):Prop :=
  ∃ ad cap,v=.slice ad code.length cap∧(code.length=0∨∃ b o l rest,ad=some ⟨b,o,none⟩∧RdC q b l∧DropN o l (code.flatMap Ins.v++rest))
theorem DropN.more {α:Type} {n:Nat} {l l':List α} (h:DropN n l l') (r:List α):DropN n (l++r) (l'++r):=by
  induction h with
  | zero=>exact .zero
  | succ _ ih=>exact .succ ih
theorem DropN.add {α:Type} {n m:Nat} {l l' l'':List α} (h:DropN n l l') (k:DropN m l' l''):DropN (n+m) l l'':=by
  induction h with
  | zero=>rw [Nat.zero_add];exact k
  | succ _ ih=>rw [Nat.succ_add];exact .succ (ih k)
theorem InsR.at {q:HProp} {ad:Option Addr} {code:List Ins} (h:code.length=0∨∃ b o l rest,ad=some ⟨b,o,none⟩∧RdC q b l∧DropN o l (code.flatMap Ins.v++rest)) (i:Nat) (hi:i<code.length) :
    ∃ b o l l1,ad=some ⟨b,o,none⟩∧RdC q b l∧DropN (o+(i:Int).toNat * 5) l l1∧TakeN 5 l1 code[i].v:=by
  rcases h with h|⟨b,o,l,rest,h1,h2,h3⟩
  · omega
  · refine ⟨b,o,l,code[i].v++(code.drop (i+1)).flatMap Ins.v++rest,h1,h2,h3.add ((DropN.flat Ins.v_len hi).more rest), ?_⟩
    rw [List.append_assoc];exact TakeN.app code[i].v _
def oneOf (n k:Nat) (i:Ins):Int :=
  if i.plain=false then 30 else if i.op=8 then (if 4≤i.imm then 1 else 0) else if i.op=11∨i.op=13 then (if 8≤i.imm then 1 else 0) else
  if i.op=21 then (if i.imm<1∨255<i.imm then 1 else 0) else if i.op=17∨i.op=18 then (if i.imm≤k∨n≤i.imm then 24 else 0) else
  if i.op=19 then (if k<i.imm then 24 else 0) else 0
theorem one_r (q:HProp) (v:Value) (code:List Ins) (hv:InsR q v code) (hn:code.length≤256) (k:Nat) (hk:k<code.length):RTri Tryz.prog 234 #[v, .int .i64 (k:Int)] [q] (.int .i64 (oneOf code.length k code[k])):=by
  apply RTri.of_reads
  intro p hp
  obtain ⟨ad,cap,rfl,hr⟩:=hv
  obtain ⟨b,o,l,l1,rfl,hrd,hdr,htk⟩:=InsR.at hr k hk
  have hrd:=RdC.of_sat hp (ReadsC.here hrd)
  have hpl:=plain_r code[k]
  cases hpb:code[k].plain with
  | false =>
    rw [hpb] at hpl
    refine Tri.of_body (vs:=[_,_]) Tryz.func234 rfl rfl fun w0 F=>?_
    repeat' (first|refine Ga ?_|(refine Gb ?_;intro b)|(refine Gd ?_;intro g cap rest hcap)|(refine Gc ?_;intro ad cap)|refine Gl hpl ?_|(refine Ge ?_ ?_<;>(intro h;try (exfalso;omega)))|fail)
    all_goals (first|refine St.dn Tryz.func234 ⟨?_,rfl⟩ Ent.go|refine St.fl Tryz.func234 ⟨?_,rfl⟩ Ent.go)
    all_goals refine congrArg (Value.int .i64) ?_
    all_goals unfold oneOf
    all_goals rw [if_pos hpb]
  | true =>
    rw [hpb] at hpl
    refine Tri.of_body (vs:=[_,_]) Tryz.func234 rfl rfl fun w0 F=>?_
    repeat' (first|refine Ga ?_|(refine Gb ?_;intro b)|(refine Gd ?_;intro g cap rest hcap)|(refine Gc ?_;intro ad cap)|refine Gl hpl ?_|(refine Ge ?_ ?_<;>(intro h;try (exfalso;omega)))|fail)
    all_goals (first|refine St.dn Tryz.func234 ⟨?_,rfl⟩ Ent.go|refine St.fl Tryz.func234 ⟨?_,rfl⟩ Ent.go)
    all_goals refine congrArg (Value.int .i64) ?_
    all_goals unfold oneOf
    all_goals rw [if_neg (by rw [hpb];decide)]
    all_goals (repeat (first|rw [if_pos (by omega)]|rw [if_neg (by omega)]))
end Go.Proofs.YthmbgodcpgkkeaaGreat
end
section
namespace Go.Proofs.YthmbgodcpgkkeaaGreat
def faultGo (n:Nat):Nat→List Ins→Option (Int×Int)
  | _,[]=>none
  | k,i::r=>if oneOf n k i=0 then faultGo n (k+1) r else some ((k:Int),oneOf n k i)
def endsB (code:List Ins):Bool:=match code.getLast? with
  | some i=>i.op == 20 || i.op == 21
  | none=>false
def faultOf (code:List Ins):Int×Int :=
  if code.length=0 then (0,4) else if 256<code.length then (256,3) else match faultGo code.length 0 code with
    | some x=>x
    | none=>if endsB code=true then (0,0) else ((code.length:Int) - 1,30)
def rightB (code:List Ins):Bool:=(faultOf code).2 == 0
theorem InsR.at1 {q:HProp} {ad:Option Addr} {code:List Ins} (h:code.length=0∨∃ b o l rest,ad=some ⟨b,o,none⟩∧RdC q b l∧DropN o l (code.flatMap Ins.v++rest)) (i:Nat) (hi:i<code.length) :
    ∃ b o l,ad=some ⟨b,o,none⟩∧RdC q b l∧NthN (o+(i:Int).toNat * 5+0) l (.int .i64 code[i].op):=by
  obtain ⟨b,o,l,l1,h1,h2,h3,h4⟩:=InsR.at h i hi
  refine ⟨b,o,l,h1,h2,NthN.of ?_⟩
  obtain ⟨d1,d2⟩:=h3.eq
  obtain ⟨k1,k2⟩:=h4.eq
  have:l1[0]? = some (.int .i64 code[i].op):=by
    have h5:(l1.take 5)[0]? = some (.int .i64 code[i].op):=by rw [k1];rfl
    rw [List.getElem?_take] at h5
    simpa using h5
  rw [←d1,List.getElem?_drop] at this
  exact this
theorem fault_r (q:HProp) (v:Value) (code:List Ins) (hv:InsR q v code):RTri Tryz.prog 167 #[v] [q] (.tuple ⟨[.int .i64 (faultOf code).1, .int .i64 (faultOf code).2]⟩):=by
  apply RTri.of_reads
  intro p hp
  have hv':InsR p v code:=by
    obtain ⟨ad,cap,rfl,hr⟩:=hv
    refine ⟨ad,cap,rfl, ?_⟩
    rcases hr with hr|⟨b,o,l,rest,h1,h2,h3⟩
    · exact .inl hr
    · exact .inr ⟨b,o,l,rest,h1,RdC.of_sat hp (ReadsC.here h2),h3⟩
  have hv0:=hv'
  obtain ⟨ad,cap,rfl,hr⟩:=hv'
  by_cases h0:code.length=0
  · have e:faultOf code=(0,4):=if_pos h0
    rw [e]
    refine Tri.of_body (vs:=[_]) Tryz.func167 rfl rfl fun w0 F=>?_
    repeat' (first|refine Ga ?_|(refine Gb ?_;intro b)|(refine Gd ?_;intro g cap rest hcap)|(refine Gc ?_;intro ad cap) |(refine Ge ?_ ?_<;>(intro h;try (exfalso;omega)))|fail)
    (first|refine St.dn Tryz.func167 ⟨?_,rfl⟩ Ent.go|refine St.fl Tryz.func167 ⟨?_,rfl⟩ Ent.go)
    rfl
  · by_cases h1:256<code.length
    · have e:faultOf code=(256,3):=(if_neg h0).trans (if_pos h1)
      rw [e]
      refine Tri.of_body (vs:=[_]) Tryz.func167 rfl rfl fun w0 F=>?_
      repeat' (first|refine Ga ?_|(refine Gb ?_;intro b)|(refine Gd ?_;intro g cap rest hcap)|(refine Gc ?_;intro ad cap) |(refine Ge ?_ ?_<;>(intro h;try (exfalso;omega)))|fail)
      (first|refine St.dn Tryz.func167 ⟨?_,rfl⟩ Ent.go|refine St.fl Tryz.func167 ⟨?_,rfl⟩ Ent.go)
      rfl
    · have e:faultOf code=match faultGo code.length 0 code with
          | some x=>x
          | none=>if endsB code=true then (0,0) else ((code.length:Int) - 1,30):=(if_neg h0).trans (if_neg h1)
      refine Tri.of_body (vs:=[_]) Tryz.func167 rfl rfl fun w0 F=>?_
      repeat' (first|refine Ga ?_|(refine Gb ?_;intro b)|(refine Gd ?_;intro g cap rest hcap)|(refine Gc ?_;intro ad cap) |(refine Ge ?_ ?_<;>(intro h;try (exfalso;omega)))|fail)
      refine St.loopX (Lr:=?Lr) (ι:={ k:Nat // k≤code.length∧faultGo code.length 0 code=faultGo code.length k (code.drop k) }) (fun k=>code.length - k.1)
        (fun k=>[(17, .int .i64 (k.1:Int))]) (fun k=>[]) ⟨0,Nat.zero_le _,rfl⟩ ?hE ?hL ?round
      case hE=>exact Sub.go
      case hL=>exact Ent.go
      case round =>
        rintro ⟨k,hk,hgo⟩ IH;dsimp only at hk hgo⊢
        by_cases hlt:k<code.length
        · have hon:=one_r p _ code hv0 (by omega) k hlt
          rw [List.drop_eq_getElem_cons hlt,faultGo] at hgo
          by_cases he:oneOf code.length k code[k]=0
          · rw [if_pos he] at hgo
            rw [he] at hon
            repeat' (first|refine Ga ?_|(refine Gb ?_;intro b)|(refine Gd ?_;intro g cap rest hcap)|(refine Gc ?_;intro ad cap)|refine Gl hon ?_|(refine Ge ?_ ?_<;>(intro h;try (exfalso;omega)))|fail)
            refine IH ⟨k+1,hlt,hgo⟩ (by show _ - (k+1)<_ - k;omega) ?_ ?_
            · exact Sub.go
            · exact Ent.go
          · rw [if_neg he] at hgo
            rw [hgo] at e
            dsimp only at e
            rw [e]
            repeat' (first|refine Ga ?_|(refine Gb ?_;intro b)|(refine Gd ?_;intro g cap rest hcap)|(refine Gc ?_;intro ad cap)|refine Gl hon ?_|(refine Ge ?_ ?_<;>(intro h;try (exfalso;omega)))|fail)
            (first|refine St.dn Tryz.func167 ⟨?_,rfl⟩ Ent.go|refine St.fl Tryz.func167 ⟨?_,rfl⟩ Ent.go)
            rfl
        · obtain rfl:k=code.length:=by omega
          rw [List.drop_length,faultGo] at hgo
          rw [hgo] at e
          dsimp only at e
          have hlast:code.length - 1<code.length:=by omega
          obtain ⟨b,o,l,rfl,hrd,hn⟩:=InsR.at1 hr (code.length - 1) hlast
          rw [show (((code.length - 1:Nat):Int))=(code.length:Int) - 1 by omega] at hn
          have hen:=ends_r code[code.length - 1].op
          have hends:endsB code=(code[code.length - 1].op == 20 || code[code.length - 1].op == 21):=by
            unfold endsB
            rw [List.getLast?_eq_getElem?,List.getElem?_eq_getElem hlast]
          rw [←hends] at hen
          clear IH
          cases hb:endsB code with
          | true =>
            rw [hb] at hen
            rw [if_pos hb] at e
            rw [e]
            repeat' (first|refine Ga ?_|(refine Gb ?_;intro b)|(refine Gd ?_;intro g cap rest hcap)|(refine Gc ?_;intro ad cap)|refine Gl hen ?_|(refine Ge ?_ ?_<;>(intro h;try (exfalso;omega)))|fail)
            (first|refine St.dn Tryz.func167 ⟨?_,rfl⟩ Ent.go|refine St.fl Tryz.func167 ⟨?_,rfl⟩ Ent.go)
            rfl
          | false =>
            rw [hb] at hen
            rw [if_neg (by rw [hb];decide)] at e
            rw [e]
            repeat' (first|refine Ga ?_|(refine Gb ?_;intro b)|(refine Gd ?_;intro g cap rest hcap)|(refine Gc ?_;intro ad cap)|refine Gl hen ?_|(refine Ge ?_ ?_<;>(intro h;try (exfalso;omega)))|fail)
            (first|refine St.dn Tryz.func167 ⟨?_,rfl⟩ Ent.go|refine St.fl Tryz.func167 ⟨?_,rfl⟩ Ent.go)
            rfl
theorem right_rr (q:HProp) (v:Value) (code:List Ins) (hv:InsR q v code):RTri Tryz.prog 85 #[v] [q] (.bool (rightB code)):=by
  have hf:=fault_r q v code hv
  apply RTri.of_reads
  intro p hp
  have hf:=hf.of_read hp
  refine Tri.of_body (vs:=[_]) Tryz.func85 rfl rfl fun w0 F=>?_
  repeat' (first|refine Ga ?_|(refine Gb ?_;intro b)|(refine Gd ?_;intro g cap rest hcap)|(refine Gc ?_;intro ad cap)|refine Gl hf ?_|(refine Ge ?_ ?_<;>(intro h;try (exfalso;omega)))|fail)
  (first|refine St.dn Tryz.func85 ⟨?_,rfl⟩ Ent.go|refine St.fl Tryz.func85 ⟨?_,rfl⟩ Ent.go)
  rfl
theorem bit_r (b:Bool):RTri Tryz.prog 270 #[.bool b] [] (.int .u64 (b.toNat:Int)):=by
  apply RTri.of_pure
  refine Tri.of_body (vs:=[_]) Tryz.func270 rfl rfl fun w0 F=>?_
  repeat' (first|refine Ga ?_|(refine Gb ?_;intro b)|(refine Gd ?_;intro g cap rest hcap)|(refine Gc ?_;intro ad cap) |(refine Ge ?_ ?_<;>(intro h;try (exfalso;omega)))|fail)
  all_goals (first|refine St.dn Tryz.func270 ⟨?_,rfl⟩ Ent.go|refine St.fl Tryz.func270 ⟨?_,rfl⟩ Ent.go)
  all_goals (rw [h];rfl)
def nat64 (n:Int):Nat:=(n % 18446744073709551616).toNat
def u64s (l:List Nat):List Value:=l.map fun (x:Nat)=>Value.int .u64 (x:Int)
theorem u64s_len (l:List Nat):(u64s l).length=l.length:=by simp [u64s]
theorem NthN.u64s {l:List Nat} {i:Nat} (hi:i<l.length):NthN i (u64s l) (.int .u64 ((l.getD i 0:Nat):Int)):=NthN.of (by simp [Go.Proofs.YthmbgodcpgkkeaaGreat.u64s,hi])
theorem nat64_eq (n:Int):((nat64 n:Nat):Int)=IntKind.u64.wrap n:=by
  have:0≤n % 18446744073709551616:=Int.emod_nonneg _ (by decide)
  have h:IntKind.u64.wrap n=n % 18446744073709551616:=by simp [IntKind.wrap,IntKind.bits,IntKind.signed]
  rw [h];unfold nat64;omega
def reckon (i:Ins) (regs args:List Nat):Nat :=
  if i.op=0 then i.imm else if i.op=1 then regs.getD i.b.toNat 0 else
  if i.op=2 then nat64 ((regs.getD i.b.toNat 0:Nat)+(regs.getD i.c.toNat 0:Nat)) else
  if i.op=3 then nat64 (((regs.getD i.b.toNat 0:Nat):Int) - (regs.getD i.c.toNat 0:Nat)) else
  if i.op=4 then nat64 ((regs.getD i.b.toNat 0:Nat) * (regs.getD i.c.toNat 0:Nat)) else
  if i.op=5 then (if regs.getD i.c.toNat 0=0 then regs.getD i.b.toNat 0 else regs.getD i.b.toNat 0 % regs.getD i.c.toNat 0) else
  if i.op=6 then (regs.getD i.b.toNat 0 == regs.getD i.c.toNat 0).toNat else if i.op=7 then (decide (regs.getD i.b.toNat 0<regs.getD i.c.toNat 0)).toNat else
  if i.op=8 then args.getD (i.imm % 4) 0 else 0
theorem beq_cast' (a b:Nat):(a == b)=((a:Int) == (b:Int)):=by
  rw [Bool.eq_iff_iff];simp;omega
structure Regs4 (i:Ins) (regs args:List Nat):Prop where
  b0:0≤i.b
  b1:i.b<16
  c0:0≤i.c
  c1:i.c<16
  rl:regs.length=16
  al:args.length=4
  imm:i.imm<9223372036854775808∨i.op≠8
theorem reckon_r (i:Ins) (regs args:List Nat) (h:Regs4 i regs args):RTri Tryz.prog 211 #[.agg ⟨i.v⟩, .agg ⟨u64s regs⟩, .agg ⟨u64s args⟩] [] (.int .u64 (reckon i regs args:Int)):=by
  apply RTri.of_pure
  obtain ⟨hb0,hb1,hc0,hc1,hrl,hal,him⟩:=h
  have hab:AndIs .i64 i.b 15 i.b:=by
    have:=AndIs.mask (k:=.i64) (p:=4) (.inl rfl) hb0 (by decide) (by omega)
    rw [show ((i.b.toNat % 2 ^ 4:Nat):Int)=i.b by omega] at this
    exact this
  have hac:AndIs .i64 i.c 15 i.c:=by
    have:=AndIs.mask (k:=.i64) (p:=4) (.inl rfl) hc0 (by decide) (by omega)
    rw [show ((i.c.toNat % 2 ^ 4:Nat):Int)=i.c by omega] at this
    exact this
  have hnb:NthN (0+i.b.toNat * 1) (u64s regs) (.int .u64 ((regs.getD i.b.toNat 0:Nat):Int)):=by
    rw [Nat.zero_add,Nat.mul_one];exact NthN.u64s (by omega)
  have hnc:NthN (0+i.c.toNat * 1) (u64s regs) (.int .u64 ((regs.getD i.c.toNat 0:Nat):Int)):=by
    rw [Nat.zero_add,Nat.mul_one];exact NthN.u64s (by omega)
  unfold reckon
  generalize regs.getD i.b.toNat 0=rb at hnb⊢
  generalize regs.getD i.c.toNat 0=rc at hnc⊢
  by_cases h8:i.op=8
  · have hai:AndIs .u64 (i.imm:Int) 3 ((i.imm % 4:Nat):Int):=by
      have:=AndIs.mask (k:=.u64) (a:=(i.imm:Int)) (p:=2) (.inr rfl) (by omega) (by decide) (by omega)
      rw [show (((i.imm:Int).toNat % 2 ^ 2:Nat):Int)=((i.imm % 4:Nat):Int) by omega] at this
      exact this
    have hni:NthN (0+((i.imm % 4:Nat):Int).toNat * 1) (u64s args) (.int .u64 ((args.getD (i.imm % 4) 0:Nat):Int)):=by
      rw [Nat.zero_add,Nat.mul_one];exact NthN.u64s (by omega)
    have hm4:i.imm % 4<4:=Nat.mod_lt _ (by decide)
    refine Tri.of_body (vs:=[_,_,_]) Tryz.func211 rfl rfl fun w0 F=>?_
    repeat' (first|refine Ga ?_|(refine Gb ?_;intro b)|(refine Gd ?_;intro g cap rest hcap)|(refine Gc ?_;intro ad cap)|(refine St.draw (id:=1) [(0,0),(1,1),(2,0),(3,0),(4,1),(5,0),(6,1),(7,0),(8,0),(9,1),(10,0),(11,0)] [] mixed (by kernel_rfl) ?_)|(refine Ge ?_ ?_<;>(intro h;try (exfalso;omega)))|fail)
    all_goals (first|refine St.dn Tryz.func211 ⟨?_,rfl⟩ Ent.go|refine St.fl Tryz.func211 ⟨?_,rfl⟩ Ent.go)
    all_goals (repeat (first|rw [if_pos (by omega)]|rw [if_neg (by omega)]))
    all_goals rfl
  · refine Tri.of_body (vs:=[_,_,_]) Tryz.func211 rfl rfl fun w0 F=>?_
    repeat' (first|refine Ga ?_|(refine Gb ?_;intro b)|(refine Gd ?_;intro g cap rest hcap)|(refine Gc ?_;intro ad cap)|(refine St.draw (id:=1) [(0,0),(1,1),(2,0),(3,0),(4,1),(5,0),(6,1),(7,0),(8,0),(9,1),(10,0),(11,0)] [] mixed (by kernel_rfl) ?_)| refine Gl (bit_r _) ?_|(refine Ge ?_ ?_<;>(intro h;try (exfalso;omega)))|fail)
    all_goals (first|refine St.dn Tryz.func211 ⟨?_,rfl⟩ Ent.go|refine St.fl Tryz.func211 ⟨?_,rfl⟩ Ent.go)
    all_goals (repeat (first|rw [if_pos (by omega)]|rw [if_neg (by omega)]))
    all_goals first|rfl|(rw [nat64_eq];rfl)|(rw [beq_cast'];rfl)|(simp only [←Int.ofNat_lt];rfl)
end Go.Proofs.YthmbgodcpgkkeaaGreat
end
