/-
  Packages check and model: Fault, Right, Reckon. Ranges over functions that hand memory on; lists that can be read.
-/
import Derived.Test.YtemaaenipjinaaaGreatInsb
section
namespace Go.Proofs.YtemaaenipjinaaaGreat
def faultGo (n : Nat) : Nat → List Ins → Option (Int × Int)
  | _, [] => none
  | k, i :: r => if oneOf n k i = 0 then faultGo n (k + 1) r else some ((k : Int), oneOf n k i)
def endsB (code : List Ins) : Bool := match code.getLast? with
  | some i => i.op == 20 || i.op == 21
  | none => false
def faultOf (code : List Ins) : Int × Int :=
  if code.length = 0 then (0, 4) else if 256 < code.length then (256, 3) else match faultGo code.length 0 code with
    | some x => x
    | none => if endsB code = true then (0, 0) else ((code.length : Int) - 1, 30)
def rightB (code : List Ins) : Bool := (faultOf code).2 == 0
theorem InsR.at1 {q : HProp} {ad : Option Addr} {code : List Ins} (h : code.length = 0 ∨ ∃ b o l rest, ad = some ⟨b, o, none⟩ ∧ RdC q b l ∧ DropN o l (code.flatMap Ins.v ++ rest)) (i : Nat) (hi : i < code.length) :
    ∃ b o l, ad = some ⟨b, o, none⟩ ∧ RdC q b l ∧ NthN (o + (i : Int).toNat * 5 + 0) l (.int .i64 code[i].op) := by
  obtain ⟨b, o, l, l1, h1, h2, h3, h4⟩ := InsR.at h i hi
  refine ⟨b, o, l, h1, h2, NthN.of ?_⟩
  obtain ⟨d1, d2⟩ := h3.eq
  obtain ⟨k1, k2⟩ := h4.eq
  have : l1[0]? = some (.int .i64 code[i].op) := by
    have h5 : (l1.take 5)[0]? = some (.int .i64 code[i].op) := by rw [k1]; rfl
    rw [List.getElem?_take] at h5
    simpa using h5
  rw [← d1, List.getElem?_drop] at this
  exact this
theorem fault_r (q : HProp) (v : Value) (code : List Ins) (hv : InsR q v code) : RTri Tryz.prog 90 #[v] [q] (.tuple ⟨[.int .i64 (faultOf code).1, .int .i64 (faultOf code).2]⟩) := by
  apply RTri.of_reads
  intro p hp
  have hv' : InsR p v code := by
    obtain ⟨ad, cap, rfl, hr⟩ := hv
    refine ⟨ad, cap, rfl, ?_⟩
    rcases hr with hr | ⟨b, o, l, rest, h1, h2, h3⟩
    · exact .inl hr
    · exact .inr ⟨b, o, l, rest, h1, RdC.of_sat hp (ReadsC.here h2), h3⟩
  have hv0 := hv'
  obtain ⟨ad, cap, rfl, hr⟩ := hv'
  by_cases h0 : code.length = 0
  · have e : faultOf code = (0, 4) := if_pos h0
    rw [e]
    refine Tri.of_body (vs := [_]) Tryz.func90 rfl rfl fun w0 F => ?_
    repeat' (first | refine Ga ?_ | (refine Gb ?_; intro b) | (refine Gd ?_; intro g cap rest hcap) | (refine Gc ?_; intro ad cap)  | (refine Ge ?_ ?_ <;> (intro h; try (exfalso; omega))) | fail)
    (first | refine St.dn Tryz.func90 ⟨?_, rfl⟩ Ent.go | refine St.fl Tryz.func90 ⟨?_, rfl⟩ Ent.go)
    rfl
  · by_cases h1 : 256 < code.length
    · have e : faultOf code = (256, 3) := (if_neg h0).trans (if_pos h1)
      rw [e]
      refine Tri.of_body (vs := [_]) Tryz.func90 rfl rfl fun w0 F => ?_
      repeat' (first | refine Ga ?_ | (refine Gb ?_; intro b) | (refine Gd ?_; intro g cap rest hcap) | (refine Gc ?_; intro ad cap)  | (refine Ge ?_ ?_ <;> (intro h; try (exfalso; omega))) | fail)
      (first | refine St.dn Tryz.func90 ⟨?_, rfl⟩ Ent.go | refine St.fl Tryz.func90 ⟨?_, rfl⟩ Ent.go)
      rfl
    · have e : faultOf code = match faultGo code.length 0 code with
          | some x => x
          | none => if endsB code = true then (0, 0) else ((code.length : Int) - 1, 30) := (if_neg h0).trans (if_neg h1)
      refine Tri.of_body (vs := [_]) Tryz.func90 rfl rfl fun w0 F => ?_
      repeat' (first | refine Ga ?_ | (refine Gb ?_; intro b) | (refine Gd ?_; intro g cap rest hcap) | (refine Gc ?_; intro ad cap)  | (refine Ge ?_ ?_ <;> (intro h; try (exfalso; omega))) | fail)
      refine St.loopX (Lr := ?Lr) (ι := { k : Nat // k ≤ code.length ∧ faultGo code.length 0 code = faultGo code.length k (code.drop k) }) (fun k => code.length - k.1)
        (fun k => [(17, .int .i64 (k.1 : Int))]) (fun k => []) ⟨0, Nat.zero_le _, rfl⟩ ?hE ?hL ?round
      case hE => exact Sub.go
      case hL => exact Ent.go
      case round =>
        rintro ⟨k, hk, hgo⟩ IH; dsimp only at hk hgo ⊢
        by_cases hlt : k < code.length
        · have hon := one_r p _ code hv0 (by omega) k hlt
          rw [List.drop_eq_getElem_cons hlt, faultGo] at hgo
          by_cases he : oneOf code.length k code[k] = 0
          · rw [if_pos he] at hgo
            rw [he] at hon
            repeat' (first | refine Ga ?_ | (refine Gb ?_; intro b) | (refine Gd ?_; intro g cap rest hcap) | (refine Gc ?_; intro ad cap) | refine Gl hon ?_ | (refine Ge ?_ ?_ <;> (intro h; try (exfalso; omega))) | fail)
            refine IH ⟨k + 1, hlt, hgo⟩ (by show _ - (k + 1) < _ - k; omega) ?_ ?_
            · exact Sub.go
            · exact Ent.go
          · rw [if_neg he] at hgo
            rw [hgo] at e
            dsimp only at e
            rw [e]
            repeat' (first | refine Ga ?_ | (refine Gb ?_; intro b) | (refine Gd ?_; intro g cap rest hcap) | (refine Gc ?_; intro ad cap) | refine Gl hon ?_ | (refine Ge ?_ ?_ <;> (intro h; try (exfalso; omega))) | fail)
            (first | refine St.dn Tryz.func90 ⟨?_, rfl⟩ Ent.go | refine St.fl Tryz.func90 ⟨?_, rfl⟩ Ent.go)
            rfl
        · obtain rfl : k = code.length := by omega
          rw [List.drop_length, faultGo] at hgo
          rw [hgo] at e
          dsimp only at e
          have hlast : code.length - 1 < code.length := by omega
          obtain ⟨b, o, l, rfl, hrd, hn⟩ := InsR.at1 hr (code.length - 1) hlast
          rw [show (((code.length - 1 : Nat) : Int)) = (code.length : Int) - 1 by omega] at hn
          have hen := ends_r code[code.length - 1].op
          have hends : endsB code = (code[code.length - 1].op == 20 || code[code.length - 1].op == 21) := by
            unfold endsB
            rw [List.getLast?_eq_getElem?, List.getElem?_eq_getElem hlast]
          rw [← hends] at hen
          clear IH
          cases hb : endsB code with
          | true =>
            rw [hb] at hen
            rw [if_pos hb] at e
            rw [e]
            repeat' (first | refine Ga ?_ | (refine Gb ?_; intro b) | (refine Gd ?_; intro g cap rest hcap) | (refine Gc ?_; intro ad cap) | refine Gl hen ?_ | (refine Ge ?_ ?_ <;> (intro h; try (exfalso; omega))) | fail)
            (first | refine St.dn Tryz.func90 ⟨?_, rfl⟩ Ent.go | refine St.fl Tryz.func90 ⟨?_, rfl⟩ Ent.go)
            rfl
          | false =>
            rw [hb] at hen
            rw [if_neg (by rw [hb]; decide)] at e
            rw [e]
            repeat' (first | refine Ga ?_ | (refine Gb ?_; intro b) | (refine Gd ?_; intro g cap rest hcap) | (refine Gc ?_; intro ad cap) | refine Gl hen ?_ | (refine Ge ?_ ?_ <;> (intro h; try (exfalso; omega))) | fail)
            (first | refine St.dn Tryz.func90 ⟨?_, rfl⟩ Ent.go | refine St.fl Tryz.func90 ⟨?_, rfl⟩ Ent.go)
            rfl
theorem right_rr (q : HProp) (v : Value) (code : List Ins) (hv : InsR q v code) : RTri Tryz.prog 35 #[v] [q] (.bool (rightB code)) := by
  have hf := fault_r q v code hv
  apply RTri.of_reads
  intro p hp
  have hf := hf.of_read hp
  refine Tri.of_body (vs := [_]) Tryz.func35 rfl rfl fun w0 F => ?_
  repeat' (first | refine Ga ?_ | (refine Gb ?_; intro b) | (refine Gd ?_; intro g cap rest hcap) | (refine Gc ?_; intro ad cap) | refine Gl hf ?_ | (refine Ge ?_ ?_ <;> (intro h; try (exfalso; omega))) | fail)
  (first | refine St.dn Tryz.func35 ⟨?_, rfl⟩ Ent.go | refine St.fl Tryz.func35 ⟨?_, rfl⟩ Ent.go)
  rfl
theorem bit_r (b : Bool) : RTri Tryz.prog 194 #[.bool b] [] (.int .u64 (b.toNat : Int)) := by
  apply RTri.of_pure
  refine Tri.of_body (vs := [_]) Tryz.func194 rfl rfl fun w0 F => ?_
  repeat' (first | refine Ga ?_ | (refine Gb ?_; intro b) | (refine Gd ?_; intro g cap rest hcap) | (refine Gc ?_; intro ad cap)  | (refine Ge ?_ ?_ <;> (intro h; try (exfalso; omega))) | fail)
  all_goals (first | refine St.dn Tryz.func194 ⟨?_, rfl⟩ Ent.go | refine St.fl Tryz.func194 ⟨?_, rfl⟩ Ent.go)
  all_goals (rw [h]; rfl)
def nat64 (n : Int) : Nat := (n % 18446744073709551616).toNat
def u64s (l : List Nat) : List Value := l.map fun (x : Nat) => Value.int .u64 (x : Int)
theorem NthN.u64s {l : List Nat} {i : Nat} (hi : i < l.length) : NthN i (u64s l) (.int .u64 ((l.getD i 0 : Nat) : Int)) := NthN.of (by simp [Go.Proofs.YtemaaenipjinaaaGreat.u64s, hi])
theorem nat64_eq (n : Int) : ((nat64 n : Nat) : Int) = IntKind.u64.wrap n := by
  have : 0 ≤ n % 18446744073709551616 := Int.emod_nonneg _ (by decide)
  have h : IntKind.u64.wrap n = n % 18446744073709551616 := by simp [IntKind.wrap, IntKind.bits, IntKind.signed]
  rw [h]; unfold nat64; omega
def reckon (i : Ins) (regs args : List Nat) : Nat :=
  if i.op = 0 then i.imm else if i.op = 1 then regs.getD i.b.toNat 0 else
  if i.op = 2 then nat64 ((regs.getD i.b.toNat 0 : Nat) + (regs.getD i.c.toNat 0 : Nat)) else
  if i.op = 3 then nat64 (((regs.getD i.b.toNat 0 : Nat) : Int) - (regs.getD i.c.toNat 0 : Nat)) else
  if i.op = 4 then nat64 ((regs.getD i.b.toNat 0 : Nat) * (regs.getD i.c.toNat 0 : Nat)) else
  if i.op = 5 then (if regs.getD i.c.toNat 0 = 0 then regs.getD i.b.toNat 0 else regs.getD i.b.toNat 0 % regs.getD i.c.toNat 0) else
  if i.op = 6 then (regs.getD i.b.toNat 0 == regs.getD i.c.toNat 0).toNat else if i.op = 7 then (decide (regs.getD i.b.toNat 0 < regs.getD i.c.toNat 0)).toNat else
  if i.op = 8 then args.getD (i.imm % 4) 0 else 0
theorem beq_cast' (a b : Nat) : (a == b) = ((a : Int) == (b : Int)) := by
  rw [Bool.eq_iff_iff]; simp; omega
/-- registers and arguments that there are -/
structure Regs4 (i : Ins) (regs args : List Nat) : Prop where
  b0 : 0 ≤ i.b
  b1 : i.b < 16
  c0 : 0 ≤ i.c
  c1 : i.c < 16
  rl : regs.length = 16
  al : args.length = 4
  imm : i.imm < 9223372036854775808 ∨ i.op ≠ 8
theorem reckon_r (i : Ins) (regs args : List Nat) (h : Regs4 i regs args) : RTri Tryz.prog 148 #[.agg ⟨i.v⟩, .agg ⟨u64s regs⟩, .agg ⟨u64s args⟩] [] (.int .u64 (reckon i regs args : Int)) := by
  apply RTri.of_pure
  obtain ⟨hb0, hb1, hc0, hc1, hrl, hal, him⟩ := h
  have hab : AndIs .i64 i.b 15 i.b := by
    have := AndIs.mask (k := .i64) (p := 4) (.inl rfl) hb0 (by decide) (by omega)
    rw [show ((i.b.toNat % 2 ^ 4 : Nat) : Int) = i.b by omega] at this
    exact this
  have hac : AndIs .i64 i.c 15 i.c := by
    have := AndIs.mask (k := .i64) (p := 4) (.inl rfl) hc0 (by decide) (by omega)
    rw [show ((i.c.toNat % 2 ^ 4 : Nat) : Int) = i.c by omega] at this
    exact this
  have hnb : NthN (0 + i.b.toNat * 1) (u64s regs) (.int .u64 ((regs.getD i.b.toNat 0 : Nat) : Int)) := by
    rw [Nat.zero_add, Nat.mul_one]; exact NthN.u64s (by omega)
  have hnc : NthN (0 + i.c.toNat * 1) (u64s regs) (.int .u64 ((regs.getD i.c.toNat 0 : Nat) : Int)) := by
    rw [Nat.zero_add, Nat.mul_one]; exact NthN.u64s (by omega)
  unfold reckon
  generalize regs.getD i.b.toNat 0 = rb at hnb ⊢
  generalize regs.getD i.c.toNat 0 = rc at hnc ⊢
  by_cases h8 : i.op = 8
  · have hai : AndIs .u64 (i.imm : Int) 3 ((i.imm % 4 : Nat) : Int) := by
      have := AndIs.mask (k := .u64) (a := (i.imm : Int)) (p := 2) (.inr rfl) (by omega) (by decide) (by omega)
      rw [show (((i.imm : Int).toNat % 2 ^ 2 : Nat) : Int) = ((i.imm % 4 : Nat) : Int) by omega] at this
      exact this
    have hni : NthN (0 + ((i.imm % 4 : Nat) : Int).toNat * 1) (u64s args) (.int .u64 ((args.getD (i.imm % 4) 0 : Nat) : Int)) := by
      rw [Nat.zero_add, Nat.mul_one]; exact NthN.u64s (by omega)
    have hm4 : i.imm % 4 < 4 := Nat.mod_lt _ (by decide)
    refine Tri.of_body (vs := [_, _, _]) Tryz.func148 rfl rfl fun w0 F => ?_
    repeat' (first | refine Ga ?_ | (refine Gb ?_; intro b) | (refine Gd ?_; intro g cap rest hcap) | (refine Gc ?_; intro ad cap) | (refine St.draw (id := 1) [(0, 0), (1, 1), (2, 0), (3, 0), (4, 1), (5, 0), (6, 1), (7, 0), (8, 0), (9, 1), (10, 0), (11, 0)] [] mixed (by kernel_rfl) ?_) | (refine Ge ?_ ?_ <;> (intro h; try (exfalso; omega))) | fail)
    all_goals (first | refine St.dn Tryz.func148 ⟨?_, rfl⟩ Ent.go | refine St.fl Tryz.func148 ⟨?_, rfl⟩ Ent.go)
    all_goals (repeat (first | rw [if_pos (by omega)] | rw [if_neg (by omega)]))
    all_goals rfl
  · refine Tri.of_body (vs := [_, _, _]) Tryz.func148 rfl rfl fun w0 F => ?_
    repeat' (first | refine Ga ?_ | (refine Gb ?_; intro b) | (refine Gd ?_; intro g cap rest hcap) | (refine Gc ?_; intro ad cap) | (refine St.draw (id := 1) [(0, 0), (1, 1), (2, 0), (3, 0), (4, 1), (5, 0), (6, 1), (7, 0), (8, 0), (9, 1), (10, 0), (11, 0)] [] mixed (by kernel_rfl) ?_)| refine Gl (bit_r _) ?_ | (refine Ge ?_ ?_ <;> (intro h; try (exfalso; omega))) | fail)
    all_goals (first | refine St.dn Tryz.func148 ⟨?_, rfl⟩ Ent.go | refine St.fl Tryz.func148 ⟨?_, rfl⟩ Ent.go)
    all_goals (repeat (first | rw [if_pos (by omega)] | rw [if_neg (by omega)]))
    all_goals first | rfl | (rw [nat64_eq]; rfl) | (rw [beq_cast']; rfl) | (simp only [← Int.ofNat_lt]; rfl)
end Go.Proofs.YtemaaenipjinaaaGreat
end
section
namespace Go.Proofs.YtemaaenipjinaaaGreat
set_option maxRecDepth 100000
/-- a slice that can be read -/
def ListR {α : Type} (f : α → List Value) (q : HProp) (v : Value) (xs : List α) : Prop :=
  ∃ ad cap, v = .slice ad xs.length cap ∧ xs.length ≤ cap ∧ (xs.length = 0 ∨ ∃ b o l rest, ad = some ⟨b, o, none⟩ ∧ RdC q b l ∧ DropN o l (xs.flatMap f ++ rest))
theorem ListR.at {α : Type} {f : α → List Value} {sz : Nat} (hf : ∀ x, (f x).length = sz) {q : HProp} {ad : Option Addr} {xs : List α} (h : xs.length = 0 ∨ ∃ b o l rest, ad = some ⟨b, o, none⟩ ∧ RdC q b l ∧ DropN o l (xs.flatMap f ++ rest)) (i : Nat) (hi : i < xs.length) :
    ∃ b o l l1, ad = some ⟨b, o, none⟩ ∧ RdC q b l ∧ DropN (o + (i : Int).toNat * sz) l l1 ∧ TakeN sz l1 (f xs[i]) := by
  rcases h with h | ⟨b, o, l, rest, h1, h2, h3⟩
  · omega
  · refine ⟨b, o, l, f xs[i] ++ (xs.drop (i + 1)).flatMap f ++ rest, h1, h2, h3.add ((DropN.flat hf hi).more rest), ?_⟩
    rw [List.append_assoc]; rw [← hf xs[i]]; exact TakeN.app (f xs[i]) _
theorem NthN.part {α : Type} {n m j : Nat} {l l1 vs : List α} {v : α} (h : DropN n l l1) (k : TakeN m l1 vs) (e : NthN j vs v) : NthN (n + j) l v := by
  obtain ⟨h1, _⟩ := h.eq
  obtain ⟨h3, _⟩ := k.eq
  have h5 := e.eq
  refine NthN.of ?_
  rw [← h3, ← h1, List.getElem?_take, List.getElem?_drop] at h5
  split at h5
  · exact h5
  · cases h5
theorem St.rowL {P : Program} {C : Cx} {k : List Item} {E : Env} {L : List HProp} {α : Type} {f : α → List Value} {v : Value} {e sz n : Nat} {xs : List α} (hn : xs.length = n)
    (h : ∀ R, ListR f R v xs → St P C k E (R :: L)) : St P C k E (Row v e sz n (xs.flatMap f) :: L) := by
  refine St.rowC (fun h0 h1 _ => ?_) (fun g cap rest hv hr => ?_)
  · exact (h (Row (.slice none 0 0) e sz 0 []) ⟨none, 0, by rw [h0, hn, h1], by omega, .inl (by omega)⟩).conv (Sub.refl _) (Ent.row_nil e sz)
  · exact h _ ⟨_, _, by rw [hv, hn], by rw [hn]; exact hr.le, .inr ⟨g, 0, _, rest, rfl, RdC.bl, .zero⟩⟩
theorem sat_rowL {α : Type} {f : α → List Value} {v : Value} {e sz n : Nat} {xs : List α} {L : List HProp} {h : Hp} (hn : xs.length = n) (hs : Sat (Row v e sz n (xs.flatMap f) :: L) h) : ∃ R, ListR f R v xs ∧ Sat (R :: L) h := by
  have hs0 := hs
  rw [sat_cons] at hs
  obtain ⟨h1, h2, hd, hor, ⟨hl, hr⟩, hL⟩ := hs
  rcases hr with ⟨hv, hz⟩ | ⟨g, cap, cur, rfl, hc, hm, hcs, htk, hp⟩
  · exact ⟨_, ⟨none, 0, by rw [hv, hn, hz], by omega, .inl (by omega)⟩, hs0⟩
  · refine ⟨bl g e (xs.flatMap f ++ cur.toList.drop (n * sz)), ⟨_, _, by rw [hn], by rw [hn]; exact hc, .inr ⟨g, 0, _, cur.toList.drop (n * sz), rfl, RdC.bl, .zero⟩⟩, ?_⟩
    rw [sat_cons]
    refine ⟨h1, h2, hd, hor, ?_, hL⟩
    rw [← htk, List.take_append_drop]
    exact hp
theorem Tri.rowL {P : Program} {g : FuncId} {args : Array Value} {Q : Value → List HProp → Prop} {L : List HProp} {α : Type} {f : α → List Value} {v : Value} {e sz n : Nat} {xs : List α} (hn : xs.length = n)
    (h : ∀ R, ListR f R v xs → Tri P g args (R :: L) Q) : Tri P g args (Row v e sz n (xs.flatMap f) :: L) Q := by
  unfold Tri at *
  intro w F hs
  obtain ⟨R, hR, hs⟩ := sat_rowL hn hs
  exact h R hR w F hs
/-- several assertions as one -/
def star (L : List HProp) : HProp := ex (ι := Unit) fun _ => L
theorem Ent.star_in (L : List HProp) {M : List HProp} : Ent (L ++ M) (star L :: M) := Ent.ex_in (Ls := fun _ : Unit => L) ()
theorem Ent.star_out {L M : List HProp} : Ent (star L :: M) (L ++ M) := by
  unfold Ent
  intro h hs
  obtain ⟨_, h1⟩ := sat_ex hs
  exact h1
theorem Ent.star_snoc (L : List HProp) (p : HProp) {M : List HProp} : Ent (p :: star L :: M) (star (L ++ [p]) :: M) := by
  refine Ent.trans ?_ (Ent.star_in (L ++ [p]))
  refine Ent.trans (Ent.cons Ent.star_out) ?_
  rw [List.append_assoc]
  exact Ent.mid
theorem RdC.star {L : List HProp} {p : HProp} (hp : p ∈ L) {b : Nat} {l : List Value} (h : RdC p b l) : RdC (star L) b l := by
  refine RdC.of_sat (L := L) (p := Go.Proofs.YtemaaenipjinaaaGreat.star L) (fun k hk => ?_) ?_
  · obtain ⟨_, hs⟩ := hk
    exact hs
  · induction L with
    | nil => cases hp
    | cons q L ih =>
      rcases List.mem_cons.1 hp with rfl | hp
      · exact .here h
      · exact .there (ih hp)
theorem ListR.weak {α : Type} {f : α → List Value} {q q' : HProp} {v : Value} {xs : List α} (h : ListR f q v xs) (hq : ∀ b l, RdC q b l → RdC q' b l) : ListR f q' v xs := by
  obtain ⟨ad, cap, h1, h0, h2⟩ := h
  refine ⟨ad, cap, h1, h0, ?_⟩
  rcases h2 with h2 | ⟨b, o, l, rest, e, hr, hd⟩
  · exact .inl h2
  · exact .inr ⟨b, o, l, rest, e, hq _ _ hr, hd⟩
/-- x[1:] -/
theorem ListR.tail {α : Type} {f : α → List Value} {sz : Nat} {q : HProp} {ad : Option Addr} {n cap : Nat} {x : α} {xs : List α} (hf : (f x).length = sz) (h : ListR f q (.slice ad n cap) (x :: xs)) : ListR f q (.slice (tlA ad cap sz) (n - 1) (cap - 1)) xs := by
  obtain ⟨ad', cap', h1, h0, h2⟩ := h
  injection h1 with e1 e2 e3
  subst e1 e3
  rw [List.length_cons] at e2 h0
  refine ⟨tlA ad cap sz, cap - 1, by rw [e2]; rfl, by omega, ?_⟩
  rcases h2 with h2 | ⟨b, o, l, rest, rfl, hr, hd⟩
  · simp at h2
  · by_cases h3 : xs.length = 0
    · exact .inl h3
    · refine .inr ⟨b, o + sz, l, rest, ?_, hr, ?_⟩
      · unfold tlA
        rw [if_neg (by omega), Option.map_some, Addr.add]
        split
        · next h => subst h; rfl
        · rfl
      · refine hd.add ?_
        rw [List.flatMap_cons, List.append_assoc, ← hf]
        exact DropN.app _ _
theorem ListR.at' {α : Type} {f : α → List Value} {sz : Nat} (hf : ∀ x, (f x).length = sz) {q : HProp} {ad : Option Addr} {n cap : Nat} {xs : List α} (h : ListR f q (.slice ad n cap) xs) (i : Nat) (hi : i < xs.length) :
    ∃ b o l l1, ad = some ⟨b, o, none⟩ ∧ RdC q b l ∧ DropN (o + (i : Int).toNat * sz) l l1 ∧ TakeN sz l1 (f xs[i]) := by
  obtain ⟨_, _, h1, _, h2⟩ := h
  injection h1 with e1 _ _
  subst e1
  exact ListR.at hf h2 i hi
end Go.Proofs.YtemaaenipjinaaaGreat
end
