/-
  Package tumblerref21: Has, With, Without, Does.
-/
import Derived.Test.YtalgmlhcbilicaaGreatDoorCd
namespace Go.Proofs.YtalgmlhcbilicaaGreatDoor
set_option maxRecDepth 100000
section rules
variable {P : Program} {n' : Fi} {E : Env} {L : List HProp} {ty : TypeId}
/-- where x[i:] lies -/
def tlN (ad : Option Addr) (cap i sz : Nat) : Option Addr := if cap = i then ad else ad.map (·.add (i * sz))
/-- x[i:] -/
theorem OpV.slLo {t e sz : Nat} {x lo : Operand} {ad : Option Addr} {len cap i : Nat} {kd : IntKind} [hu : Und P t (.slice e)] [hs : Siz P e sz] (hx : ev E x = some (.slice ad len cap)) (hl : ev E lo = some (.int kd (i : Int))) (h1 : i ≤ len) :
    OpV P n' (.slice t x (some lo) none none) ty E L (.slice (tlN ad cap i sz) (len - i) (cap - i)) := by
  unfold OpV
  intro d ps af gd a w ha _
  have h2 : (i : Int) ≤ (len : Int) := by omega
  have hb : ∀ c, (Instr.sliceBound (.int kd (i : Int)) len c).run P w = .ok i w := fun c => by
    unfold Instr.sliceBound
    simp only [asIntOf, Sem.run_bind, Sem.run_pure, Result.andThen_ok]
    rw [if_pos ⟨by omega, h2⟩]
    rfl
  simp [execOp, ha.ev hx, ha.ev hl, Instr.sliceAt, Instr.slice, run_underlying hu.h, Instr.sliceBounds, hb, hs.h, tlN]
/-- append(x, nil...) -/
theorem OpOk.appendE {t e sz n cap : Nat} {ad : Option Addr} {s x : Operand} {xs : List Value} {L1 : List HProp} [hu : Und P t (.slice e)] [hs : Siz P e sz] (hv : ev E s = some (.slice ad n cap)) (hx : ev E x = some (.slice none 0 0)) (ht : Take (Row (.slice ad n cap) e sz n xs) L L1) :
    OpOk P n' (.call { callee := .builtin .append, args := ⟨[s, x]⟩, argTypes := ⟨[t, t]⟩ }) ty E L (fun v' L' => v' = .slice ad n cap ∧ L' = L) := by
  unfold OpOk
  intro d ps af g a w ha X hsat
  have hle : n ≤ cap := by
    have h1 := (ht.app X).sat hsat
    rw [sat_cons] at h1
    obtain ⟨_, _, _, _, ⟨_, hr⟩, _⟩ := h1
    rcases hr with ⟨h, h0⟩ | ⟨_, _, _, h, hc, _⟩
    · omega
    · injection h with _ _ h3
      omega
  refine ⟨_, w, L, .inl ?_, ⟨rfl, rfl⟩, hsat, Old.refl w⟩
  cases ad <;> simp [execOp, resolve, invoke, builtin, ha.ev hv, ha.ev hx, Builtin.append_, run_underlying hu.h, hs.h, Builtin.lenOf, Builtin.firstCells, storeCells, hle]
end rules
theorem SlR.drop {q : HProp} {ad : Option Addr} {n cap : Nat} {xs : List Nat} (h : SlR q (.slice ad n cap) xs) {i : Nat} (hi : i ≤ xs.length) : SlR q (.slice (tlN ad cap i 1) (n - i) (cap - i)) (xs.drop i) := by
  rcases h with ⟨h, rfl⟩ | ⟨b, o, l, r, cap', h1, h2, h3, h4, h5⟩
  · injection h with e1 e2 e3
    subst e1 e2 e3
    have : i = 0 := by simpa using hi
    subst this
    exact .inl ⟨rfl, rfl⟩
  · injection h1 with e1 e2 e3
    subst e1 e2 e3
    by_cases hc : cap = i
    · have hx : xs.drop i = [] := List.drop_eq_nil_of_le (by omega)
      rw [hx]
      refine .inr ⟨b, o, l, r, cap - i, ?_, by simp, h3, h4, .zero⟩
      unfold tlN
      rw [if_pos hc, show xs.length - i = 0 by omega]; rfl
    · have hsp : ∀ (i : Nat) (ys : List Nat) (r : List Value), TakeN ys.length r (u64s ys) → i ≤ ys.length → ∃ r1, DropN i r r1 ∧ TakeN (ys.length - i) r1 (u64s (ys.drop i)) := by
        intro i
        induction i with
        | zero => intro ys r h _; exact ⟨r, .zero, h⟩
        | succ i ih =>
          intro ys r h hl
          cases ys with
          | nil => exact absurd hl (by simp)
          | cons y ys =>
            obtain ⟨r1, rfl, h6⟩ := TakeN.tail (n := ys.length) (l' := u64s ys) h
            obtain ⟨r2, h7, h8⟩ := ih ys r1 h6 (by simpa using hl)
            refine ⟨r2, .succ h7, ?_⟩
            rw [show (y :: ys).length - (i + 1) = ys.length - i by simp]
            exact h8
      obtain ⟨r1, h6, h7⟩ := hsp i xs r h5 hi
      refine .inr ⟨b, o + i, l, r1, cap - i, ?_, by rw [List.length_drop]; omega, h3, h4.add h6, by rw [List.length_drop]; exact h7⟩
      unfold tlN
      rw [if_neg hc, List.length_drop, Nat.mul_one]
      simp [Addr.add]
theorem rhas_r (H : HProp) (v : Value) (xs : List Nat) (k : Nat) (hv : SlR H v xs) (hl : xs.length ≤ 1000000) : RTri Tryz.prog 32 #[v, .int .u64 (k : Int)] [H] (.bool (decide (k ∈ xs))) := by
  refine RTri.of_reads fun p hp => ?_
  have hpr : ∀ b l, RdC H b l → RdC p b l := fun b l h => RdC.of_sat hp (ReadsC.here h)
  have hv := hv.weak hpr
  by_cases h0 : 0 < xs.length
  · obtain ⟨b1, o1, c1, l1, rfl, hr1, hn1⟩ := hv.at h0
    refine Tri.of_body (vs := [_, _]) Tryz.func32 rfl rfl fun w0 F => ?_
    repeat' (first | refine Ga ?_ | (refine Gb ?_; intro b) | (refine Gd ?_; intro g cap rest hcap) | (refine Gc ?_; intro ad cap)  | (refine Ge ?_ ?_ <;> (intro h; try (exfalso; omega))) | fail)
    refine St.loopY (Lr := ?Lr1) (ι := { x : Nat // x ≤ xs.length ∧ k ∉ xs.take x }) (fun x => xs.length - x.1) (fun x => [(5, .int .i64 (x.1 : Int))]) (fun _ => []) ⟨0, Nat.zero_le _, by simp⟩ ?hE1 ?hL1 ?round1
    case hE1 => exact Sub.go
    case hL1 => exact Takes.go
    case round1 =>
      rintro ⟨i, hi, ht⟩ IH; dsimp only at hi ht IH ⊢
      by_cases hlt : i < xs.length
      · have e1 := hn1 i hlt
        have ht1 : ¬xs[i] = k → k ∉ xs.take (i + 1) := fun hne hm => by
          rw [List.take_succ_eq_append_getElem hlt, List.mem_append, List.mem_singleton] at hm
          rcases hm with hm | hm
          · exact ht hm
          · exact hne hm.symm
        have hm : xs[i] = k → k ∈ xs := fun e => by rw [← e]; exact List.getElem_mem hlt
        generalize xs[i] = x at e1 ht1 hm
        by_cases hx : x = k
        · rw [show decide (k ∈ xs) = true from decide_eq_true (hm hx)]
          clear IH
          repeat' (first | refine Ga ?_ | (refine Gb ?_; intro b) | (refine Gd ?_; intro g cap rest hcap) | (refine Gc ?_; intro ad cap)  | (refine Ge ?_ ?_ <;> (intro h; try (exfalso; omega))) | fail)
          all_goals first | (exfalso; omega) | skip
          refine St.d1 Tryz.func32 ⟨_, ⟨rfl, rfl⟩, Ent.go⟩
        · repeat' (first | refine Ga ?_ | (refine Gb ?_; intro b) | (refine Gd ?_; intro g cap rest hcap) | (refine Gc ?_; intro ad cap)  | (refine Ge ?_ ?_ <;> (intro h; try (exfalso; omega))) | fail)
          all_goals first | (exfalso; omega) | skip
          refine IH ⟨i + 1, hlt, ht1 hx⟩ (by show xs.length - (i + 1) < xs.length - i; omega) ?_ ?_
          · exact Sub.go
          · exact Ent.go
      · obtain rfl : i = xs.length := by omega
        rw [List.take_length] at ht
        rw [show decide (k ∈ xs) = false from decide_eq_false ht]
        clear IH
        repeat' (first | refine Ga ?_ | (refine Gb ?_; intro b) | (refine Gd ?_; intro g cap rest hcap) | (refine Gc ?_; intro ad cap)  | (refine Ge ?_ ?_ <;> (intro h; try (exfalso; omega))) | fail)
        all_goals first | (exfalso; omega) | skip
        refine St.d1 Tryz.func32 ⟨_, ⟨rfl, rfl⟩, Ent.go⟩
  · have hx : xs = [] := List.eq_nil_of_length_eq_zero (by omega)
    subst hx
    obtain ⟨a1, c1, rfl⟩ := hv.val
    rw [show decide (k ∈ ([] : List Nat)) = false from decide_eq_false (by simp)]
    refine Tri.of_body (vs := [_, _]) Tryz.func32 rfl rfl fun w0 F => ?_
    repeat' (first | (apply St.loop1) | (apply St.inLoop1) | refine Ga ?_ | (refine Gb ?_; intro b) | (refine Gd ?_; intro g cap rest hcap) | (refine Gc ?_; intro ad cap)  | (refine Ge ?_ ?_ <;> (intro h; try (exfalso; omega))) | fail)
    refine St.d1 Tryz.func32 ⟨_, ⟨rfl, rfl⟩, Ent.go⟩
theorem is_r (b : Bool) : RTri Tryz.prog 33 #[.bool b] [] (.agg ⟨[.int .i64 0, .int .u64 ((if b then 1 else 0 : Nat) : Int)]⟩) := by
  apply RTri.of_pure
  cases b
  · refine Tri.of_body (vs := [_]) Tryz.func33 rfl rfl fun w0 F => ?_
    repeat' (first | refine Ga ?_ | (refine Gb ?_; intro b) | (refine Gd ?_; intro g cap rest hcap) | (refine Gc ?_; intro ad cap)  | (refine Ge ?_ ?_ <;> (intro h; try (exfalso; omega))) | fail)
    refine St.d1 Tryz.func33 ⟨_, ⟨rfl, rfl⟩, Ent.go⟩
  · refine Tri.of_body (vs := [_]) Tryz.func33 rfl rfl fun w0 F => ?_
    repeat' (first | refine Ga ?_ | (refine Gb ?_; intro b) | (refine Gd ?_; intro g cap rest hcap) | (refine Gc ?_; intro ad cap)  | (refine Ge ?_ ?_ <;> (intro h; try (exfalso; omega))) | fail)
    refine St.d1 Tryz.func33 ⟨_, ⟨rfl, rfl⟩, Ent.go⟩
theorem u64s_snoc (l : List Nat) (x : Nat) : u64s (l ++ [x]) = u64s l ++ [.int .u64 (x : Int)] := by simp [u64s]
theorem rwithout_t (H : HProp) (v : Value) (xs : List Nat) (k : Nat) (hv : SlR H v xs) (hl : xs.length ≤ 1000) : Tri Tryz.prog 34 #[v, .int .u64 (k : Int)] [H]
    fun r L => ∃ ad cap, r = .slice ad (delL k xs).length cap ∧ L = [Row (.slice ad (delL k xs).length cap) 25 1 (delL k xs).length (u64s (delL k xs)), H] := by
  by_cases h0 : 0 < xs.length
  · obtain ⟨b1, o1, c1, l1, rfl, hr1, hn1⟩ := hv.at h0
    refine Tri.of_body (vs := [_, _]) Tryz.func34 rfl rfl fun w0 F => ?_
    repeat' (first | refine Ga ?_ | (refine Gb ?_; intro b) | (refine Gd ?_; intro g cap rest hcap) | (refine Gc ?_; intro ad cap)  | (refine Ge ?_ ?_ <;> (intro h; try (exfalso; omega))) | fail)
    revert b; intro B
    refine St.conv ?_ (Sub.refl _) (Ent.row_bl (sz := 1) (n := 0) rfl (by decide))
    refine St.loopY (Lr := ?Lr1) (ι := { x : Nat × List Nat × Option Addr × Nat // x.1 ≤ xs.length ∧ x.2.1 = delL k (xs.take x.1) }) (fun x => xs.length - x.1.1)
      (fun x => [(6, .int .i64 (x.1.1 : Int)), (5, .slice x.1.2.2.1 x.1.2.1.length x.1.2.2.2)]) (fun x => [Row (.slice x.1.2.2.1 x.1.2.1.length x.1.2.2.2) 25 1 x.1.2.1.length (u64s x.1.2.1)]) ⟨(0, [], some ⟨B, 0, none⟩, 0), Nat.zero_le _, rfl⟩ ?hE1 ?hL1 ?round1
    case hE1 => exact Sub.go
    case hL1 => exact Takes.go
    case round1 =>
      rintro ⟨⟨i, out, oad, ocap⟩, hi, ho⟩ IH; dsimp only at hi ho IH ⊢
      have hol : out.length ≤ 1000 := by
        have := List.length_filter_le (fun x => decide (x ≠ k)) (xs.take i)
        have h2 : (delL k (xs.take i)).length ≤ (xs.take i).length := this
        rw [ho]; rw [List.length_take] at h2; omega
      by_cases hlt : i < xs.length
      · have e1 := hn1 i hlt
        have ht1 : ¬xs[i] = k → out ++ [xs[i]] = delL k (xs.take (i + 1)) := fun hne => by
          rw [List.take_succ_eq_append_getElem hlt, ho]
          unfold delL
          rw [List.filter_append, List.filter_cons_of_pos (by simpa using hne)]; rfl
        have ht2 : xs[i] = k → out = delL k (xs.take (i + 1)) := fun he => by
          rw [List.take_succ_eq_append_getElem hlt, ho]
          unfold delL
          rw [List.filter_append, List.filter_cons_of_neg (by simpa using he)]; simp
        generalize xs[i] = x at e1 ht1 ht2
        by_cases hx : x = k
        · repeat' (first | refine Ga ?_ | (refine Gb ?_; intro b) | (refine Gd ?_; intro g cap rest hcap) | (refine Gc ?_; intro ad cap)  | (refine Ge ?_ ?_ <;> (intro h; try (exfalso; omega))) | fail)
          all_goals first | (exfalso; omega) | skip
          refine IH ⟨(i + 1, out, oad, ocap), hlt, ht2 hx⟩ (by show xs.length - (i + 1) < xs.length - i; omega) ?_ ?_
          · exact Sub.go
          · exact Ent.go
        · repeat' (first | refine Ga ?_ | (refine Gb ?_; intro b) | (refine Gd ?_; intro g cap rest hcap) | (refine Gc ?_; intro ad cap)  | (refine Ge ?_ ?_ <;> (intro h; try (exfalso; omega))) | fail)
          all_goals first | (exfalso; omega) | skip
          refine IH ⟨(i + 1, out ++ [x], ad, cap), hlt, ht1 hx⟩ (by show xs.length - (i + 1) < xs.length - i; omega) ?_ ?_
          · dsimp only; rw [List.length_append]; exact Sub.go
          · dsimp only; rw [List.length_append, u64s_snoc]; exact Ent.go
      · obtain rfl : i = xs.length := by omega
        rw [List.take_length] at ho
        subst ho
        clear IH
        repeat' (first | refine Ga ?_ | (refine Gb ?_; intro b) | (refine Gd ?_; intro g cap rest hcap) | (refine Gc ?_; intro ad cap)  | (refine Ge ?_ ?_ <;> (intro h; try (exfalso; omega))) | fail)
        all_goals first | (exfalso; omega) | skip
        refine St.d1 Tryz.func34 ⟨_, ⟨oad, ocap, rfl, rfl⟩, Ent.go⟩
  · have hx : xs = [] := List.eq_nil_of_length_eq_zero (by omega)
    subst hx
    obtain ⟨a1, c1, rfl⟩ := hv.val
    refine Tri.of_body (vs := [_, _]) Tryz.func34 rfl rfl fun w0 F => ?_
    repeat' (first | (apply St.loop1) | (apply St.inLoop1) | refine Ga ?_ | (refine Gb ?_; intro b) | (refine Gd ?_; intro g cap rest hcap) | (refine Gc ?_; intro ad cap)  | (refine Ge ?_ ?_ <;> (intro h; try (exfalso; omega))) | fail)
    revert b; intro B
    refine St.conv ?_ (Sub.refl _) (Ent.row_bl (sz := 1) (n := 0) rfl (by decide))
    refine St.d1 Tryz.func34 ⟨_, ⟨some ⟨B, 0, none⟩, 0, rfl, rfl⟩, Ent.go⟩
/-- the document's set -/
def XuR (q : HProp) (v : Value) : Option Qu → Prop
  | none => v = .agg ⟨[.bool false, .int .u64 0, .slice none 0 0]⟩
  | some x => ∃ lv, v = .agg ⟨[.bool true, .int .u64 (x.cap : Int), lv]⟩ ∧ SlR q lv x.list
theorem XuR.weak {q q' : HProp} {v : Value} {x : Option Qu} (h : XuR q v x) (hq : ∀ b l, RdC q b l → RdC q' b l) : XuR q' v x := by
  cases x with
  | none => exact h
  | some x =>
    obtain ⟨lv, h1, h3⟩ := h
    exact ⟨lv, h1, h3.weak hq⟩
def rdoesQ (H : HProp) (m : Option Qu × Int × Nat) (v : Value) (L : List HProp) : Prop :=
  ∃ xv' H', v = .tuple ⟨[xv', .agg ⟨[.int .i64 m.2.1, .int .u64 (m.2.2 : Int)]⟩]⟩ ∧ XuR H' xv' m.1 ∧ (∀ b l, RdC H b l → RdC H' b l) ∧ L = [H']
end Go.Proofs.YtalgmlhcbilicaaGreatDoor
