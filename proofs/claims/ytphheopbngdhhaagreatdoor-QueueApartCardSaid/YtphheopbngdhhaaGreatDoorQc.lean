/-
  Packages queue and tumblerref20: what is done to a queue, alone.
-/
import Derived.Test.YtphheopbngdhhaaGreatDoorQb
namespace Go.Proofs.YtphheopbngdhhaaGreatDoor
set_option maxRecDepth 100000
/-- a slice of numbers that can be read: nil, or cells of a block -/
def SlR (q : HProp) (v : Value) (xs : List Nat) : Prop :=
  (v = .slice none 0 0 ∧ xs = []) ∨ ∃ b o l r cap, v = .slice (some ⟨b, o, none⟩) xs.length cap ∧ xs.length ≤ cap ∧ RdC q b l ∧ DropN o l r ∧ TakeN xs.length r (u64s xs)
theorem SlR.weak {q q' : HProp} {v : Value} {xs : List Nat} (h : SlR q v xs) (hq : ∀ b l, RdC q b l → RdC q' b l) : SlR q' v xs := by
  rcases h with h | ⟨b, o, l, r, cap, h1, h2, h3, h4, h5⟩
  · exact .inl h
  · exact .inr ⟨b, o, l, r, cap, h1, h2, hq _ _ h3, h4, h5⟩
theorem St.rowS {P : Program} {C : Cx} {k : List Item} {E : Env} {L : List HProp} {v : Value} {e : Nat} {xs : List Nat}
    (h : ∀ R, SlR R v xs → St P C k E (R :: L)) : St P C k E (Row v e 1 xs.length (u64s xs) :: L) := by
  refine St.rowC (fun h0 h1 _ => ?_) (fun g cap rest hv hr => ?_)
  · exact (h (Row (.slice none 0 0) e 1 0 []) (.inl ⟨h0, List.eq_nil_of_length_eq_zero h1⟩)).conv (Sub.refl _) (Ent.row_nil e 1)
  · refine h _ (.inr ⟨g, 0, _, _, cap, hv, hr.le, RdC.bl, .zero, ?_⟩)
    have := TakeN.app (u64s xs) rest
    rw [u64s_len] at this
    exact this
theorem TakeN.tail {α : Type} {n : Nat} {x : α} {l l' : List α} (h : TakeN (n + 1) l (x :: l')) : ∃ l1, l = x :: l1 ∧ TakeN n l1 l' := by
  cases h with
  | succ h => exact ⟨_, rfl, h⟩
theorem SlR.at0 {q : HProp} {ad : Option Addr} {n cap x : Nat} {xs : List Nat} (h : SlR q (.slice ad n cap) (x :: xs)) : n = xs.length + 1 ∧ ∃ b o l r, ad = some ⟨b, o, none⟩ ∧ RdC q b l ∧ DropN o l (.int .u64 (x : Int) :: r) ∧ TakeN xs.length r (u64s xs) := by
  rcases h with ⟨_, h⟩ | ⟨b, o, l, r, cap', h1, h2, h3, h4, h5⟩
  · cases h
  · injection h1 with e1 e2 e3
    obtain ⟨r1, rfl, h6⟩ := TakeN.tail (n := xs.length) (l' := u64s xs) h5
    exact ⟨e2, b, o, l, r1, e1, h3, h4, h6⟩
theorem SlR.tail {q : HProp} {ad : Option Addr} {n cap x : Nat} {xs : List Nat} (h : SlR q (.slice ad n cap) (x :: xs)) : SlR q (.slice (tlA ad cap 1) (n - 1) (cap - 1)) xs := by
  rcases h with ⟨_, h⟩ | ⟨b, o, l, r, cap', h1, h2, h3, h4, h5⟩
  · cases h
  · injection h1 with e1 e2 e3
    subst e1 e3
    rw [List.length_cons] at e2 h2 h5
    obtain ⟨r1, rfl, h6⟩ := TakeN.tail (n := xs.length) (l' := u64s xs) h5
    by_cases hc : cap = 1
    · have hx : xs = [] := List.eq_nil_of_length_eq_zero (by omega)
      subst hx
      refine .inr ⟨b, o, l, _, cap - 1, ?_, by simp, h3, h4, .zero⟩
      unfold tlA
      rw [if_pos hc, e2]; rfl
    · refine .inr ⟨b, o + 1, l, r1, cap - 1, ?_, by omega, h3, h4.add (.succ .zero), h6⟩
      unfold tlA
      rw [if_neg hc, e2]; rfl
/-- a queue, alone -/
structure Qu where
  cap : Nat
  list : List Nat
def QuR (q : HProp) (v : Value) : Option Qu → Prop
  | none => v = .pointer none
  | some x => ∃ b lv, v = .pointer (some ⟨b, 0, none⟩) ∧ RdC q b [.int .u64 (x.cap : Int), lv] ∧ SlR q lv x.list
theorem QuR.weak {q q' : HProp} {v : Value} {x : Option Qu} (h : QuR q v x) (hq : ∀ b l, RdC q b l → RdC q' b l) : QuR q' v x := by
  cases x with
  | none => exact h
  | some x =>
    obtain ⟨b, lv, h1, h2, h3⟩ := h
    exact ⟨b, lv, h1, hq _ _ h2, h3.weak hq⟩
def doesM (k : Nat) (q : Option Qu) (arg : Nat) : Option Qu × Int × Nat := match k with
  | 0 => match q with
    | some _ => (q, 40, 4)
    | none => (some ⟨arg, []⟩, 0, 0)
  | 1 => match q with
    | none => (none, 40, 3)
    | some x => if x.cap ≤ x.list.length then (q, 40, 2) else (some ⟨x.cap, x.list ++ [arg]⟩, 0, x.list.length + 1)
  | 2 => match q with
    | none => (none, 40, 3)
    | some x => match x.list with
      | [] => (q, 40, 1)
      | y :: ys => (some ⟨x.cap, ys⟩, 0, y)
  | 3 => match q with
    | none => (none, 40, 3)
    | some x => match x.list with
      | [] => (q, 40, 1)
      | y :: _ => (q, 0, y)
  | 4 => match q with
    | none => (none, 40, 3)
    | some x => (q, 0, x.list.length)
  | 5 => match q with
    | none => (none, 40, 3)
    | some x => match x.list with
      | [] => (none, 0, 0)
      | _ :: _ => (q, 40, 5)
  | _ => (q, 4, 0)
theorem gives_r (w : Nat) : RTri Tryz.prog 77 #[.int .u64 (w : Int)] [] (.agg ⟨[.int .i64 40, .int .u64 (w : Int)]⟩) := by
  apply RTri.of_pure
  refine Tri.of_body (vs := [_]) Tryz.func77 rfl rfl fun w0 F => ?_
  repeat' (first | refine Ga ?_ | (refine Gb ?_; intro b) | (refine Gd ?_; intro g cap rest hcap) | (refine Gc ?_; intro ad cap)  | (refine Ge ?_ ?_ <;> (intro h; try (exfalso; omega))) | fail)
  refine St.d1 Tryz.func77 ⟨_, ⟨rfl, rfl⟩, Ent.go⟩
theorem clone_s (q : HProp) (ad : Option Addr) (n cap : Nat) (xs : List Nat) (hv : SlR q (.slice ad n cap) xs) (hn : xs.length ≤ 1000000) : Tri Tryz.prog 78 #[.slice ad n cap] [q]
    fun r L => ∃ ad cap, r = .slice ad xs.length cap ∧ L = [Row (.slice ad xs.length cap) 22 1 xs.length (u64s xs), q] := by
  have h1 := u64s_one xs
  rcases hv with ⟨h0, rfl⟩ | ⟨b, o, l, r, cap', h2, h3, h4, h5, h6⟩
  · injection h0 with e1 e2 e3
    subst e1 e2 e3
    refine Tri.of_body (vs := [_]) Tryz.func78 rfl rfl fun w0 F => ?_
    repeat' (first | refine Ga ?_ | (refine Gb ?_; intro b) | (refine Gd ?_; intro g cap rest hcap) | (refine Gc ?_; intro ad cap)  | (refine Ge ?_ ?_ <;> (intro h; try (exfalso; omega))) | fail)
    refine St.d1 Tryz.func78 ⟨_, ⟨none, 0, rfl, rfl⟩, ?_⟩
    exact Ent.trans (Ent.row_nil 22 1) Ent.go
  · injection h2 with e1 e2 e3
    subst e1 e2 e3
    have h6' : TakeN (xs.length * 1) r (u64s xs) := by rw [Nat.mul_one]; exact h6
    refine Tri.of_body (vs := [_]) Tryz.func78 rfl rfl fun w0 F => ?_
    repeat' (first | refine Ga ?_ | (refine Gb ?_; intro b) | (refine Gd ?_; intro g cap rest hcap) | (refine Gc ?_; intro ad cap)  | (refine Ge ?_ ?_ <;> (intro h; try (exfalso; omega))) | fail)
    refine St.d1 Tryz.func78 ⟨_, ⟨_, _, rfl, rfl⟩, ?_⟩
    exact Ent.go
def namesL : List Value := [bs (nmB 0), bs (nmB 1), bs (nmB 2), bs (nmB 3), bs (nmB 4), bs (nmB 5)]
theorem contains_0 (b : Nat) : Tri Tryz.prog 63 #[.slice (some ⟨b, 0, none⟩) 6 6, bs (nmB 0)] [bl b 9 namesL] fun v L => v = .bool (decide (0 < 6)) ∧ L = [] := by
  have hix : Tri Tryz.prog 85 #[.slice (some ⟨b, 0, none⟩) 6 6, bs (nmB 0)] [bl b 9 namesL] fun v L => v = .int .i64 (if 0 < 6 then 0 else -1) ∧ L = [] := by
    unfold namesL nmB
    refine Tri.of_body (vs := [_, _]) Tryz.func85 rfl rfl fun w0 F => ?_
    repeat' (first | (apply St.loop1) | (apply St.inLoop1) | refine Ga ?_ | (refine Gb ?_; intro b) | (refine Gd ?_; intro g cap rest hcap) | (refine Gc ?_; intro ad cap)  | (refine Ge ?_ ?_ <;> (intro h; try (exfalso; omega))) | fail)
    refine St.d1 Tryz.func85 ⟨_, ⟨rfl, rfl⟩, Ent.go⟩
  refine Tri.of_body (vs := [_, _]) Tryz.func63 rfl rfl fun w0 F => ?_
  repeat' (first | refine Ga ?_ | (refine Gb ?_; intro b) | (refine Gd ?_; intro g cap rest hcap) | (refine Gc ?_; intro ad cap)  | (refine Gt hix ?_; rintro _ _ ⟨rfl, rfl⟩) | (refine Ge ?_ ?_ <;> (intro h; try (exfalso; omega))) | fail)
  refine St.d1 Tryz.func63 ⟨_, ⟨rfl, rfl⟩, Ent.go⟩
theorem contains_1 (b : Nat) : Tri Tryz.prog 63 #[.slice (some ⟨b, 0, none⟩) 6 6, bs (nmB 1)] [bl b 9 namesL] fun v L => v = .bool (decide (1 < 6)) ∧ L = [] := by
  have hix : Tri Tryz.prog 85 #[.slice (some ⟨b, 0, none⟩) 6 6, bs (nmB 1)] [bl b 9 namesL] fun v L => v = .int .i64 (if 1 < 6 then 1 else -1) ∧ L = [] := by
    unfold namesL nmB
    refine Tri.of_body (vs := [_, _]) Tryz.func85 rfl rfl fun w0 F => ?_
    repeat' (first | (apply St.loop1) | (apply St.inLoop1) | refine Ga ?_ | (refine Gb ?_; intro b) | (refine Gd ?_; intro g cap rest hcap) | (refine Gc ?_; intro ad cap)  | (refine Ge ?_ ?_ <;> (intro h; try (exfalso; omega))) | fail)
    refine St.d1 Tryz.func85 ⟨_, ⟨rfl, rfl⟩, Ent.go⟩
  refine Tri.of_body (vs := [_, _]) Tryz.func63 rfl rfl fun w0 F => ?_
  repeat' (first | refine Ga ?_ | (refine Gb ?_; intro b) | (refine Gd ?_; intro g cap rest hcap) | (refine Gc ?_; intro ad cap)  | (refine Gt hix ?_; rintro _ _ ⟨rfl, rfl⟩) | (refine Ge ?_ ?_ <;> (intro h; try (exfalso; omega))) | fail)
  refine St.d1 Tryz.func63 ⟨_, ⟨rfl, rfl⟩, Ent.go⟩
theorem contains_2 (b : Nat) : Tri Tryz.prog 63 #[.slice (some ⟨b, 0, none⟩) 6 6, bs (nmB 2)] [bl b 9 namesL] fun v L => v = .bool (decide (2 < 6)) ∧ L = [] := by
  have hix : Tri Tryz.prog 85 #[.slice (some ⟨b, 0, none⟩) 6 6, bs (nmB 2)] [bl b 9 namesL] fun v L => v = .int .i64 (if 2 < 6 then 2 else -1) ∧ L = [] := by
    unfold namesL nmB
    refine Tri.of_body (vs := [_, _]) Tryz.func85 rfl rfl fun w0 F => ?_
    repeat' (first | (apply St.loop1) | (apply St.inLoop1) | refine Ga ?_ | (refine Gb ?_; intro b) | (refine Gd ?_; intro g cap rest hcap) | (refine Gc ?_; intro ad cap)  | (refine Ge ?_ ?_ <;> (intro h; try (exfalso; omega))) | fail)
    refine St.d1 Tryz.func85 ⟨_, ⟨rfl, rfl⟩, Ent.go⟩
  refine Tri.of_body (vs := [_, _]) Tryz.func63 rfl rfl fun w0 F => ?_
  repeat' (first | refine Ga ?_ | (refine Gb ?_; intro b) | (refine Gd ?_; intro g cap rest hcap) | (refine Gc ?_; intro ad cap)  | (refine Gt hix ?_; rintro _ _ ⟨rfl, rfl⟩) | (refine Ge ?_ ?_ <;> (intro h; try (exfalso; omega))) | fail)
  refine St.d1 Tryz.func63 ⟨_, ⟨rfl, rfl⟩, Ent.go⟩
theorem contains_3 (b : Nat) : Tri Tryz.prog 63 #[.slice (some ⟨b, 0, none⟩) 6 6, bs (nmB 3)] [bl b 9 namesL] fun v L => v = .bool (decide (3 < 6)) ∧ L = [] := by
  have hix : Tri Tryz.prog 85 #[.slice (some ⟨b, 0, none⟩) 6 6, bs (nmB 3)] [bl b 9 namesL] fun v L => v = .int .i64 (if 3 < 6 then 3 else -1) ∧ L = [] := by
    unfold namesL nmB
    refine Tri.of_body (vs := [_, _]) Tryz.func85 rfl rfl fun w0 F => ?_
    repeat' (first | (apply St.loop1) | (apply St.inLoop1) | refine Ga ?_ | (refine Gb ?_; intro b) | (refine Gd ?_; intro g cap rest hcap) | (refine Gc ?_; intro ad cap)  | (refine Ge ?_ ?_ <;> (intro h; try (exfalso; omega))) | fail)
    refine St.d1 Tryz.func85 ⟨_, ⟨rfl, rfl⟩, Ent.go⟩
  refine Tri.of_body (vs := [_, _]) Tryz.func63 rfl rfl fun w0 F => ?_
  repeat' (first | refine Ga ?_ | (refine Gb ?_; intro b) | (refine Gd ?_; intro g cap rest hcap) | (refine Gc ?_; intro ad cap)  | (refine Gt hix ?_; rintro _ _ ⟨rfl, rfl⟩) | (refine Ge ?_ ?_ <;> (intro h; try (exfalso; omega))) | fail)
  refine St.d1 Tryz.func63 ⟨_, ⟨rfl, rfl⟩, Ent.go⟩
theorem contains_4 (b : Nat) : Tri Tryz.prog 63 #[.slice (some ⟨b, 0, none⟩) 6 6, bs (nmB 4)] [bl b 9 namesL] fun v L => v = .bool (decide (4 < 6)) ∧ L = [] := by
  have hix : Tri Tryz.prog 85 #[.slice (some ⟨b, 0, none⟩) 6 6, bs (nmB 4)] [bl b 9 namesL] fun v L => v = .int .i64 (if 4 < 6 then 4 else -1) ∧ L = [] := by
    unfold namesL nmB
    refine Tri.of_body (vs := [_, _]) Tryz.func85 rfl rfl fun w0 F => ?_
    repeat' (first | (apply St.loop1) | (apply St.inLoop1) | refine Ga ?_ | (refine Gb ?_; intro b) | (refine Gd ?_; intro g cap rest hcap) | (refine Gc ?_; intro ad cap)  | (refine Ge ?_ ?_ <;> (intro h; try (exfalso; omega))) | fail)
    refine St.d1 Tryz.func85 ⟨_, ⟨rfl, rfl⟩, Ent.go⟩
  refine Tri.of_body (vs := [_, _]) Tryz.func63 rfl rfl fun w0 F => ?_
  repeat' (first | refine Ga ?_ | (refine Gb ?_; intro b) | (refine Gd ?_; intro g cap rest hcap) | (refine Gc ?_; intro ad cap)  | (refine Gt hix ?_; rintro _ _ ⟨rfl, rfl⟩) | (refine Ge ?_ ?_ <;> (intro h; try (exfalso; omega))) | fail)
  refine St.d1 Tryz.func63 ⟨_, ⟨rfl, rfl⟩, Ent.go⟩
theorem contains_5 (b : Nat) : Tri Tryz.prog 63 #[.slice (some ⟨b, 0, none⟩) 6 6, bs (nmB 5)] [bl b 9 namesL] fun v L => v = .bool (decide (5 < 6)) ∧ L = [] := by
  have hix : Tri Tryz.prog 85 #[.slice (some ⟨b, 0, none⟩) 6 6, bs (nmB 5)] [bl b 9 namesL] fun v L => v = .int .i64 (if 5 < 6 then 5 else -1) ∧ L = [] := by
    unfold namesL nmB
    refine Tri.of_body (vs := [_, _]) Tryz.func85 rfl rfl fun w0 F => ?_
    repeat' (first | (apply St.loop1) | (apply St.inLoop1) | refine Ga ?_ | (refine Gb ?_; intro b) | (refine Gd ?_; intro g cap rest hcap) | (refine Gc ?_; intro ad cap)  | (refine Ge ?_ ?_ <;> (intro h; try (exfalso; omega))) | fail)
    refine St.d1 Tryz.func85 ⟨_, ⟨rfl, rfl⟩, Ent.go⟩
  refine Tri.of_body (vs := [_, _]) Tryz.func63 rfl rfl fun w0 F => ?_
  repeat' (first | refine Ga ?_ | (refine Gb ?_; intro b) | (refine Gd ?_; intro g cap rest hcap) | (refine Gc ?_; intro ad cap)  | (refine Gt hix ?_; rintro _ _ ⟨rfl, rfl⟩) | (refine Ge ?_ ?_ <;> (intro h; try (exfalso; omega))) | fail)
  refine St.d1 Tryz.func63 ⟨_, ⟨rfl, rfl⟩, Ent.go⟩
theorem contains_6 (b : Nat) : Tri Tryz.prog 63 #[.slice (some ⟨b, 0, none⟩) 6 6, bs (nmB 6)] [bl b 9 namesL] fun v L => v = .bool (decide (6 < 6)) ∧ L = [] := by
  have hix : Tri Tryz.prog 85 #[.slice (some ⟨b, 0, none⟩) 6 6, bs (nmB 6)] [bl b 9 namesL] fun v L => v = .int .i64 (if 6 < 6 then 6 else -1) ∧ L = [] := by
    unfold namesL nmB
    refine Tri.of_body (vs := [_, _]) Tryz.func85 rfl rfl fun w0 F => ?_
    repeat' (first | (apply St.loop1) | (apply St.inLoop1) | refine Ga ?_ | (refine Gb ?_; intro b) | (refine Gd ?_; intro g cap rest hcap) | (refine Gc ?_; intro ad cap)  | (refine Ge ?_ ?_ <;> (intro h; try (exfalso; omega))) | fail)
    refine St.d1 Tryz.func85 ⟨_, ⟨rfl, rfl⟩, Ent.go⟩
  refine Tri.of_body (vs := [_, _]) Tryz.func63 rfl rfl fun w0 F => ?_
  repeat' (first | refine Ga ?_ | (refine Gb ?_; intro b) | (refine Gd ?_; intro g cap rest hcap) | (refine Gc ?_; intro ad cap)  | (refine Gt hix ?_; rintro _ _ ⟨rfl, rfl⟩) | (refine Ge ?_ ?_ <;> (intro h; try (exfalso; omega))) | fail)
  refine St.d1 Tryz.func63 ⟨_, ⟨rfl, rfl⟩, Ent.go⟩
end Go.Proofs.YtphheopbngdhhaaGreatDoor
