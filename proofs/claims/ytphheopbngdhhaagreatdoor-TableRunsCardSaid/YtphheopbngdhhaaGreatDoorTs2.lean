/-
  Package tumblerref22: Find, Without, With.
-/
import Derived.Test.YtphheopbngdhhaaGreatDoorTk
namespace Go.Proofs.YtphheopbngdhhaaGreatDoor
set_option maxRecDepth 100000
section rules
variable {P : Program} {n' : Fi} {E : Env} {L : List HProp} {ty : TypeId}
/-- where x[i:] lies -/
def tlN (ad : Option Addr) (cap i sz : Nat) : Option Addr := if cap = i then ad else ad.map (·.add (i * sz))
/-- x[i:] -/
theorem OpV.slLo {t e sz : Nat} {x lo : Operand} {ad : Option Addr} {len cap i : Nat} {kd : IntKind} [hu : Und P t (.slice e)] [hs : Siz P e sz] (hx : ev E x = some (.slice ad len cap)) (hl : ev E lo = some (.int kd (i : Int))) (h1 : i ≤ len) :
    OpV P n' (.slice t x (some lo) none none) ty E L (.slice (tlN ad cap i sz) (len - i) (cap - i)) := by
  unfold OpV
  intro d ps af gd a w ha _
  have h2 : (i : Int) ≤ (len : Int) := by omega
  have hb : ∀ c, (Instr.sliceBound (.int kd (i : Int)) len c).run P w = .ok i w := fun c => by
    unfold Instr.sliceBound
    simp only [asIntOf, Sem.run_bind, Sem.run_pure, Result.andThen_ok]
    rw [if_pos ⟨by omega, h2⟩]
    rfl
  simp [execOp, ha.ev hx, ha.ev hl, Instr.sliceAt, Instr.slice, run_underlying hu.h, Instr.sliceBounds, hb, hs.h, tlN]
/-- append(x, y...) where y has nothing -/
theorem OpOk.append0 {t e sz n cap c2 : Nat} {ad ad2 : Option Addr} {s x : Operand} {xs : List Value} {L1 : List HProp} [hu : Und P t (.slice e)] [hs : Siz P e sz] (hv : ev E s = some (.slice ad n cap)) (hx : ev E x = some (.slice ad2 0 c2)) (ht : Take (Row (.slice ad n cap) e sz n xs) L L1) :
    OpOk P n' (.call { callee := .builtin .append, args := ⟨[s, x]⟩, argTypes := ⟨[t, t]⟩ }) ty E L (fun v' L' => v' = .slice ad n cap ∧ L' = L) := by
  unfold OpOk
  intro d ps af g a w ha X hsat
  have hle : n ≤ cap := by
    have h1 := (ht.app X).sat hsat
    rw [sat_cons] at h1
    obtain ⟨_, _, _, _, ⟨_, hr⟩, _⟩ := h1
    rcases hr with ⟨h, h0⟩ | ⟨_, _, _, h, hc, _⟩
    · omega
    · injection h with _ _ h3
      omega
  refine ⟨_, w, L, .inl ?_, ⟨rfl, rfl⟩, hsat, Old.refl w⟩
  cases ad <;> cases ad2 <;> simp [execOp, resolve, invoke, builtin, ha.ev hv, ha.ev hx, Builtin.append_, run_underlying hu.h, hs.h, Builtin.lenOf, Builtin.firstCells, loadCells, loadCellsFrom, storeCells, hle]
end rules
theorem ListR.drop {α : Type} {f : α → List Value} {sz : Nat} (hf : ∀ x, (f x).length = sz) {q : HProp} {ad : Option Addr} {cap : Nat} {xs : List α} (h : xs.length = 0 ∨ ∃ b o l rest, ad = some ⟨b, o, none⟩ ∧ RdC q b l ∧ DropN o l (xs.flatMap f ++ rest)) {i : Nat} (hi : i < xs.length) (hc : xs.length ≤ cap) :
    ∃ b o l r, tlN ad cap i sz = some ⟨b, o, none⟩ ∧ RdC q b l ∧ DropN o l r ∧ TakeN ((xs.length - i) * sz) r ((xs.drop i).flatMap f) := by
  rcases h with h | ⟨b, o, l, rest, h1, h2, h3⟩
  · omega
  · refine ⟨b, o + i * sz, l, (xs.drop i).flatMap f ++ rest, ?_, h2, ?_, ?_⟩
    · unfold tlN
      rw [if_neg (by omega), h1]; simp [Addr.add]
    · have := (DropN.flat hf hi).more rest
      have e : f xs[i] ++ (xs.drop (i + 1)).flatMap f = (xs.drop i).flatMap f := by rw [List.drop_eq_getElem_cons hi, List.flatMap_cons]
      rw [e] at this
      exact h3.add this
    · have hl : ((xs.drop i).flatMap f).length = (xs.length - i) * sz := by
        have key : ∀ l : List α, (l.flatMap f).length = l.length * sz := by
          intro l
          induction l with
          | nil => simp
          | cons x xs ih => rw [List.flatMap_cons, List.length_append, hf, ih, List.length_cons, Nat.succ_mul]; omega
        rw [key, List.length_drop]
      rw [← hl]
      exact TakeN.app _ _
/-- the place of a key -/
def idxP (key : Nat) (l : Prs) : Nat := (l.takeWhile (fun p => decide (p.1 ≠ key))).length
def findI (key : Nat) (l : Prs) : Int := if (mget l key).isSome then idxP key l else -1
theorem find_at {key : Nat} : ∀ {l : Prs} {i : Nat} (hi : i < l.length), (∀ p ∈ l.take i, p.1 ≠ key) → l[i].1 = key → idxP key l = i ∧ mget l key = some l[i].2
  | x :: l, 0, _, _, h => by
    have h' : x.1 = key := h
    refine ⟨?_, ?_⟩
    · unfold idxP
      rw [List.takeWhile_cons_of_neg (by simp [h'])]; rfl
    · obtain ⟨a, b⟩ := x
      exact if_pos h'
  | x :: l, i + 1, hi, hp, h => by
    have hx : x.1 ≠ key := hp x (by simp)
    obtain ⟨h1, h2⟩ := find_at (l := l) (i := i) (by simpa using hi) (fun p hp' => hp p (by simp [hp'])) h
    refine ⟨?_, ?_⟩
    · unfold idxP at h1 ⊢
      rw [List.takeWhile_cons_of_pos (by simpa using hx), List.length_cons, h1]
    · obtain ⟨a, b⟩ := x
      exact (if_neg hx).trans h2
theorem find_spec {key v : Nat} : ∀ {l : Prs}, mget l key = some v → ∃ h : idxP key l < l.length, l[idxP key l] = (key, v)
  | x :: l, h => by
    obtain ⟨a, b⟩ := x
    by_cases hx : a = key
    · have e : idxP key ((a, b) :: l) = 0 := by unfold idxP; rw [List.takeWhile_cons_of_neg (by simp [hx])]; rfl
      have hb : b = v := by
        have h' : (if a = key then some b else mget l key) = some v := h
        rw [if_pos hx] at h'; injection h'
      refine ⟨by rw [e]; simp, ?_⟩
      simp only [e]
      show (a, b) = _
      rw [hx, hb]
    · have h' : mget l key = some v := by
        have h2 : (if a = key then some b else mget l key) = some v := h
        rw [if_neg hx] at h2; exact h2
      obtain ⟨h1, h2⟩ := find_spec h'
      have e : idxP key ((a, b) :: l) = idxP key l + 1 := by unfold idxP; rw [List.takeWhile_cons_of_pos (by simpa using hx), List.length_cons]
      refine ⟨by rw [e]; simpa using h1, ?_⟩
      simp only [e]
      exact h2
theorem rfind_r (H : HProp) (v : Value) (xs : Prs) (key : Nat) (hv : ListR prV H v xs) (hl : xs.length ≤ 1000000) : RTri Tryz.prog 33 #[v, .int .u64 (key : Int)] [H] (.int .i64 (findI key xs)) := by
  refine RTri.of_reads fun p hp => ?_
  have hpr : ∀ b l, RdC H b l → RdC p b l := fun b l h => RdC.of_sat hp (ReadsC.here h)
  have hv := hv.weak hpr
  obtain ⟨ad, cap, rfl, _, hv⟩ := hv
  refine Tri.of_body (vs := [_, _]) Tryz.func33 rfl rfl fun w0 F => ?_
  repeat' (first | refine Ga ?_ | (refine Gb ?_; intro b) | (refine Gd ?_; intro g cap rest hcap) | (refine Gc ?_; intro ad cap)  | (refine Ge ?_ ?_ <;> (intro h; try (exfalso; omega))) | fail)
  refine St.loopY (Lr := ?Lr1) (ι := { x : Nat // x ≤ xs.length ∧ ∀ p ∈ xs.take x, p.1 ≠ key }) (fun x => xs.length - x.1) (fun x => [(5, .int .i64 (x.1 : Int))]) (fun _ => []) ⟨0, Nat.zero_le _, by simp⟩ ?hE1 ?hL1 ?round1
  case hE1 => exact Sub.go
  case hL1 => exact Takes.go
  case round1 =>
    rintro ⟨i, hi, ht⟩ IH; dsimp only at hi ht IH ⊢
    by_cases hlt : i < xs.length
    · obtain ⟨bf, o, l, l1, rfl, hrd, hdr, htk⟩ := ListR.at (f := prV) (sz := 2) prV_len hv i hlt
      have ht1 : xs[i].1 ≠ key → ∀ p ∈ xs.take (i + 1), p.1 ≠ key := fun hne p hp' => by
        rw [List.take_succ_eq_append_getElem hlt, List.mem_append, List.mem_singleton] at hp'
        rcases hp' with h | h
        · exact ht p h
        · rw [h]; exact hne
      have hfd := find_at hlt ht
      generalize xs[i] = x at htk ht1 hfd
      obtain ⟨a, b0⟩ := x
      unfold prV at htk
      dsimp only at htk ht1 hfd
      have hnth : NthN (o + (i : Int).toNat * 2) l (.int .u64 (a : Int)) := NthN.part (j := 0) hdr htk (NthN.of rfl)
      by_cases hx : a = key
      · obtain ⟨f1, f2⟩ := hfd hx
        rw [show findI key xs = (i : Int) by unfold findI; rw [f2, f1]; rfl]
        clear IH
        repeat' (first | refine Ga ?_ | (refine Gb ?_; intro b) | (refine Gd ?_; intro g cap rest hcap) | (refine Gc ?_; intro ad cap)  | (refine Ge ?_ ?_ <;> (intro h; try (exfalso; omega))) | fail)
        all_goals first | (exfalso; omega) | skip
        refine St.d1 Tryz.func33 ⟨_, ⟨rfl, rfl⟩, Ent.go⟩
      · repeat' (first | refine Ga ?_ | (refine Gb ?_; intro b) | (refine Gd ?_; intro g cap rest hcap) | (refine Gc ?_; intro ad cap)  | (refine Ge ?_ ?_ <;> (intro h; try (exfalso; omega))) | fail)
        all_goals first | (exfalso; omega) | skip
        refine IH ⟨i + 1, hlt, ht1 hx⟩ (by show xs.length - (i + 1) < xs.length - i; omega) ?_ ?_
        · exact Sub.go
        · exact Ent.go
    · obtain rfl : i = xs.length := by omega
      rw [List.take_length] at ht
      have hno : mget xs key = none := mget_none_of fun hm => by
        obtain ⟨p', hp', e⟩ := List.mem_map.mp hm
        exact ht p' hp' e
      rw [show findI key xs = -1 by unfold findI; rw [hno]; rfl]
      clear IH
      repeat' (first | refine Ga ?_ | (refine Gb ?_; intro b) | (refine Gd ?_; intro g cap rest hcap) | (refine Gc ?_; intro ad cap)  | (refine Ge ?_ ?_ <;> (intro h; try (exfalso; omega))) | fail)
      all_goals first | (exfalso; omega) | skip
      refine St.d1 Tryz.func33 ⟨_, ⟨rfl, rfl⟩, Ent.go⟩
theorem prV_snoc (l : Prs) (x : Nat × Nat) : (l ++ [x]).flatMap prV = l.flatMap prV ++ [.int .u64 (x.1 : Int), .int .u64 (x.2 : Int)] := by simp [prV]
set_option maxHeartbeats 1000000 in
theorem rwithout_t (H : HProp) (v : Value) (xs : Prs) (key : Nat) (hv : ListR prV H v xs) (hl : xs.length ≤ 1000) : Tri Tryz.prog 34 #[v, .int .u64 (key : Int)] [H]
    fun r L => ∃ ad cap, r = .slice ad (withoutP key xs).length cap ∧ L = [Row (.slice ad (withoutP key xs).length cap) 100 2 (withoutP key xs).length ((withoutP key xs).flatMap prV), H] := by
  obtain ⟨ad0, cap0, rfl, _, hv⟩ := hv
  refine Tri.of_body (vs := [_, _]) Tryz.func34 rfl rfl fun w0 F => ?_
  repeat' (first | refine Ga ?_ | (refine Gb ?_; intro b) | (refine Gd ?_; intro g cap rest hcap) | (refine Gc ?_; intro ad cap)  | (refine Ge ?_ ?_ <;> (intro h; try (exfalso; omega))) | fail)
  revert b; intro B
  refine St.conv ?_ (Sub.refl _) (Ent.row_bl (sz := 2) (n := 0) rfl (by decide))
  refine St.loopY (Lr := ?Lr1) (ι := { x : Nat × Prs × Option Addr × Nat // x.1 ≤ xs.length ∧ x.2.1 = withoutP key (xs.take x.1) }) (fun x => xs.length - x.1.1)
    (fun x => [(6, .int .i64 (x.1.1 : Int)), (5, .slice x.1.2.2.1 x.1.2.1.length x.1.2.2.2)]) (fun x => [Row (.slice x.1.2.2.1 x.1.2.1.length x.1.2.2.2) 100 2 x.1.2.1.length (x.1.2.1.flatMap prV)]) ⟨(0, [], some ⟨B, 0, none⟩, 0), Nat.zero_le _, rfl⟩ ?hE1 ?hL1 ?round1
  case hE1 => exact Sub.go
  case hL1 => exact Takes.go
  case round1 =>
    rintro ⟨⟨i, out, oad, ocap⟩, hi, ho⟩ IH; dsimp only at hi ho IH ⊢
    have hol : out.length ≤ 1000 := by
      have h2 := withoutP_len key (xs.take i)
      rw [ho]; rw [List.length_take] at h2; omega
    by_cases hlt : i < xs.length
    · obtain ⟨bf, o, l, l1, rfl, hrd, hdr, htk⟩ := ListR.at (f := prV) (sz := 2) prV_len hv i hlt
      have ht1 : ¬xs[i].1 = key → out ++ [xs[i]] = withoutP key (xs.take (i + 1)) := fun hne => by
        rw [List.take_succ_eq_append_getElem hlt, ho]
        unfold withoutP
        rw [List.filter_append, List.filter_cons_of_pos (by simpa using hne)]; rfl
      have ht2 : xs[i].1 = key → out = withoutP key (xs.take (i + 1)) := fun he => by
        rw [List.take_succ_eq_append_getElem hlt, ho]
        unfold withoutP
        rw [List.filter_append, List.filter_cons_of_neg (by simpa using he)]; simp
      generalize xs[i] = x at htk ht1 ht2
      obtain ⟨a, b0⟩ := x
      unfold prV at htk
      dsimp only at htk ht1 ht2
      have hnth : NthN (o + (i : Int).toNat * 2) l (.int .u64 (a : Int)) := NthN.part (j := 0) hdr htk (NthN.of rfl)
      by_cases hx : a = key
      · repeat' (first | refine Ga ?_ | (refine Gb ?_; intro b) | (refine Gd ?_; intro g cap rest hcap) | (refine Gc ?_; intro ad cap)  | (refine Ge ?_ ?_ <;> (intro h; try (exfalso; omega))) | fail)
        all_goals first | (exfalso; omega) | skip
        refine IH ⟨(i + 1, out, oad, ocap), hlt, ht2 hx⟩ (by show xs.length - (i + 1) < xs.length - i; omega) ?_ ?_
        · exact Sub.go
        · exact Ent.go
      · repeat' (first | refine Ga ?_ | (refine Gb ?_; intro b) | (refine Gd ?_; intro g cap rest hcap) | (refine Gc ?_; intro ad cap)  | (refine Ge ?_ ?_ <;> (intro h; try (exfalso; omega))) | fail)
        all_goals first | (exfalso; omega) | skip
        refine IH ⟨(i + 1, out ++ [(a, b0)], ad, cap), hlt, ht1 hx⟩ (by show xs.length - (i + 1) < xs.length - i; omega) ?_ ?_
        · dsimp only; rw [List.length_append]; exact Sub.go
        · dsimp only; rw [List.length_append, prV_snoc]; exact Ent.go
    · obtain rfl : i = xs.length := by omega
      rw [List.take_length] at ho
      subst ho
      clear IH
      repeat' (first | refine Ga ?_ | (refine Gb ?_; intro b) | (refine Gd ?_; intro g cap rest hcap) | (refine Gc ?_; intro ad cap)  | (refine Ge ?_ ?_ <;> (intro h; try (exfalso; omega))) | fail)
      all_goals first | (exfalso; omega) | skip
      refine St.d1 Tryz.func34 ⟨_, ⟨oad, ocap, rfl, rfl⟩, Ent.go⟩
end Go.Proofs.YtphheopbngdhhaaGreatDoor
