/-
  Package slices: Insert of one number, walked.
-/
import Derived.Test.YtalgmlhcbilicaaDoorDd
namespace Go.Proofs.YtalgmlhcbilicaaDoor
set_option maxRecDepth 100000
theorem OpV.cap_sl {P : Program} {n' : Fi} {E : Env} {L : List HProp} {ty t e : TypeId} {x : Operand} {ad : Option Addr} {n c : Nat} [hu : Und P t (.slice e)] (hx : ev E x = some (.slice ad n c)) :
    OpV P n' (.call { callee := .builtin .cap, args := ⟨[x]⟩, argTypes := ⟨[t]⟩ }) ty E L (.int .i64 (c : Int)) := by
  unfold OpV
  intro d ps af gd a w ha _
  simp [execOp, resolve, invoke, builtin, ha.ev hx, Builtin.cap_, goInt, run_underlying hu.h]
theorem tlN_lt {g cap i : Nat} (h : i < cap) : tlN (some ⟨g, 0, none⟩) cap i 1 = some ⟨g, i, none⟩ := by
  unfold tlN
  rw [if_neg (by omega)]
  simp only [Option.map, Addr.add, Nat.mul_one]
  split
  · next h0 => rw [h0]
  · rw [Nat.zero_add]
/-- A ++ B: what lies behind A is turned from A's end on -/
theorem over_at {A B cs : List Value} {o m : Nat} (ho : A.length = o) : (A ++ B).take o ++ cs ++ (A ++ B).drop (o + m) = A ++ (cs ++ B.drop m) := by
  subst ho
  rw [List.take_left', List.append_assoc, List.drop_append]
  · rw [List.drop_of_length_le (by omega), List.nil_append, show A.length + m - A.length = m by omega]
  · rfl
set_option maxHeartbeats 2000000 in
theorem insert_t (ad0 : Option Addr) (cp : Nat) (xs : List Nat) (i x vb : Nat) (hi : i ≤ xs.length) (hn : xs.length ≤ 1000) : Tri Tryd.prog 37 #[.slice ad0 xs.length cp, .int .i64 (i : Int), .slice (some ⟨vb, 0, none⟩) 1 1] [Row (.slice ad0 xs.length cp) 25 1 xs.length (u64s xs), bl vb 25 [.int .u64 (x : Int)]]
    fun r L => ∃ ad' cap', r = .slice ad' (xs.length + 1) cap' ∧ L = [Row (.slice ad' (xs.length + 1) cap') 25 1 (xs.length + 1) (u64s (xs.take i ++ x :: xs.drop i))] := by
  by_cases hin : i = xs.length
  · subst hin
    have e : u64s (xs.take xs.length ++ x :: xs.drop xs.length) = u64s xs ++ [.int .u64 (x : Int)] := by rw [List.take_length, List.drop_length, u64s_snoc]
    rw [e]
    refine Tri.of_body (vs := [_, _, _]) Tryd.func37 rfl rfl fun w0 F => ?_
    repeat' (first | refine Ga ?_ | (refine Gb ?_; intro b) | (refine Gd ?_; intro g cap rest hcap) | (refine Gc ?_; intro ad cap) | (refine St.draw (id := 11) [(0, 0), (1, 0), (2, 0), (3, 0), (4, 0), (5, 0), (6, 0), (7, 0), (8, 3)] [8] mixed (by kernel_rfl) ?_) | (refine St.draw (id := 15) [(0, 0), (1, 0), (2, 0), (3, 0), (4, 0), (5, 0), (6, 0), (7, 0), (8, 3)] [8] mixed (by kernel_rfl) ?_) | (refine Ge ?_ ?_ <;> (intro h; try (exfalso; omega))) | fail)
    (apply StL.v; (apply OpV.slLo (i := xs.length); rfl; rfl; omega); rfl)
    repeat' (first | refine Ga ?_ | (refine Gb ?_; intro b) | (refine Gd ?_; intro g cap rest hcap) | (refine Gc ?_; intro ad cap) | (refine St.draw (id := 11) [(0, 0), (1, 0), (2, 0), (3, 0), (4, 0), (5, 0), (6, 0), (7, 0), (8, 3)] [8] mixed (by kernel_rfl) ?_) | (refine St.draw (id := 15) [(0, 0), (1, 0), (2, 0), (3, 0), (4, 0), (5, 0), (6, 0), (7, 0), (8, 3)] [8] mixed (by kernel_rfl) ?_) | (refine Ge ?_ ?_ <;> (intro h; try (exfalso; omega))) | fail)
    all_goals first | (exfalso; omega) | skip
    refine St.d1 Tryd.func37 ⟨_, ⟨ad, cap, rfl, rfl⟩, Ent.go⟩
  have hlt : i < xs.length := by omega
  refine Tri.of_body (vs := [_, _, _]) Tryd.func37 rfl rfl fun w0 F => ?_
  refine St.conv ?_ (Sub.refl _) (Ent.of_take (p := Row (.slice ad0 xs.length cp) 25 1 xs.length (u64s xs)) Take.go)
  refine St.rowF (by omega) fun g lcp rest hv hrf => ?_
  injection hv with hv1 hv2 hv3
  subst hv1 hv3
  have hle := hrf.le
  have htot := hrf.tot
  rw [u64s_len, Nat.mul_one] at htot
  have hll : (u64s xs ++ rest).length = cp := by rw [List.length_append, u64s_len]; exact htot
  have hti := tlN_lt (g := g) (cap := cp) (i := i) (by omega)
  have hone := u64s_one (xs.drop i)
  have hsrc : ∃ r, DropN i (u64s xs ++ rest) r ∧ TakeN (xs.length - i) r (u64s (xs.drop i)) := by
    refine ⟨_, DropN.of (by omega), ?_⟩
    have h1 : TakeN (xs.length - i) ((u64s xs ++ rest).drop i) (((u64s xs ++ rest).drop i).take (xs.length - i)) := TakeN.of (by rw [List.length_drop]; omega)
    rw [List.drop_append_of_le_length (by rw [u64s_len]; omega), u64s_drop, List.take_append_of_le_length (by rw [u64s_len, List.length_drop]; exact Nat.le_refl _), List.take_of_length_le (by rw [u64s_len, List.length_drop]; exact Nat.le_refl _)] at h1
    rw [List.drop_append_of_le_length (by rw [u64s_len]; omega), u64s_drop]
    exact h1
  obtain ⟨r, hdr, htk⟩ := hsrc
  by_cases hroom : cp < xs.length + 1
  · obtain rfl : cp = xs.length := by omega
    repeat' (first | refine Ga ?_ | (refine Gb ?_; intro b) | (refine Gd ?_; intro g cap rest hcap) | (refine Gc ?_; intro ad cap) | (refine St.draw (id := 11) [(0, 0), (1, 0), (2, 0), (3, 0), (4, 0), (5, 0), (6, 0), (7, 0), (8, 3)] [8] mixed (by kernel_rfl) ?_) | (refine St.draw (id := 15) [(0, 0), (1, 0), (2, 0), (3, 0), (4, 0), (5, 0), (6, 0), (7, 0), (8, 3)] [8] mixed (by kernel_rfl) ?_) | (refine Ge ?_ ?_ <;> (intro h; try (exfalso; omega))) | fail)
    (apply StL.v; (apply OpV.slLo (i := i); rfl; rfl; omega); rfl)
    repeat' (first | refine Ga ?_ | (refine Gb ?_; intro b) | (refine Gd ?_; intro g cap rest hcap) | (refine Gc ?_; intro ad cap) | (refine St.draw (id := 11) [(0, 0), (1, 0), (2, 0), (3, 0), (4, 0), (5, 0), (6, 0), (7, 0), (8, 3)] [8] mixed (by kernel_rfl) ?_) | (refine St.draw (id := 15) [(0, 0), (1, 0), (2, 0), (3, 0), (4, 0), (5, 0), (6, 0), (7, 0), (8, 3)] [8] mixed (by kernel_rfl) ?_) | (refine Ge ?_ ?_ <;> (intro h; try (exfalso; omega))) | fail)
    (apply StL.v; (apply OpV.cap_sl; rfl); rfl)
    repeat' (first | refine Ga ?_ | (refine Gb ?_; intro b) | (refine Gd ?_; intro g cap rest hcap) | (refine Gc ?_; intro ad cap) | (refine St.draw (id := 11) [(0, 0), (1, 0), (2, 0), (3, 0), (4, 0), (5, 0), (6, 0), (7, 0), (8, 3)] [8] mixed (by kernel_rfl) ?_) | (refine St.draw (id := 15) [(0, 0), (1, 0), (2, 0), (3, 0), (4, 0), (5, 0), (6, 0), (7, 0), (8, 3)] [8] mixed (by kernel_rfl) ?_) | (refine Ge ?_ ?_ <;> (intro h; try (exfalso; omega))) | fail)
    all_goals first | (exfalso; omega) | skip
    have hmz : ((xs.length : Int) + ((1 : Nat) : Int) - (i : Int)) = ((xs.length + 1 - i : Nat) : Int) := by omega
    (apply StL.ok; (apply OpOk.appendMk (n := i) (m := xs.length + 1 - i); rfl; exact congrArg (fun z => some (Value.int .i64 z)) hmz; exact Take.here; rfl; omega; omega; (rw [hll]; omega); omega; decide); rfl; rintro _ _ ⟨g2, cap2, rest2, rfl, hrf2, rfl⟩)
    have hA : (u64s xs ++ rest).take i = u64s (xs.take i) := by rw [List.take_append_of_le_length (by rw [u64s_len]; omega), u64s_tk]
    have hAl : (u64s (xs.take i)).length = i := by rw [u64s_len, List.length_take]; omega
    have hLn : i + (xs.length + 1 - i) = xs.length + 1 := by omega
    rw [hA] at hrf2
    rw [hLn] at hrf2
    rw [hA, hLn, List.append_assoc (u64s (xs.take i))]
    have hle2 := hrf2.le
    have htot2 := hrf2.tot
    rw [List.length_append, hAl, List.length_replicate, Nat.mul_one] at htot2
    have hti2 := tlN_lt (g := g2) (cap := cap2) (i := i) (by omega)
    have hti3 := tlN_lt (g := g2) (cap := cap2) (i := i + 1) (by omega)
    repeat' (first | refine Ga ?_ | (refine Gb ?_; intro b) | (refine Gd ?_; intro g cap rest hcap) | (refine Gc ?_; intro ad cap) | (refine St.draw (id := 11) [(0, 0), (1, 0), (2, 0), (3, 0), (4, 0), (5, 0), (6, 0), (7, 0), (8, 3)] [8] mixed (by kernel_rfl) ?_) | (refine St.draw (id := 15) [(0, 0), (1, 0), (2, 0), (3, 0), (4, 0), (5, 0), (6, 0), (7, 0), (8, 3)] [8] mixed (by kernel_rfl) ?_) | (refine Ge ?_ ?_ <;> (intro h; try (exfalso; omega))) | fail)
    (apply StL.v; (apply OpV.slLo (i := i); rfl; rfl; omega); rfl)
    repeat' (first | refine Ga ?_ | (refine Gb ?_; intro b) | (refine Gd ?_; intro g cap rest hcap) | (refine Gc ?_; intro ad cap) | (refine St.draw (id := 11) [(0, 0), (1, 0), (2, 0), (3, 0), (4, 0), (5, 0), (6, 0), (7, 0), (8, 3)] [8] mixed (by kernel_rfl) ?_) | (refine St.draw (id := 15) [(0, 0), (1, 0), (2, 0), (3, 0), (4, 0), (5, 0), (6, 0), (7, 0), (8, 3)] [8] mixed (by kernel_rfl) ?_) | (refine Ge ?_ ?_ <;> (intro h; try (exfalso; omega))) | fail)
    (apply StL.ok; (apply OpOk.copyB (o := i) (m := 1); exact congrArg (fun a => some (Value.slice a _ _)) hti2; rfl; exact Take.here; (focus (repeat first | exact ReadsC.here RdC.bl | exact ReadsC.here (by assumption) | apply ReadsC.there)); exact DropN.zero; exact TakeN.succ TakeN.zero; rfl; (show 1 = min 1 _; omega); (rw [List.length_append, List.length_append, hAl, List.length_replicate]; omega)); rfl; rintro _ _ ⟨rfl, rfl⟩)
    rw [over_at hAl]
    have hTl : ((List.replicate (xs.length + 1 - i) (Value.int .u64 0) ++ rest2).drop 1).length = xs.length - i + rest2.length := by
      rw [List.length_drop, List.length_append, List.length_replicate]; omega
    generalize (List.replicate (xs.length + 1 - i) (Value.int .u64 0) ++ rest2).drop 1 = T at hTl ⊢
    rw [← List.append_assoc (u64s (xs.take i)) [Value.int .u64 (x : Int)] T]
    have hA1 : (u64s (xs.take i) ++ [Value.int .u64 (x : Int)]).length = i + 1 := by rw [List.length_append, hAl]; rfl
    repeat' (first | refine Ga ?_ | (refine Gb ?_; intro b) | (refine Gd ?_; intro g cap rest hcap) | (refine Gc ?_; intro ad cap) | (refine St.draw (id := 11) [(0, 0), (1, 0), (2, 0), (3, 0), (4, 0), (5, 0), (6, 0), (7, 0), (8, 3)] [8] mixed (by kernel_rfl) ?_) | (refine St.draw (id := 15) [(0, 0), (1, 0), (2, 0), (3, 0), (4, 0), (5, 0), (6, 0), (7, 0), (8, 3)] [8] mixed (by kernel_rfl) ?_) | (refine Ge ?_ ?_ <;> (intro h; try (exfalso; omega))) | fail)
    (apply StD.v0; rfl; (apply OpV.slLo (i := i + 1); rfl; rfl; omega); rfl)
    repeat' (first | refine Ga ?_ | (refine Gb ?_; intro b) | (refine Gd ?_; intro g cap rest hcap) | (refine Gc ?_; intro ad cap) | (refine St.draw (id := 11) [(0, 0), (1, 0), (2, 0), (3, 0), (4, 0), (5, 0), (6, 0), (7, 0), (8, 3)] [8] mixed (by kernel_rfl) ?_) | (refine St.draw (id := 15) [(0, 0), (1, 0), (2, 0), (3, 0), (4, 0), (5, 0), (6, 0), (7, 0), (8, 3)] [8] mixed (by kernel_rfl) ?_) | (refine Ge ?_ ?_ <;> (intro h; try (exfalso; omega))) | fail)
    (apply StD.v0; rfl; (apply OpV.slLo (i := i); rfl; rfl; omega); rfl)
    (apply StD.ok3; rfl; (apply OpOk.copyB (o := i + 1) (m := xs.length - i); exact congrArg (fun a => some (Value.slice a _ _)) hti3; exact congrArg (fun a => some (Value.slice a _ _)) hti; exact Take.here; (focus (repeat first | exact ReadsC.here RdC.bl | exact ReadsC.here (by assumption) | apply ReadsC.there)); exact hdr; exact htk; exact hone; (show xs.length - i = min (xs.length - i) (xs.length + 1 - (i + 1)); omega); (rw [List.length_append, hA1, hTl]; omega)); rfl; rintro _ _ ⟨rfl, rfl⟩)
    rw [over_at hA1]
    repeat' (first | refine Ga ?_ | (refine Gb ?_; intro b) | (refine Gd ?_; intro g cap rest hcap) | (refine Gc ?_; intro ad cap) | (refine St.draw (id := 11) [(0, 0), (1, 0), (2, 0), (3, 0), (4, 0), (5, 0), (6, 0), (7, 0), (8, 3)] [8] mixed (by kernel_rfl) ?_) | (refine St.draw (id := 15) [(0, 0), (1, 0), (2, 0), (3, 0), (4, 0), (5, 0), (6, 0), (7, 0), (8, 3)] [8] mixed (by kernel_rfl) ?_) | (refine Ge ?_ ?_ <;> (intro h; try (exfalso; omega))) | fail)
    refine St.d1 Tryd.func37 ⟨_, ⟨some ⟨g2, 0, none⟩, cap2, rfl, rfl⟩, ?_⟩
    rw [show (u64s (xs.take i) ++ [Value.int .u64 (x : Int)]) ++ (u64s (xs.drop i) ++ T.drop (xs.length - i)) = u64s (xs.take i ++ x :: xs.drop i) ++ T.drop (xs.length - i) by simp [u64s]]
    refine Ent.trans (Ent.rowF (n := xs.length + 1) (cap := cap2) (sz := 1) ⟨hle2, hrf2.max, ?_, ?_⟩) Ent.go
    · rw [u64s_len, List.length_append, List.length_cons, List.length_take, List.length_drop]; omega
    · rw [u64s_len, List.length_append, List.length_cons, List.length_take, List.length_drop, List.length_drop, hTl]; omega
  · repeat' (first | refine Ga ?_ | (refine Gb ?_; intro b) | (refine Gd ?_; intro g cap rest hcap) | (refine Gc ?_; intro ad cap) | (refine St.draw (id := 11) [(0, 0), (1, 0), (2, 0), (3, 0), (4, 0), (5, 0), (6, 0), (7, 0), (8, 3)] [8] mixed (by kernel_rfl) ?_) | (refine St.draw (id := 15) [(0, 0), (1, 0), (2, 0), (3, 0), (4, 0), (5, 0), (6, 0), (7, 0), (8, 3)] [8] mixed (by kernel_rfl) ?_) | (refine Ge ?_ ?_ <;> (intro h; try (exfalso; omega))) | fail)
    (apply StL.v; (apply OpV.slLo (i := i); rfl; rfl; omega); rfl)
    repeat' (first | refine Ga ?_ | (refine Gb ?_; intro b) | (refine Gd ?_; intro g cap rest hcap) | (refine Gc ?_; intro ad cap) | (refine St.draw (id := 11) [(0, 0), (1, 0), (2, 0), (3, 0), (4, 0), (5, 0), (6, 0), (7, 0), (8, 3)] [8] mixed (by kernel_rfl) ?_) | (refine St.draw (id := 15) [(0, 0), (1, 0), (2, 0), (3, 0), (4, 0), (5, 0), (6, 0), (7, 0), (8, 3)] [8] mixed (by kernel_rfl) ?_) | (refine Ge ?_ ?_ <;> (intro h; try (exfalso; omega))) | fail)
    (apply StL.v; (apply OpV.cap_sl; rfl); rfl)
    repeat' (first | refine Ga ?_ | (refine Gb ?_; intro b) | (refine Gd ?_; intro g cap rest hcap) | (refine Gc ?_; intro ad cap) | (refine St.draw (id := 11) [(0, 0), (1, 0), (2, 0), (3, 0), (4, 0), (5, 0), (6, 0), (7, 0), (8, 3)] [8] mixed (by kernel_rfl) ?_) | (refine St.draw (id := 15) [(0, 0), (1, 0), (2, 0), (3, 0), (4, 0), (5, 0), (6, 0), (7, 0), (8, 3)] [8] mixed (by kernel_rfl) ?_) | (refine Ge ?_ ?_ <;> (intro h; try (exfalso; omega))) | fail)
    all_goals first | (exfalso; omega) | skip
    have hT : ((xs.length : Int) + ((1 : Nat) : Int)).toNat = xs.length + 1 := by omega
    have hti1 := tlN_lt (g := g) (cap := cp) (i := i + 1) (by omega)
    rw [hT]
    (apply StL.v; (apply OpV.slLo (i := i + 1); rfl; rfl; omega); rfl)
    (apply StL.ok; exact OpOk.overl (fn := Tryd.f49) (tS := 26) (tR := 4) Tryd.func49 (by kernel_rfl) rfl (by kernel_rfl) (by kernel_rfl) rfl (congrArg (fun a => some (Value.slice a _ _)) hti1) (.there .here) .here (fun h => by have := congrArg List.length h; rw [hll] at this; simp at this; omega); rfl; rintro _ _ ⟨rfl, rfl⟩)
    have hAl : (u64s (xs.take i)).length = i := by rw [u64s_len, List.length_take]; omega
    obtain ⟨y, hB⟩ : ∃ y, (u64s xs ++ rest).take (i + 1) = u64s (xs.take i) ++ [y] := by
      refine ⟨.int .u64 (xs[i] : Int), ?_⟩
      rw [List.take_append_of_le_length (by rw [u64s_len]; omega), u64s_tk, List.take_succ_eq_append_getElem hlt, u64s_snoc]
    have hR : (u64s xs ++ rest).drop (i + 1 + (xs.length - i)) = rest.drop 1 := by
      rw [List.drop_append, List.drop_of_length_le (by rw [u64s_len]; omega), List.nil_append, u64s_len, show i + 1 + (xs.length - i) - xs.length = 1 by omega]
    repeat' (first | refine Ga ?_ | (refine Gb ?_; intro b) | (refine Gd ?_; intro g cap rest hcap) | (refine Gc ?_; intro ad cap) | (refine St.draw (id := 11) [(0, 0), (1, 0), (2, 0), (3, 0), (4, 0), (5, 0), (6, 0), (7, 0), (8, 3)] [8] mixed (by kernel_rfl) ?_) | (refine St.draw (id := 15) [(0, 0), (1, 0), (2, 0), (3, 0), (4, 0), (5, 0), (6, 0), (7, 0), (8, 3)] [8] mixed (by kernel_rfl) ?_) | (refine Ge ?_ ?_ <;> (intro h; try (exfalso; omega))) | fail)
    all_goals first | (exfalso; omega) | skip
    (apply StD.v0; rfl; (apply OpV.slLo (i := i + 1); rfl; rfl; omega); rfl)
    repeat' (first | refine Ga ?_ | (refine Gb ?_; intro b) | (refine Gd ?_; intro g cap rest hcap) | (refine Gc ?_; intro ad cap) | (refine St.draw (id := 11) [(0, 0), (1, 0), (2, 0), (3, 0), (4, 0), (5, 0), (6, 0), (7, 0), (8, 3)] [8] mixed (by kernel_rfl) ?_) | (refine St.draw (id := 15) [(0, 0), (1, 0), (2, 0), (3, 0), (4, 0), (5, 0), (6, 0), (7, 0), (8, 3)] [8] mixed (by kernel_rfl) ?_) | (refine Ge ?_ ?_ <;> (intro h; try (exfalso; omega))) | fail)
    (apply StD.v0; rfl; (apply OpV.slLo (i := i); rfl; rfl; omega); rfl)
    have hdr' := hdr
    (apply StD.ok3; rfl; (apply OpOk.copyB (o := i + 1) (m := xs.length - i); exact congrArg (fun a => some (Value.slice a _ _)) hti1; exact congrArg (fun a => some (Value.slice a _ _)) hti; exact Take.here; exact ReadsC.here RdC.bl; exact hdr; exact htk; exact hone; (show xs.length - i = min (xs.length + 1 - i) (xs.length + 1 - (i + 1)); omega); (rw [hll]; omega)); rfl; rintro _ _ ⟨rfl, rfl⟩)
    rw [hB, hR, List.append_assoc (u64s (xs.take i) ++ [y]), List.append_assoc (u64s (xs.take i))]
    repeat' (first | refine Ga ?_ | (refine Gb ?_; intro b) | (refine Gd ?_; intro g cap rest hcap) | (refine Gc ?_; intro ad cap) | (refine St.draw (id := 11) [(0, 0), (1, 0), (2, 0), (3, 0), (4, 0), (5, 0), (6, 0), (7, 0), (8, 3)] [8] mixed (by kernel_rfl) ?_) | (refine St.draw (id := 15) [(0, 0), (1, 0), (2, 0), (3, 0), (4, 0), (5, 0), (6, 0), (7, 0), (8, 3)] [8] mixed (by kernel_rfl) ?_) | (refine Ge ?_ ?_ <;> (intro h; try (exfalso; omega))) | fail)
    (apply StL.v; (apply OpV.slLo (i := i); rfl; rfl; omega); rfl)
    repeat' (first | refine Ga ?_ | (refine Gb ?_; intro b) | (refine Gd ?_; intro g cap rest hcap) | (refine Gc ?_; intro ad cap) | (refine St.draw (id := 11) [(0, 0), (1, 0), (2, 0), (3, 0), (4, 0), (5, 0), (6, 0), (7, 0), (8, 3)] [8] mixed (by kernel_rfl) ?_) | (refine St.draw (id := 15) [(0, 0), (1, 0), (2, 0), (3, 0), (4, 0), (5, 0), (6, 0), (7, 0), (8, 3)] [8] mixed (by kernel_rfl) ?_) | (refine Ge ?_ ?_ <;> (intro h; try (exfalso; omega))) | fail)
    (apply StL.ok; (apply OpOk.copyB (o := i) (m := 1); exact congrArg (fun a => some (Value.slice a _ _)) hti; rfl; exact Take.here; (focus (repeat first | exact ReadsC.here RdC.bl | exact ReadsC.here (by assumption) | apply ReadsC.there)); exact DropN.zero; exact TakeN.succ TakeN.zero; rfl; (show 1 = min 1 _; omega); (rw [List.length_append, hAl]; simp)); rfl; rintro _ _ ⟨rfl, rfl⟩)
    rw [over_at hAl]
    repeat' (first | refine Ga ?_ | (refine Gb ?_; intro b) | (refine Gd ?_; intro g cap rest hcap) | (refine Gc ?_; intro ad cap) | (refine St.draw (id := 11) [(0, 0), (1, 0), (2, 0), (3, 0), (4, 0), (5, 0), (6, 0), (7, 0), (8, 3)] [8] mixed (by kernel_rfl) ?_) | (refine St.draw (id := 15) [(0, 0), (1, 0), (2, 0), (3, 0), (4, 0), (5, 0), (6, 0), (7, 0), (8, 3)] [8] mixed (by kernel_rfl) ?_) | (refine Ge ?_ ?_ <;> (intro h; try (exfalso; omega))) | fail)
    refine St.d1 Tryd.func37 ⟨_, ⟨some ⟨g, 0, none⟩, cp, rfl, rfl⟩, ?_⟩
    rw [show u64s (xs.take i) ++ ([Value.int .u64 (x : Int)] ++ ([y] ++ (u64s (xs.drop i) ++ rest.drop 1)).drop 1) = u64s (xs.take i ++ x :: xs.drop i) ++ rest.drop 1 by simp [u64s]]
    refine Ent.trans (Ent.rowF (n := xs.length + 1) (cap := cp) (sz := 1) ⟨by omega, hrf.max, ?_, ?_⟩) Ent.go
    · rw [u64s_len, List.length_append, List.length_cons, List.length_take, List.length_drop]; omega
    · rw [u64s_len, List.length_append, List.length_cons, List.length_take, List.length_drop, List.length_drop]; omega
end Go.Proofs.YtalgmlhcbilicaaDoor
