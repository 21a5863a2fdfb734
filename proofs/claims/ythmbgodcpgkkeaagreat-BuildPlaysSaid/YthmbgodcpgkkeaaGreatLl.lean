/-
  Package tumblerref08: Put.
-/
import Derived.Test.YthmbgodcpgkkeaaGreatLk
namespace Go.Proofs.YthmbgodcpgkkeaaGreat
set_option maxRecDepth 100000
/-- an assertion that holds more -/
def Gr (q q' : HProp) : Prop := (∀ M : List HProp, Ent (q' :: M) (q :: M)) ∧ ∀ b l, RdC q b l → RdC q' b l
theorem Gr.refl (q : HProp) : Gr q q := ⟨fun _ => Ent.refl _, fun _ _ h => h⟩
theorem Gr.trans {a b c : HProp} (h : Gr a b) (g : Gr b c) : Gr a c := ⟨fun M => Ent.trans (g.1 M) (h.1 M), fun x l k => g.2 x l (h.2 x l k)⟩
theorem Gr.star (R q : HProp) : Gr q (star [q, R]) := ⟨fun _ => Ent.trans Ent.star_out (Ent.cons (Ent.skip (L := [R]) (Ent.refl _))), fun _ _ h => RdC.star (L := [q, R]) (List.mem_cons_self ..) h⟩
theorem ListR.gr {α : Type} {f : α → List Value} {q q' : HProp} {v : Value} {xs : List α} (h : ListR f q v xs) (g : Gr q q') : ListR f q' v xs := h.weak g.2
theorem StD.skip2 {P : Program} {C : Cx} {k : List Item} {E : Env} {L L0 : List HProp} {T : Then} {ops : Array Oper} {r : List (Nat × Nat)} {i : Nat} {op : Op} {ty : TypeId} {ps : String} {af : Array Edge} {d : Tmp} {j t : Nat} {b want : Bool} (hi : ops[i]? = some ⟨some d, op, ty, ps, af, some (j, want)⟩) (hj : (ops[j]?).bind (·.dst) = some t) (hb : get E t = some (.bool b)) (hne : (b == want) = false) (hd : inF C.nt (some d) = true)
    (h : StD P C ops L0 T r k ((d, undef) :: E) L) : StD P C ops L0 T ((i, 2) :: r) k E L := by
  unfold StD at *
  intro a hp ha hs
  have hy : yielded ops a.tmps j = some b := by
    simp only [yielded, hj, Option.bind_some]
    rw [ha.at_ t _ hb]
  simp only [runA, hi]
  intro w hk _
  simp only [wpOp, hi]
  rw [if_neg (by simp only [Region.wanted, hy]; cases b <;> cases want <;> simp_all)]
  exact ⟨hp, ⟨hk, Old.refl w, fun _ _ hw hn => ⟨hw, hn⟩⟩, id, h _ hp (ha.put hd undef) hs⟩
theorem StD.gcallt2 {P : Program} {C : Cx} {k : List Item} {E : Env} {L L0 : List HProp} {T : Then} {ops : Array Oper} {r : List (Nat × Nat)} {i : Nat} {op : Op} {ty : TypeId} {ps : String} {af : Array Edge} {d : Option Tmp} {j t : Nat} {b : Bool} {g : FuncId} {vs : Array Value} {L1 F1 : List HProp} {Φ : Value → List HProp → Prop} (hi : ops[i]? = some ⟨d, op, ty, ps, af, some (j, b)⟩) (hj : (ops[j]?).bind (·.dst) = some t) (hb : get E t = some (.bool b)) (hop : OpC P C.nt op ty E g vs) (ht : Tri P g vs L1 Φ) (qL : Ent L (L1 ++ F1) ∧ inF C.nt d = true)
    (h : ∀ v L', Φ v L' → Ent (L' ++ F1) L0 ∧ StD P C ops L0 T r k (putE E d v) (L' ++ F1)) : StD P C ops L0 T ((i, 2) :: r) k E L := by
  unfold StD at *
  have hL := qL.1
  unfold OpC at hop
  unfold Tri at ht
  unfold Ent at hL
  intro a hp ha hs
  have hy : yielded ops a.tmps j = some b := by
    simp only [yielded, hj, Option.bind_some]
    rw [ha.at_ t _ hb]
  simp only [runA, hi]
  intro w hk hold
  simp only [wpOp, hi]
  rw [if_pos (by simp [Region.wanted, hy])]
  refine .inl ?_
  unfold Oper.wp
  rw [hop _ _ _ _ a w ha, Oper.upon_enter]
  have hs1 := sat_beside (hL _ hs) hk
  rw [List.append_assoc] at hs1
  refine (ht w _ hs1).mono fun e w' ⟨v, L', he, hq, hs', ho'⟩ => ?_
  subst he
  rw [← List.append_assoc] at hs'
  obtain ⟨h', hf, hs2⟩ := frame_beside ho' hs'
  have h1 := (h v L' hq).1
  unfold Ent at h1
  exact ⟨h', hf, fun _ => (h1 _ hs2).known hf.known, (h v L' hq).2 _ h' (ha.put qL.2 _) hs2⟩
theorem readsC_mem {q : HProp} {b : Nat} {l : List Value} (h : RdC q b l) : ∀ {L : List HProp}, q ∈ L → ReadsC L b l
  | [], hq => by cases hq
  | p :: L, hq => by
    rcases List.mem_cons.1 hq with rfl | hq
    · exact .here h
    · exact .there (readsC_mem h hq)
theorem ent_one (puts : List (Int × Nat)) : (puts.flatMap entV).all one = true := by
  induction puts with
  | nil => rfl
  | cons x l ih => rw [List.flatMap_cons, List.all_append, ih]; rfl
/-- append([]Entry{}, x...) -/
theorem OpOk.appendEnt {n' : Fi} {E : Env} {L L1 : List HProp} {ty : TypeId} {s x : Operand} {g0 : Nat} {v : Value} {puts : List (Int × Nat)} {q : HProp} (hl : ListR entV q v puts) (hll : puts.length ≤ 1000000) (hq : q ∈ L) (hv : ev E s = some (.slice (some ⟨g0, 0, none⟩) 0 0)) (hx : ev E x = some v) (ht : Take (bl g0 225 []) L L1) :
    OpOk Tryz.prog n' (.call { callee := .builtin .append, args := ⟨[s, x]⟩, argTypes := ⟨[59, 59]⟩ }) ty E L (fun v' L' => ∃ ad cap, v' = .slice ad puts.length cap ∧ L' = Row (.slice ad puts.length cap) 225 2 puts.length (puts.flatMap entV) :: L1) := by
  obtain ⟨ad, cap, rfl, hc, h⟩ := hl
  rcases h with h0 | ⟨b, o, l, rest, rfl, hr, hd⟩
  · have hnil : puts = [] := List.eq_nil_of_length_eq_zero h0
    subst hnil
    unfold OpOk
    intro d ps af g a w ha X hsat
    have hr := Ent.row_bl (b := g0) (e := 225) (sz := 2) (n := 0) (l := []) (L := L1 ++ X) (by simp) (Nat.zero_le _)
    unfold Ent at hr
    have hs0 := hr _ ((ht.app X).sat hsat)
    have hop := OpOk.append0 (P := Tryz.prog) (n' := n') (ty := ty) (t := 59) (L := Row (.slice (some ⟨g0, 0, none⟩) 0 0) 225 2 0 [] :: L1) hv hx Take.here
    unfold OpOk at hop
    obtain ⟨v, w2, L', hrun, ⟨h1, h2⟩, hs', ho'⟩ := hop d ps af g a w ha X hs0
    exact ⟨v, w2, L', hrun, ⟨_, _, h1, h2⟩, hs', ho'⟩
  · exact OpOk.appendC (r := puts.flatMap entV ++ rest) hv hx ht (readsC_mem hr hq) hd (by rw [← flat_len entV_len]; exact TakeN.app _ _) (ent_one puts) rfl rfl (by omega) (by omega)
section
set_option maxHeartbeats 400000 in
theorem rput_t {q : HProp} {lv : Value} {puts : List (Int × Nat)} (hl : ListR entV q lv puts) (hll : puts.length ≤ 1000000) (room : Nat) (_hroom : room ≤ 1000000) (a : Int) (x : Nat) : Tri Tryz.prog 190 #[.agg ⟨[.int .i64 (room : Int), lv]⟩, .int .i64 a, .int .u64 (x : Int)] [q]
    fun r L => ∃ q' lv', Gr q q' ∧ ListR entV q' lv' (putP room puts a x) ∧ r = .tuple ⟨[.agg ⟨[.int .i64 (room : Int), lv']⟩, .int .i64 (putR room puts a)]⟩ ∧ L = [q'] := by
  have hget := rget_r hl hll room a
  have hall := rall_t hl hll room
  have hal := allP_le puts
  obtain ⟨lad, lcap, rfl, hlc, _⟩ := id hl
  unfold putP putR
  cases hm : mget (allP puts) a with
  | some y =>
    rw [hm] at hget
    dsimp only [Option.isSome, Option.getD] at hget
    rw [if_neg (fun e => by cases e.1), if_neg (fun e => by cases e.1)]
    refine Tri.of_body (vs := [_, _, _]) Tryz.func190 rfl rfl fun w0 F => ?_
    repeat' (first | refine St.halt 4 ?_ |refine Ga ?_ | (refine Gb ?_; intro b) | (refine Gd ?_; intro g cap rest hcap) | (refine Gc ?_; intro ad cap) | (refine St.draw (id := 2) [(0, 0), (1, 0), (2, 0), (3, 0), (4, 1), (5, 0), (6, 0), (7, 1), (8, 0), (9, 0), (10, 0), (11, 1), (14, 0), (15, 1), (12, 2), (13, 0), (16, 0), (17, 0)] [] mixed (by kernel_rfl) ?_) | apply StD.pick | exact StD.nope  | (refine StD.skip2 (by rfl) (by rfl) (by rfl) (by rfl) (by rfl) ?_) | (apply StD.gcallt2; rfl; rfl; rfl; exact Og; exact hall; exact Oh; rintro _ _ ⟨aad, acap, rfl, rfl⟩; refine ⟨Ent.go, ?_⟩)| refine Gl hget ?_ | (refine Gt hall ?_; rintro _ _ ⟨aad, acap, rfl, rfl⟩) | (refine Gu hall ?_; rintro _ _ ⟨aad, acap, rfl, rfl⟩; refine ⟨Ent.go, ?_⟩) | (apply Zq; rfl; exact Ob; exact Ent.go) | (refine Ge ?_ ?_ <;> (intro h; try (exfalso; omega))) | fail)
    all_goals first | (exfalso; omega) | skip
    refine Halt.go ?_
    repeat' (first | refine Ga ?_ | (refine Gb ?_; intro b) | (refine Gd ?_; intro g cap rest hcap) | (refine Gc ?_; intro ad cap) | (refine St.drawT (id := 4) [(0, 0), (3, 0), (4, 1), (6, 0), (7, 0), (8, 0)] (.pick [(1, 2)] (.pick [(2, 2)] (.pick [(5, 3), (9, 2), (10, 3), (11, 0), (12, 3), (13, 0)] .done (.pick [(9, 2), (5, 3), (10, 3), (11, 0), (12, 3), (13, 0)] .done .nope)) (.pick [(9, 2), (2, 2), (5, 3), (10, 3), (11, 0), (12, 3), (13, 0)] .done .nope)) (.pick [(2, 2)] (.pick [(1, 2)] (.pick [(5, 3), (9, 2), (10, 3), (11, 0), (12, 3), (13, 0)] .done (.pick [(9, 2), (5, 3), (10, 3), (11, 0), (12, 3), (13, 0)] .done .nope)) (.pick [(5, 3)] (.pick [(1, 2), (9, 2), (10, 3), (11, 0), (12, 3), (13, 0)] .done (.pick [(9, 2)] (.pick [(1, 2), (10, 3), (11, 0), (12, 3), (13, 0)] .done (.pick [(10, 3), (1, 2), (11, 0), (12, 3), (13, 0)] .done .nope)) .nope)) (.pick [(9, 2)] (.pick [(1, 2), (5, 3), (10, 3), (11, 0), (12, 3), (13, 0)] .done (.pick [(5, 3)] (.pick [(1, 2), (10, 3), (11, 0), (12, 3), (13, 0)] .done (.pick [(10, 3), (1, 2), (11, 0), (12, 3), (13, 0)] .done .nope)) .nope)) .nope))) (.pick [(9, 2)] (.pick [(1, 2), (2, 2), (5, 3), (10, 3), (11, 0), (12, 3), (13, 0)] .done (.pick [(2, 2)] (.pick [(1, 2), (5, 3), (10, 3), (11, 0), (12, 3), (13, 0)] .done (.pick [(5, 3)] (.pick [(1, 2), (10, 3), (11, 0), (12, 3), (13, 0)] .done (.pick [(10, 3), (1, 2), (11, 0), (12, 3), (13, 0)] .done .nope)) .nope)) .nope)) .nope))) [5, 10, 12] mixed (by kernel_rfl) ?_) | apply StD.pick | exact StD.nope  | (apply Zq; rfl; exact Ob; exact Ent.go) | (refine Ge ?_ ?_ <;> (intro h; try (exfalso; omega))) | fail)
    all_goals (apply StD.ok3; rfl; (apply OpOk.appendEnt hl hll; (simp); rfl; rfl; (focus (repeat first | exact Take.here | apply Take.there))); rfl; rintro _ _ ⟨ad1, cap1, rfl, rfl⟩)
    repeat' (first | refine Ga ?_ | (refine Gb ?_; intro b) | (refine Gd ?_; intro g cap rest hcap) | (refine Gc ?_; intro ad cap) | apply StD.pick | exact StD.nope  | (apply Zq; rfl; exact Ob; exact Ent.go) | (refine Ge ?_ ?_ <;> (intro h; try (exfalso; omega))) | fail)
    all_goals
      rw [show (puts.flatMap entV ++ [Value.int .i64 a, .int .u64 (x : Int)]) = (puts ++ [(a, x)]).flatMap entV by rw [List.flatMap_append]; rfl]
      refine St.rowL (by rw [List.length_append]; rfl) fun R hR => ?_
      refine St.conv ?_ (Sub.refl _) (Ent.trans (Ent.of_take (p := q) Take.go) (Ent.star_in [q, R]))
      exact St.d1 Tryz.func190 ⟨_, ⟨star [q, R], _, Gr.star R q, hR.weak fun b l h => RdC.star (L := [q, R]) (List.mem_cons_of_mem _ (List.mem_cons_self ..)) h, rfl, rfl⟩, Ent.go⟩
  | none =>
    rw [hm] at hget
    dsimp only [Option.isSome, Option.getD] at hget
    by_cases h2 : room ≤ (allP puts).length
    · rw [if_pos ⟨rfl, h2⟩, if_pos ⟨rfl, h2⟩]
      refine Tri.of_body (vs := [_, _, _]) Tryz.func190 rfl rfl fun w0 F => ?_
      repeat' (first | refine Ga ?_ | (refine Gb ?_; intro b) | (refine Gd ?_; intro g cap rest hcap) | (refine Gc ?_; intro ad cap) | (refine St.draw (id := 2) [(0, 0), (1, 0), (2, 0), (3, 0), (4, 1), (5, 0), (6, 0), (7, 1), (8, 0), (9, 0), (10, 0), (11, 1), (14, 0), (15, 1), (12, 2), (13, 0), (16, 0), (17, 0)] [] mixed (by kernel_rfl) ?_) | apply StD.pick | exact StD.nope  | (refine StD.skip2 (by rfl) (by rfl) (by rfl) (by rfl) (by rfl) ?_) | (apply StD.gcallt2; rfl; rfl; rfl; exact Og; exact hall; exact Oh; rintro _ _ ⟨aad, acap, rfl, rfl⟩; refine ⟨Ent.go, ?_⟩)| refine Gl hget ?_ | (refine Gt hall ?_; rintro _ _ ⟨aad, acap, rfl, rfl⟩) | (refine Gu hall ?_; rintro _ _ ⟨aad, acap, rfl, rfl⟩; refine ⟨Ent.go, ?_⟩) | (apply Zq; rfl; exact Ob; exact Ent.go) | (refine Ge ?_ ?_ <;> (intro h; try (exfalso; omega))) | fail)
      all_goals first | (exfalso; omega) | skip
      exact St.d1 Tryz.func190 ⟨_, ⟨q, _, Gr.refl q, hl, rfl, rfl⟩, Ent.go⟩
    · rw [if_neg (fun e => h2 e.2), if_neg (fun e => h2 e.2)]
      by_cases h1 : room ≤ puts.length
      · skip
        refine Tri.of_body (vs := [_, _, _]) Tryz.func190 rfl rfl fun w0 F => ?_
        repeat' (first | refine St.halt 4 ?_ |refine Ga ?_ | (refine Gb ?_; intro b) | (refine Gd ?_; intro g cap rest hcap) | (refine Gc ?_; intro ad cap) | (refine St.draw (id := 2) [(0, 0), (1, 0), (2, 0), (3, 0), (4, 1), (5, 0), (6, 0), (7, 1), (8, 0), (9, 0), (10, 0), (11, 1), (14, 0), (15, 1), (12, 2), (13, 0), (16, 0), (17, 0)] [] mixed (by kernel_rfl) ?_) | apply StD.pick | exact StD.nope  | (refine StD.skip2 (by rfl) (by rfl) (by rfl) (by rfl) (by rfl) ?_) | (apply StD.gcallt2; rfl; rfl; rfl; exact Og; exact hall; exact Oh; rintro _ _ ⟨aad, acap, rfl, rfl⟩; refine ⟨Ent.go, ?_⟩)| refine Gl hget ?_ | (refine Gt hall ?_; rintro _ _ ⟨aad, acap, rfl, rfl⟩) | (refine Gu hall ?_; rintro _ _ ⟨aad, acap, rfl, rfl⟩; refine ⟨Ent.go, ?_⟩) | (apply Zq; rfl; exact Ob; exact Ent.go) | (refine Ge ?_ ?_ <;> (intro h; try (exfalso; omega))) | fail)
        all_goals first | (exfalso; omega) | skip
        refine Halt.go ?_
        repeat' (first | refine Ga ?_ | (refine Gb ?_; intro b) | (refine Gd ?_; intro g cap rest hcap) | (refine Gc ?_; intro ad cap) | (refine St.drawT (id := 4) [(0, 0), (3, 0), (4, 1), (6, 0), (7, 0), (8, 0)] (.pick [(1, 2)] (.pick [(2, 2)] (.pick [(5, 3), (9, 2), (10, 3), (11, 0), (12, 3), (13, 0)] .done (.pick [(9, 2), (5, 3), (10, 3), (11, 0), (12, 3), (13, 0)] .done .nope)) (.pick [(9, 2), (2, 2), (5, 3), (10, 3), (11, 0), (12, 3), (13, 0)] .done .nope)) (.pick [(2, 2)] (.pick [(1, 2)] (.pick [(5, 3), (9, 2), (10, 3), (11, 0), (12, 3), (13, 0)] .done (.pick [(9, 2), (5, 3), (10, 3), (11, 0), (12, 3), (13, 0)] .done .nope)) (.pick [(5, 3)] (.pick [(1, 2), (9, 2), (10, 3), (11, 0), (12, 3), (13, 0)] .done (.pick [(9, 2)] (.pick [(1, 2), (10, 3), (11, 0), (12, 3), (13, 0)] .done (.pick [(10, 3), (1, 2), (11, 0), (12, 3), (13, 0)] .done .nope)) .nope)) (.pick [(9, 2)] (.pick [(1, 2), (5, 3), (10, 3), (11, 0), (12, 3), (13, 0)] .done (.pick [(5, 3)] (.pick [(1, 2), (10, 3), (11, 0), (12, 3), (13, 0)] .done (.pick [(10, 3), (1, 2), (11, 0), (12, 3), (13, 0)] .done .nope)) .nope)) .nope))) (.pick [(9, 2)] (.pick [(1, 2), (2, 2), (5, 3), (10, 3), (11, 0), (12, 3), (13, 0)] .done (.pick [(2, 2)] (.pick [(1, 2), (5, 3), (10, 3), (11, 0), (12, 3), (13, 0)] .done (.pick [(5, 3)] (.pick [(1, 2), (10, 3), (11, 0), (12, 3), (13, 0)] .done (.pick [(10, 3), (1, 2), (11, 0), (12, 3), (13, 0)] .done .nope)) .nope)) .nope)) .nope))) [5, 10, 12] mixed (by kernel_rfl) ?_) | apply StD.pick | exact StD.nope  | (apply Zq; rfl; exact Ob; exact Ent.go) | (refine Ge ?_ ?_ <;> (intro h; try (exfalso; omega))) | fail)
        all_goals (apply StD.ok3; rfl; (apply OpOk.appendEnt hl hll; (simp); rfl; rfl; (focus (repeat first | exact Take.here | apply Take.there))); rfl; rintro _ _ ⟨ad1, cap1, rfl, rfl⟩)
        repeat' (first | refine Ga ?_ | (refine Gb ?_; intro b) | (refine Gd ?_; intro g cap rest hcap) | (refine Gc ?_; intro ad cap) | apply StD.pick | exact StD.nope  | (apply Zq; rfl; exact Ob; exact Ent.go) | (refine Ge ?_ ?_ <;> (intro h; try (exfalso; omega))) | fail)
        all_goals
          rw [show (puts.flatMap entV ++ [Value.int .i64 a, .int .u64 (x : Int)]) = (puts ++ [(a, x)]).flatMap entV by rw [List.flatMap_append]; rfl]
          refine St.rowL (by rw [List.length_append]; rfl) fun R hR => ?_
          refine St.conv ?_ (Sub.refl _) (Ent.trans (Ent.of_take (p := q) Take.go) (Ent.star_in [q, R]))
          exact St.d1 Tryz.func190 ⟨_, ⟨star [q, R], _, Gr.star R q, hR.weak fun b l h => RdC.star (L := [q, R]) (List.mem_cons_of_mem _ (List.mem_cons_self ..)) h, rfl, rfl⟩, Ent.go⟩
      · skip
        refine Tri.of_body (vs := [_, _, _]) Tryz.func190 rfl rfl fun w0 F => ?_
        repeat' (first | refine St.halt 4 ?_ |refine Ga ?_ | (refine Gb ?_; intro b) | (refine Gd ?_; intro g cap rest hcap) | (refine Gc ?_; intro ad cap) | (refine St.draw (id := 2) [(0, 0), (1, 0), (2, 0), (3, 0), (4, 1), (5, 0), (6, 0), (7, 1), (8, 0), (9, 0), (10, 0), (11, 1), (14, 0), (15, 1), (12, 2), (13, 0), (16, 0), (17, 0)] [] mixed (by kernel_rfl) ?_) | apply StD.pick | exact StD.nope  | (refine StD.skip2 (by rfl) (by rfl) (by rfl) (by rfl) (by rfl) ?_) | (apply StD.gcallt2; rfl; rfl; rfl; exact Og; exact hall; exact Oh; rintro _ _ ⟨aad, acap, rfl, rfl⟩; refine ⟨Ent.go, ?_⟩)| refine Gl hget ?_ | (refine Gt hall ?_; rintro _ _ ⟨aad, acap, rfl, rfl⟩) | (refine Gu hall ?_; rintro _ _ ⟨aad, acap, rfl, rfl⟩; refine ⟨Ent.go, ?_⟩) | (apply Zq; rfl; exact Ob; exact Ent.go) | (refine Ge ?_ ?_ <;> (intro h; try (exfalso; omega))) | fail)
        all_goals first | (exfalso; omega) | skip
        refine Halt.go ?_
        repeat' (first | refine Ga ?_ | (refine Gb ?_; intro b) | (refine Gd ?_; intro g cap rest hcap) | (refine Gc ?_; intro ad cap) | (refine St.drawT (id := 4) [(0, 0), (3, 0), (4, 1), (6, 0), (7, 0), (8, 0)] (.pick [(1, 2)] (.pick [(2, 2)] (.pick [(5, 3), (9, 2), (10, 3), (11, 0), (12, 3), (13, 0)] .done (.pick [(9, 2), (5, 3), (10, 3), (11, 0), (12, 3), (13, 0)] .done .nope)) (.pick [(9, 2), (2, 2), (5, 3), (10, 3), (11, 0), (12, 3), (13, 0)] .done .nope)) (.pick [(2, 2)] (.pick [(1, 2)] (.pick [(5, 3), (9, 2), (10, 3), (11, 0), (12, 3), (13, 0)] .done (.pick [(9, 2), (5, 3), (10, 3), (11, 0), (12, 3), (13, 0)] .done .nope)) (.pick [(5, 3)] (.pick [(1, 2), (9, 2), (10, 3), (11, 0), (12, 3), (13, 0)] .done (.pick [(9, 2)] (.pick [(1, 2), (10, 3), (11, 0), (12, 3), (13, 0)] .done (.pick [(10, 3), (1, 2), (11, 0), (12, 3), (13, 0)] .done .nope)) .nope)) (.pick [(9, 2)] (.pick [(1, 2), (5, 3), (10, 3), (11, 0), (12, 3), (13, 0)] .done (.pick [(5, 3)] (.pick [(1, 2), (10, 3), (11, 0), (12, 3), (13, 0)] .done (.pick [(10, 3), (1, 2), (11, 0), (12, 3), (13, 0)] .done .nope)) .nope)) .nope))) (.pick [(9, 2)] (.pick [(1, 2), (2, 2), (5, 3), (10, 3), (11, 0), (12, 3), (13, 0)] .done (.pick [(2, 2)] (.pick [(1, 2), (5, 3), (10, 3), (11, 0), (12, 3), (13, 0)] .done (.pick [(5, 3)] (.pick [(1, 2), (10, 3), (11, 0), (12, 3), (13, 0)] .done (.pick [(10, 3), (1, 2), (11, 0), (12, 3), (13, 0)] .done .nope)) .nope)) .nope)) .nope))) [5, 10, 12] mixed (by kernel_rfl) ?_) | apply StD.pick | exact StD.nope  | (apply Zq; rfl; exact Ob; exact Ent.go) | (refine Ge ?_ ?_ <;> (intro h; try (exfalso; omega))) | fail)
        all_goals (apply StD.ok3; rfl; (apply OpOk.appendEnt hl hll; (simp); rfl; rfl; (focus (repeat first | exact Take.here | apply Take.there))); rfl; rintro _ _ ⟨ad1, cap1, rfl, rfl⟩)
        repeat' (first | refine Ga ?_ | (refine Gb ?_; intro b) | (refine Gd ?_; intro g cap rest hcap) | (refine Gc ?_; intro ad cap) | apply StD.pick | exact StD.nope  | (apply Zq; rfl; exact Ob; exact Ent.go) | (refine Ge ?_ ?_ <;> (intro h; try (exfalso; omega))) | fail)
        all_goals
          rw [show (puts.flatMap entV ++ [Value.int .i64 a, .int .u64 (x : Int)]) = (puts ++ [(a, x)]).flatMap entV by rw [List.flatMap_append]; rfl]
          refine St.rowL (by rw [List.length_append]; rfl) fun R hR => ?_
          refine St.conv ?_ (Sub.refl _) (Ent.trans (Ent.of_take (p := q) Take.go) (Ent.star_in [q, R]))
          exact St.d1 Tryz.func190 ⟨_, ⟨star [q, R], _, Gr.star R q, hR.weak fun b l h => RdC.star (L := [q, R]) (List.mem_cons_of_mem _ (List.mem_cons_self ..)) h, rfl, rfl⟩, Ent.go⟩
end
end Go.Proofs.YthmbgodcpgkkeaaGreat
