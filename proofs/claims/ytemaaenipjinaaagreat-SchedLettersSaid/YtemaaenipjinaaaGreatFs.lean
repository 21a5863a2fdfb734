/-
  Package tumblerlaw16: SchedSame. The closed facts of the row, one by one.
-/
import Derived.ChangeKeysEq
import Derived.Test.YtemaaenipjinaaaGreatRowd
import Derived.Test.YtemaaenipjinaaaGreatRows
import Derived.ProofKit
import Derived.JoinedOf
section
namespace Go.Proofs.YtemaaenipjinaaaGreat
set_option maxRecDepth 100000
def lawQ (q : HProp) (v : Value) (L : List HProp) : Prop := v = .bool true ∧ L = [q]
theorem samelaw_few (c : Cfg) (q0 : HProp) (pv cv : Value) (progs : Progs) (calls : List (List Jb)) (hpv : ProgsG q0 pv progs) (hcv : CallsG q0 cv calls) (kad : Option Addr) (n kcap : Nat) (hb : ¬ (few16B c progs calls n = true ∧ c.threads ≤ 3)) :
    Tri Tryz.prog 10 #[.agg ⟨c.v⟩, pv, cv, .slice kad n kcap] [q0] (lawQ q0) := by
  have hfew := few16_r c q0 pv cv progs calls hpv hcv kad n kcap
  have hal := alive16_t
  cases hb1 : few16B c progs calls n with
  | false =>
    rw [hb1] at hfew
    refine Tri.of_body (vs := [_, _, _, _]) Tryz.func10 rfl rfl fun w0 F => ?_
    repeat' (first | refine Ga ?_ | (refine Gb ?_; intro b) | (refine Gd ?_; intro g cap rest hcap) | (refine Gc ?_; intro ad cap) | (refine St.draw (id := 29) [(0, 0), (1, 0), (2, 0), (3, 1), (4, 1), (5, 0)] [] mixed (by kernel_rfl) ?_)| refine Gl hfew ?_ | (refine Gt hal ?_; rintro _ _ ⟨rfl, rfl⟩) | (refine Ge ?_ ?_ <;> (intro h; try (exfalso; omega))) | fail)
    refine St.d1 Tryz.func10 ⟨_, ⟨rfl, rfl⟩, Ent.go⟩
  | true =>
    rw [hb1] at hfew
    have hbig : ¬ c.threads ≤ 3 := fun h => hb ⟨hb1, h⟩
    refine Tri.of_body (vs := [_, _, _, _]) Tryz.func10 rfl rfl fun w0 F => ?_
    repeat' (first | refine Ga ?_ | (refine Gb ?_; intro b) | (refine Gd ?_; intro g cap rest hcap) | (refine Gc ?_; intro ad cap) | (refine St.draw (id := 29) [(0, 0), (1, 0), (2, 0), (3, 1), (4, 1), (5, 0)] [] mixed (by kernel_rfl) ?_)| refine Gl hfew ?_ | (refine Gt hal ?_; rintro _ _ ⟨rfl, rfl⟩) | (refine Ge ?_ ?_ <;> (intro h; try (exfalso; omega))) | fail)
    all_goals first | (exfalso; omega) | skip
    refine St.d1 Tryz.func10 ⟨_, ⟨rfl, rfl⟩, Ent.go⟩
theorem samelaw_bad (c : Cfg) (q0 : HProp) (pv cv : Value) (progs : Progs) (calls : List (List Jb)) (hpv : ProgsG q0 pv progs) (hcv : CallsG q0 cv calls) (kad : Option Addr) (n kcap : Nat) (hb : few16B c progs calls n = true ∧ c.threads ≤ 3) (hn : ¬ (c.right = true ∧ (calls.length : Int) = c.threads)) :
    Tri Tryz.prog 10 #[.agg ⟨c.v⟩, pv, cv, .slice kad n kcap] [q0] (lawQ q0) := by
  have hfew := few16_r c q0 pv cv progs calls hpv hcv kad n kcap
  have hal := alive16_t
  rw [hb.1] at hfew
  have hb2 := hb.2
  obtain ⟨pad, pcap, rfl, _⟩ := hpv
  obtain ⟨cad, ccap, rfl, _⟩ := hcv
  have hnb := sdnew_bad c pad progs.length pcap cad calls.length ccap hn
  refine Tri.of_body (vs := [_, _, _, _]) Tryz.func10 rfl rfl fun w0 F => ?_
  repeat' (first | refine Ga ?_ | (refine Gb ?_; intro b) | (refine Gd ?_; intro g cap rest hcap) | (refine Gc ?_; intro ad cap) | (refine St.draw (id := 29) [(0, 0), (1, 0), (2, 0), (3, 1), (4, 1), (5, 0)] [] mixed (by kernel_rfl) ?_)| refine Gl hfew ?_ | (refine Gt hal ?_; rintro _ _ ⟨rfl, rfl⟩) | (refine Gt hnb ?_; rintro _ _ ⟨rfl, rfl⟩) | (refine Ge ?_ ?_ <;> (intro h; try (exfalso; omega))) | fail)
  all_goals first | (exfalso; omega) | skip
  refine St.d1 Tryz.func10 ⟨_, ⟨rfl, rfl⟩, Ent.go⟩
theorem eqItems_ints {P : Program} {e d : Nat} {k k' : IntKind} {xs ys : List Int} {w : World} [he : Und P e (.int k')] [ha : IsAg P e false] :
    ∀ is : List Nat, (∀ i ∈ is, i < xs.length ∧ i < ys.length) → (Op.eqItems (d + 1) e 1 ⟨xs.map (Value.int k)⟩ ⟨ys.map (Value.int k)⟩ is).run P w = .ok (is.all fun i => xs[i]? == ys[i]?) w
  | [], _ => by simp [Op.eqItems]
  | i :: is, h => by
    obtain ⟨h1, h2⟩ := h i (by simp)
    have ih := eqItems_ints (P := P) (d := d) (k := k) (k' := k') (xs := xs) (ys := ys) (w := w) (e := e) is (fun j hj => h j (by simp [hj]))
    have hx : (xs.map (Value.int k))[i]? = some (.int k xs[i]) := by rw [List.getElem?_map, List.getElem?_eq_getElem h1]; rfl
    have hy : (ys.map (Value.int k))[i]? = some (.int k ys[i]) := by rw [List.getElem?_map, List.getElem?_eq_getElem h2]; rfl
    simp only [Op.eqItems, Sem.run_bind, part, ha.h, Result.andThen_ok, Bool.false_eq_true, if_false, Nat.mul_one, List.getElem?_toArray, hx, hy, Sem.run_pure, run_equalIn_int w d e k k' _ _ he.h, List.all_cons, List.getElem?_eq_getElem h1, List.getElem?_eq_getElem h2]
    by_cases hb : xs[i] = ys[i]
    · simp [hb, ih]
    · simp [hb]
theorem EqV.arr {P : Program} {m t e n : Nat} {k k' : IntKind} {xs ys : List Int} [hu : Und P t (.array n e)] [he : Und P e (.int k')] [ha : IsAg P e false] [hb : Byt P e 8] (hc : P.cellsOf e = 1) (hx : xs.length = n) (hy : ys.length = n) :
    EqV P (m + 2) t (.agg ⟨xs.map (Value.int k)⟩) (.agg ⟨ys.map (Value.int k)⟩) (xs == ys) := by
  unfold EqV
  intro d w
  obtain ⟨i, hi, _⟩ := hb.h
  have hi' : P.info? e = some i := by
    have := hi w
    simp only [typeInfo, Sem.run_bind, run_program, Result.andThen_ok] at this
    cases h : P.info? e with
    | none => rw [h] at this; simp at this
    | some j => rw [h] at this; simp at this; rw [this]
  rw [show d + (m + 2) = (d + m + 1) + 1 by omega, run_equalIn_array w (d + m + 1) _ _ hu.h hi', hc, eqItems_ints (k' := k') _ (fun j hj => by have := List.mem_range.1 hj; omega)]
  congr 1
  rw [Bool.eq_iff_iff, List.all_eq_true]
  constructor
  · intro h
    refine beq_iff_eq.2 (List.ext_getElem? fun j => ?_)
    by_cases hj : j < n
    · exact beq_iff_eq.1 (h j (List.mem_range.2 hj))
    · rw [List.getElem?_eq_none (by omega), List.getElem?_eq_none (by omega)]
  · intro h j _
    rw [beq_iff_eq.1 h]; simp
/-- a record is itself -/
theorem rec_eq (p1 : Int) (p2 : Nat) (p3 : Int) (a b c d p5 p6 p7 : Nat) (p8 : Bool) (p9 : Int) (p10 : Nat) : EqV Tryz.prog 4 116 (.agg ⟨[.int .i64 p1, .int .i64 (p2 : Int), .int .i64 p3, .int .u64 (a : Int), .int .u64 (b : Int), .int .u64 (c : Int), .int .u64 (d : Int), .int .i64 (p5 : Int), .int .i64 (p6 : Int), .int .i64 (p7 : Int), .bool p8, .int .i64 p9, .int .u64 (p10 : Int)]⟩) (.agg ⟨[.int .i64 p1, .int .i64 (p2 : Int), .int .i64 p3, .int .u64 (a : Int), .int .u64 (b : Int), .int .u64 (c : Int), .int .u64 (d : Int), .int .i64 (p5 : Int), .int .i64 (p6 : Int), .int .i64 (p7 : Int), .bool p8, .int .i64 p9, .int .u64 (p10 : Int)]⟩) true := by
  have ha : EqV Tryz.prog 2 26 (.agg ⟨[.int .u64 (a : Int), .int .u64 (b : Int), .int .u64 (c : Int), .int .u64 (d : Int)]⟩) (.agg ⟨[.int .u64 (a : Int), .int .u64 (b : Int), .int .u64 (c : Int), .int .u64 (d : Int)]⟩) ([(a : Int), b, c, d] == [(a : Int), b, c, d]) :=
    EqV.arr (P := Tryz.prog) (m := 0) (t := 26) (k := .u64) (k' := .u64) (e := 22) (n := 4) (xs := [(a : Int), b, c, d]) (ys := [(a : Int), b, c, d]) (by kernel_rfl) rfl rfl
  have hx : ∃ x, EqV Tryz.prog 4 116 (.agg ⟨[.int .i64 p1, .int .i64 (p2 : Int), .int .i64 p3, .int .u64 (a : Int), .int .u64 (b : Int), .int .u64 (c : Int), .int .u64 (d : Int), .int .i64 (p5 : Int), .int .i64 (p6 : Int), .int .i64 (p7 : Int), .bool p8, .int .i64 p9, .int .u64 (p10 : Int)]⟩) (.agg ⟨[.int .i64 p1, .int .i64 (p2 : Int), .int .i64 p3, .int .u64 (a : Int), .int .u64 (b : Int), .int .u64 (c : Int), .int .u64 (d : Int), .int .i64 (p5 : Int), .int .i64 (p6 : Int), .int .i64 (p7 : Int), .bool p8, .int .i64 p9, .int .u64 (p10 : Int)]⟩) x ∧ x = true := by
    apply Exists.intro
    apply And.intro
    · apply EqV.struct
      (focus (repeat (first | exact EqFs.nil | apply EqV.int | apply EqV.bool | assumption | apply EqV.struct | (apply EqFs.one; infer_instance; (focus (first | assumption | (repeat constructor))); (focus (first | assumption | (repeat constructor)))) | (apply EqFs.agg; infer_instance; infer_instance; (focus (first | assumption | (repeat constructor))); (focus (first | assumption | (repeat constructor))); (focus (first | assumption | (repeat constructor))); (focus (first | assumption | (repeat constructor)))))))
    · simp only [BEq.rfl, Bool.and_self]
  obtain ⟨x, h, rfl⟩ := hx
  exact h
set_option maxHeartbeats 4000000 in
theorem samelaw_good (c : Cfg) (q0 : HProp) (pv cv : Value) (progs : Progs) (calls : List (List Jb)) (hpv : ProgsG q0 pv progs) (hcv : CallsG q0 cv calls) (hja : ∀ l ∈ calls, ∀ j ∈ l, j.args.length = 4) (kad : Option Addr) (kcap : Nat) (picks : List Int) (hk : RdS dI q0 kad picks) (hb : few16B c progs calls picks.length = true ∧ c.threads ≤ 3) (hok : c.right = true) (hn : (calls.length : Int) = c.threads) :
    Tri Tryz.prog 10 #[.agg ⟨c.v⟩, pv, cv, .slice kad picks.length kcap] [q0] (lawQ q0) := by
  have hfew := few16_r c q0 pv cv progs calls hpv hcv kad picks.length kcap
  have hal := alive16_t
  rw [hb.1] at hfew
  have hb2 := hb.2
  obtain ⟨f1, f2, f3, f4, f5, f6⟩ := few16_e hb.1
  have hc := Cfg.small hok
  have hcd := of_decide_eq_true hok
  have hf : 0 ≤ c.fuel ∧ c.fuel ≤ 1000 := by omega
  have hlast : c.last ≤ 140737488355328 := by omega
  have ht0 := hc.t0
  have hnw := sdnew_t c q0 pv progs hpv cv calls hcv f4 f1 f2 hok hn
  have hi0 : SdI c progs (Sd.new c calls) := SdI.new hc hn hja
  have hp0 : (Sd.new c calls).picks = 0 := rfl
  obtain ⟨pad, pcap, rfl, _⟩ := hpv
  obtain ⟨cad, ccap, rfl, _⟩ := hcv
  refine Tri.of_body (vs := [_, _, _, _]) Tryz.func10 rfl rfl fun w0 F => ?_
  repeat' (first | refine St.halt 6 ?_ |refine Ga ?_ | (refine Gb ?_; intro b) | (refine Gd ?_; intro g cap rest hcap) | (refine Gc ?_; intro ad cap) | (refine St.draw (id := 29) [(0, 0), (1, 0), (2, 0), (3, 1), (4, 1), (5, 0)] [] mixed (by kernel_rfl) ?_)| refine Gl hfew ?_ | (refine Gt hal ?_; rintro _ _ ⟨rfl, rfl⟩) | (refine Gt hnw ?_; rintro _ _ ⟨Sa, pva, Ha, hpa, rfl, rfl⟩) | (refine Ge ?_ ?_ <;> (intro h; try (exfalso; omega))) | fail)
  all_goals first | (exfalso; omega) | skip
  apply Halt.go
  repeat' (first | refine Ga ?_ | (refine Gb ?_; intro b) | (refine Gd ?_; intro g cap rest hcap) | (refine Gc ?_; intro ad cap) | (refine St.draw (id := 29) [(0, 0), (1, 0), (2, 0), (3, 1), (4, 1), (5, 0)] [] mixed (by kernel_rfl) ?_) | (refine Gt hnw ?_; rintro _ _ ⟨Sz, pvz, Hz, hpz, rfl, rfl⟩) | (refine Ge ?_ ?_ <;> (intro h; try (exfalso; omega))) | fail)
  all_goals first | (exfalso; omega) | skip
  generalize Sd.new c calls = m0 at hi0 hp0 ⊢
  have hinv := fun ts => runP_inv hc hf hi0 ts
  have hpks := fun ts => runP_picks c progs ts m0
  refine St.loopY (Lr := ?Lr1) (ι := { k : Nat // k ≤ picks.length }) (fun x => picks.length - x.1) (fun x => [(66, .int .i64 (x.1 : Int))]) (fun x => [SdE Sa c pva (frz Ha) progs (runP c progs m0 (picks.take x.1)), SdE Sz c pvz (frz Hz) progs (runP c progs m0 (picks.take x.1))]) ⟨0, Nat.zero_le _⟩ ?hE1 ?hL1 ?round1
  case hE1 => exact Sub.go
  case hL1 => exact Takes.go
  case round1 =>
    rintro ⟨k, hk0⟩ IH; dsimp only at hk0 IH ⊢
    by_cases hlt : k < picks.length
    · obtain ⟨bf, fo, lc, l1, rfl, hrd, hdr, htk⟩ := ListR.at (f := dI) (sz := 1) (fun _ => rfl) hk k hlt
      have hnx : picks.take (k + 1) = picks.take k ++ [picks[k]] := List.take_succ_eq_append_getElem hlt
      have IH := fun E' L' => IH ⟨k + 1, hlt⟩ (E' := E') (L' := L') (by show _ - (k + 1) < _ - k; omega)
      dsimp only at IH
      rw [hnx] at IH
      generalize picks[k] = t at htk hnx IH
      unfold dI at htk
      have n0 : NthN (fo + (k : Int).toNat * 1) lc _ := NthN.part hdr htk (j := 0) .zero
      rw [runP_snoc] at IH
      have hm := hinv (picks.take k)
      generalize runP c progs m0 (picks.take k) = m at hm IH ⊢
      have hm2 := hm.pick hc hf t
      have ha := pick_t (Sb := Sa) hc hf hlast hpa hm t
      have hz0 := pick_t (Sb := Sz) hc hf hlast hpz hm (-1)
      rw [pick_idle (idle_out (.inl (by decide)))] at hz0
      have hz1 := pick_t (Sb := Sz) hc hf hlast hpz hm t
      generalize (m.pick c progs t) = y at hm2 ha hz1 IH
      obtain ⟨m2, ok⟩ := y
      dsimp only at hm2 ha hz1 IH
      have hz2 := pick_t (Sb := Sz) hc hf hlast hpz hm2 9
      rw [pick_idle (idle_out (.inr (by have := hm2.n; omega)))] at hz2
      repeat' (first | refine Ga ?_ | (refine Gb ?_; intro b) | (refine Gd ?_; intro g cap rest hcap) | (refine Gc ?_; intro ad cap) | (refine St.draw (id := 29) [(0, 0), (1, 0), (2, 0), (3, 1), (4, 1), (5, 0)] [] mixed (by kernel_rfl) ?_) | (refine Gt ha ?_; rintro _ _ ⟨rfl, rfl⟩) | (refine Gt hz0 ?_; rintro _ _ ⟨rfl, rfl⟩) | (refine Gt hz1 ?_; rintro _ _ ⟨rfl, rfl⟩) | (refine Gt hz2 ?_; rintro _ _ ⟨rfl, rfl⟩) | (refine Ge ?_ ?_ <;> (intro h; try (exfalso; omega))) | fail)
      all_goals first | (exfalso; omega) | skip
      refine St.loopY (Lr := ?Lr2) (ι := { u : Nat // (u : Int) ≤ c.threads }) (fun x => c.threads.toNat - x.1) (fun x => [(82, .int .i64 (x.1 : Int))]) (fun x => [SdE Sz c pvz (frz Hz) progs m2]) ⟨0, by omega⟩ ?hE2 ?hL2 ?round2
      case hE2 => exact Sub.go
      case hL2 => exact Takes.go
      case round2 =>
        rintro ⟨u, hu⟩ IH2; dsimp only at hu IH2 ⊢
        by_cases hul : (u : Int) < c.threads
        · have hid := idle_r (Sb := Sz) (c := c) (pv := pvz) (q := frz Hz) (progs := progs) (m := m2) (u : Int)
          cases hidle : m2.idle (u : Int) with
          | true =>
            have hzu := pick_t (Sb := Sz) hc hf hlast hpz hm2 (u : Int)
            rw [pick_idle hidle] at hzu
            rw [hidle] at hid
            repeat' (first | refine Ga ?_ | (refine Gb ?_; intro b) | (refine Gd ?_; intro g cap rest hcap) | (refine Gc ?_; intro ad cap) | (refine St.draw (id := 29) [(0, 0), (1, 0), (2, 0), (3, 1), (4, 1), (5, 0)] [] mixed (by kernel_rfl) ?_)| refine Gl hid ?_ | (refine Gt hzu ?_; rintro _ _ ⟨rfl, rfl⟩) | (refine Ge ?_ ?_ <;> (intro h; try (exfalso; omega))) | fail)
            all_goals first | (exfalso; omega) | skip
            refine IH2 ⟨u + 1, by omega⟩ (by show c.threads.toNat - (u + 1) < c.threads.toNat - u; omega) ?_ ?_
            · exact Sub.go
            · exact Ent.go
          | false =>
            rw [hidle] at hid
            repeat' (first | refine Ga ?_ | (refine Gb ?_; intro b) | (refine Gd ?_; intro g cap rest hcap) | (refine Gc ?_; intro ad cap) | (refine St.draw (id := 29) [(0, 0), (1, 0), (2, 0), (3, 1), (4, 1), (5, 0)] [] mixed (by kernel_rfl) ?_)| refine Gl hid ?_ | (refine Ge ?_ ?_ <;> (intro h; try (exfalso; omega))) | fail)
            all_goals first | (exfalso; omega) | skip
            refine IH2 ⟨u + 1, by omega⟩ (by show c.threads.toNat - (u + 1) < c.threads.toNat - u; omega) ?_ ?_
            · exact Sub.go
            · exact Ent.go
        · clear IH2
          repeat' (first | refine Ga ?_ | (refine Gb ?_; intro b) | (refine Gd ?_; intro g cap rest hcap) | (refine Gc ?_; intro ad cap) | (refine St.draw (id := 29) [(0, 0), (1, 0), (2, 0), (3, 1), (4, 1), (5, 0)] [] mixed (by kernel_rfl) ?_) | (refine Ge ?_ ?_ <;> (intro h; try (exfalso; omega))) | fail)
          all_goals first | (exfalso; omega) | skip
          refine IH _ _ ?_ ?_
          · exact Sub.go
          · exact Ent.go
    · obtain rfl : k = picks.length := by omega
      clear IH
      rw [List.take_length]
      have hm := hinv picks
      have hmp := hpks picks
      generalize runP c progs m0 picks = m at hm hmp ⊢
      have hra := records_t (Sb := Sa) (pv := pva) (q := frz Ha) hm
      have hrz := records_t (Sb := Sz) (pv := pvz) (q := frz Hz) hm
      have hpa2 := picks_r (Sb := Sa) (c := c) (pv := pva) (q := frz Ha) (progs := progs) (m := m)
      have hpz2 := picks_r (Sb := Sz) (c := c) (pv := pvz) (q := frz Hz) (progs := progs) (m := m)
      have hrl : m.rows.length ≤ 5400 := by have := hm.rows; omega
      have hwa := rows_s (Sb := Sa) (pv := pva) (q := frz Ha) hm (by omega)
      have hwz := rows_s (Sb := Sz) (pv := pvz) (q := frz Hz) hm (by omega)
      repeat' (first | refine St.halt 24 ?_ |refine Ga ?_ | (refine Gb ?_; intro b) | (refine Gd ?_; intro g cap rest hcap) | (refine Gc ?_; intro ad cap) | (refine St.draw (id := 29) [(0, 0), (1, 0), (2, 0), (3, 1), (4, 1), (5, 0)] [] mixed (by kernel_rfl) ?_)| refine Gl hpa2 ?_ | refine Gl hpz2 ?_ | (refine Gt hra ?_; rintro _ _ ⟨ra, rca, rfl, rfl⟩) | (refine Gt hrz ?_; rintro _ _ ⟨rz, rcz, rfl, rfl⟩) | (refine Ge ?_ ?_ <;> (intro h; try (exfalso; omega))) | fail)
      apply Halt.go
      repeat' (first | refine Ga ?_ | (refine Gb ?_; intro b) | (refine Gd ?_; intro g cap rest hcap) | (refine Gc ?_; intro ad cap) | (refine St.draw (id := 29) [(0, 0), (1, 0), (2, 0), (3, 1), (4, 1), (5, 0)] [] mixed (by kernel_rfl) ?_)| refine Gl hpa2 ?_ | refine Gl hpz2 ?_ | (refine Gt hwa ?_; rintro _ _ ⟨wa, wca, rsa, hrsa, rfl, rfl⟩) | (refine Ge ?_ ?_ <;> (intro h; try (exfalso; omega))) | fail)
      have hna := sortR_news hm.news hrsa
      have hasa := as16_t (.slice wa rsa.length wca) rsa (by omega)
      repeat' (first | refine Ga ?_ | (refine Gb ?_; intro b) | (refine Gd ?_; intro g cap rest hcap) | (refine Gc ?_; intro ad cap) | (refine St.draw (id := 29) [(0, 0), (1, 0), (2, 0), (3, 1), (4, 1), (5, 0)] [] mixed (by kernel_rfl) ?_) | (refine Gt hasa ?_; rintro _ _ ⟨wa2, wca2, rfl, rfl⟩) | (refine Gt hwz ?_; rintro _ _ ⟨wz, wcz, rsz, hrsz, rfl, rfl⟩) | (refine Ge ?_ ?_ <;> (intro h; try (exfalso; omega))) | fail)
      have hnz := sortR_news hm.news hrsz
      have hasz := as16_t (.slice wz rsz.length wcz) rsz (by omega)
      repeat' (first | refine Ga ?_ | (refine Gb ?_; intro b) | (refine Gd ?_; intro g cap rest hcap) | (refine Gc ?_; intro ad cap) | (refine St.draw (id := 29) [(0, 0), (1, 0), (2, 0), (3, 1), (4, 1), (5, 0)] [] mixed (by kernel_rfl) ?_) | (refine Gt hasz ?_; rintro _ _ ⟨wz2, wcz2, rfl, rfl⟩) | (refine Ge ?_ ?_ <;> (intro h; try (exfalso; omega))) | fail)
      have hsame := same16_r (.slice wa2 rsa.length wca2) (.slice wz2 rsz.length wcz2) rsa rsz (hrsa.trans hrsz.symm) (by omega) hna.2
      repeat' (first | refine Ga ?_ | (refine Gb ?_; intro b) | (refine Gd ?_; intro g cap rest hcap) | (refine Gc ?_; intro ad cap) | (refine St.draw (id := 29) [(0, 0), (1, 0), (2, 0), (3, 1), (4, 1), (5, 0)] [] mixed (by kernel_rfl) ?_)| refine Gl hsame ?_ | (refine Ge ?_ ?_ <;> (intro h; try (exfalso; omega))) | fail)
      refine St.gather (ps := [Row (.slice ra m.recs.length rca) 116 13 m.recs.length (m.recs.flatMap recV), Row (.slice rz m.recs.length rcz) 116 13 m.recs.length (m.recs.flatMap recV)]) Takes.go ?_
      refine St.frz (fun H hH => ?_)
      have hH := star_sat hH
      have hla : ListR recV (frz H) (.slice ra m.recs.length rca) m.recs := ListR.frz rfl hH (.head _)
      have hlz : ListR recV (frz H) (.slice rz m.recs.length rcz) m.recs := ListR.frz rfl hH (.tail _ (.head _))
      have hrs : m.recs.length ≤ 5400 := by have := hm.recs; omega
      clear hH hm hmp hra hrz hwa hwz hasa hasz hsame hinv hpks hna hnz
      generalize m.recs = recs at hla hlz hrs ⊢
      refine St.loopY (Lr := ?Lr3) (ι := { k : Nat // k ≤ recs.length }) (fun x => recs.length - x.1) (fun x => [(123, .int .i64 (x.1 : Int))]) (fun x => []) ⟨0, Nat.zero_le _⟩ ?hE3 ?hL3 ?round3
      case hE3 => exact Sub.go
      case hL3 => exact Takes.go
      case round3 =>
        rintro ⟨k, hk⟩ IH; dsimp only at hk IH ⊢
        by_cases hlt : k < recs.length
        · obtain ⟨ab, ao, al, al1, rfl, hard, hadr, hatk⟩ := hla.at' (f := recV) (sz := 13) recV_len k hlt
          obtain ⟨zb, zo, zl, zl1, rfl, hzrd, hzdr, hztk⟩ := hlz.at' (f := recV) (sz := 13) recV_len k hlt
          generalize recs[k] = r at hatk hztk
          obtain ⟨p1, p2, ⟨p3, p4⟩, p5, p6, p7, p8, p9, p10⟩ := r
          unfold recV jbV g4 at hatk hztk
          dsimp only [List.cons_append, List.nil_append] at hatk hztk
          have hre := rec_eq p1 p2 p3 (p4.getD 0 0) (p4.getD 1 0) (p4.getD 2 0) (p4.getD 3 0) p5 p6 p7 p8 p9 p10
          repeat' (first | refine Ga ?_ | (refine Gb ?_; intro b) | (refine Gd ?_; intro g cap rest hcap) | (refine Gc ?_; intro ad cap) | (refine St.draw (id := 29) [(0, 0), (1, 0), (2, 0), (3, 1), (4, 1), (5, 0)] [] mixed (by kernel_rfl) ?_) | (refine Ge ?_ ?_ <;> (intro h; try (exfalso; omega))) | fail)
          all_goals first | (exfalso; omega) | (exfalso; simp at h; done) | skip
          refine IH ⟨k + 1, hlt⟩ (by show _ - (k + 1) < _ - k; omega) ?_ ?_
          · exact Sub.go
          · exact Ent.go
        · clear IH
          repeat' (first | refine Ga ?_ | (refine Gb ?_; intro b) | (refine Gd ?_; intro g cap rest hcap) | (refine Gc ?_; intro ad cap) | (refine St.draw (id := 29) [(0, 0), (1, 0), (2, 0), (3, 1), (4, 1), (5, 0)] [] mixed (by kernel_rfl) ?_) | (refine Ge ?_ ?_ <;> (intro h; try (exfalso; omega))) | fail)
          all_goals first | (exfalso; omega) | skip
          (first | refine St.dn Tryz.func10 ⟨?_, rfl⟩ Ent.go | refine St.fl Tryz.func10 ⟨?_, rfl⟩ Ent.go)
          rfl
theorem samelaw_t (c : Cfg) (q0 : HProp) (pv cv : Value) (progs : Progs) (calls : List (List Jb)) (hpv : ProgsG q0 pv progs) (hcv : CallsG q0 cv calls) (hja : ∀ l ∈ calls, ∀ j ∈ l, j.args.length = 4) (kad : Option Addr) (kcap : Nat) (picks : List Int) (hk : RdS dI q0 kad picks) :
    Tri Tryz.prog 10 #[.agg ⟨c.v⟩, pv, cv, .slice kad picks.length kcap] [q0] (lawQ q0) := by
  by_cases hb : few16B c progs calls picks.length = true ∧ c.threads ≤ 3
  · by_cases hn : c.right = true ∧ (calls.length : Int) = c.threads
    · exact samelaw_good c q0 pv cv progs calls hpv hcv hja kad kcap picks hk hb hn.1 hn.2
    · exact samelaw_bad c q0 pv cv progs calls hpv hcv kad picks.length kcap hb hn
  · exact samelaw_few c q0 pv cv progs calls hpv hcv kad picks.length kcap hb
end Go.Proofs.YtemaaenipjinaaaGreat
end
section
namespace Go.Proofs.YtemaaenipjinaaaGreat
theorem fs_and {a b : Bool} (ha : a = true) (hb : b = true) : (a && b) = true := by rw [ha, hb]; rfl
theorem fs_0 : (Rows.schedSameRow.wf (OpenSpec.ofChange Rows.schedSameSpec)) = true := by kernel_rfl
theorem fs_1 : (laidOutB Tryz.prog) = true := by kernel_rfl
theorem fs_2 : (mapsRowed Tryz.prog) = true := by kernel_rfl
theorem fs_3 : (Tryz.f10.params.all (Tryz.prog.readableRec ·)) = true := by kernel_rfl
theorem fs_4 : (namedTie Tryz.prog Rows.schedSameRow.named Rows.schedSameSpec.vars) = true := by kernel_rfl
theorem fs_5 : ((Rows.schedSameRow.stops == [])) = true := by kernel_rfl
theorem fs_6 : ((Tryz.prog.stops == [])) = true := by kernel_rfl
theorem fs_7 : ((Rows.schedSameRow.knobs == [])) = true := by kernel_rfl
theorem fs_8 : ((Tryz.prog.stopKnobs == [])) = true := by kernel_rfl
theorem fs_9 : ((Rows.schedSameRow.inPlace == Tryz.prog.inPlace 10)) = true := by kernel_rfl
theorem fs_10 : ((Rows.schedSameRow.unfollowed == Tryz.prog.unfollowed 10)) = true := by kernel_rfl
theorem fs_11 : ((Rows.schedSameRow.recurses == Tryz.prog.recurses 10)) = true := by kernel_rfl
theorem fs_12 : ((Rows.schedSameRow.named == Tryz.prog.varsNamed 10)) = true := by kernel_rfl
theorem fs_13 : ((Rows.schedSameRow.maps == (Tryz.f10.params.toList ++ Rows.schedSameSpec.plain.varTypes Tryz.prog).any (Tryz.prog.mapsRec ·))) = true := by kernel_rfl
theorem fs_14 : ((Rows.schedSameRow.ifaces == (Tryz.f10.params.toList ++ Rows.schedSameSpec.plain.varTypes Tryz.prog).any (Tryz.prog.ifacesRec ·))) = true := by kernel_rfl
theorem fs_15 : ((Rows.schedSameRow.mapsOut == Tryz.prog.mapsAmong Tryz.f10.resultTypes.toList)) = true := by kernel_rfl
theorem fs_16 : ((Rows.schedSameRow.loops == (Tryz.f10.params.toList ++ Rows.schedSameSpec.plain.varTypes Tryz.prog).any (Tryz.prog.loopsFrom ·))) = true := by kernel_rfl
theorem fs_17 : ((Rows.schedSameRow.wideKeys == (Tryz.f10.params.toList ++ Rows.schedSameSpec.plain.varTypes Tryz.prog ++ Tryz.f10.resultTypes.toList).any (Tryz.prog.wideKeysFrom ·))) = true := by kernel_rfl
theorem fs_18 : (Rows.schedSameSpec.vars.all (Tryz.prog.varReadable ·)) = true := by kernel_rfl
theorem fs_19 : (Tryz.f10.resultTypes.all (fun t => Tryz.prog.readableRec t && decide (t < Tryz.prog.types.size))) = true := by kernel_rfl
theorem fs_20 : ((Rows.schedSameRow.ifacesOut == Tryz.f10.resultTypes.toList.any (Tryz.prog.ifacesRec ·))) = true := by kernel_rfl
theorem fs_21 : ((Rows.schedSameRow.loopsOut == Tryz.f10.resultTypes.toList.any (Tryz.prog.loopsFrom ·))) = true := by kernel_rfl
theorem fs_22 : ((Rows.schedSameRow.plainKeys == Tryz.prog.plainKeys)) = true := by kernel_rfl
theorem fs_23 : (Rows.schedSameRow.shortTexts.isNone) = true := by kernel_rfl
theorem fs_24 : (Tryz.prog.stopsHeard) = true := by kernel_rfl
theorem fs_25 : (Tryz.prog.mayEnter) = true := by kernel_rfl
theorem fs_26 : ((Rows.schedSameRow.lifted == Tryz.prog.liftsFinal)) = true := by kernel_rfl
theorem fs_27 : ((Tryz.prog.make == some Rows.schedSameRow.make)) = true := by kernel_rfl
theorem fs_28 : ((Rows.schedSameRow.kinds == (if Rows.schedSameRow.domain.isEmpty then [] else Tryz.f10.params.toList.map fun t => match Tryz.prog.underlying t with | some (.int k) => some k | _ => none))) = true := by kernel_rfl
theorem fs_29 : ((Rows.schedSameRow.pinned == Rows.schedSameRow.pinnedBy)) = true := by kernel_rfl
theorem fs_30 : ((Rows.schedSameRow.veiled == (Tryz.f10.params.toList ++ Rows.schedSameSpec.plain.varTypes Tryz.prog ++ Tryz.f10.resultTypes.toList).any (Tryz.prog.veiledRec ·))) = true := by kernel_rfl
theorem fs_31 : (Rows.schedSameRow.veiledFits Tryz.prog Tryz.f10.params.toList (Tryz.f10.params.toList ++ Rows.schedSameSpec.plain.varTypes Tryz.prog ++ Tryz.f10.resultTypes.toList)) = true := by kernel_rfl
end Go.Proofs.YtemaaenipjinaaaGreat
end
