/-
  Package tumblerlaw14: BuildOrder.
-/
import Derived.Test.YtipnljhelbjmaaaGreatBn
namespace Go.Proofs.YtipnljhelbjmaaaGreat
set_option maxRecDepth 100000
theorem and_le (a : Int) (m : Nat) (hm : m < 9223372036854775808) : 0 ≤ IntKind.i64.wrap ((BitVec.ofInt IntKind.i64.bits a &&& BitVec.ofInt IntKind.i64.bits m).toNat : Int) ∧ IntKind.i64.wrap ((BitVec.ofInt IntKind.i64.bits a &&& BitVec.ofInt IntKind.i64.bits m).toNat : Int) ≤ m := by
  have h1 : (BitVec.ofInt IntKind.i64.bits a &&& BitVec.ofInt IntKind.i64.bits m).toNat ≤ m := by
    rw [BitVec.toNat_and]
    refine Nat.le_trans Nat.and_le_right ?_
    rw [BitVec.toNat_ofInt]
    have : (2 : Nat) ^ IntKind.i64.bits = 18446744073709551616 := rfl
    rw [this]
    omega
  generalize (BitVec.ofInt IntKind.i64.bits a &&& BitVec.ofInt IntKind.i64.bits m).toNat = n at h1
  have : IntKind.i64.wrap (n : Int) = n := by simp [IntKind.wrap, IntKind.bits, IntKind.signed]; omega
  rw [this]
  omega
/-- a slice that can be read -/
def ListR {α : Type} (f : α → List Value) (q : HProp) (v : Value) (xs : List α) : Prop :=
  ∃ ad cap, v = .slice ad xs.length cap ∧ (xs.length = 0 ∨ ∃ b o l rest, ad = some ⟨b, o, none⟩ ∧ RdC q b l ∧ DropN o l (xs.flatMap f ++ rest))
theorem ListR.at {α : Type} {f : α → List Value} {sz : Nat} (hf : ∀ x, (f x).length = sz) {q : HProp} {ad : Option Addr} {xs : List α} (h : xs.length = 0 ∨ ∃ b o l rest, ad = some ⟨b, o, none⟩ ∧ RdC q b l ∧ DropN o l (xs.flatMap f ++ rest)) (i : Nat) (hi : i < xs.length) :
    ∃ b o l l1, ad = some ⟨b, o, none⟩ ∧ RdC q b l ∧ DropN (o + (i : Int).toNat * sz) l l1 ∧ TakeN sz l1 (f xs[i]) := by
  rcases h with h | ⟨b, o, l, rest, h1, h2, h3⟩
  · omega
  · refine ⟨b, o, l, f xs[i] ++ (xs.drop (i + 1)).flatMap f ++ rest, h1, h2, h3.add ((DropN.flat hf hi).more rest), ?_⟩
    rw [List.append_assoc]; rw [← hf xs[i]]; exact TakeN.app (f xs[i]) _
theorem ListR.fix {α : Type} {f : α → List Value} {sz : Nat} (hf : ∀ x, (f x).length = sz) {q : HProp} {ad : Option Addr} {xs : List α} (h : xs.length = 0 ∨ ∃ b o l rest, ad = some ⟨b, o, none⟩ ∧ RdC q b l ∧ DropN o l (xs.flatMap f ++ rest)) (h0 : 0 < xs.length) :
    ∃ b o l, ad = some ⟨b, o, none⟩ ∧ RdC q b l ∧ ∀ i (hi : i < xs.length), ∃ l1, DropN (o + (i : Int).toNat * sz) l l1 ∧ TakeN sz l1 (f xs[i]) := by
  rcases h with h | ⟨b, o, l, rest, h1, h2, h3⟩
  · omega
  · refine ⟨b, o, l, h1, h2, fun i hi => ⟨f xs[i] ++ (xs.drop (i + 1)).flatMap f ++ rest, h3.add ((DropN.flat hf hi).more rest), ?_⟩⟩
    rw [List.append_assoc]; rw [← hf xs[i]]; exact TakeN.app (f xs[i]) _
theorem NthN.part {α : Type} {n m j : Nat} {l l1 vs : List α} {v : α} (h : DropN n l l1) (k : TakeN m l1 vs) (e : NthN j vs v) : NthN (n + j) l v := by
  obtain ⟨h1, _⟩ := h.eq
  obtain ⟨h3, _⟩ := k.eq
  have h5 := e.eq
  refine NthN.of ?_
  rw [← h3, ← h1, List.getElem?_take, List.getElem?_drop] at h5
  split at h5
  · exact h5
  · cases h5
theorem St.rowL {P : Program} {C : Cx} {k : List Item} {E : Env} {L : List HProp} {α : Type} {f : α → List Value} {v : Value} {e sz n : Nat} {xs : List α} (hn : xs.length = n)
    (h : ∀ R, ListR f R v xs → St P C k E (R :: L)) : St P C k E (Row v e sz n (xs.flatMap f) :: L) := by
  refine St.rowC (fun h0 h1 _ => ?_) (fun g cap rest hv hr => ?_)
  · exact (h (Row (.slice none 0 0) e sz 0 []) ⟨none, 0, by rw [h0, hn, h1], .inl (by omega)⟩).conv (Sub.refl _) (Ent.row_nil e sz)
  · exact h _ ⟨_, _, by rw [hv, hn], .inr ⟨g, 0, _, rest, rfl, RdC.bl, .zero⟩⟩
instance : MapTy Tryz.prog 109 Int Int (Value.int .i64) (Value.int .i64) 0 := MapTy.int Tryz.underlying109 Tryz.underlying3 (inferInstance : Zer Tryz.prog 3 (.int .i64 0)).h
def orderQ (q : HProp) (v : Value) (L : List HProp) : Prop := v = .bool true ∧ L = [q]
theorem order_few (c : Cfg) (who : Int) (seq : Nat) (q : HProp) (pv ov : Value) (progs : Progs) (outs : List Out) (hpv : ProgsG q pv progs) (hov : ListR Out.v q ov outs) (hb : ¬ (few14B c progs = true ∧ outs.length ≤ 100)) :
    Tri Tryz.prog 5 #[.agg ⟨c.v⟩, .int .i64 who, .int .u64 (seq : Int), pv, ov] [q] (orderQ q) := by
  have hfew := few14_r c q pv progs hpv
  obtain ⟨oad, ocap, rfl, hor⟩ := hov
  cases hb1 : few14B c progs with
  | false =>
    rw [hb1] at hfew
    refine Tri.of_body (vs := [_, _, _, _, _]) Tryz.func5 rfl rfl fun w0 F => ?_
    repeat' (first | (apply Ya; exact Oa) | (apply Yb; exact Ob) | (apply Yc; exact Oc; intro b) | (apply Ye; exact Oe; intro g cap rest hcap) | (apply Yd; exact Od; intro ad cap) | (apply Yf; exact Oj) | (apply Yg; exact Oj; exact ⟨rfl, rfl⟩) | (apply Yh; exact Oj; rfl) | (apply Yi; exact Oj; exact On; all_goals (intro h; try (exfalso; omega))) | apply StL.nil | apply St.region | apply St.seq | apply St.block | apply St.inBlock | apply St.skip | (apply St.exit; rfl) | (apply St.cond_t; rfl) | (apply St.cond_f; rfl) | (apply Ud; rfl; exact On; all_goals (intro h; try (exfalso; omega))) | (apply Za; rfl; exact Oa) | (apply Zb; rfl; exact Oa; exact Ent.go) | (apply Zc; rfl; exact Ob) | (apply Zd; rfl; exact Oc; intro b; refine ⟨Ent.go, ?_⟩) | (apply Ze; rfl; exact Oc; intro b) | (apply Zf; rfl; exact Oe; intro g cap rest hcap) | (apply Zg; rfl; exact Od; intro ad cap) | apply StD.nil | exact StD.nope | apply StD.pick | (apply StD.claim; rfl; intro b) | (apply Zi; rfl; exact Oj; exact Oa) | (apply Zj; rfl; exact Oj; exact Oa; exact Ent.go) | (apply Zk; rfl; exact Oj; exact ⟨rfl, rfl⟩) | (apply Zl; rfl; exact Oj; exact ⟨rfl, rfl⟩; exact Ent.go) | (apply Zm; rfl; exact Oj; rfl) | (apply Zn; rfl; exact Oj; exact Ent.go; rfl) | (refine St.draw (id := 6) [(0, 1), (1, 0), (2, 0), (3, 0), (4, 1), (5, 0), (6, 0), (7, 0), (8, 3), (9, 0)] [8] mixed (by kernel_rfl) ?_) | (apply Ka; exact Og; exact hfew; exact Oh) | (apply Kb; rfl; exact Og; exact hfew; exact Oi) | (apply Kc; rfl; exact Oj; exact Og; exact hfew; exact Oi) | (apply Kd; exact Og; exact alive_t; exact Oh; rintro _ _ ⟨rfl, rfl⟩) | (apply Ke; rfl; exact Og; exact alive_t; exact Oh; rintro _ _ ⟨rfl, rfl⟩) | (apply Kf; rfl; exact Og; exact alive_t; exact Oh; rintro _ _ ⟨rfl, rfl⟩; refine ⟨Ent.go, ?_⟩) | (apply Zo; rfl; exact Oj; exact On; all_goals (intro h; try (exfalso; omega))))
    refine St.d1 Tryz.func5 ⟨_, ⟨rfl, rfl⟩, Ent.go⟩
  | true =>
    rw [hb1] at hfew
    have hbig : ¬ outs.length ≤ 100 := fun h => hb ⟨hb1, h⟩
    refine Tri.of_body (vs := [_, _, _, _, _]) Tryz.func5 rfl rfl fun w0 F => ?_
    repeat' (first | (apply Ya; exact Oa) | (apply Yb; exact Ob) | (apply Yc; exact Oc; intro b) | (apply Ye; exact Oe; intro g cap rest hcap) | (apply Yd; exact Od; intro ad cap) | (apply Yf; exact Oj) | (apply Yg; exact Oj; exact ⟨rfl, rfl⟩) | (apply Yh; exact Oj; rfl) | (apply Yi; exact Oj; exact On; all_goals (intro h; try (exfalso; omega))) | apply StL.nil | apply St.region | apply St.seq | apply St.block | apply St.inBlock | apply St.skip | (apply St.exit; rfl) | (apply St.cond_t; rfl) | (apply St.cond_f; rfl) | (apply Ud; rfl; exact On; all_goals (intro h; try (exfalso; omega))) | (apply Za; rfl; exact Oa) | (apply Zb; rfl; exact Oa; exact Ent.go) | (apply Zc; rfl; exact Ob) | (apply Zd; rfl; exact Oc; intro b; refine ⟨Ent.go, ?_⟩) | (apply Ze; rfl; exact Oc; intro b) | (apply Zf; rfl; exact Oe; intro g cap rest hcap) | (apply Zg; rfl; exact Od; intro ad cap) | apply StD.nil | exact StD.nope | apply StD.pick | (apply StD.claim; rfl; intro b) | (apply Zi; rfl; exact Oj; exact Oa) | (apply Zj; rfl; exact Oj; exact Oa; exact Ent.go) | (apply Zk; rfl; exact Oj; exact ⟨rfl, rfl⟩) | (apply Zl; rfl; exact Oj; exact ⟨rfl, rfl⟩; exact Ent.go) | (apply Zm; rfl; exact Oj; rfl) | (apply Zn; rfl; exact Oj; exact Ent.go; rfl) | (refine St.draw (id := 6) [(0, 1), (1, 0), (2, 0), (3, 0), (4, 1), (5, 0), (6, 0), (7, 0), (8, 3), (9, 0)] [8] mixed (by kernel_rfl) ?_) | (apply Ka; exact Og; exact hfew; exact Oh) | (apply Kb; rfl; exact Og; exact hfew; exact Oi) | (apply Kc; rfl; exact Oj; exact Og; exact hfew; exact Oi) | (apply Kd; exact Og; exact alive_t; exact Oh; rintro _ _ ⟨rfl, rfl⟩) | (apply Ke; rfl; exact Og; exact alive_t; exact Oh; rintro _ _ ⟨rfl, rfl⟩) | (apply Kf; rfl; exact Og; exact alive_t; exact Oh; rintro _ _ ⟨rfl, rfl⟩; refine ⟨Ent.go, ?_⟩) | (apply Zo; rfl; exact Oj; exact On; all_goals (intro h; try (exfalso; omega))))
    refine St.d1 Tryz.func5 ⟨_, ⟨rfl, rfl⟩, Ent.go⟩
set_option maxHeartbeats 1000000 in
theorem order_near (c : Cfg) (who : Int) (seq : Nat) (q : HProp) (pv ov : Value) (progs : Progs) (outs : List Out) (hpv : ProgsG q pv progs) (hov : ListR Out.v q ov outs) (hb : few14B c progs = true) (hol : outs.length ≤ 100) :
    Tri Tryz.prog 5 #[.agg ⟨c.v⟩, .int .i64 who, .int .u64 (seq : Int), pv, ov] [q] (orderQ q) := by
  have hfew := few14_r c q pv progs hpv
  obtain ⟨oad, ocap, rfl, hor⟩ := hov
  rw [hb] at hfew
  unfold few14B at hb
  simp only [Bool.and_eq_true, decide_eq_true_eq] at hb
  obtain ⟨_, ⟨hcr, hfu⟩, hpl⟩ := hb
  have hc := Cfg.small hcr
  have hf0 : 0 ≤ c.fuel := by have := of_decide_eq_true hcr; omega
  have hof := of_r c
  unfold Cfg.ofV at hof
  rw [if_pos hcr] at hof
  have hpr := hpv.r (by omega)
  have ht0 := hc.t0
  have hm : 0 ≤ IntKind.i64.wrap ((BitVec.ofInt IntKind.i64.bits who &&& BitVec.ofInt IntKind.i64.bits 255).toNat : Int) ∧ IntKind.i64.wrap ((BitVec.ofInt IntKind.i64.bits who &&& BitVec.ofInt IntKind.i64.bits 255).toNat : Int) ≤ 255 := and_le who 255 (by decide)
  have hnew := fun who => bnew_t c hc pv q progs who seq hpr
  refine Tri.of_body (vs := [_, _, _, _, _]) Tryz.func5 rfl rfl fun w0 F => ?_
  repeat' (first | (refine St.halt 6 ?_) |(apply Ya; exact Oa) | (apply Yb; exact Ob) | (apply Yc; exact Oc; intro b) | (apply Ye; exact Oe; intro g cap rest hcap) | (apply Yd; exact Od; intro ad cap) | (apply Yf; exact Oj) | (apply Yg; exact Oj; exact ⟨rfl, rfl⟩) | (apply Yh; exact Oj; rfl) | (apply Yi; exact Oj; exact On; all_goals (intro h; try (exfalso; omega))) | apply StL.nil | apply St.region | apply St.seq | apply St.block | apply St.inBlock | apply St.skip | (apply St.exit; rfl) | (apply St.cond_t; rfl) | (apply St.cond_f; rfl) | (apply Ud; rfl; exact On; all_goals (intro h; try (exfalso; omega))) | (apply Za; rfl; exact Oa) | (apply Zb; rfl; exact Oa; exact Ent.go) | (apply Zc; rfl; exact Ob) | (apply Zd; rfl; exact Oc; intro b; refine ⟨Ent.go, ?_⟩) | (apply Ze; rfl; exact Oc; intro b) | (apply Zf; rfl; exact Oe; intro g cap rest hcap) | (apply Zg; rfl; exact Od; intro ad cap) | apply StD.nil | exact StD.nope | apply StD.pick | (apply StD.claim; rfl; intro b) | (apply Zi; rfl; exact Oj; exact Oa) | (apply Zj; rfl; exact Oj; exact Oa; exact Ent.go) | (apply Zk; rfl; exact Oj; exact ⟨rfl, rfl⟩) | (apply Zl; rfl; exact Oj; exact ⟨rfl, rfl⟩; exact Ent.go) | (apply Zm; rfl; exact Oj; rfl) | (apply Zn; rfl; exact Oj; exact Ent.go; rfl) | (refine St.draw (id := 6) [(0, 1), (1, 0), (2, 0), (3, 0), (4, 1), (5, 0), (6, 0), (7, 0), (8, 2), (9, 0)] [] mixed (by kernel_rfl) ?_) | (apply Ka; exact Og; exact hfew; exact Oh) | (apply Kb; rfl; exact Og; exact hfew; exact Oi) | (apply Kc; rfl; exact Oj; exact Og; exact hfew; exact Oi) | (apply Ka; exact Og; exact hof; exact Oh) | (apply Kb; rfl; exact Og; exact hof; exact Oi) | (apply Kc; rfl; exact Oj; exact Og; exact hof; exact Oi) | (apply Kd; exact Og; exact alive_t; exact Oh; rintro _ _ ⟨rfl, rfl⟩) | (apply Ke; rfl; exact Og; exact alive_t; exact Oh; rintro _ _ ⟨rfl, rfl⟩) | (apply Kf; rfl; exact Og; exact alive_t; exact Oh; rintro _ _ ⟨rfl, rfl⟩; refine ⟨Ent.go, ?_⟩) | (apply Zo; rfl; exact Oj; exact On; all_goals (intro h; try (exfalso; omega))))
  apply Halt.go
  iterate 6 (first | (apply Ya; exact Oa) | (apply Yb; exact Ob) | (apply Yc; exact Oc; intro b) | (apply Ye; exact Oe; intro g cap rest hcap) | (apply Yd; exact Od; intro ad cap) | (apply Yf; exact Oj) | (apply Yg; exact Oj; exact ⟨rfl, rfl⟩) | (apply Yh; exact Oj; rfl) | (apply Yi; exact Oj; exact On; all_goals (intro h; try (exfalso; omega))) | apply StL.nil | apply St.region | apply St.seq | apply St.block | apply St.inBlock | apply St.skip | (apply St.exit; rfl) | (apply St.cond_t; rfl) | (apply St.cond_f; rfl) | (apply Ud; rfl; exact On; all_goals (intro h; try (exfalso; omega))) | (apply Za; rfl; exact Oa) | (apply Zb; rfl; exact Oa; exact Ent.go) | (apply Zc; rfl; exact Ob) | (apply Zd; rfl; exact Oc; intro b; refine ⟨Ent.go, ?_⟩) | (apply Ze; rfl; exact Oc; intro b) | (apply Zf; rfl; exact Oe; intro g cap rest hcap) | (apply Zg; rfl; exact Od; intro ad cap) | apply StD.nil | exact StD.nope | apply StD.pick | (apply StD.claim; rfl; intro b) | (apply Zi; rfl; exact Oj; exact Oa) | (apply Zj; rfl; exact Oj; exact Oa; exact Ent.go) | (apply Zk; rfl; exact Oj; exact ⟨rfl, rfl⟩) | (apply Zl; rfl; exact Oj; exact ⟨rfl, rfl⟩; exact Ent.go) | (apply Zm; rfl; exact Oj; rfl) | (apply Zn; rfl; exact Oj; exact Ent.go; rfl) | (refine St.draw (id := 6) [(0, 1), (1, 0), (2, 0), (3, 0), (4, 1), (5, 0), (6, 0), (7, 0), (8, 2), (9, 0)] [] mixed (by kernel_rfl) ?_)  | (apply Zo; rfl; exact Oj; exact On; all_goals (intro h; try (exfalso; omega))))
  generalize IntKind.i64.wrap ((BitVec.ofInt IntKind.i64.bits who &&& BitVec.ofInt IntKind.i64.bits 255).toNat : Int) = mk at hm ⊢
  have hm0 : 0 ≤ mk % c.threads := Int.emod_nonneg _ (by omega)
  repeat' (first | (apply Ya; exact Oa) | (apply Yb; exact Ob) | (apply Yc; exact Oc; intro b) | (apply Ye; exact Oe; intro g cap rest hcap) | (apply Yd; exact Od; intro ad cap) | (apply Yf; exact Oj) | (apply Yg; exact Oj; exact ⟨rfl, rfl⟩) | (apply Yh; exact Oj; rfl) | (apply Yi; exact Oj; exact On; all_goals (intro h; try (exfalso; omega))) | apply StL.nil | apply St.region | apply St.seq | apply St.block | apply St.inBlock | apply St.skip | (apply St.exit; rfl) | (apply St.cond_t; rfl) | (apply St.cond_f; rfl) | (apply Ud; rfl; exact On; all_goals (intro h; try (exfalso; omega))) | (apply Za; rfl; exact Oa) | (apply Zb; rfl; exact Oa; exact Ent.go) | (apply Zc; rfl; exact Ob) | (apply Zd; rfl; exact Oc; intro b; refine ⟨Ent.go, ?_⟩) | (apply Ze; rfl; exact Oc; intro b) | (apply Zf; rfl; exact Oe; intro g cap rest hcap) | (apply Zg; rfl; exact Od; intro ad cap) | apply StD.nil | exact StD.nope | apply StD.pick | (apply StD.claim; rfl; intro b) | (apply Zi; rfl; exact Oj; exact Oa) | (apply Zj; rfl; exact Oj; exact Oa; exact Ent.go) | (apply Zk; rfl; exact Oj; exact ⟨rfl, rfl⟩) | (apply Zl; rfl; exact Oj; exact ⟨rfl, rfl⟩; exact Ent.go) | (apply Zm; rfl; exact Oj; rfl) | (apply Zn; rfl; exact Oj; exact Ent.go; rfl) | (refine St.draw (id := 6) [(0, 1), (1, 0), (2, 0), (3, 0), (4, 1), (5, 0), (6, 0), (7, 0), (8, 2), (9, 0)] [] mixed (by kernel_rfl) ?_)  | (apply Kd; exact Og; exact hnew (mk % c.threads); exact Oh; rintro _ _ ⟨B, rfl, rfl⟩) | (apply Ke; rfl; exact Og; exact hnew (mk % c.threads); exact Oh; rintro _ _ ⟨B, rfl, rfl⟩) | (apply Kf; rfl; exact Og; exact hnew (mk % c.threads); exact Oh; rintro _ _ ⟨B, rfl, rfl⟩; refine ⟨Ent.go, ?_⟩) | (apply Zo; rfl; exact Oj; exact On; all_goals (intro h; try (exfalso; omega))))
  have hbi := bit_inv (progs := progs) hc (by omega) (Binv.new hc (mk % c.threads) seq) outs
  generalize hbt : bit c progs (Bm.new (mk % c.threads) seq) outs = it at hbi
  have e1 : ∀ k, it (k + 1) = (it k).tell c c.cap.toNat progs (outs.getD k ⟨⟨0, 0⟩, false⟩) := fun k => by rw [← hbt]; rfl
  rw [show Bm.new (mk % c.threads) seq = it 0 by rw [← hbt]; rfl]
  clear hbt hnew hm0 hm
  refine St.loopY (Lr := ?Lr1) (ι := { k : Nat // k ≤ outs.length }) (fun x => outs.length - x.1) (fun x => [(58, .int .i64 (x.1 : Int))]) (fun x => [Bd B c pv q progs (it x.1)]) ⟨0, Nat.zero_le _⟩ ?hE ?hL ?round
  case hE => exact Sub.go
  case hL => exact Takes.go
  case round =>
    rintro ⟨k, hk⟩ IH; dsimp only at hk ⊢
    by_cases hlt : k < outs.length
    · obtain ⟨bf, o, l, l1, rfl, hrd, hdr, htk⟩ := ListR.at (f := Out.v) (sz := 3) (fun _ => rfl) hor k hlt
      have ht := btell_t B c hc pv q progs (it k) (by omega) hpr (hbi k) outs[k]
      rw [show outs[k] = outs.getD k ⟨⟨0, 0⟩, false⟩ by rw [List.getD_eq_getElem?_getD, List.getElem?_eq_getElem hlt]; rfl] at ht htk
      rw [← e1] at ht
      repeat' (first | (apply Ya; exact Oa) | (apply Yb; exact Ob) | (apply Yc; exact Oc; intro b) | (apply Ye; exact Oe; intro g cap rest hcap) | (apply Yd; exact Od; intro ad cap) | (apply Yf; exact Oj) | (apply Yg; exact Oj; exact ⟨rfl, rfl⟩) | (apply Yh; exact Oj; rfl) | (apply Yi; exact Oj; exact On; all_goals (intro h; try (exfalso; omega))) | apply StL.nil | apply St.region | apply St.seq | apply St.block | apply St.inBlock | apply St.skip | (apply St.exit; rfl) | (apply St.cond_t; rfl) | (apply St.cond_f; rfl) | (apply Ud; rfl; exact On; all_goals (intro h; try (exfalso; omega))) | (apply Za; rfl; exact Oa) | (apply Zb; rfl; exact Oa; exact Ent.go) | (apply Zc; rfl; exact Ob) | (apply Zd; rfl; exact Oc; intro b; refine ⟨Ent.go, ?_⟩) | (apply Ze; rfl; exact Oc; intro b) | (apply Zf; rfl; exact Oe; intro g cap rest hcap) | (apply Zg; rfl; exact Od; intro ad cap) | apply StD.nil | exact StD.nope | apply StD.pick | (apply StD.claim; rfl; intro b) | (apply Zi; rfl; exact Oj; exact Oa) | (apply Zj; rfl; exact Oj; exact Oa; exact Ent.go) | (apply Zk; rfl; exact Oj; exact ⟨rfl, rfl⟩) | (apply Zl; rfl; exact Oj; exact ⟨rfl, rfl⟩; exact Ent.go) | (apply Zm; rfl; exact Oj; rfl) | (apply Zn; rfl; exact Oj; exact Ent.go; rfl) | (refine St.draw (id := 6) [(0, 1), (1, 0), (2, 0), (3, 0), (4, 1), (5, 0), (6, 0), (7, 0), (8, 3), (9, 0)] [8] mixed (by kernel_rfl) ?_)  | (apply Kd; exact Og; exact ht; exact Oh; rintro _ _ ⟨rfl, rfl⟩) | (apply Ke; rfl; exact Og; exact ht; exact Oh; rintro _ _ ⟨rfl, rfl⟩) | (apply Kf; rfl; exact Og; exact ht; exact Oh; rintro _ _ ⟨rfl, rfl⟩; refine ⟨Ent.go, ?_⟩) | (apply Zo; rfl; exact Oj; exact On; all_goals (intro h; try (exfalso; omega))))
      refine IH ⟨k + 1, hlt⟩ (by show _ - (k + 1) < _ - k; omega) ?_ ?_
      · exact Sub.go
      · exact Ent.go
    · clear IH
      have hi := hbi k
      generalize it k = m at hi ⊢
      clear hbi e1 hor
      have hst := bstatus_r B c pv q progs m
      by_cases hs : m.b.s = 1
      · rw [hs] at hst
        have hz := hi.done hs
        have hen := bentries_t B c hc pv q progs m hi
        repeat' (first | (refine St.halt 16 ?_) |(apply Ya; exact Oa) | (apply Yb; exact Ob) | (apply Yc; exact Oc; intro b) | (apply Ye; exact Oe; intro g cap rest hcap) | (apply Yd; exact Od; intro ad cap) | (apply Yf; exact Oj) | (apply Yg; exact Oj; exact ⟨rfl, rfl⟩) | (apply Yh; exact Oj; rfl) | (apply Yi; exact Oj; exact On; all_goals (intro h; try (exfalso; omega))) | apply StL.nil | apply St.region | apply St.seq | apply St.block | apply St.inBlock | apply St.skip | (apply St.exit; rfl) | (apply St.cond_t; rfl) | (apply St.cond_f; rfl) | (apply Ud; rfl; exact On; all_goals (intro h; try (exfalso; omega))) | (apply Za; rfl; exact Oa) | (apply Zb; rfl; exact Oa; exact Ent.go) | (apply Zc; rfl; exact Ob) | (apply Zd; rfl; exact Oc; intro b; refine ⟨Ent.go, ?_⟩) | (apply Ze; rfl; exact Oc; intro b) | (apply Zf; rfl; exact Oe; intro g cap rest hcap) | (apply Zg; rfl; exact Od; intro ad cap) | apply StD.nil | exact StD.nope | apply StD.pick | (apply StD.claim; rfl; intro b) | (apply Zi; rfl; exact Oj; exact Oa) | (apply Zj; rfl; exact Oj; exact Oa; exact Ent.go) | (apply Zk; rfl; exact Oj; exact ⟨rfl, rfl⟩) | (apply Zl; rfl; exact Oj; exact ⟨rfl, rfl⟩; exact Ent.go) | (apply Zm; rfl; exact Oj; rfl) | (apply Zn; rfl; exact Oj; exact Ent.go; rfl) | (refine St.draw (id := 6) [(0, 1), (1, 0), (2, 0), (3, 0), (4, 1), (5, 0), (6, 0), (7, 0), (8, 3), (9, 0)] [8] mixed (by kernel_rfl) ?_) | (apply Ka; exact Og; exact hst; exact Oh) | (apply Kb; rfl; exact Og; exact hst; exact Oi) | (apply Kc; rfl; exact Oj; exact Og; exact hst; exact Oi) | (apply Kd; exact Og; exact hen; exact Oh; rintro _ _ ⟨ead, ecap, rfl, rfl⟩) | (apply Ke; rfl; exact Og; exact hen; exact Oh; rintro _ _ ⟨ead, ecap, rfl, rfl⟩) | (apply Kf; rfl; exact Og; exact hen; exact Oh; rintro _ _ ⟨ead, ecap, rfl, rfl⟩; refine ⟨Ent.go, ?_⟩) | (apply Zo; rfl; exact Oj; exact On; all_goals (intro h; try (exfalso; omega))))
        revert b; intro mb
        have hnd := ents_nodup c m.e.puts
        have hwd := fun e x (he : e ∈ entriesOf c m.e.puts) (hx : x ∈ entriesOf c m.e.puts) hk h => ents_word (c := c) (P := m.e.puts) (e := e) (x := x) he hk hx h
        have hel := ents_len c m.e.puts
        have hzl := hz.len
        have hza := fun r hr => hz.ats hc (r := r) hr
        generalize hle : entriesOf c m.e.puts = l at hnd hwd hel hza ⊢
        refine Halt.go (St.conv ?_ (Sub.refl _) (Ent.of_take (p := Row (.slice ead l.length ecap) 111 2 l.length (l.flatMap entV)) Take.go))
        refine St.rowL rfl (fun R hR => ?_)
        obtain ⟨_, _, hv, hR⟩ := hR
        injection hv with hv1 hv2 hv3
        subst hv1 hv3
        have hcp := hc.cap
        repeat' (first | (apply Ya; exact Oa) | (apply Yb; exact Ob) | (apply Yc; exact Oc; intro b) | (apply Ye; exact Oe; intro g cap rest hcap) | (apply Yd; exact Od; intro ad cap) | (apply Yf; exact Oj) | (apply Yg; exact Oj; exact ⟨rfl, rfl⟩) | (apply Yh; exact Oj; rfl) | (apply Yi; exact Oj; exact On; all_goals (intro h; try (exfalso; omega))) | apply StL.nil | apply St.region | apply St.seq | apply St.block | apply St.inBlock | apply St.skip | (apply St.exit; rfl) | (apply St.cond_t; rfl) | (apply St.cond_f; rfl) | (apply Ud; rfl; exact On; all_goals (intro h; try (exfalso; omega))) | (apply Za; rfl; exact Oa) | (apply Zb; rfl; exact Oa; exact Ent.go) | (apply Zc; rfl; exact Ob) | (apply Zd; rfl; exact Oc; intro b; refine ⟨Ent.go, ?_⟩) | (apply Ze; rfl; exact Oc; intro b) | (apply Zf; rfl; exact Oe; intro g cap rest hcap) | (apply Zg; rfl; exact Od; intro ad cap) | apply StD.nil | exact StD.nope | apply StD.pick | (apply StD.claim; rfl; intro b) | (apply Zi; rfl; exact Oj; exact Oa) | (apply Zj; rfl; exact Oj; exact Oa; exact Ent.go) | (apply Zk; rfl; exact Oj; exact ⟨rfl, rfl⟩) | (apply Zl; rfl; exact Oj; exact ⟨rfl, rfl⟩; exact Ent.go) | (apply Zm; rfl; exact Oj; rfl) | (apply Zn; rfl; exact Oj; exact Ent.go; rfl) | (refine St.draw (id := 6) [(0, 1), (1, 0), (2, 0), (3, 0), (4, 1), (5, 0), (6, 0), (7, 0), (8, 3), (9, 0)] [8] mixed (by kernel_rfl) ?_)  | (apply Zo; rfl; exact Oj; exact On; all_goals (intro h; try (exfalso; omega))))
        refine St.loopY (Lr := ?Lr2) (ι := { k : Nat // k ≤ l.length }) (fun x => l.length - x.1) (fun x => [(74, .int .i64 (x.1 : Int))]) (fun x => [Mp mb (Value.int .i64) (Value.int .i64) (atM l x.1)]) ⟨0, Nat.zero_le _⟩ ?hE ?hL ?round
        case hE => exact Sub.go
        case hL => exact Takes.go
        case round =>
          rintro ⟨k2, hk2⟩ IH; dsimp only at hk2 ⊢
          by_cases hlt2 : k2 < l.length
          · obtain ⟨bf, o, lc, l1, rfl, hrd, hdr, htk⟩ := ListR.at (f := entV) (sz := 2) entV_len hR k2 hlt2
            have h0 : (mget (atM l k2) l[k2].1).getD 0 = 0 := atOf_new hnd hlt2
            have hM : atM l (k2 + 1) = mput (atM l k2) l[k2].1 ((k2 : Int) + 1) := by
              show mput _ (l.getD k2 (0, 0)).1 _ = _
              rw [List.getD_eq_getElem?_getD, List.getElem?_eq_getElem hlt2]; rfl
            generalize l[k2] = e at htk h0 hM
            obtain ⟨ek, ev⟩ := e
            unfold entV at htk
            dsimp only at htk h0 hM
            repeat' (first | (apply Ya; exact Oa) | (apply Yb; exact Ob) | (apply Yc; exact Oc; intro b) | (apply Ye; exact Oe; intro g cap rest hcap) | (apply Yd; exact Od; intro ad cap) | (apply Yf; exact Oj) | (apply Yg; exact Oj; exact ⟨rfl, rfl⟩) | (apply Yh; exact Oj; rfl) | (apply Yi; exact Oj; exact On; all_goals (intro h; try (exfalso; omega))) | apply StL.nil | apply St.region | apply St.seq | apply St.block | apply St.inBlock | apply St.skip | (apply St.exit; rfl) | (apply St.cond_t; rfl) | (apply St.cond_f; rfl) | (apply Ud; rfl; exact On; all_goals (intro h; try (exfalso; omega))) | (apply Za; rfl; exact Oa) | (apply Zb; rfl; exact Oa; exact Ent.go) | (apply Zc; rfl; exact Ob) | (apply Zd; rfl; exact Oc; intro b; refine ⟨Ent.go, ?_⟩) | (apply Ze; rfl; exact Oc; intro b) | (apply Zf; rfl; exact Oe; intro g cap rest hcap) | (apply Zg; rfl; exact Od; intro ad cap) | apply StD.nil | exact StD.nope | apply StD.pick | (apply StD.claim; rfl; intro b) | (apply Zi; rfl; exact Oj; exact Oa) | (apply Zj; rfl; exact Oj; exact Oa; exact Ent.go) | (apply Zk; rfl; exact Oj; exact ⟨rfl, rfl⟩) | (apply Zl; rfl; exact Oj; exact ⟨rfl, rfl⟩; exact Ent.go) | (apply Zm; rfl; exact Oj; rfl) | (apply Zn; rfl; exact Oj; exact Ent.go; rfl) | (refine St.draw (id := 6) [(0, 1), (1, 0), (2, 0), (3, 0), (4, 1), (5, 0), (6, 0), (7, 0), (8, 3), (9, 0)] [8] mixed (by kernel_rfl) ?_)  | (apply Zo; rfl; exact Oj; exact On; all_goals (intro h; try (exfalso; omega))))
            refine IH ⟨k2 + 1, hlt2⟩ (by show _ - (k2 + 1) < _ - k2; omega) ?_ ?_
            · exact Sub.go
            · dsimp only; rw [hM]; exact Ent.go
          · clear IH
            obtain rfl : k2 = l.length := by omega
            repeat' (first | (apply Ya; exact Oa) | (apply Yb; exact Ob) | (apply Yc; exact Oc; intro b) | (apply Ye; exact Oe; intro g cap rest hcap) | (apply Yd; exact Od; intro ad cap) | (apply Yf; exact Oj) | (apply Yg; exact Oj; exact ⟨rfl, rfl⟩) | (apply Yh; exact Oj; rfl) | (apply Yi; exact Oj; exact On; all_goals (intro h; try (exfalso; omega))) | apply StL.nil | apply St.region | apply St.seq | apply St.block | apply St.inBlock | apply St.skip | (apply St.exit; rfl) | (apply St.cond_t; rfl) | (apply St.cond_f; rfl) | (apply Ud; rfl; exact On; all_goals (intro h; try (exfalso; omega))) | (apply Za; rfl; exact Oa) | (apply Zb; rfl; exact Oa; exact Ent.go) | (apply Zc; rfl; exact Ob) | (apply Zd; rfl; exact Oc; intro b; refine ⟨Ent.go, ?_⟩) | (apply Ze; rfl; exact Oc; intro b) | (apply Zf; rfl; exact Oe; intro g cap rest hcap) | (apply Zg; rfl; exact Od; intro ad cap) | apply StD.nil | exact StD.nope | apply StD.pick | (apply StD.claim; rfl; intro b) | (apply Zi; rfl; exact Oj; exact Oa) | (apply Zj; rfl; exact Oj; exact Oa; exact Ent.go) | (apply Zk; rfl; exact Oj; exact ⟨rfl, rfl⟩) | (apply Zl; rfl; exact Oj; exact ⟨rfl, rfl⟩; exact Ent.go) | (apply Zm; rfl; exact Oj; rfl) | (apply Zn; rfl; exact Oj; exact Ent.go; rfl) | (refine St.draw (id := 6) [(0, 1), (1, 0), (2, 0), (3, 0), (4, 1), (5, 0), (6, 0), (7, 0), (8, 3), (9, 0)] [8] mixed (by kernel_rfl) ?_)  | (apply Zo; rfl; exact Oj; exact On; all_goals (intro h; try (exfalso; omega))))
            refine St.loopY (Lr := ?Lr3) (ι := { k : Nat // k ≤ l.length }) (fun x => l.length - x.1) (fun x => [(92, .int .i64 (x.1 : Int))]) (fun _ => []) ⟨0, Nat.zero_le _⟩ ?hE ?hL ?round
            case hE => exact Sub.go
            case hL => exact Takes.go
            case round =>
              rintro ⟨k3, hk3⟩ IH; dsimp only at hk3 ⊢
              by_cases hlt3 : k3 < l.length
              · obtain ⟨bf, o, lc, rfl, hrd, hall⟩ := ListR.fix (f := entV) (sz := 2) entV_len hR (by omega)
                obtain ⟨l1, hdr, htk⟩ := hall k3 hlt3
                have hwe := fun x hx => hwd l[k3] x (List.getElem_mem hlt3) hx
                generalize l[k3] = e at htk hwe
                obtain ⟨ek, ev⟩ := e
                unfold entV at htk
                dsimp only at htk hwe
                have hw := what_r c hc ek
                by_cases h16 : (c.what ek).1 = 16
                · have ha := at_r c hc 11 (c.what ek).2.1 0
                  rw [h16] at hw
                  rcases atOf_cases hnd (Nat.le_refl _) (c.at 11 (c.what ek).2.1 0) with ⟨hz0, _⟩ | ⟨i, hi1, _, hi2, hi3⟩
                  · unfold atOf at hz0
                    repeat' (first | (apply Ya; exact Oa) | (apply Yb; exact Ob) | (apply Yc; exact Oc; intro b) | (apply Ye; exact Oe; intro g cap rest hcap) | (apply Yd; exact Od; intro ad cap) | (apply Yf; exact Oj) | (apply Yg; exact Oj; exact ⟨rfl, rfl⟩) | (apply Yh; exact Oj; rfl) | (apply Yi; exact Oj; exact On; all_goals (intro h; try (exfalso; omega))) | apply StL.nil | apply St.region | apply St.seq | apply St.block | apply St.inBlock | apply St.skip | (apply St.exit; rfl) | (apply St.cond_t; rfl) | (apply St.cond_f; rfl) | (apply Ud; rfl; exact On; all_goals (intro h; try (exfalso; omega))) | (apply Za; rfl; exact Oa) | (apply Zb; rfl; exact Oa; exact Ent.go) | (apply Zc; rfl; exact Ob) | (apply Zd; rfl; exact Oc; intro b; refine ⟨Ent.go, ?_⟩) | (apply Ze; rfl; exact Oc; intro b) | (apply Zf; rfl; exact Oe; intro g cap rest hcap) | (apply Zg; rfl; exact Od; intro ad cap) | apply StD.nil | exact StD.nope | apply StD.pick | (apply StD.claim; rfl; intro b) | (apply Zi; rfl; exact Oj; exact Oa) | (apply Zj; rfl; exact Oj; exact Oa; exact Ent.go) | (apply Zk; rfl; exact Oj; exact ⟨rfl, rfl⟩) | (apply Zl; rfl; exact Oj; exact ⟨rfl, rfl⟩; exact Ent.go) | (apply Zm; rfl; exact Oj; rfl) | (apply Zn; rfl; exact Oj; exact Ent.go; rfl) | (refine St.draw (id := 6) [(0, 1), (1, 0), (2, 0), (3, 0), (4, 1), (5, 0), (6, 0), (7, 0), (8, 3), (9, 0)] [8] mixed (by kernel_rfl) ?_) | (apply Ka; exact Og; exact hw; exact Oh) | (apply Kb; rfl; exact Og; exact hw; exact Oi) | (apply Kc; rfl; exact Oj; exact Og; exact hw; exact Oi) | (apply Ka; exact Og; exact ha; exact Oh) | (apply Kb; rfl; exact Og; exact ha; exact Oi) | (apply Kc; rfl; exact Oj; exact Og; exact ha; exact Oi) | (apply Zo; rfl; exact Oj; exact On; all_goals (intro h; try (exfalso; omega))))
                    refine IH ⟨k3 + 1, hlt3⟩ (by show _ - (k3 + 1) < _ - k3; omega) ?_ ?_
                    · exact Sub.go
                    · exact Ent.go
                  · unfold atOf at hi3
                    have hx1 := hwe l[i] (List.getElem_mem hi1) h16 hi2
                    obtain ⟨l2, hdr2, htk2⟩ := hall i hi1
                    have hv2 : NthN (o + ((mget (atM l l.length) (c.at 11 (c.what ek).2.1 0)).getD 0 - 1).toNat * 2 + 1) lc (.int .u64 1) := by
                      rw [hi3, show ((i : Int) + 1 - 1).toNat = (i : Int).toNat by omega]
                      refine NthN.part hdr2 htk2 ?_
                      unfold entV
                      rw [hx1]
                      exact .succ .zero
                    clear hdr2 htk2
                    repeat' (first | (apply Ya; exact Oa) | (apply Yb; exact Ob) | (apply Yc; exact Oc; intro b) | (apply Ye; exact Oe; intro g cap rest hcap) | (apply Yd; exact Od; intro ad cap) | (apply Yf; exact Oj) | (apply Yg; exact Oj; exact ⟨rfl, rfl⟩) | (apply Yh; exact Oj; rfl) | (apply Yi; exact Oj; exact On; all_goals (intro h; try (exfalso; omega))) | apply StL.nil | apply St.region | apply St.seq | apply St.block | apply St.inBlock | apply St.skip | (apply St.exit; rfl) | (apply St.cond_t; rfl) | (apply St.cond_f; rfl) | (apply Ud; rfl; exact On; all_goals (intro h; try (exfalso; omega))) | (apply Za; rfl; exact Oa) | (apply Zb; rfl; exact Oa; exact Ent.go) | (apply Zc; rfl; exact Ob) | (apply Zd; rfl; exact Oc; intro b; refine ⟨Ent.go, ?_⟩) | (apply Ze; rfl; exact Oc; intro b) | (apply Zf; rfl; exact Oe; intro g cap rest hcap) | (apply Zg; rfl; exact Od; intro ad cap) | apply StD.nil | exact StD.nope | apply StD.pick | (apply StD.claim; rfl; intro b) | (apply Zi; rfl; exact Oj; exact Oa) | (apply Zj; rfl; exact Oj; exact Oa; exact Ent.go) | (apply Zk; rfl; exact Oj; exact ⟨rfl, rfl⟩) | (apply Zl; rfl; exact Oj; exact ⟨rfl, rfl⟩; exact Ent.go) | (apply Zm; rfl; exact Oj; rfl) | (apply Zn; rfl; exact Oj; exact Ent.go; rfl) | (refine St.draw (id := 6) [(0, 1), (1, 0), (2, 0), (3, 0), (4, 1), (5, 0), (6, 0), (7, 0), (8, 3), (9, 0)] [8] mixed (by kernel_rfl) ?_) | (apply Ka; exact Og; exact hw; exact Oh) | (apply Kb; rfl; exact Og; exact hw; exact Oi) | (apply Kc; rfl; exact Oj; exact Og; exact hw; exact Oi) | (apply Ka; exact Og; exact ha; exact Oh) | (apply Kb; rfl; exact Og; exact ha; exact Oi) | (apply Kc; rfl; exact Oj; exact Og; exact ha; exact Oi) | (apply Zo; rfl; exact Oj; exact On; all_goals (intro h; try (exfalso; omega))))
                    refine IH ⟨k3 + 1, hlt3⟩ (by show _ - (k3 + 1) < _ - k3; omega) ?_ ?_
                    · exact Sub.go
                    · exact Ent.go
                · repeat' (first | (apply Ya; exact Oa) | (apply Yb; exact Ob) | (apply Yc; exact Oc; intro b) | (apply Ye; exact Oe; intro g cap rest hcap) | (apply Yd; exact Od; intro ad cap) | (apply Yf; exact Oj) | (apply Yg; exact Oj; exact ⟨rfl, rfl⟩) | (apply Yh; exact Oj; rfl) | (apply Yi; exact Oj; exact On; all_goals (intro h; try (exfalso; omega))) | apply StL.nil | apply St.region | apply St.seq | apply St.block | apply St.inBlock | apply St.skip | (apply St.exit; rfl) | (apply St.cond_t; rfl) | (apply St.cond_f; rfl) | (apply Ud; rfl; exact On; all_goals (intro h; try (exfalso; omega))) | (apply Za; rfl; exact Oa) | (apply Zb; rfl; exact Oa; exact Ent.go) | (apply Zc; rfl; exact Ob) | (apply Zd; rfl; exact Oc; intro b; refine ⟨Ent.go, ?_⟩) | (apply Ze; rfl; exact Oc; intro b) | (apply Zf; rfl; exact Oe; intro g cap rest hcap) | (apply Zg; rfl; exact Od; intro ad cap) | apply StD.nil | exact StD.nope | apply StD.pick | (apply StD.claim; rfl; intro b) | (apply Zi; rfl; exact Oj; exact Oa) | (apply Zj; rfl; exact Oj; exact Oa; exact Ent.go) | (apply Zk; rfl; exact Oj; exact ⟨rfl, rfl⟩) | (apply Zl; rfl; exact Oj; exact ⟨rfl, rfl⟩; exact Ent.go) | (apply Zm; rfl; exact Oj; rfl) | (apply Zn; rfl; exact Oj; exact Ent.go; rfl) | (refine St.draw (id := 6) [(0, 1), (1, 0), (2, 0), (3, 0), (4, 1), (5, 0), (6, 0), (7, 0), (8, 3), (9, 0)] [8] mixed (by kernel_rfl) ?_) | (apply Ka; exact Og; exact hw; exact Oh) | (apply Kb; rfl; exact Og; exact hw; exact Oi) | (apply Kc; rfl; exact Oj; exact Og; exact hw; exact Oi) | (apply Zo; rfl; exact Oj; exact On; all_goals (intro h; try (exfalso; omega))))
                  refine IH ⟨k3 + 1, hlt3⟩ (by show _ - (k3 + 1) < _ - k3; omega) ?_ ?_
                  · exact Sub.go
                  · exact Ent.go
              · clear IH
                have hrw := brows_t B c hc pv q progs m hi
                repeat' (first | (refine St.halt 33 ?_) |(apply Ya; exact Oa) | (apply Yb; exact Ob) | (apply Yc; exact Oc; intro b) | (apply Ye; exact Oe; intro g cap rest hcap) | (apply Yd; exact Od; intro ad cap) | (apply Yf; exact Oj) | (apply Yg; exact Oj; exact ⟨rfl, rfl⟩) | (apply Yh; exact Oj; rfl) | (apply Yi; exact Oj; exact On; all_goals (intro h; try (exfalso; omega))) | apply StL.nil | apply St.region | apply St.seq | apply St.block | apply St.inBlock | apply St.skip | (apply St.exit; rfl) | (apply St.cond_t; rfl) | (apply St.cond_f; rfl) | (apply Ud; rfl; exact On; all_goals (intro h; try (exfalso; omega))) | (apply Za; rfl; exact Oa) | (apply Zb; rfl; exact Oa; exact Ent.go) | (apply Zc; rfl; exact Ob) | (apply Zd; rfl; exact Oc; intro b; refine ⟨Ent.go, ?_⟩) | (apply Ze; rfl; exact Oc; intro b) | (apply Zf; rfl; exact Oe; intro g cap rest hcap) | (apply Zg; rfl; exact Od; intro ad cap) | apply StD.nil | exact StD.nope | apply StD.pick | (apply StD.claim; rfl; intro b) | (apply Zi; rfl; exact Oj; exact Oa) | (apply Zj; rfl; exact Oj; exact Oa; exact Ent.go) | (apply Zk; rfl; exact Oj; exact ⟨rfl, rfl⟩) | (apply Zl; rfl; exact Oj; exact ⟨rfl, rfl⟩; exact Ent.go) | (apply Zm; rfl; exact Oj; rfl) | (apply Zn; rfl; exact Oj; exact Ent.go; rfl) | (refine St.draw (id := 6) [(0, 1), (1, 0), (2, 0), (3, 0), (4, 1), (5, 0), (6, 0), (7, 0), (8, 3), (9, 0)] [8] mixed (by kernel_rfl) ?_)  | (apply Kd; exact Og; exact hrw; exact Oh; rintro _ _ ⟨rad, rcap, rs, hrs, rfl, rfl⟩) | (apply Ke; rfl; exact Og; exact hrw; exact Oh; rintro _ _ ⟨rad, rcap, rs, hrs, rfl, rfl⟩) | (apply Kf; rfl; exact Og; exact hrw; exact Oh; rintro _ _ ⟨rad, rcap, rs, hrs, rfl, rfl⟩; refine ⟨Ent.go, ?_⟩) | (apply Zo; rfl; exact Oj; exact On; all_goals (intro h; try (exfalso; omega))))
                have hrl : rs.length = m.rows.length := by rw [← hrs, List.length_map]
                refine St.conv ?_ (Sub.refl _) (Ent.of_take (p := Row (.slice rad m.rows.length rcap) 116 5 m.rows.length (rs.flatMap rowV)) Take.go)
                refine St.rowL hrl (fun R2 hR2 => ?_)
                obtain ⟨_, _, hv, hR2⟩ := hR2
                injection hv with hv1 hv2 hv3
                subst hv1 hv3
                have hrz := hi.rows
                have hui := hi.u
                have htb := hc.t1
                refine St.loopY (Lr := ?Lr4) (ι := { k : Nat // k ≤ m.rows.length }) (fun x => m.rows.length - x.1) (fun x => [(126, .int .i64 (x.1 : Int))]) (fun _ => []) ⟨0, Nat.zero_le _⟩ ?hE ?hL ?round
                case hE => exact Sub.go
                case hL => exact Takes.go
                case round =>
                  rintro ⟨k4, hk4⟩ IH; dsimp only at hk4 ⊢
                  by_cases hlt4 : k4 < m.rows.length
                  · obtain ⟨bf, o, lc, l1, rfl, hrd, hdr, htk⟩ := ListR.at (f := rowV) (sz := 5) (fun _ => rfl) hR2 k4 (by omega)
                    have hmem : rs[k4].1 ∈ m.rows := by rw [← hrs]; exact List.mem_map.2 ⟨rs[k4], List.getElem_mem _, rfl⟩
                    have hq := hza _ hmem
                    generalize rs[k4] = r at htk hq
                    obtain ⟨r, nad, ncap⟩ := r
                    unfold rowV at htk
                    dsimp only at htk hq
                    unfold atOf at hq
                    have h7 := at_r c hc 7 r.who 0
                    have h8 := at_r c hc 8 r.who 0
                    have h9 := at_r c hc 9 r.who 0
                    obtain ⟨q1, q2, q3, q4⟩ := hq
                    repeat' (first | (apply Ya; exact Oa) | (apply Yb; exact Ob) | (apply Yc; exact Oc; intro b) | (apply Ye; exact Oe; intro g cap rest hcap) | (apply Yd; exact Od; intro ad cap) | (apply Yf; exact Oj) | (apply Yg; exact Oj; exact ⟨rfl, rfl⟩) | (apply Yh; exact Oj; rfl) | (apply Yi; exact Oj; exact On; all_goals (intro h; try (exfalso; omega))) | apply StL.nil | apply St.region | apply St.seq | apply St.block | apply St.inBlock | apply St.skip | (apply St.exit; rfl) | (apply St.cond_t; rfl) | (apply St.cond_f; rfl) | (apply Ud; rfl; exact On; all_goals (intro h; try (exfalso; omega))) | (apply Za; rfl; exact Oa) | (apply Zb; rfl; exact Oa; exact Ent.go) | (apply Zc; rfl; exact Ob) | (apply Zd; rfl; exact Oc; intro b; refine ⟨Ent.go, ?_⟩) | (apply Ze; rfl; exact Oc; intro b) | (apply Zf; rfl; exact Oe; intro g cap rest hcap) | (apply Zg; rfl; exact Od; intro ad cap) | apply StD.nil | exact StD.nope | apply StD.pick | (apply StD.claim; rfl; intro b) | (apply Zi; rfl; exact Oj; exact Oa) | (apply Zj; rfl; exact Oj; exact Oa; exact Ent.go) | (apply Zk; rfl; exact Oj; exact ⟨rfl, rfl⟩) | (apply Zl; rfl; exact Oj; exact ⟨rfl, rfl⟩; exact Ent.go) | (apply Zm; rfl; exact Oj; rfl) | (apply Zn; rfl; exact Oj; exact Ent.go; rfl) | (refine St.draw (id := 6) [(0, 1), (1, 0), (2, 0), (3, 0), (4, 1), (5, 0), (6, 0), (7, 0), (8, 3), (9, 0)] [8] mixed (by kernel_rfl) ?_) | (apply Ka; exact Og; exact h7; exact Oh) | (apply Kb; rfl; exact Og; exact h7; exact Oi) | (apply Kc; rfl; exact Oj; exact Og; exact h7; exact Oi) | (apply Ka; exact Og; exact h8; exact Oh) | (apply Kb; rfl; exact Og; exact h8; exact Oi) | (apply Kc; rfl; exact Oj; exact Og; exact h8; exact Oi) | (apply Ka; exact Og; exact h9; exact Oh) | (apply Kb; rfl; exact Og; exact h9; exact Oi) | (apply Kc; rfl; exact Oj; exact Og; exact h9; exact Oi) | (apply Zo; rfl; exact Oj; exact On; all_goals (intro h; try (exfalso; omega))))
                    refine IH ⟨k4 + 1, hlt4⟩ (by show _ - (k4 + 1) < _ - k4; omega) ?_ ?_
                    · exact Sub.go
                    · exact Ent.go
                  · clear IH
                    have hcap := cap_r c hc c.fr rfl
                    have hle2 : ((l.length : Nat) : Int) ≤ c.cap := by omega
                    repeat' (first | (apply Ya; exact Oa) | (apply Yb; exact Ob) | (apply Yc; exact Oc; intro b) | (apply Ye; exact Oe; intro g cap rest hcap) | (apply Yd; exact Od; intro ad cap) | (apply Yf; exact Oj) | (apply Yg; exact Oj; exact ⟨rfl, rfl⟩) | (apply Yh; exact Oj; rfl) | (apply Yi; exact Oj; exact On; all_goals (intro h; try (exfalso; omega))) | apply StL.nil | apply St.region | apply St.seq | apply St.block | apply St.inBlock | apply St.skip | (apply St.exit; rfl) | (apply St.cond_t; rfl) | (apply St.cond_f; rfl) | (apply Ud; rfl; exact On; all_goals (intro h; try (exfalso; omega))) | (apply Za; rfl; exact Oa) | (apply Zb; rfl; exact Oa; exact Ent.go) | (apply Zc; rfl; exact Ob) | (apply Zd; rfl; exact Oc; intro b; refine ⟨Ent.go, ?_⟩) | (apply Ze; rfl; exact Oc; intro b) | (apply Zf; rfl; exact Oe; intro g cap rest hcap) | (apply Zg; rfl; exact Od; intro ad cap) | apply StD.nil | exact StD.nope | apply StD.pick | (apply StD.claim; rfl; intro b) | (apply Zi; rfl; exact Oj; exact Oa) | (apply Zj; rfl; exact Oj; exact Oa; exact Ent.go) | (apply Zk; rfl; exact Oj; exact ⟨rfl, rfl⟩) | (apply Zl; rfl; exact Oj; exact ⟨rfl, rfl⟩; exact Ent.go) | (apply Zm; rfl; exact Oj; rfl) | (apply Zn; rfl; exact Oj; exact Ent.go; rfl) | (refine St.draw (id := 6) [(0, 1), (1, 0), (2, 0), (3, 0), (4, 1), (5, 0), (6, 0), (7, 0), (8, 3), (9, 0)] [8] mixed (by kernel_rfl) ?_) | (apply Ka; exact Og; exact hcap; exact Oh) | (apply Kb; rfl; exact Og; exact hcap; exact Oi) | (apply Kc; rfl; exact Oj; exact Og; exact hcap; exact Oi) | (apply Zo; rfl; exact Oj; exact On; all_goals (intro h; try (exfalso; omega))))
                    refine St.d1 Tryz.func5 ⟨_, ⟨?_, rfl⟩, Ent.go⟩
                    simp [resV, hle2]
      · repeat' (first | (apply Ya; exact Oa) | (apply Yb; exact Ob) | (apply Yc; exact Oc; intro b) | (apply Ye; exact Oe; intro g cap rest hcap) | (apply Yd; exact Od; intro ad cap) | (apply Yf; exact Oj) | (apply Yg; exact Oj; exact ⟨rfl, rfl⟩) | (apply Yh; exact Oj; rfl) | (apply Yi; exact Oj; exact On; all_goals (intro h; try (exfalso; omega))) | apply StL.nil | apply St.region | apply St.seq | apply St.block | apply St.inBlock | apply St.skip | (apply St.exit; rfl) | (apply St.cond_t; rfl) | (apply St.cond_f; rfl) | (apply Ud; rfl; exact On; all_goals (intro h; try (exfalso; omega))) | (apply Za; rfl; exact Oa) | (apply Zb; rfl; exact Oa; exact Ent.go) | (apply Zc; rfl; exact Ob) | (apply Zd; rfl; exact Oc; intro b; refine ⟨Ent.go, ?_⟩) | (apply Ze; rfl; exact Oc; intro b) | (apply Zf; rfl; exact Oe; intro g cap rest hcap) | (apply Zg; rfl; exact Od; intro ad cap) | apply StD.nil | exact StD.nope | apply StD.pick | (apply StD.claim; rfl; intro b) | (apply Zi; rfl; exact Oj; exact Oa) | (apply Zj; rfl; exact Oj; exact Oa; exact Ent.go) | (apply Zk; rfl; exact Oj; exact ⟨rfl, rfl⟩) | (apply Zl; rfl; exact Oj; exact ⟨rfl, rfl⟩; exact Ent.go) | (apply Zm; rfl; exact Oj; rfl) | (apply Zn; rfl; exact Oj; exact Ent.go; rfl) | (refine St.draw (id := 6) [(0, 1), (1, 0), (2, 0), (3, 0), (4, 1), (5, 0), (6, 0), (7, 0), (8, 3), (9, 0)] [8] mixed (by kernel_rfl) ?_) | (apply Ka; exact Og; exact hst; exact Oh) | (apply Kb; rfl; exact Og; exact hst; exact Oi) | (apply Kc; rfl; exact Oj; exact Og; exact hst; exact Oi) | (apply Zo; rfl; exact Oj; exact On; all_goals (intro h; try (exfalso; omega))))
        refine St.d1 Tryz.func5 ⟨_, ⟨rfl, rfl⟩, Ent.go⟩
theorem order_t (c : Cfg) (who : Int) (seq : Nat) (q : HProp) (pv ov : Value) (progs : Progs) (outs : List Out) (hpv : ProgsG q pv progs) (hov : ListR Out.v q ov outs) :
    Tri Tryz.prog 5 #[.agg ⟨c.v⟩, .int .i64 who, .int .u64 (seq : Int), pv, ov] [q] (orderQ q) := by
  by_cases h : few14B c progs = true ∧ outs.length ≤ 100
  · exact order_near c who seq q pv ov progs outs hpv hov h.1 h.2
  · exact order_few c who seq q pv ov progs outs hpv hov h
end Go.Proofs.YtipnljhelbjmaaaGreat
