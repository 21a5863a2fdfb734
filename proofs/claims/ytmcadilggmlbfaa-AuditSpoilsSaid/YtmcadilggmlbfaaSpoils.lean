/-
  The law AuditSpoils.
-/
import Derived.Test.YtmcadilggmlbfaaAlive
namespace Go.Proofs.Ytmcadilggmlbfaa
def Ev.spoil (e : Ev) (x : Cell) : Ev := ⟨e.who, e.op, ⟨x, e.out.ok⟩⟩
theorem audStep_spoil {c : Cfg} {a a' : AudS} {ev : Ev} {x : Cell} (h : audStep c a ev = .ok a') (hx : x ≠ ev.out.was) : audStep c a (ev.spoil x) = .error 33 := by
  unfold audStep at h
  split at h
  · cases h
  · rename_i h1
    split at h
    · cases h
    · rename_i h2
      clear h
      unfold audStep
      rw [if_neg (show ¬ checkOf a.cs.length (ev.spoil x).who (ev.spoil x).op ≠ 0 from h1), if_pos]
      have h3 := Out.eqB_iff.1 ((Bool.not_eq_false _).mp h2)
      cases hb : (outOf (a.cs.getD ev.op.at_.toNat ⟨0, 0⟩) ev.op).eqB (ev.spoil x).out with
      | false => exact hb
      | true =>
        have h4 := Out.eqB_iff.1 hb
        rw [h3] at h4
        exact absurd (congrArg Out.was h4).symm hx
theorem audGo_take {c : Cfg} : ∀ {evs : List Ev} {a : AudS} {k i : Nat}, (audGo c a k evs).2.2 = 0 → (audGo c a k (evs.take i)).2.2 = 0
  | [], a, k, i, h => by simp [audGo]
  | ev :: evs, a, k, 0, h => by simp [audGo]
  | ev :: evs, a, k, i + 1, h => by
    simp only [audGo, List.take_succ_cons] at h ⊢
    cases hs : audStep c a ev with
    | error e => rw [hs] at h; exact absurd h (audStep_err hs)
    | ok a' => rw [hs] at h; exact audGo_take h
theorem audGo_spoil {c : Cfg} {x : Cell} : ∀ {evs : List Ev} {a : AudS} {k i : Nat} (hi : i < evs.length), (audGo c a k evs).2.2 = 0 → x ≠ evs[i].out.was → audGo c a k (evs.set i (evs[i].spoil x)) = (⟨0, 0, 0⟩, ((k + i : Nat) : Int), 33)
  | [], a, k, i, hi, h, hx => by simp at hi
  | ev :: evs, a, k, 0, hi, h, hx => by
    simp only [audGo, List.set_cons_zero, List.getElem_cons_zero] at h hx ⊢
    cases hs : audStep c a ev with
    | error e => rw [hs] at h; exact absurd h (audStep_err hs)
    | ok a' => rw [audStep_spoil hs hx]; rfl
  | ev :: evs, a, k, i + 1, hi, h, hx => by
    simp only [audGo, List.set_cons_succ, List.getElem_cons_succ] at h hx ⊢
    cases hs : audStep c a ev with
    | error e => rw [hs] at h; exact absurd h (audStep_err hs)
    | ok a' =>
      rw [hs] at h
      dsimp only
      rw [audGo_spoil (by simpa using hi) h hx]
      congr 3
      omega
theorem auditOf_take {c : Cfg} {evs : List Ev} (i : Nat) (h : (auditOf c evs).2.2 = 0) : (auditOf c (evs.take i)).2.2 = 0 := by
  unfold auditOf at *
  split
  · rename_i h1; rw [if_pos h1] at h; exact audGo_take h
  · rename_i h1; rw [if_neg h1] at h; cases h
theorem auditOf_spoil {c : Cfg} {evs : List Ev} {x : Cell} {i : Nat} (hi : i < evs.length) (h : (auditOf c evs).2.2 = 0) (hx : x ≠ evs[i].out.was) : auditOf c (evs.set i (evs[i].spoil x)) = (⟨0, 0, 0⟩, (i : Int), 33) := by
  unfold auditOf at *
  split
  · rename_i h1; rw [if_pos h1] at h; rw [audGo_spoil hi h hx, Nat.zero_add]
  · rename_i h1; rw [if_neg h1] at h; cases h
theorem EvsR.take {q : HProp} {ad : Option Addr} {cap : Nat} {evs : List Ev} (hcap : evs.length ≤ cap) (h : evs.length = 0 ∨ ∃ b o l rest, ad = some ⟨b, o, none⟩ ∧ RdC q b l ∧ DropN o l (evs.flatMap Ev.v ++ rest)) (i : Nat) (hi : i ≤ evs.length) :
    EvsR q (.slice ad i cap) (evs.take i) := by
  have hl : (evs.take i).length = i := by rw [List.length_take]; omega
  refine ⟨ad, cap, by rw [hl], by omega, ?_⟩
  rcases h with h | ⟨b, o, l, rest, h1, h2, h3⟩
  · left; omega
  · right
    refine ⟨b, o, l, (evs.drop i).flatMap Ev.v ++ rest, h1, h2, ?_⟩
    rw [← List.append_assoc, ← List.flatMap_append, List.take_append_drop]
    exact h3
theorem Ev.flat_len (evs : List Ev) : (evs.flatMap Ev.v).length = evs.length * 10 := by
  induction evs with
  | nil => rfl
  | cons e l ih => rw [List.flatMap_cons, List.length_append, ih, Ev.v_len, List.length_cons]; omega
theorem Ev.flat_one (evs : List Ev) : (evs.flatMap Ev.v).all one = true := by
  induction evs with
  | nil => rfl
  | cons e l ih => rw [List.flatMap_cons, List.all_append, ih]; rfl
theorem and_le (a : Int) (m : Nat) (hm : m < 9223372036854775808) : 0 ≤ IntKind.i64.wrap ((BitVec.ofInt IntKind.i64.bits a &&& BitVec.ofInt IntKind.i64.bits m).toNat : Int) ∧ IntKind.i64.wrap ((BitVec.ofInt IntKind.i64.bits a &&& BitVec.ofInt IntKind.i64.bits m).toNat : Int) ≤ m := by
  have h1 : (BitVec.ofInt IntKind.i64.bits a &&& BitVec.ofInt IntKind.i64.bits m).toNat ≤ m := by
    rw [BitVec.toNat_and]
    refine Nat.le_trans Nat.and_le_right ?_
    rw [BitVec.toNat_ofInt]
    have : (2 : Nat) ^ IntKind.i64.bits = 18446744073709551616 := rfl
    rw [this]
    omega
  generalize (BitVec.ofInt IntKind.i64.bits a &&& BitVec.ofInt IntKind.i64.bits m).toNat = n at h1
  have : IntKind.i64.wrap (n : Int) = n := by simp [IntKind.wrap, IntKind.bits, IntKind.signed]; omega
  rw [this]
  omega
theorem OverN.more {α : Type} {vs l l' : List α} (h : OverN vs l l') (r : List α) : OverN vs (l ++ r) (l' ++ r) := by
  induction h with
  | nil => exact .nil
  | cons _ ih => exact .cons ih
theorem SplN.more {α : Type} {vs : List α} {n : Nat} {l l' : List α} (h : SplN vs n l l') (r : List α) : SplN vs n (l ++ r) (l' ++ r) := by
  induction h with
  | zero h => exact .zero (h.more r)
  | succ _ ih => exact .succ ih
theorem SplN.app_right {α : Type} {vs : List α} {n : Nat} {l l' : List α} (h : SplN vs n l l') : ∀ m : List α, SplN vs (m.length + n) (m ++ l) (m ++ l')
  | [] => by rw [List.length_nil, Nat.zero_add]; exact h
  | y :: m => by rw [List.length_cons, Nat.add_right_comm]; exact .succ (h.app_right m)
theorem SplN.part {α : Type} {f : α → List Value} {sz : Nat} (hf : ∀ x, (f x).length = sz) {l : List α} {i j : Nat} {vs : List Value} {x : α} (hi : i < l.length) (h : SplN vs j (f l[i]) (f x)) : SplN vs (i * sz + j) (l.flatMap f) ((l.set i x).flatMap f) := by
  have h1 := (h.more ((l.drop (i + 1)).flatMap f)).app_right ((l.take i).flatMap f)
  rw [flat_len hf, List.length_take, Nat.min_eq_left (Nat.le_of_lt hi), ← flat_split f hi, ← flat_set f hi] at h1
  exact h1
theorem Ev.drop7 (e : Ev) (r : List Value) : DropN 7 (e.v ++ r) (e.out.was.v ++ (.bool e.out.ok :: r)) := .succ (.succ (.succ (.succ (.succ (.succ (.succ .zero))))))
theorem Ev.spl7 (e : Ev) (x : Cell) : SplN x.v 7 e.v (e.spoil x).v := .succ (.succ (.succ (.succ (.succ (.succ (.succ (.zero (.cons (.cons .nil)))))))))
set_option maxRecDepth 100000 in
theorem spoils_t (c : Cfg) (q : HProp) (v : Value) (evs : List Ev) (hv : EvsR q v evs) (at_ : Int) (was : Cell) (hwas : was.val < 18446744073709551616) :
    Tri Try.prog 4 #[.agg ⟨c.v⟩, v, .int .i64 at_, .agg ⟨was.v⟩] [q] fun v L => v = .bool true ∧ L = [q] := by
  have hv0 := hv
  obtain ⟨ad, cap, rfl, hcap, hev⟩ := hv
  have hal := alive_t
  by_cases hbig : evs.length > 60 ∨ evs.length = 0
  · refine Tri.of_body (vs := [_, _, _, _]) Try.func4 rfl rfl fun w0 F => ?_
    repeat' (first | (first | (apply StL.v; exact OpV.go; rfl) | (apply StL.ok; exact OpOk.gt; rfl; rintro _ _ ⟨rfl, rfl⟩) | (apply StL.ok; exact OpOk.gf; rfl; rintro _ _ ⟨b, rfl, rfl⟩) | (apply StL.ok; exact OpOk.ga; rfl; rintro tv _ ⟨htv, rfl⟩) | (apply StL.g_yes; rfl; rfl) | (apply StL.g_no; rfl; rfl; rfl; rfl) | (apply StL.g_undef; rfl; rfl; rfl) | (apply StL.gsplit; rfl; rfl; all_goals (intro h; (first | replace h := of_decide_eq_true h | replace h := of_decide_eq_false h | replace h := beq_iff_eq.1 h | replace h := beq_eq_false_iff_ne.1 h | replace h := bne_iff_ne.1 h | replace h := bne_eq_false_iff_eq.1 h | skip); (try (exfalso; omega)))) | apply StL.nil | apply St.region | apply St.seq | apply St.block | apply St.inBlock | apply St.skip | (apply St.exit; rfl) | (apply St.cond_t; rfl) | (apply St.cond_f; rfl) | (apply St.cond; rfl; all_goals (intro h; (first | replace h := of_decide_eq_true h | replace h := of_decide_eq_false h | replace h := beq_iff_eq.1 h | replace h := beq_eq_false_iff_ne.1 h | replace h := bne_iff_ne.1 h | replace h := bne_eq_false_iff_eq.1 h | skip); (try (exfalso; omega))))) | (first | (apply StD.v0; rfl; exact OpV.go; rfl) | (apply StD.v1; rfl; exact OpV.go; exact Ent.go; rfl) | (apply StD.ok3; rfl; exact OpOk.gt; rfl; rintro _ _ ⟨rfl, rfl⟩) | (apply StD.ok2; rfl; exact OpOk.gf; rfl; rintro _ _ ⟨b, rfl, rfl⟩; refine ⟨Ent.go, ?_⟩) | (apply StD.ok3; rfl; exact OpOk.ga; rfl; rintro tv _ ⟨htv, rfl⟩) | apply StD.nil | exact StD.nope | apply StD.pick | (apply StD.claim; rfl; intro b) | (apply StD.g0; rfl; rfl; rfl; exact OpV.go; rfl) | (apply StD.g1; rfl; rfl; rfl; exact OpV.go; exact Ent.go; rfl) | (apply StD.skip0; rfl; rfl; rfl; rfl; rfl) | (apply StD.skip1; rfl; rfl; rfl; rfl; exact Ent.go; rfl) | (apply StD.skipu; rfl; rfl; rfl; rfl) | (apply StD.skipu1; rfl; rfl; rfl; exact Ent.go; rfl) | (apply StD.gsplit; rfl; rfl; rfl; all_goals (intro h; (first | replace h := of_decide_eq_true h | replace h := of_decide_eq_false h | replace h := beq_iff_eq.1 h | replace h := beq_eq_false_iff_ne.1 h | replace h := bne_iff_ne.1 h | replace h := bne_eq_false_iff_eq.1 h | skip); (try (exfalso; omega))))) | (refine St.draw (id := 9) [(0, 1), (1, 0), (2, 0), (3, 0), (4, 1), (5, 0), (6, 0), (7, 0), (8, 0), (9, 2), (10, 3), (11, 0), (12, 0)] [10] mixed (by kernel_rfl) ?_) | (refine St.draw (id := 11) [(0, 1), (1, 0), (2, 0), (3, 0), (4, 0), (5, 0), (6, 1), (7, 0)] [] mixed (by kernel_rfl) ?_)  | (apply StL.callt; (apply OpC.func; exact Evs.go); exact hal; exact Ent.go; rfl; rintro _ _ ⟨rfl, rfl⟩) | (apply StD.callt; rfl; (apply OpC.func; exact Evs.go); exact hal; exact Ent.go; rfl; rintro _ _ ⟨rfl, rfl⟩) | (apply StD.callt2; rfl; (apply OpC.func; exact Evs.go); exact hal; exact Ent.go; rfl; rintro _ _ ⟨rfl, rfl⟩; refine ⟨Ent.go, ?_⟩))
    all_goals (refine St.d1 Try.func4 ?_; apply Exists.intro; apply And.intro; exact ⟨rfl, rfl⟩; exact Ent.go)
  · have hau := audit_t c q _ evs hv0 (by omega)
    by_cases he : (auditOf c evs).2.2 = 0
    · refine Tri.of_body (vs := [_, _, _, _]) Try.func4 rfl rfl fun w0 F => ?_
      repeat' (first | (first | (apply StL.v; exact OpV.go; rfl) | (apply StL.ok; exact OpOk.gt; rfl; rintro _ _ ⟨rfl, rfl⟩) | (apply StL.ok; exact OpOk.gf; rfl; rintro _ _ ⟨b, rfl, rfl⟩) | (apply StL.ok; exact OpOk.ga; rfl; rintro tv _ ⟨htv, rfl⟩) | (apply StL.g_yes; rfl; rfl) | (apply StL.g_no; rfl; rfl; rfl; rfl) | (apply StL.g_undef; rfl; rfl; rfl) | (apply StL.gsplit; rfl; rfl; all_goals (intro h; (first | replace h := of_decide_eq_true h | replace h := of_decide_eq_false h | replace h := beq_iff_eq.1 h | replace h := beq_eq_false_iff_ne.1 h | replace h := bne_iff_ne.1 h | replace h := bne_eq_false_iff_eq.1 h | skip); (try (exfalso; omega)))) | apply StL.nil | apply St.region | apply St.seq | apply St.block | apply St.inBlock | apply St.skip | (apply St.exit; rfl) | (apply St.cond_t; rfl) | (apply St.cond_f; rfl) | (apply St.cond; rfl; all_goals (intro h; (first | replace h := of_decide_eq_true h | replace h := of_decide_eq_false h | replace h := beq_iff_eq.1 h | replace h := beq_eq_false_iff_ne.1 h | replace h := bne_iff_ne.1 h | replace h := bne_eq_false_iff_eq.1 h | skip); (try (exfalso; omega))))) | (first | (apply StD.v0; rfl; exact OpV.go; rfl) | (apply StD.v1; rfl; exact OpV.go; exact Ent.go; rfl) | (apply StD.ok3; rfl; exact OpOk.gt; rfl; rintro _ _ ⟨rfl, rfl⟩) | (apply StD.ok2; rfl; exact OpOk.gf; rfl; rintro _ _ ⟨b, rfl, rfl⟩; refine ⟨Ent.go, ?_⟩) | (apply StD.ok3; rfl; exact OpOk.ga; rfl; rintro tv _ ⟨htv, rfl⟩) | apply StD.nil | exact StD.nope | apply StD.pick | (apply StD.claim; rfl; intro b) | (apply StD.g0; rfl; rfl; rfl; exact OpV.go; rfl) | (apply StD.g1; rfl; rfl; rfl; exact OpV.go; exact Ent.go; rfl) | (apply StD.skip0; rfl; rfl; rfl; rfl; rfl) | (apply StD.skip1; rfl; rfl; rfl; rfl; exact Ent.go; rfl) | (apply StD.skipu; rfl; rfl; rfl; rfl) | (apply StD.skipu1; rfl; rfl; rfl; exact Ent.go; rfl) | (apply StD.gsplit; rfl; rfl; rfl; all_goals (intro h; (first | replace h := of_decide_eq_true h | replace h := of_decide_eq_false h | replace h := beq_iff_eq.1 h | replace h := beq_eq_false_iff_ne.1 h | replace h := bne_iff_ne.1 h | replace h := bne_eq_false_iff_eq.1 h | skip); (try (exfalso; omega))))) | (refine St.drawa (id := 9) [(0, 1), (1, 0), (2, 0), (3, 0), (4, 3), (5, 0), (6, 0), (7, 0), (8, 0)] [(10, 3), (11, 0), (12, 0)] [4, 10] 9 mixed rfl (by intro w; rfl) (by kernel_rfl) ?_) | (refine St.draw (id := 11) [(0, 1), (1, 0), (2, 0), (3, 0), (4, 0), (5, 0), (6, 1), (7, 0)] [] mixed (by kernel_rfl) ?_)  | (apply StL.callt; (apply OpC.func; exact Evs.go); exact hal; exact Ent.go; rfl; rintro _ _ ⟨rfl, rfl⟩) | (apply StD.callt; rfl; (apply OpC.func; exact Evs.go); exact hal; exact Ent.go; rfl; rintro _ _ ⟨rfl, rfl⟩) | (apply StD.callt2; rfl; (apply OpC.func; exact Evs.go); exact hal; exact Ent.go; rfl; rintro _ _ ⟨rfl, rfl⟩; refine ⟨Ent.go, ?_⟩) | (apply StL.callt; (apply OpC.func; exact Evs.go); exact hau; exact Ent.go; rfl; rintro _ _ ⟨rfl, rfl⟩) | (apply StD.callt; rfl; (apply OpC.func; exact Evs.go); exact hau; exact Ent.go; rfl; rintro _ _ ⟨rfl, rfl⟩) | (apply StD.callt2; rfl; (apply OpC.func; exact Evs.go); exact hau; exact Ent.go; rfl; rintro _ _ ⟨rfl, rfl⟩; refine ⟨Ent.go, ?_⟩))
      iterate 3 (· refine St.d1 Try.func4 ?_; apply Exists.intro; apply And.intro; exact ⟨rfl, rfl⟩; exact Ent.go)
      have hm := and_le at_ 255 (by decide)
      generalize IntKind.i64.wrap ((BitVec.ofInt IntKind.i64.bits at_ &&& BitVec.ofInt IntKind.i64.bits 255).toNat : Int) = m at hm ⊢
      have hm0 : 0 ≤ m % (evs.length : Int) := Int.emod_nonneg _ (by omega)
      have hm1 : m % (evs.length : Int) < evs.length := Int.emod_lt_of_pos _ (by omega)
      have hi : (m % (evs.length : Int)).toNat < evs.length := by omega
      have hau2 := audit_t c q _ _ (EvsR.take hcap hev (m % (evs.length : Int)).toNat (by omega)) (by rw [List.length_take]; omega)
      rw [auditOf_take _ he] at hau2
      obtain ⟨eb, eo, el, rest, rfl, hrd, hdr⟩ := hev.resolve_left (by omega)
      have htk : TakeN (evs.length * 10) (evs.flatMap Ev.v ++ rest) (evs.flatMap Ev.v) := by rw [← Ev.flat_len evs]; exact TakeN.app _ _
      have hone := Ev.flat_one evs
      repeat' (first | (first | (apply StL.v; exact OpV.go; rfl) | (apply StL.ok; exact OpOk.gt; rfl; rintro _ _ ⟨rfl, rfl⟩) | (apply StL.ok; exact OpOk.gf; rfl; rintro _ _ ⟨b, rfl, rfl⟩) | (apply StL.ok; exact OpOk.ga; rfl; rintro tv _ ⟨htv, rfl⟩) | (apply StL.g_yes; rfl; rfl) | (apply StL.g_no; rfl; rfl; rfl; rfl) | (apply StL.g_undef; rfl; rfl; rfl) | (apply StL.gsplit; rfl; rfl; all_goals (intro h; (first | replace h := of_decide_eq_true h | replace h := of_decide_eq_false h | replace h := beq_iff_eq.1 h | replace h := beq_eq_false_iff_ne.1 h | replace h := bne_iff_ne.1 h | replace h := bne_eq_false_iff_eq.1 h | skip); (try (exfalso; omega)))) | apply StL.nil | apply St.region | apply St.seq | apply St.block | apply St.inBlock | apply St.skip | (apply St.exit; rfl) | (apply St.cond_t; rfl) | (apply St.cond_f; rfl) | (apply St.cond; rfl; all_goals (intro h; (first | replace h := of_decide_eq_true h | replace h := of_decide_eq_false h | replace h := beq_iff_eq.1 h | replace h := beq_eq_false_iff_ne.1 h | replace h := bne_iff_ne.1 h | replace h := bne_eq_false_iff_eq.1 h | skip); (try (exfalso; omega))))) | (first | (apply StD.v0; rfl; exact OpV.go; rfl) | (apply StD.v1; rfl; exact OpV.go; exact Ent.go; rfl) | (apply StD.ok3; rfl; exact OpOk.gt; rfl; rintro _ _ ⟨rfl, rfl⟩) | (apply StD.ok2; rfl; exact OpOk.gf; rfl; rintro _ _ ⟨b, rfl, rfl⟩; refine ⟨Ent.go, ?_⟩) | (apply StD.ok3; rfl; exact OpOk.ga; rfl; rintro tv _ ⟨htv, rfl⟩) | apply StD.nil | exact StD.nope | apply StD.pick | (apply StD.claim; rfl; intro b) | (apply StD.g0; rfl; rfl; rfl; exact OpV.go; rfl) | (apply StD.g1; rfl; rfl; rfl; exact OpV.go; exact Ent.go; rfl) | (apply StD.skip0; rfl; rfl; rfl; rfl; rfl) | (apply StD.skip1; rfl; rfl; rfl; rfl; exact Ent.go; rfl) | (apply StD.skipu; rfl; rfl; rfl; rfl) | (apply StD.skipu1; rfl; rfl; rfl; exact Ent.go; rfl) | (apply StD.gsplit; rfl; rfl; rfl; all_goals (intro h; (first | replace h := of_decide_eq_true h | replace h := of_decide_eq_false h | replace h := beq_iff_eq.1 h | replace h := beq_eq_false_iff_ne.1 h | replace h := bne_iff_ne.1 h | replace h := bne_eq_false_iff_eq.1 h | skip); (try (exfalso; omega))))) | (refine St.drawa (id := 9) [(0, 1), (1, 0), (2, 0), (3, 0), (4, 3), (5, 0), (6, 0), (7, 0), (8, 0)] [(10, 3), (11, 0), (12, 0)] [4, 10] 9 mixed rfl (by intro w; rfl) (by kernel_rfl) ?_) | (refine St.draw (id := 11) [(0, 1), (1, 0), (2, 0), (3, 0), (4, 0), (5, 0), (6, 1), (7, 0)] [] mixed (by kernel_rfl) ?_)  | (apply StL.callt; (apply OpC.func; exact Evs.go); exact hau2; exact Ent.go; rfl; rintro _ _ ⟨rfl, rfl⟩) | (apply StD.callt; rfl; (apply OpC.func; exact Evs.go); exact hau2; exact Ent.go; rfl; rintro _ _ ⟨rfl, rfl⟩) | (apply StD.callt2; rfl; (apply OpC.func; exact Evs.go); exact hau2; exact Ent.go; rfl; rintro _ _ ⟨rfl, rfl⟩; refine ⟨Ent.go, ?_⟩))
      refine StL.conv ?_ (Sub.refl _) (Ent.row_bl (n := 0) (sz := 10) rfl (by decide))
      (apply StL.ok; (apply OpOk.append; rfl; rfl; (focus (repeat first | exact Take.here | apply Take.there)); (focus (repeat first | exact ReadsC.here RdC.bl | exact ReadsC.here (by assumption) | apply ReadsC.there)); (focus (first | assumption | (repeat constructor))); (focus (first | assumption | (repeat constructor))); (first | rfl | assumption); rfl; rfl; omega; omega); rfl; rintro tv _ ⟨htv, rfl⟩)
      (first | (apply StL.v; exact OpV.go; rfl) | (apply StL.ok; exact OpOk.gt; rfl; rintro _ _ ⟨rfl, rfl⟩) | (apply StL.ok; exact OpOk.gf; rfl; rintro _ _ ⟨b, rfl, rfl⟩) | (apply StL.ok; exact OpOk.ga; rfl; rintro tv _ ⟨htv, rfl⟩) | (apply StL.g_yes; rfl; rfl) | (apply StL.g_no; rfl; rfl; rfl; rfl) | (apply StL.g_undef; rfl; rfl; rfl) | (apply StL.gsplit; rfl; rfl; all_goals (intro h; (first | replace h := of_decide_eq_true h | replace h := of_decide_eq_false h | replace h := beq_iff_eq.1 h | replace h := beq_eq_false_iff_ne.1 h | replace h := bne_iff_ne.1 h | replace h := bne_eq_false_iff_eq.1 h | skip); (try (exfalso; omega)))) | apply StL.nil | apply St.region | apply St.seq | apply St.block | apply St.inBlock | apply St.skip | (apply St.exit; rfl) | (apply St.cond_t; rfl) | (apply St.cond_f; rfl) | (apply St.cond; rfl; all_goals (intro h; (first | replace h := of_decide_eq_true h | replace h := of_decide_eq_false h | replace h := beq_iff_eq.1 h | replace h := beq_eq_false_iff_ne.1 h | replace h := bne_iff_ne.1 h | replace h := bne_eq_false_iff_eq.1 h | skip); (try (exfalso; omega)))))
      apply StL.nil
      refine St.row (by omega) ?_
      rintro g cap2 rest2 rfl hcap2
      have hd1 : DropN ((m % (evs.length : Int)).toNat * 10 + 7 + 0) (evs.flatMap Ev.v ++ rest2) _ := ((DropN.flat Ev.v_len hi).more rest2).add (by rw [List.append_assoc]; exact Ev.drop7 _ _)
      have ht1 : TakeN 2 _ _ := TakeN.app evs[(m % (evs.length : Int)).toNat].out.was.v (.bool evs[(m % (evs.length : Int)).toNat].out.ok :: ((evs.drop ((m % (evs.length : Int)).toNat + 1)).flatMap Ev.v ++ rest2))
      have hs1 : ∀ x : Cell, SplN x.v ((m % (evs.length : Int)).toNat * 10 + 7 + 0) (evs.flatMap Ev.v ++ rest2) _ := fun x => (SplN.part Ev.v_len hi (Ev.spl7 _ x)).more rest2
      have ha3 : ∀ x, x ≠ evs[(m % (evs.length : Int)).toNat].out.was → Tri Try.prog 7 #[.agg ⟨c.v⟩, .slice (some ⟨g, 0, none⟩) (0 + evs.length) cap2] [bl g 43 ((evs.set (m % (evs.length : Int)).toNat (evs[(m % (evs.length : Int)).toNat].spoil x)).flatMap Ev.v ++ rest2)]
          fun v L => v = .tuple ⟨[.agg ⟨Rep.v ⟨0, 0, 0⟩⟩, .int .i64 (m % (evs.length : Int)), .int .i64 33]⟩ ∧ L = [bl g 43 ((evs.set (m % (evs.length : Int)).toNat (evs[(m % (evs.length : Int)).toNat].spoil x)).flatMap Ev.v ++ rest2)] := by
        intro x hx
        have h1 := audit_t c _ _ _ (EvsR.of_rd (q := bl g 43 ((evs.set (m % (evs.length : Int)).toNat (evs[(m % (evs.length : Int)).toNat].spoil x)).flatMap Ev.v ++ rest2)) (cap := cap2) (by rw [List.length_set]; omega) RdC.bl) (by rw [List.length_set]; omega)
        rw [auditOf_spoil hi he hx, List.length_set] at h1
        rw [show (((m % (evs.length : Int)).toNat : Nat) : Int) = m % (evs.length : Int) by omega] at h1
        rw [Nat.zero_add]
        exact h1
      by_cases hwe : was = evs[(m % (evs.length : Int)).toNat].out.was
      · have hx : (((was.val + 1) % 18446744073709551616 : Nat) : Int) = IntKind.u64.wrap ((was.val : Int) + 1) := by simp [IntKind.wrap, IntKind.bits, IntKind.signed]
        have hs2 := hs1 ⟨(was.val + 1) % 18446744073709551616, was.seq⟩
        unfold Cell.v at hs2
        dsimp only at hs2
        rw [hx] at hs2
        have ha4 := ha3 ⟨(was.val + 1) % 18446744073709551616, was.seq⟩ (by rw [← hwe]; intro h; have := congrArg Cell.val h; dsimp only at this; omega)
        have hbad : ∀ {p : Prop}, was.eqB evs[(m % (evs.length : Int)).toNat].out.was = false → p := fun h => by rw [Cell.eqB_iff.2 hwe] at h; cases h
        repeat' (first | (first | (apply StL.v; exact OpV.go; rfl) | (apply StL.ok; exact OpOk.gt; rfl; rintro _ _ ⟨rfl, rfl⟩) | (apply StL.ok; exact OpOk.gf; rfl; rintro _ _ ⟨b, rfl, rfl⟩) | (apply StL.ok; exact OpOk.ga; rfl; rintro tv _ ⟨htv, rfl⟩) | (apply StL.g_yes; rfl; rfl) | (apply StL.g_no; rfl; rfl; rfl; rfl) | (apply StL.g_undef; rfl; rfl; rfl) | (apply StL.gsplit; rfl; rfl; all_goals (intro h; (first | replace h := of_decide_eq_true h | replace h := of_decide_eq_false h | replace h := beq_iff_eq.1 h | replace h := beq_eq_false_iff_ne.1 h | replace h := bne_iff_ne.1 h | replace h := bne_eq_false_iff_eq.1 h | skip); (try (exfalso; omega)))) | apply StL.nil | apply St.region | apply St.seq | apply St.block | apply St.inBlock | apply St.skip | (apply St.exit; rfl) | (apply St.cond_t; rfl) | (apply St.cond_f; rfl) | (apply St.cond; rfl; all_goals (intro h; (first | replace h := of_decide_eq_true h | replace h := of_decide_eq_false h | replace h := beq_iff_eq.1 h | replace h := beq_eq_false_iff_ne.1 h | replace h := bne_iff_ne.1 h | replace h := bne_eq_false_iff_eq.1 h | skip); (try (exfalso; omega))))) | (first | (apply StD.v0; rfl; exact OpV.go; rfl) | (apply StD.v1; rfl; exact OpV.go; exact Ent.go; rfl) | (apply StD.ok3; rfl; exact OpOk.gt; rfl; rintro _ _ ⟨rfl, rfl⟩) | (apply StD.ok2; rfl; exact OpOk.gf; rfl; rintro _ _ ⟨b, rfl, rfl⟩; refine ⟨Ent.go, ?_⟩) | (apply StD.ok3; rfl; exact OpOk.ga; rfl; rintro tv _ ⟨htv, rfl⟩) | apply StD.nil | exact StD.nope | apply StD.pick | (apply StD.claim; rfl; intro b) | (apply StD.g0; rfl; rfl; rfl; exact OpV.go; rfl) | (apply StD.g1; rfl; rfl; rfl; exact OpV.go; exact Ent.go; rfl) | (apply StD.skip0; rfl; rfl; rfl; rfl; rfl) | (apply StD.skip1; rfl; rfl; rfl; rfl; exact Ent.go; rfl) | (apply StD.skipu; rfl; rfl; rfl; rfl) | (apply StD.skipu1; rfl; rfl; rfl; exact Ent.go; rfl) | (apply StD.gsplit; rfl; rfl; rfl; all_goals (intro h; (first | replace h := of_decide_eq_true h | replace h := of_decide_eq_false h | replace h := beq_iff_eq.1 h | replace h := beq_eq_false_iff_ne.1 h | replace h := bne_iff_ne.1 h | replace h := bne_eq_false_iff_eq.1 h | skip); (try (exfalso; omega))))) | (refine St.drawa (id := 9) [(0, 1), (1, 0), (2, 0), (3, 0), (4, 3), (5, 0), (6, 0), (7, 0), (8, 0)] [(10, 3), (11, 0), (12, 0)] [4, 10] 9 mixed rfl (by intro w; rfl) (by kernel_rfl) ?_) | (refine St.draw (id := 11) [(0, 1), (1, 0), (2, 0), (3, 0), (4, 0), (5, 0), (6, 1), (7, 0)] [] mixed (by kernel_rfl) ?_)  | (apply StL.callt; (apply OpC.func; exact Evs.go); exact ha4; exact Ent.go; rfl; rintro _ _ ⟨rfl, rfl⟩) | (apply StD.callt; rfl; (apply OpC.func; exact Evs.go); exact ha4; exact Ent.go; rfl; rintro _ _ ⟨rfl, rfl⟩) | (apply StD.callt2; rfl; (apply OpC.func; exact Evs.go); exact ha4; exact Ent.go; rfl; rintro _ _ ⟨rfl, rfl⟩; refine ⟨Ent.go, ?_⟩))
        · refine St.d1 Try.func4 ?_; apply Exists.intro; apply And.intro; exact ⟨rfl, rfl⟩; exact Ent.go
        · exact hbad h
      · have hs2 := hs1 was
        have ha4 := ha3 was hwe
        repeat' (first | (first | (apply StL.v; exact OpV.go; rfl) | (apply StL.ok; exact OpOk.gt; rfl; rintro _ _ ⟨rfl, rfl⟩) | (apply StL.ok; exact OpOk.gf; rfl; rintro _ _ ⟨b, rfl, rfl⟩) | (apply StL.ok; exact OpOk.ga; rfl; rintro tv _ ⟨htv, rfl⟩) | (apply StL.g_yes; rfl; rfl) | (apply StL.g_no; rfl; rfl; rfl; rfl) | (apply StL.g_undef; rfl; rfl; rfl) | (apply StL.gsplit; rfl; rfl; all_goals (intro h; (first | replace h := of_decide_eq_true h | replace h := of_decide_eq_false h | replace h := beq_iff_eq.1 h | replace h := beq_eq_false_iff_ne.1 h | replace h := bne_iff_ne.1 h | replace h := bne_eq_false_iff_eq.1 h | skip); (try (exfalso; omega)))) | apply StL.nil | apply St.region | apply St.seq | apply St.block | apply St.inBlock | apply St.skip | (apply St.exit; rfl) | (apply St.cond_t; rfl) | (apply St.cond_f; rfl) | (apply St.cond; rfl; all_goals (intro h; (first | replace h := of_decide_eq_true h | replace h := of_decide_eq_false h | replace h := beq_iff_eq.1 h | replace h := beq_eq_false_iff_ne.1 h | replace h := bne_iff_ne.1 h | replace h := bne_eq_false_iff_eq.1 h | skip); (try (exfalso; omega))))) | (first | (apply StD.v0; rfl; exact OpV.go; rfl) | (apply StD.v1; rfl; exact OpV.go; exact Ent.go; rfl) | (apply StD.ok3; rfl; exact OpOk.gt; rfl; rintro _ _ ⟨rfl, rfl⟩) | (apply StD.ok2; rfl; exact OpOk.gf; rfl; rintro _ _ ⟨b, rfl, rfl⟩; refine ⟨Ent.go, ?_⟩) | (apply StD.ok3; rfl; exact OpOk.ga; rfl; rintro tv _ ⟨htv, rfl⟩) | apply StD.nil | exact StD.nope | apply StD.pick | (apply StD.claim; rfl; intro b) | (apply StD.g0; rfl; rfl; rfl; exact OpV.go; rfl) | (apply StD.g1; rfl; rfl; rfl; exact OpV.go; exact Ent.go; rfl) | (apply StD.skip0; rfl; rfl; rfl; rfl; rfl) | (apply StD.skip1; rfl; rfl; rfl; rfl; exact Ent.go; rfl) | (apply StD.skipu; rfl; rfl; rfl; rfl) | (apply StD.skipu1; rfl; rfl; rfl; exact Ent.go; rfl) | (apply StD.gsplit; rfl; rfl; rfl; all_goals (intro h; (first | replace h := of_decide_eq_true h | replace h := of_decide_eq_false h | replace h := beq_iff_eq.1 h | replace h := beq_eq_false_iff_ne.1 h | replace h := bne_iff_ne.1 h | replace h := bne_eq_false_iff_eq.1 h | skip); (try (exfalso; omega))))) | (refine St.drawa (id := 9) [(0, 1), (1, 0), (2, 0), (3, 0), (4, 3), (5, 0), (6, 0), (7, 0), (8, 0)] [(10, 3), (11, 0), (12, 0)] [4, 10] 9 mixed rfl (by intro w; rfl) (by kernel_rfl) ?_) | (refine St.draw (id := 11) [(0, 1), (1, 0), (2, 0), (3, 0), (4, 0), (5, 0), (6, 1), (7, 0)] [] mixed (by kernel_rfl) ?_)  | (apply StL.callt; (apply OpC.func; exact Evs.go); exact ha4; exact Ent.go; rfl; rintro _ _ ⟨rfl, rfl⟩) | (apply StD.callt; rfl; (apply OpC.func; exact Evs.go); exact ha4; exact Ent.go; rfl; rintro _ _ ⟨rfl, rfl⟩) | (apply StD.callt2; rfl; (apply OpC.func; exact Evs.go); exact ha4; exact Ent.go; rfl; rintro _ _ ⟨rfl, rfl⟩; refine ⟨Ent.go, ?_⟩))
        · exact absurd (Cell.eqB_iff.1 h) hwe
        · refine St.d1 Try.func4 ?_; apply Exists.intro; apply And.intro; exact ⟨rfl, rfl⟩; exact Ent.go
    · refine Tri.of_body (vs := [_, _, _, _]) Try.func4 rfl rfl fun w0 F => ?_
      repeat' (first | (first | (apply StL.v; exact OpV.go; rfl) | (apply StL.ok; exact OpOk.gt; rfl; rintro _ _ ⟨rfl, rfl⟩) | (apply StL.ok; exact OpOk.gf; rfl; rintro _ _ ⟨b, rfl, rfl⟩) | (apply StL.ok; exact OpOk.ga; rfl; rintro tv _ ⟨htv, rfl⟩) | (apply StL.g_yes; rfl; rfl) | (apply StL.g_no; rfl; rfl; rfl; rfl) | (apply StL.g_undef; rfl; rfl; rfl) | (apply StL.gsplit; rfl; rfl; all_goals (intro h; (first | replace h := of_decide_eq_true h | replace h := of_decide_eq_false h | replace h := beq_iff_eq.1 h | replace h := beq_eq_false_iff_ne.1 h | replace h := bne_iff_ne.1 h | replace h := bne_eq_false_iff_eq.1 h | skip); (try (exfalso; omega)))) | apply StL.nil | apply St.region | apply St.seq | apply St.block | apply St.inBlock | apply St.skip | (apply St.exit; rfl) | (apply St.cond_t; rfl) | (apply St.cond_f; rfl) | (apply St.cond; rfl; all_goals (intro h; (first | replace h := of_decide_eq_true h | replace h := of_decide_eq_false h | replace h := beq_iff_eq.1 h | replace h := beq_eq_false_iff_ne.1 h | replace h := bne_iff_ne.1 h | replace h := bne_eq_false_iff_eq.1 h | skip); (try (exfalso; omega))))) | (first | (apply StD.v0; rfl; exact OpV.go; rfl) | (apply StD.v1; rfl; exact OpV.go; exact Ent.go; rfl) | (apply StD.ok3; rfl; exact OpOk.gt; rfl; rintro _ _ ⟨rfl, rfl⟩) | (apply StD.ok2; rfl; exact OpOk.gf; rfl; rintro _ _ ⟨b, rfl, rfl⟩; refine ⟨Ent.go, ?_⟩) | (apply StD.ok3; rfl; exact OpOk.ga; rfl; rintro tv _ ⟨htv, rfl⟩) | apply StD.nil | exact StD.nope | apply StD.pick | (apply StD.claim; rfl; intro b) | (apply StD.g0; rfl; rfl; rfl; exact OpV.go; rfl) | (apply StD.g1; rfl; rfl; rfl; exact OpV.go; exact Ent.go; rfl) | (apply StD.skip0; rfl; rfl; rfl; rfl; rfl) | (apply StD.skip1; rfl; rfl; rfl; rfl; exact Ent.go; rfl) | (apply StD.skipu; rfl; rfl; rfl; rfl) | (apply StD.skipu1; rfl; rfl; rfl; exact Ent.go; rfl) | (apply StD.gsplit; rfl; rfl; rfl; all_goals (intro h; (first | replace h := of_decide_eq_true h | replace h := of_decide_eq_false h | replace h := beq_iff_eq.1 h | replace h := beq_eq_false_iff_ne.1 h | replace h := bne_iff_ne.1 h | replace h := bne_eq_false_iff_eq.1 h | skip); (try (exfalso; omega))))) | (refine St.drawa (id := 9) [(0, 1), (1, 0), (2, 0), (3, 0), (4, 3), (5, 0), (6, 0), (7, 0), (8, 0)] [(10, 3), (11, 0), (12, 0)] [4, 10] 9 mixed rfl (by intro w; rfl) (by kernel_rfl) ?_) | (refine St.draw (id := 11) [(0, 1), (1, 0), (2, 0), (3, 0), (4, 0), (5, 0), (6, 1), (7, 0)] [] mixed (by kernel_rfl) ?_)  | (apply StL.callt; (apply OpC.func; exact Evs.go); exact hal; exact Ent.go; rfl; rintro _ _ ⟨rfl, rfl⟩) | (apply StD.callt; rfl; (apply OpC.func; exact Evs.go); exact hal; exact Ent.go; rfl; rintro _ _ ⟨rfl, rfl⟩) | (apply StD.callt2; rfl; (apply OpC.func; exact Evs.go); exact hal; exact Ent.go; rfl; rintro _ _ ⟨rfl, rfl⟩; refine ⟨Ent.go, ?_⟩) | (apply StL.callt; (apply OpC.func; exact Evs.go); exact hau; exact Ent.go; rfl; rintro _ _ ⟨rfl, rfl⟩) | (apply StD.callt; rfl; (apply OpC.func; exact Evs.go); exact hau; exact Ent.go; rfl; rintro _ _ ⟨rfl, rfl⟩) | (apply StD.callt2; rfl; (apply OpC.func; exact Evs.go); exact hau; exact Ent.go; rfl; rintro _ _ ⟨rfl, rfl⟩; refine ⟨Ent.go, ?_⟩))
      all_goals (refine St.d1 Try.func4 ?_; apply Exists.intro; apply And.intro; exact ⟨rfl, rfl⟩; exact Ent.go)
end Go.Proofs.Ytmcadilggmlbfaa
