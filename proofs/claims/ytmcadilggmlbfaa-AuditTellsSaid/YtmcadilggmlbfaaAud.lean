/-
  Package audit: peek, turns, swap.
-/
import Derived.Test.YtmcadilggmlbfaaBoot
namespace Go.Proofs.Ytmcadilggmlbfaa
def turnsB (was is : Nat) : Bool := if was = 0 then (is == 1 || is == 2) else if was = 1 then is == 2 else decide (is ≤ 2)
theorem beq_cast (a b : Nat) : ((a : Int) == (b : Int)) = (a == b) := by
  rw [Bool.eq_iff_iff]; simp; omega
theorem turns_r (a b : Nat) : RTri Try.prog 60 #[.int .u64 a, .int .u64 b] [] (.bool (turnsB a b)) := by
  apply RTri.of_pure
  refine Tri.of_body (vs := [_, _]) Try.func60 rfl rfl fun w0 F => ?_
  repeat' (first | (first | (apply StL.v; exact OpV.go; rfl) | (apply StL.ok; exact OpOk.gt; rfl; rintro _ _ ⟨rfl, rfl⟩) | (apply StL.ok; exact OpOk.gf; rfl; rintro _ _ ⟨b, rfl, rfl⟩) | (apply StL.ok; exact OpOk.gn; rfl; rintro _ _ ⟨g, cap, rest, rfl, hcap, rfl⟩) | (apply StL.ok; exact OpOk.ga; rfl; rintro tv _ ⟨htv, rfl⟩) | (apply StL.g_yes; rfl; rfl) | (apply StL.g_no; rfl; rfl; rfl; rfl) | (apply StL.g_undef; rfl; rfl; rfl) | (apply StL.gsplit; rfl; rfl; all_goals (intro h; (first | replace h := of_decide_eq_true h | replace h := of_decide_eq_false h | replace h := beq_iff_eq.1 h | replace h := beq_eq_false_iff_ne.1 h | replace h := bne_iff_ne.1 h | replace h := bne_eq_false_iff_eq.1 h | skip); (try (exfalso; omega)))) | apply StL.nil | apply St.region | apply St.seq | apply St.block | apply St.inBlock | apply St.skip | (apply St.exit; rfl) | (apply St.cond_t; rfl) | (apply St.cond_f; rfl) | (apply St.cond; rfl; all_goals (intro h; (first | replace h := of_decide_eq_true h | replace h := of_decide_eq_false h | replace h := beq_iff_eq.1 h | replace h := beq_eq_false_iff_ne.1 h | replace h := bne_iff_ne.1 h | replace h := bne_eq_false_iff_eq.1 h | skip); (try (exfalso; omega))))) | (first | (apply StD.v0; rfl; exact OpV.go; rfl) | (apply StD.v1; rfl; exact OpV.go; exact Ent.go; rfl) | (apply StD.ok3; rfl; exact OpOk.gt; rfl; rintro _ _ ⟨rfl, rfl⟩) | (apply StD.ok2; rfl; exact OpOk.gf; rfl; rintro _ _ ⟨b, rfl, rfl⟩; refine ⟨Ent.go, ?_⟩) | (apply StD.ok3; rfl; exact OpOk.gn; rfl; rintro _ _ ⟨g, cap, rest, rfl, hcap, rfl⟩) | (apply StD.ok3; rfl; exact OpOk.ga; rfl; rintro tv _ ⟨htv, rfl⟩) | apply StD.nil | exact StD.nope | apply StD.pick | (apply StD.claim; rfl; intro b) | (apply StD.g0; rfl; rfl; rfl; exact OpV.go; rfl) | (apply StD.g1; rfl; rfl; rfl; exact OpV.go; exact Ent.go; rfl) | (apply StD.skip0; rfl; rfl; rfl; rfl; rfl) | (apply StD.skip1; rfl; rfl; rfl; rfl; exact Ent.go; rfl) | (apply StD.skipu; rfl; rfl; rfl; rfl) | (apply StD.skipu1; rfl; rfl; rfl; exact Ent.go; rfl) | (apply StD.gsplit; rfl; rfl; rfl; all_goals (intro h; (first | replace h := of_decide_eq_true h | replace h := of_decide_eq_false h | replace h := beq_iff_eq.1 h | replace h := beq_eq_false_iff_ne.1 h | replace h := bne_iff_ne.1 h | replace h := bne_eq_false_iff_eq.1 h | skip); (try (exfalso; omega)))))  )
  all_goals (first | refine St.dn Try.func60 ⟨?_, rfl⟩ Ent.go | refine St.fl Try.func60 ⟨?_, rfl⟩ Ent.go)
  all_goals refine congrArg Value.bool ?_
  all_goals unfold turnsB
  all_goals (repeat (first | rw [if_pos (by omega)] | rw [if_neg (by omega)]))
  all_goals (rw [Bool.eq_iff_iff]; simp; omega)
structure Rep where
  swaps : Int
  words : Int
  limbo : Int
  deriving DecidableEq
def Rep.v (r : Rep) : List Value := [.int .i64 r.swaps, .int .i64 r.words, .int .i64 r.limbo]
/-- an audit.auditor's own cells -/
def audV (c : Cfg) (M lf n : Nat) (r : Rep) : List Value := c.m ++ (.pointer (some ⟨M, 0, none⟩) :: .slice (some ⟨lf, 0, none⟩) n n :: r.v)
theorem take_m (c : Cfg) (M lf n : Nat) (r : Rep) : TakeN 24 (audV c M lf n r) c.m := TakeN.app c.m _
theorem apeek_r (c : Cfg) (hc : Small c) (A M C lf nb n : Nat) (r : Rep) (cs : List Cell) (hn : cs.length = n) (st : List Int) (tv : Value) (kind i k : Int) :
    RTri Try.prog 30 #[.pointer (some ⟨A, 0, none⟩), .int .i64 kind, .int .i64 i, .int .i64 k] [bl A 71 (audV c M lf nb r), bl M 87 (memV C n st tv), bl C 37 (cs.flatMap Cell.v)] (.agg ⟨(peekOf cs (c.at kind i k)).v⟩) := by
  apply RTri.of_reads
  intro q hq
  have hA := RdC.of_sat hq (ReadsC.here RdC.bl)
  have hpk := (peek_r M C n cs hn st tv (c.at kind i k))
  have hpk2 : RTri Try.prog 54 #[.pointer (some ⟨M, 0, none⟩), .int .i64 (c.at kind i k)] [q] (.tuple ⟨[.agg ⟨(peekOf cs (c.at kind i k)).v⟩, .bool (decide (0 ≤ c.at kind i k ∧ c.at kind i k < n))]⟩) :=
    hpk.of_read fun h hh => (hq h hh).tail
  have htk := take_m c M lf nb r
  refine Tri.of_body (vs := [_, _, _, _]) Try.func30 rfl rfl fun w0 F => ?_
  repeat' (first | (first | (apply StL.v; exact OpV.go; rfl) | (apply StL.ok; exact OpOk.gt; rfl; rintro _ _ ⟨rfl, rfl⟩) | (apply StL.ok; exact OpOk.gf; rfl; rintro _ _ ⟨b, rfl, rfl⟩) | (apply StL.ok; exact OpOk.gn; rfl; rintro _ _ ⟨g, cap, rest, rfl, hcap, rfl⟩) | (apply StL.ok; exact OpOk.ga; rfl; rintro tv _ ⟨htv, rfl⟩) | (apply StL.g_yes; rfl; rfl) | (apply StL.g_no; rfl; rfl; rfl; rfl) | (apply StL.g_undef; rfl; rfl; rfl) | (apply StL.gsplit; rfl; rfl; all_goals (intro h; (first | replace h := of_decide_eq_true h | replace h := of_decide_eq_false h | replace h := beq_iff_eq.1 h | replace h := beq_eq_false_iff_ne.1 h | replace h := bne_iff_ne.1 h | replace h := bne_eq_false_iff_eq.1 h | skip); (try (exfalso; omega)))) | apply StL.nil | apply St.region | apply St.seq | apply St.block | apply St.inBlock | apply St.skip | (apply St.exit; rfl) | (apply St.cond_t; rfl) | (apply St.cond_f; rfl) | (apply St.cond; rfl; all_goals (intro h; (first | replace h := of_decide_eq_true h | replace h := of_decide_eq_false h | replace h := beq_iff_eq.1 h | replace h := beq_eq_false_iff_ne.1 h | replace h := bne_iff_ne.1 h | replace h := bne_eq_false_iff_eq.1 h | skip); (try (exfalso; omega))))) | (first | (apply StD.v0; rfl; exact OpV.go; rfl) | (apply StD.v1; rfl; exact OpV.go; exact Ent.go; rfl) | (apply StD.ok3; rfl; exact OpOk.gt; rfl; rintro _ _ ⟨rfl, rfl⟩) | (apply StD.ok2; rfl; exact OpOk.gf; rfl; rintro _ _ ⟨b, rfl, rfl⟩; refine ⟨Ent.go, ?_⟩) | (apply StD.ok3; rfl; exact OpOk.gn; rfl; rintro _ _ ⟨g, cap, rest, rfl, hcap, rfl⟩) | (apply StD.ok3; rfl; exact OpOk.ga; rfl; rintro tv _ ⟨htv, rfl⟩) | apply StD.nil | exact StD.nope | apply StD.pick | (apply StD.claim; rfl; intro b) | (apply StD.g0; rfl; rfl; rfl; exact OpV.go; rfl) | (apply StD.g1; rfl; rfl; rfl; exact OpV.go; exact Ent.go; rfl) | (apply StD.skip0; rfl; rfl; rfl; rfl; rfl) | (apply StD.skip1; rfl; rfl; rfl; rfl; exact Ent.go; rfl) | (apply StD.skipu; rfl; rfl; rfl; rfl) | (apply StD.skipu1; rfl; rfl; rfl; exact Ent.go; rfl) | (apply StD.gsplit; rfl; rfl; rfl; all_goals (intro h; (first | replace h := of_decide_eq_true h | replace h := of_decide_eq_false h | replace h := beq_iff_eq.1 h | replace h := beq_eq_false_iff_ne.1 h | replace h := bne_iff_ne.1 h | replace h := bne_eq_false_iff_eq.1 h | skip); (try (exfalso; omega))))) | (refine St.draw (id := 1) [(0, 0), (1, 0), (2, 0), (3, 1), (4, 0), (5, 0), (6, 0), (7, 1), (8, 0), (9, 0), (10, 0), (11, 1), (12, 1), (13, 0), (14, 0), (15, 0), (16, 2), (17, 3), (18, 0)] [17] mixed (by kernel_rfl) ?_) | (apply StL.callr; (apply OpC.func; exact Evs.go); exact at_r c hc kind i k; exact Ent.go; rfl) | (apply StD.callr; rfl; (apply OpC.func; exact Evs.go); exact at_r c hc kind i k; exact Ent.go; exact Ent.go; rfl) | (apply StD.gcallr; rfl; rfl; rfl; (apply OpC.func; exact Evs.go); exact at_r c hc kind i k; exact Ent.go; exact Ent.go; rfl) | (apply StL.callr; (apply OpC.func; exact Evs.go); exact hpk2; exact Ent.go; rfl) | (apply StD.callr; rfl; (apply OpC.func; exact Evs.go); exact hpk2; exact Ent.go; exact Ent.go; rfl) | (apply StD.gcallr; rfl; rfl; rfl; (apply OpC.func; exact Evs.go); exact hpk2; exact Ent.go; exact Ent.go; rfl))
  all_goals (first | refine St.dn Try.func30 ⟨?_, rfl⟩ Ent.go | refine St.fl Try.func30 ⟨?_, rfl⟩ Ent.go)
  rfl
end Go.Proofs.Ytmcadilggmlbfaa
