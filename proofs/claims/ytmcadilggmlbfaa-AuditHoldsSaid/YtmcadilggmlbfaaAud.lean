/-
  Package audit: peek, turns, swap.
-/
import Derived.Test.YtmcadilggmlbfaaBoot
namespace Go.Proofs.Ytmcadilggmlbfaa
def turnsB (was is : Nat) : Bool := if was = 0 then (is == 1 || is == 2) else if was = 1 then is == 2 else decide (is ≤ 2)
theorem beq_cast (a b : Nat) : ((a : Int) == (b : Int)) = (a == b) := by
  rw [Bool.eq_iff_iff]; simp; omega
theorem turns_r (a b : Nat) : RTri Try.prog 60 #[.int .u64 a, .int .u64 b] [] (.bool (turnsB a b)) := by
  apply RTri.of_pure
  refine Tri.of_body (vs := [_, _]) Try.func60 rfl rfl fun w0 F => ?_
  repeat' (first | (apply Ya; exact Oa) | (apply Yb; exact Ob) | (apply Yc; exact Oc; intro b) | (apply Ye; exact Oe; intro g cap rest hcap) | (apply Yd; exact Od; intro ad cap) | (apply Yf; exact Oj) | (apply Yg; exact Oj; exact ⟨rfl, rfl⟩) | (apply Yh; exact Oj; rfl) | (apply Yi; exact Oj; exact On; all_goals (intro h; try (exfalso; omega))) | apply StL.nil | apply St.region | apply St.seq | apply St.block | apply St.inBlock | apply St.skip | (apply St.exit; rfl) | (apply St.cond_t; rfl) | (apply St.cond_f; rfl) | (apply Ud; rfl; exact On; all_goals (intro h; try (exfalso; omega))) | (apply Za; rfl; exact Oa) | (apply Zb; rfl; exact Oa; exact Ent.go) | (apply Zc; rfl; exact Ob) | (apply Zd; rfl; exact Oc; intro b; refine ⟨Ent.go, ?_⟩) | (apply Ze; rfl; exact Oc; intro b) | (apply Zf; rfl; exact Oe; intro g cap rest hcap) | (apply Zg; rfl; exact Od; intro ad cap) | apply StD.nil | exact StD.nope | apply StD.pick | (apply StD.claim; rfl; intro b) | (apply Zi; rfl; exact Oj; exact Oa) | (apply Zj; rfl; exact Oj; exact Oa; exact Ent.go) | (apply Zk; rfl; exact Oj; exact ⟨rfl, rfl⟩) | (apply Zl; rfl; exact Oj; exact ⟨rfl, rfl⟩; exact Ent.go) | (apply Zm; rfl; exact Oj; rfl) | (apply Zn; rfl; exact Oj; exact Ent.go; rfl)   | (apply Zo; rfl; exact Oj; exact On; all_goals (intro h; try (exfalso; omega))))
  all_goals (first | refine St.dn Try.func60 ⟨?_, rfl⟩ Ent.go | refine St.fl Try.func60 ⟨?_, rfl⟩ Ent.go)
  all_goals refine congrArg Value.bool ?_
  all_goals unfold turnsB
  all_goals (repeat (first | rw [if_pos (by omega)] | rw [if_neg (by omega)]))
  all_goals (rw [Bool.eq_iff_iff]; simp; omega)
structure Rep where
  swaps : Int
  words : Int
  limbo : Int
  deriving DecidableEq
def Rep.v (r : Rep) : List Value := [.int .i64 r.swaps, .int .i64 r.words, .int .i64 r.limbo]
/-- an audit.auditor's own cells -/
def audV (c : Cfg) (M lf n : Nat) (r : Rep) : List Value := c.m ++ (.pointer (some ⟨M, 0, none⟩) :: .slice (some ⟨lf, 0, none⟩) n n :: r.v)
theorem take_m (c : Cfg) (M lf n : Nat) (r : Rep) : TakeN 24 (audV c M lf n r) c.m := TakeN.app c.m _
theorem apeek_r (c : Cfg) (hc : Small c) (A M C lf nb n : Nat) (r : Rep) (cs : List Cell) (hn : cs.length = n) (st : List Int) (tv : Value) (kind i k : Int) :
    RTri Try.prog 30 #[.pointer (some ⟨A, 0, none⟩), .int .i64 kind, .int .i64 i, .int .i64 k] [bl A 71 (audV c M lf nb r), bl M 87 (memV C n st tv), bl C 37 (cs.flatMap Cell.v)] (.agg ⟨(peekOf cs (c.at kind i k)).v⟩) := by
  apply RTri.of_reads
  intro q hq
  have hA := RdC.of_sat hq (ReadsC.here RdC.bl)
  have hpk := (peek_r M C n cs hn st tv (c.at kind i k))
  have hpk2 : RTri Try.prog 54 #[.pointer (some ⟨M, 0, none⟩), .int .i64 (c.at kind i k)] [q] (.tuple ⟨[.agg ⟨(peekOf cs (c.at kind i k)).v⟩, .bool (decide (0 ≤ c.at kind i k ∧ c.at kind i k < n))]⟩) :=
    hpk.of_read fun h hh => (hq h hh).tail
  have htk := take_m c M lf nb r
  refine Tri.of_body (vs := [_, _, _, _]) Try.func30 rfl rfl fun w0 F => ?_
  repeat' (first | (apply Ya; exact Oa) | (apply Yb; exact Ob) | (apply Yc; exact Oc; intro b) | (apply Ye; exact Oe; intro g cap rest hcap) | (apply Yd; exact Od; intro ad cap) | (apply Yf; exact Oj) | (apply Yg; exact Oj; exact ⟨rfl, rfl⟩) | (apply Yh; exact Oj; rfl) | (apply Yi; exact Oj; exact On; all_goals (intro h; try (exfalso; omega))) | apply StL.nil | apply St.region | apply St.seq | apply St.block | apply St.inBlock | apply St.skip | (apply St.exit; rfl) | (apply St.cond_t; rfl) | (apply St.cond_f; rfl) | (apply Ud; rfl; exact On; all_goals (intro h; try (exfalso; omega))) | (apply Za; rfl; exact Oa) | (apply Zb; rfl; exact Oa; exact Ent.go) | (apply Zc; rfl; exact Ob) | (apply Zd; rfl; exact Oc; intro b; refine ⟨Ent.go, ?_⟩) | (apply Ze; rfl; exact Oc; intro b) | (apply Zf; rfl; exact Oe; intro g cap rest hcap) | (apply Zg; rfl; exact Od; intro ad cap) | apply StD.nil | exact StD.nope | apply StD.pick | (apply StD.claim; rfl; intro b) | (apply Zi; rfl; exact Oj; exact Oa) | (apply Zj; rfl; exact Oj; exact Oa; exact Ent.go) | (apply Zk; rfl; exact Oj; exact ⟨rfl, rfl⟩) | (apply Zl; rfl; exact Oj; exact ⟨rfl, rfl⟩; exact Ent.go) | (apply Zm; rfl; exact Oj; rfl) | (apply Zn; rfl; exact Oj; exact Ent.go; rfl) | (refine St.draw (id := 1) [(0, 0), (1, 0), (2, 0), (3, 1), (4, 0), (5, 0), (6, 0), (7, 1), (8, 0), (9, 0), (10, 0), (11, 1), (12, 1), (13, 0), (14, 0), (15, 0), (16, 2), (17, 3), (18, 0)] [17] mixed (by kernel_rfl) ?_) | (apply Ka; exact Og; exact at_r c hc kind i k; exact Oh) | (apply Kb; rfl; exact Og; exact at_r c hc kind i k; exact Oi) | (apply Kc; rfl; exact Oj; exact Og; exact at_r c hc kind i k; exact Oi) | (apply Ka; exact Og; exact hpk2; exact Oh) | (apply Kb; rfl; exact Og; exact hpk2; exact Oi) | (apply Kc; rfl; exact Oj; exact Og; exact hpk2; exact Oi) | (apply Zo; rfl; exact Oj; exact On; all_goals (intro h; try (exfalso; omega))))
  all_goals (first | refine St.dn Try.func30 ⟨?_, rfl⟩ Ent.go | refine St.fl Try.func30 ⟨?_, rfl⟩ Ent.go)
  rfl
end Go.Proofs.Ytmcadilggmlbfaa
