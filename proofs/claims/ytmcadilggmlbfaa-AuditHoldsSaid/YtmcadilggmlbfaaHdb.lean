/-
  Package audit: Hold.
-/
import Derived.Test.YtmcadilggmlbfaaHda
namespace Go.Proofs.Ytmcadilggmlbfaa
set_option maxRecDepth 100000
def memW (C n cap : Nat) (st : List Int) (tv : Value) : List Value := .slice (some ⟨C, 0, none⟩) n cap :: (st.map (Value.int .i64) ++ [tv])
theorem NthN.traceW {st : List Int} (h : st.length = 8) (C n cap : Nat) (tv : Value) : NthN (0 + 9) (memW C n cap st tv) tv := by
  have h1 : NthN ((st.map (Value.int .i64)).length + 0) (st.map (Value.int .i64) ++ [tv]) tv := NthN.zero.app_right _
  rw [List.length_map, h] at h1
  exact .succ h1
theorem size_m (M C n cap : Nat) (st : List Int) (tv : Value) : RTri Try.prog 28 #[.pointer (some ⟨M, 0, none⟩)] [bl M 87 (memW C n cap st tv)] (.int .i64 (n : Int)) := by
  apply RTri.of_reads
  intro p hp
  have hM := RdC.of_sat hp (ReadsC.here RdC.bl)
  refine Tri.of_body (vs := [_]) Try.func28 rfl rfl fun w0 F => ?_
  repeat' (first | (apply Ya; exact Oa) | (apply Yb; exact Ob) | (apply Yc; exact Oc; intro b) | (apply Ye; exact Oe; intro g cap rest hcap) | (apply Yd; exact Od; intro ad cap) | (apply Yf; exact Oj) | (apply Yg; exact Oj; exact ⟨rfl, rfl⟩) | (apply Yh; exact Oj; rfl) | (apply Yi; exact Oj; exact On; all_goals (intro h; try (exfalso; omega))) | apply StL.nil | apply St.region | apply St.seq | apply St.block | apply St.inBlock | apply St.skip | (apply St.exit; rfl) | (apply St.cond_t; rfl) | (apply St.cond_f; rfl) | (apply Ud; rfl; exact On; all_goals (intro h; try (exfalso; omega))) | (apply Za; rfl; exact Oa) | (apply Zb; rfl; exact Oa; exact Ent.go) | (apply Zc; rfl; exact Ob) | (apply Zd; rfl; exact Oc; intro b; refine ⟨Ent.go, ?_⟩) | (apply Ze; rfl; exact Oc; intro b) | (apply Zf; rfl; exact Oe; intro g cap rest hcap) | (apply Zg; rfl; exact Od; intro ad cap) | apply StD.nil | exact StD.nope | apply StD.pick | (apply StD.claim; rfl; intro b) | (apply Zi; rfl; exact Oj; exact Oa) | (apply Zj; rfl; exact Oj; exact Oa; exact Ent.go) | (apply Zk; rfl; exact Oj; exact ⟨rfl, rfl⟩) | (apply Zl; rfl; exact Oj; exact ⟨rfl, rfl⟩; exact Ent.go) | (apply Zm; rfl; exact Oj; rfl) | (apply Zn; rfl; exact Oj; exact Ent.go; rfl)   | (apply Zo; rfl; exact Oj; exact On; all_goals (intro h; try (exfalso; omega))))
  (first | refine St.dn Try.func28 ⟨?_, rfl⟩ Ent.go | refine St.fl Try.func28 ⟨?_, rfl⟩ Ent.go)
  rfl
theorem peekW_r (M C n cap : Nat) (cs : List Cell) (rest : List Value) (hn : cs.length = n) (hcap : n ≤ cap) (st : List Int) (tv : Value) (p : Int) :
    RTri Try.prog 54 #[.pointer (some ⟨M, 0, none⟩), .int .i64 p] [bl M 87 (memW C n cap st tv), bl C 37 (cs.flatMap Cell.v ++ rest)] (.tuple ⟨[.agg ⟨(peekOf cs p).v⟩, .bool (decide (0 ≤ p ∧ p < n))]⟩) := by
  apply RTri.of_reads
  intro q hq
  have hM := RdC.of_sat hq (ReadsC.here RdC.bl)
  have hC := RdC.of_sat hq (ReadsC.there (ReadsC.here RdC.bl))
  by_cases hp : 0 ≤ p ∧ p < n
  · have hdrop := peek_drop (cs := cs) hp.1 (by omega) rest
    have htk : TakeN 2 ((peekOf cs p).v ++ ((cs.drop (p.toNat + 1)).flatMap Cell.v ++ rest)) (peekOf cs p).v := TakeN.app (peekOf cs p).v _
    refine Tri.of_body (vs := [_, _]) Try.func54 rfl rfl fun w0 F => ?_
    repeat' (first | (apply Ya; exact Oa) | (apply Yb; exact Ob) | (apply Yc; exact Oc; intro b) | (apply Ye; exact Oe; intro g cap rest hcap) | (apply Yd; exact Od; intro ad cap) | (apply Yf; exact Oj) | (apply Yg; exact Oj; exact ⟨rfl, rfl⟩) | (apply Yh; exact Oj; rfl) | (apply Yi; exact Oj; exact On; all_goals (intro h; try (exfalso; omega))) | apply StL.nil | apply St.region | apply St.seq | apply St.block | apply St.inBlock | apply St.skip | (apply St.exit; rfl) | (apply St.cond_t; rfl) | (apply St.cond_f; rfl) | (apply Ud; rfl; exact On; all_goals (intro h; try (exfalso; omega))) | (apply Za; rfl; exact Oa) | (apply Zb; rfl; exact Oa; exact Ent.go) | (apply Zc; rfl; exact Ob) | (apply Zd; rfl; exact Oc; intro b; refine ⟨Ent.go, ?_⟩) | (apply Ze; rfl; exact Oc; intro b) | (apply Zf; rfl; exact Oe; intro g cap rest hcap) | (apply Zg; rfl; exact Od; intro ad cap) | apply StD.nil | exact StD.nope | apply StD.pick | (apply StD.claim; rfl; intro b) | (apply Zi; rfl; exact Oj; exact Oa) | (apply Zj; rfl; exact Oj; exact Oa; exact Ent.go) | (apply Zk; rfl; exact Oj; exact ⟨rfl, rfl⟩) | (apply Zl; rfl; exact Oj; exact ⟨rfl, rfl⟩; exact Ent.go) | (apply Zm; rfl; exact Oj; rfl) | (apply Zn; rfl; exact Oj; exact Ent.go; rfl)   | (apply Zo; rfl; exact Oj; exact On; all_goals (intro h; try (exfalso; omega))))
    all_goals (first | refine St.dn Try.func54 ⟨?_, rfl⟩ Ent.go | refine St.fl Try.func54 ⟨?_, rfl⟩ Ent.go)
    rw [decide_eq_true hp]; rfl
  · have e : peekOf cs p = ⟨0, 0⟩ := by
      unfold peekOf
      split
      · rw [List.getD_eq_getElem?_getD, List.getElem?_eq_none (by omega)]; rfl
      · rfl
    refine Tri.of_body (vs := [_, _]) Try.func54 rfl rfl fun w0 F => ?_
    repeat' (first | (apply Ya; exact Oa) | (apply Yb; exact Ob) | (apply Yc; exact Oc; intro b) | (apply Ye; exact Oe; intro g cap rest hcap) | (apply Yd; exact Od; intro ad cap) | (apply Yf; exact Oj) | (apply Yg; exact Oj; exact ⟨rfl, rfl⟩) | (apply Yh; exact Oj; rfl) | (apply Yi; exact Oj; exact On; all_goals (intro h; try (exfalso; omega))) | apply StL.nil | apply St.region | apply St.seq | apply St.block | apply St.inBlock | apply St.skip | (apply St.exit; rfl) | (apply St.cond_t; rfl) | (apply St.cond_f; rfl) | (apply Ud; rfl; exact On; all_goals (intro h; try (exfalso; omega))) | (apply Za; rfl; exact Oa) | (apply Zb; rfl; exact Oa; exact Ent.go) | (apply Zc; rfl; exact Ob) | (apply Zd; rfl; exact Oc; intro b; refine ⟨Ent.go, ?_⟩) | (apply Ze; rfl; exact Oc; intro b) | (apply Zf; rfl; exact Oe; intro g cap rest hcap) | (apply Zg; rfl; exact Od; intro ad cap) | apply StD.nil | exact StD.nope | apply StD.pick | (apply StD.claim; rfl; intro b) | (apply Zi; rfl; exact Oj; exact Oa) | (apply Zj; rfl; exact Oj; exact Oa; exact Ent.go) | (apply Zk; rfl; exact Oj; exact ⟨rfl, rfl⟩) | (apply Zl; rfl; exact Oj; exact ⟨rfl, rfl⟩; exact Ent.go) | (apply Zm; rfl; exact Oj; rfl) | (apply Zn; rfl; exact Oj; exact Ent.go; rfl)   | (apply Zo; rfl; exact Oj; exact On; all_goals (intro h; try (exfalso; omega))))
    all_goals (first | refine St.dn Try.func54 ⟨?_, rfl⟩ Ent.go | refine St.fl Try.func54 ⟨?_, rfl⟩ Ent.go)
    all_goals (rw [e, decide_eq_false hp]; rfl)
theorem setW_t (M C n cap : Nat) (cs : List Cell) (rest : List Value) (hn : cs.length = n) (hcap : n ≤ cap) (st : List Int) (tv : Value) (p : Int) (c : Cell) :
    Tri Try.prog 13 #[.pointer (some ⟨M, 0, none⟩), .int .i64 p, .agg ⟨c.v⟩] [bl M 87 (memW C n cap st tv), bl C 37 (cs.flatMap Cell.v ++ rest)]
      fun v L => v = .int .i64 (if 0 ≤ p ∧ p < n then 0 else 31) ∧ L = [bl M 87 (memW C n cap st tv), bl C 37 ((setOf cs p c).flatMap Cell.v ++ rest)] := by
  by_cases hp : 0 ≤ p ∧ p < n
  · have hat : p.toNat < cs.length := by omega
    have hs1 : SplN [Value.int .u64 c.val, Value.int .u64 c.seq] (p.toNat * 2) (cs.flatMap Cell.v ++ rest) ((cs.set p.toNat c).flatMap Cell.v ++ rest) := (SplN.flat Cell.v_len hat c).more rest
    have hs2 : SplN c.v (p.toNat * 2) (cs.flatMap Cell.v ++ rest) ((cs.set p.toNat c).flatMap Cell.v ++ rest) := (SplN.flat Cell.v_len hat c).more rest
    have e : setOf cs p c = cs.set p.toNat c := if_pos hp.1
    refine Tri.of_body (vs := [_, _, _]) Try.func13 rfl rfl fun w0 F => ?_
    repeat' (first | (apply Ya; exact Oa) | (apply Yb; exact Ob) | (apply Yc; exact Oc; intro b) | (apply Ye; exact Oe; intro g cap rest hcap) | (apply Yd; exact Od; intro ad cap) | (apply Yf; exact Oj) | (apply Yg; exact Oj; exact ⟨rfl, rfl⟩) | (apply Yh; exact Oj; rfl) | (apply Yi; exact Oj; exact On; all_goals (intro h; try (exfalso; omega))) | apply StL.nil | apply St.region | apply St.seq | apply St.block | apply St.inBlock | apply St.skip | (apply St.exit; rfl) | (apply St.cond_t; rfl) | (apply St.cond_f; rfl) | (apply Ud; rfl; exact On; all_goals (intro h; try (exfalso; omega))) | (apply Za; rfl; exact Oa) | (apply Zb; rfl; exact Oa; exact Ent.go) | (apply Zc; rfl; exact Ob) | (apply Zd; rfl; exact Oc; intro b; refine ⟨Ent.go, ?_⟩) | (apply Ze; rfl; exact Oc; intro b) | (apply Zf; rfl; exact Oe; intro g cap rest hcap) | (apply Zg; rfl; exact Od; intro ad cap) | apply StD.nil | exact StD.nope | apply StD.pick | (apply StD.claim; rfl; intro b) | (apply Zi; rfl; exact Oj; exact Oa) | (apply Zj; rfl; exact Oj; exact Oa; exact Ent.go) | (apply Zk; rfl; exact Oj; exact ⟨rfl, rfl⟩) | (apply Zl; rfl; exact Oj; exact ⟨rfl, rfl⟩; exact Ent.go) | (apply Zm; rfl; exact Oj; rfl) | (apply Zn; rfl; exact Oj; exact Ent.go; rfl) | (refine St.draw (id := 3) [(0, 0), (1, 0), (2, 0), (3, 1), (4, 0), (5, 1), (6, 0), (7, 3)] [7] mixed (by kernel_rfl) ?_)  | (apply Zo; rfl; exact Oj; exact On; all_goals (intro h; try (exfalso; omega))))
    refine St.d1 Try.func13 ?_; apply Exists.intro; apply And.intro; (refine ⟨?_, ?_⟩); rotate_left; (rw [e]); (focus exact Ent.go); (rw [if_pos hp]; rfl)
  · have e : setOf cs p c = cs := by
      unfold setOf
      split
      · exact List.set_eq_of_length_le (by omega)
      · rfl
    refine Tri.of_body (vs := [_, _, _]) Try.func13 rfl rfl fun w0 F => ?_
    repeat' (first | (apply Ya; exact Oa) | (apply Yb; exact Ob) | (apply Yc; exact Oc; intro b) | (apply Ye; exact Oe; intro g cap rest hcap) | (apply Yd; exact Od; intro ad cap) | (apply Yf; exact Oj) | (apply Yg; exact Oj; exact ⟨rfl, rfl⟩) | (apply Yh; exact Oj; rfl) | (apply Yi; exact Oj; exact On; all_goals (intro h; try (exfalso; omega))) | apply StL.nil | apply St.region | apply St.seq | apply St.block | apply St.inBlock | apply St.skip | (apply St.exit; rfl) | (apply St.cond_t; rfl) | (apply St.cond_f; rfl) | (apply Ud; rfl; exact On; all_goals (intro h; try (exfalso; omega))) | (apply Za; rfl; exact Oa) | (apply Zb; rfl; exact Oa; exact Ent.go) | (apply Zc; rfl; exact Ob) | (apply Zd; rfl; exact Oc; intro b; refine ⟨Ent.go, ?_⟩) | (apply Ze; rfl; exact Oc; intro b) | (apply Zf; rfl; exact Oe; intro g cap rest hcap) | (apply Zg; rfl; exact Od; intro ad cap) | apply StD.nil | exact StD.nope | apply StD.pick | (apply StD.claim; rfl; intro b) | (apply Zi; rfl; exact Oj; exact Oa) | (apply Zj; rfl; exact Oj; exact Oa; exact Ent.go) | (apply Zk; rfl; exact Oj; exact ⟨rfl, rfl⟩) | (apply Zl; rfl; exact Oj; exact ⟨rfl, rfl⟩; exact Ent.go) | (apply Zm; rfl; exact Oj; rfl) | (apply Zn; rfl; exact Oj; exact Ent.go; rfl) | (refine St.draw (id := 3) [(0, 0), (1, 0), (2, 0), (3, 1), (4, 0), (5, 1), (6, 0), (7, 3)] [7] mixed (by kernel_rfl) ?_)  | (apply Zo; rfl; exact Oj; exact On; all_goals (intro h; try (exfalso; omega))))
    all_goals (refine St.d1 Try.func13 ?_; apply Exists.intro; apply And.intro; (refine ⟨?_, ?_⟩); rotate_left; (rw [e]); (focus exact Ent.go); (rw [if_neg hp]; rfl))
theorem clone_cells (C n : Nat) (xs : List Value) (h1 : xs.all one = true) (hn : n ≤ 1000000) (hlen : xs.length = n * 2) (h0 : 0 < n) : Tri Try.prog 52 #[.slice (some ⟨C, 0, none⟩) n n] [bl C 37 xs]
    fun r L => ∃ C' cap rest, r = .slice (some ⟨C', 0, none⟩) n cap ∧ n ≤ cap ∧ L = [bl C 37 xs, bl C' 37 (xs ++ rest)] := by
  have htk : TakeN (n * 2) xs xs := by have := TakeN.app xs []; rwa [List.append_nil, hlen] at this
  refine Tri.of_body (vs := [_]) Try.func52 rfl rfl fun w0 F => ?_
  repeat' (first | (apply Ya; exact Oa) | (apply Yb; exact Ob) | (apply Yc; exact Oc; intro b) | (apply Ye; exact Oe; intro g cap rest hcap) | (apply Yd; exact Od; intro ad cap) | (apply Yf; exact Oj) | (apply Yg; exact Oj; exact ⟨rfl, rfl⟩) | (apply Yh; exact Oj; rfl) | (apply Yi; exact Oj; exact On; all_goals (intro h; try (exfalso; omega))) | apply StL.nil | apply St.region | apply St.seq | apply St.block | apply St.inBlock | apply St.skip | (apply St.exit; rfl) | (apply St.cond_t; rfl) | (apply St.cond_f; rfl) | (apply Ud; rfl; exact On; all_goals (intro h; try (exfalso; omega))) | (apply Za; rfl; exact Oa) | (apply Zb; rfl; exact Oa; exact Ent.go) | (apply Zc; rfl; exact Ob) | (apply Zd; rfl; exact Oc; intro b; refine ⟨Ent.go, ?_⟩) | (apply Ze; rfl; exact Oc; intro b) | (apply Zf; rfl; exact Oe; intro g cap rest hcap) | (apply Zg; rfl; exact Od; intro ad cap) | apply StD.nil | exact StD.nope | apply StD.pick | (apply StD.claim; rfl; intro b) | (apply Zi; rfl; exact Oj; exact Oa) | (apply Zj; rfl; exact Oj; exact Oa; exact Ent.go) | (apply Zk; rfl; exact Oj; exact ⟨rfl, rfl⟩) | (apply Zl; rfl; exact Oj; exact ⟨rfl, rfl⟩; exact Ent.go) | (apply Zm; rfl; exact Oj; rfl) | (apply Zn; rfl; exact Oj; exact Ent.go; rfl)   | (apply Zo; rfl; exact Oj; exact On; all_goals (intro h; try (exfalso; omega))))
  refine St.d1 Try.func52 ⟨_, ⟨g, cap, _, rfl, by omega, rfl⟩, Ent.go⟩
theorem clone_evs : Tri Try.prog 53 #[.slice none 0 0] [] fun r L => r = .slice none 0 0 ∧ L = [] := by
  refine Tri.of_body (vs := [_]) Try.func53 rfl rfl fun w0 F => ?_
  repeat' (first | (apply Ya; exact Oa) | (apply Yb; exact Ob) | (apply Yc; exact Oc; intro b) | (apply Ye; exact Oe; intro g cap rest hcap) | (apply Yd; exact Od; intro ad cap) | (apply Yf; exact Oj) | (apply Yg; exact Oj; exact ⟨rfl, rfl⟩) | (apply Yh; exact Oj; rfl) | (apply Yi; exact Oj; exact On; all_goals (intro h; try (exfalso; omega))) | apply StL.nil | apply St.region | apply St.seq | apply St.block | apply St.inBlock | apply St.skip | (apply St.exit; rfl) | (apply St.cond_t; rfl) | (apply St.cond_f; rfl) | (apply Ud; rfl; exact On; all_goals (intro h; try (exfalso; omega))) | (apply Za; rfl; exact Oa) | (apply Zb; rfl; exact Oa; exact Ent.go) | (apply Zc; rfl; exact Ob) | (apply Zd; rfl; exact Oc; intro b; refine ⟨Ent.go, ?_⟩) | (apply Ze; rfl; exact Oc; intro b) | (apply Zf; rfl; exact Oe; intro g cap rest hcap) | (apply Zg; rfl; exact Od; intro ad cap) | apply StD.nil | exact StD.nope | apply StD.pick | (apply StD.claim; rfl; intro b) | (apply Zi; rfl; exact Oj; exact Oa) | (apply Zj; rfl; exact Oj; exact Oa; exact Ent.go) | (apply Zk; rfl; exact Oj; exact ⟨rfl, rfl⟩) | (apply Zl; rfl; exact Oj; exact ⟨rfl, rfl⟩; exact Ent.go) | (apply Zm; rfl; exact Oj; rfl) | (apply Zn; rfl; exact Oj; exact Ent.go; rfl)   | (apply Zo; rfl; exact Oj; exact On; all_goals (intro h; try (exfalso; omega))))
  refine St.d1 Try.func53 ⟨_, ⟨rfl, rfl⟩, Ent.go⟩
theorem mclone_t (M C n : Nat) (cs : List Cell) (hn : cs.length = n) (h0 : 0 < n) (hn1 : n ≤ 1000000) : Tri Try.prog 29 #[.pointer (some ⟨M, 0, none⟩)] [bl M 87 (memV C n zeros8 (.slice none 0 0)), bl C 37 (cs.flatMap Cell.v)]
    fun r L => ∃ M' C' cap rest, r = .pointer (some ⟨M', 0, none⟩) ∧ n ≤ cap ∧ L = [bl M 87 (memV C n zeros8 (.slice none 0 0)), bl C 37 (cs.flatMap Cell.v), bl M' 87 (memW C' n cap zeros8 (.slice none 0 0)), bl C' 37 (cs.flatMap Cell.v ++ rest)] := by
  have hone : (cs.flatMap Cell.v).all one = true := by
    clear hn
    induction cs with
    | nil => rfl
    | cons x l ih => rw [List.flatMap_cons, List.all_append, ih]; rfl
  have h1 := clone_cells C n (cs.flatMap Cell.v) hone hn1 (by rw [flat_len Cell.v_len, hn]) h0
  have h2 := RTri.of_pure clone_evs
  have hn9 : NthN (0 + 9) (memV C n zeros8 (.slice none 0 0)) (.slice none 0 0) := NthN.trace rfl _ _ _
  refine Tri.of_body (vs := [_]) Try.func29 rfl rfl fun w0 F => ?_
  repeat' (first | (apply Ya; exact Oa) | (apply Yb; exact Ob) | (apply Yc; exact Oc; intro b) | (apply Ye; exact Oe; intro g cap rest hcap) | (apply Yd; exact Od; intro ad cap) | (apply Yf; exact Oj) | (apply Yg; exact Oj; exact ⟨rfl, rfl⟩) | (apply Yh; exact Oj; rfl) | (apply Yi; exact Oj; exact On; all_goals (intro h; try (exfalso; omega))) | apply StL.nil | apply St.region | apply St.seq | apply St.block | apply St.inBlock | apply St.skip | (apply St.exit; rfl) | (apply St.cond_t; rfl) | (apply St.cond_f; rfl) | (apply Ud; rfl; exact On; all_goals (intro h; try (exfalso; omega))) | (apply Za; rfl; exact Oa) | (apply Zb; rfl; exact Oa; exact Ent.go) | (apply Zc; rfl; exact Ob) | (apply Zd; rfl; exact Oc; intro b; refine ⟨Ent.go, ?_⟩) | (apply Ze; rfl; exact Oc; intro b) | (apply Zf; rfl; exact Oe; intro g cap rest hcap) | (apply Zg; rfl; exact Od; intro ad cap) | apply StD.nil | exact StD.nope | apply StD.pick | (apply StD.claim; rfl; intro b) | (apply Zi; rfl; exact Oj; exact Oa) | (apply Zj; rfl; exact Oj; exact Oa; exact Ent.go) | (apply Zk; rfl; exact Oj; exact ⟨rfl, rfl⟩) | (apply Zl; rfl; exact Oj; exact ⟨rfl, rfl⟩; exact Ent.go) | (apply Zm; rfl; exact Oj; rfl) | (apply Zn; rfl; exact Oj; exact Ent.go; rfl) | (refine St.draw (id := 1) [(0, 0), (1, 0), (2, 0), (3, 1), (5, 0), (6, 0), (7, 0), (8, 1), (9, 0), (10, 0), (11, 0), (12, 1), (4, 2), (13, 1), (14, 0), (15, 2), (16, 0)] [] mixed (by kernel_rfl) ?_) | (apply Ka; exact Og; exact h2; exact Oh) | (apply Kb; rfl; exact Og; exact h2; exact Oi) | (apply Kc; rfl; exact Oj; exact Og; exact h2; exact Oi) | (apply Kd; exact Og; exact h1; exact Oh; rintro _ _ ⟨C', cap, rest, rfl, hcap, rfl⟩) | (apply Ke; rfl; exact Og; exact h1; exact Oh; rintro _ _ ⟨C', cap, rest, rfl, hcap, rfl⟩) | (apply Kf; rfl; exact Og; exact h1; exact Oh; rintro _ _ ⟨C', cap, rest, rfl, hcap, rfl⟩; refine ⟨Ent.go, ?_⟩) | (apply Zo; rfl; exact Oj; exact On; all_goals (intro h; try (exfalso; omega))))
  all_goals refine St.d1 Try.func29 ⟨_, ⟨_, C', _, _, rfl, hcap, rfl⟩, Ent.go⟩
/-- the auditor of Hold -/
def audW (c : Cfg) (M : Nat) : List Value := c.m ++ [.pointer (some ⟨M, 0, none⟩), .slice none 0 0, .int .i64 0, .int .i64 0, .int .i64 0]
theorem take_mW (c : Cfg) (M : Nat) : TakeN 24 (audW c M) c.m := TakeN.app c.m _
theorem apeekW_r (c : Cfg) (hc : Small c) (A M C n cap : Nat) (cs : List Cell) (rest : List Value) (hn : cs.length = n) (hcap : n ≤ cap) (st : List Int) (tv : Value) (kind i k : Int) :
    RTri Try.prog 30 #[.pointer (some ⟨A, 0, none⟩), .int .i64 kind, .int .i64 i, .int .i64 k] [bl A 71 (audW c M), bl M 87 (memW C n cap st tv), bl C 37 (cs.flatMap Cell.v ++ rest)] (.agg ⟨(peekOf cs (c.at kind i k)).v⟩) := by
  apply RTri.of_reads
  intro q hq
  have hA := RdC.of_sat hq (ReadsC.here RdC.bl)
  have hpk2 : RTri Try.prog 54 #[.pointer (some ⟨M, 0, none⟩), .int .i64 (c.at kind i k)] [q] (.tuple ⟨[.agg ⟨(peekOf cs (c.at kind i k)).v⟩, .bool (decide (0 ≤ c.at kind i k ∧ c.at kind i k < n))]⟩) :=
    (peekW_r M C n cap cs rest hn hcap st tv (c.at kind i k)).of_read fun h hh => (hq h hh).tail
  have htk := take_mW c M
  refine Tri.of_body (vs := [_, _, _, _]) Try.func30 rfl rfl fun w0 F => ?_
  repeat' (first | (apply Ya; exact Oa) | (apply Yb; exact Ob) | (apply Yc; exact Oc; intro b) | (apply Ye; exact Oe; intro g cap rest hcap) | (apply Yd; exact Od; intro ad cap) | (apply Yf; exact Oj) | (apply Yg; exact Oj; exact ⟨rfl, rfl⟩) | (apply Yh; exact Oj; rfl) | (apply Yi; exact Oj; exact On; all_goals (intro h; try (exfalso; omega))) | apply StL.nil | apply St.region | apply St.seq | apply St.block | apply St.inBlock | apply St.skip | (apply St.exit; rfl) | (apply St.cond_t; rfl) | (apply St.cond_f; rfl) | (apply Ud; rfl; exact On; all_goals (intro h; try (exfalso; omega))) | (apply Za; rfl; exact Oa) | (apply Zb; rfl; exact Oa; exact Ent.go) | (apply Zc; rfl; exact Ob) | (apply Zd; rfl; exact Oc; intro b; refine ⟨Ent.go, ?_⟩) | (apply Ze; rfl; exact Oc; intro b) | (apply Zf; rfl; exact Oe; intro g cap rest hcap) | (apply Zg; rfl; exact Od; intro ad cap) | apply StD.nil | exact StD.nope | apply StD.pick | (apply StD.claim; rfl; intro b) | (apply Zi; rfl; exact Oj; exact Oa) | (apply Zj; rfl; exact Oj; exact Oa; exact Ent.go) | (apply Zk; rfl; exact Oj; exact ⟨rfl, rfl⟩) | (apply Zl; rfl; exact Oj; exact ⟨rfl, rfl⟩; exact Ent.go) | (apply Zm; rfl; exact Oj; rfl) | (apply Zn; rfl; exact Oj; exact Ent.go; rfl) | (refine St.draw (id := 1) [(0, 0), (1, 0), (2, 0), (3, 1), (4, 0), (5, 0), (6, 0), (7, 1), (8, 0), (9, 0), (10, 0), (11, 1), (12, 1), (13, 0), (14, 0), (15, 0), (16, 2), (17, 3), (18, 0)] [17] mixed (by kernel_rfl) ?_) | (apply Ka; exact Og; exact at_r c hc kind i k; exact Oh) | (apply Kb; rfl; exact Og; exact at_r c hc kind i k; exact Oi) | (apply Kc; rfl; exact Oj; exact Og; exact at_r c hc kind i k; exact Oi) | (apply Ka; exact Og; exact hpk2; exact Oh) | (apply Kb; rfl; exact Og; exact hpk2; exact Oi) | (apply Kc; rfl; exact Oj; exact Og; exact hpk2; exact Oi) | (apply Zo; rfl; exact Oj; exact On; all_goals (intro h; try (exfalso; omega))))
  all_goals (first | refine St.dn Try.func30 ⟨?_, rfl⟩ Ent.go | refine St.fl Try.func30 ⟨?_, rfl⟩ Ent.go)
  rfl
theorem aput_t (c : Cfg) (hc : Small c) (A M C n cap : Nat) (cs : List Cell) (rest : List Value) (hn : cs.length = n) (hcap : n ≤ cap) (st : List Int) (tv : Value) (p : Int) (x : Nat) :
    Tri Try.prog 32 #[.pointer (some ⟨A, 0, none⟩), .int .i64 p, .int .u64 (x : Int)] [bl A 71 (audW c M), bl M 87 (memW C n cap st tv), bl C 37 (cs.flatMap Cell.v ++ rest)]
      fun r L => r = .tuple ⟨[]⟩ ∧ L = [bl A 71 (audW c M), bl M 87 (memW C n cap st tv), bl C 37 ((if 7 ≤ (c.what p).1 then setOf cs p ⟨x, 0⟩ else cs).flatMap Cell.v ++ rest)] := by
  have htk := take_mW c M
  have hw := what_r c hc p
  have hst := setW_t M C n cap cs rest hn hcap st tv p ⟨x, 0⟩
  by_cases h7 : 7 ≤ (c.what p).1
  · rw [if_pos h7]
    refine Tri.of_body (vs := [_, _, _]) Try.func32 rfl rfl fun w0 F => ?_
    repeat' (first | (apply Ya; exact Oa) | (apply Yb; exact Ob) | (apply Yc; exact Oc; intro b) | (apply Ye; exact Oe; intro g cap rest hcap) | (apply Yd; exact Od; intro ad cap) | (apply Yf; exact Oj) | (apply Yg; exact Oj; exact ⟨rfl, rfl⟩) | (apply Yh; exact Oj; rfl) | (apply Yi; exact Oj; exact On; all_goals (intro h; try (exfalso; omega))) | apply StL.nil | apply St.region | apply St.seq | apply St.block | apply St.inBlock | apply St.skip | (apply St.exit; rfl) | (apply St.cond_t; rfl) | (apply St.cond_f; rfl) | (apply Ud; rfl; exact On; all_goals (intro h; try (exfalso; omega))) | (apply Za; rfl; exact Oa) | (apply Zb; rfl; exact Oa; exact Ent.go) | (apply Zc; rfl; exact Ob) | (apply Zd; rfl; exact Oc; intro b; refine ⟨Ent.go, ?_⟩) | (apply Ze; rfl; exact Oc; intro b) | (apply Zf; rfl; exact Oe; intro g cap rest hcap) | (apply Zg; rfl; exact Od; intro ad cap) | apply StD.nil | exact StD.nope | apply StD.pick | (apply StD.claim; rfl; intro b) | (apply Zi; rfl; exact Oj; exact Oa) | (apply Zj; rfl; exact Oj; exact Oa; exact Ent.go) | (apply Zk; rfl; exact Oj; exact ⟨rfl, rfl⟩) | (apply Zl; rfl; exact Oj; exact ⟨rfl, rfl⟩; exact Ent.go) | (apply Zm; rfl; exact Oj; rfl) | (apply Zn; rfl; exact Oj; exact Ent.go; rfl)  | (apply Ka; exact Og; exact hw; exact Oh) | (apply Kb; rfl; exact Og; exact hw; exact Oi) | (apply Kc; rfl; exact Oj; exact Og; exact hw; exact Oi) | (apply Kd; exact Og; exact hst; exact Oh; rintro _ _ ⟨rfl, rfl⟩) | (apply Ke; rfl; exact Og; exact hst; exact Oh; rintro _ _ ⟨rfl, rfl⟩) | (apply Kf; rfl; exact Og; exact hst; exact Oh; rintro _ _ ⟨rfl, rfl⟩; refine ⟨Ent.go, ?_⟩) | (apply Zo; rfl; exact Oj; exact On; all_goals (intro h; try (exfalso; omega))))
    refine St.f1 Try.func32 ⟨_, ⟨rfl, rfl⟩, Ent.go⟩
  · rw [if_neg h7]
    refine Tri.of_body (vs := [_, _, _]) Try.func32 rfl rfl fun w0 F => ?_
    repeat' (first | (apply Ya; exact Oa) | (apply Yb; exact Ob) | (apply Yc; exact Oc; intro b) | (apply Ye; exact Oe; intro g cap rest hcap) | (apply Yd; exact Od; intro ad cap) | (apply Yf; exact Oj) | (apply Yg; exact Oj; exact ⟨rfl, rfl⟩) | (apply Yh; exact Oj; rfl) | (apply Yi; exact Oj; exact On; all_goals (intro h; try (exfalso; omega))) | apply StL.nil | apply St.region | apply St.seq | apply St.block | apply St.inBlock | apply St.skip | (apply St.exit; rfl) | (apply St.cond_t; rfl) | (apply St.cond_f; rfl) | (apply Ud; rfl; exact On; all_goals (intro h; try (exfalso; omega))) | (apply Za; rfl; exact Oa) | (apply Zb; rfl; exact Oa; exact Ent.go) | (apply Zc; rfl; exact Ob) | (apply Zd; rfl; exact Oc; intro b; refine ⟨Ent.go, ?_⟩) | (apply Ze; rfl; exact Oc; intro b) | (apply Zf; rfl; exact Oe; intro g cap rest hcap) | (apply Zg; rfl; exact Od; intro ad cap) | apply StD.nil | exact StD.nope | apply StD.pick | (apply StD.claim; rfl; intro b) | (apply Zi; rfl; exact Oj; exact Oa) | (apply Zj; rfl; exact Oj; exact Oa; exact Ent.go) | (apply Zk; rfl; exact Oj; exact ⟨rfl, rfl⟩) | (apply Zl; rfl; exact Oj; exact ⟨rfl, rfl⟩; exact Ent.go) | (apply Zm; rfl; exact Oj; rfl) | (apply Zn; rfl; exact Oj; exact Ent.go; rfl)  | (apply Ka; exact Og; exact hw; exact Oh) | (apply Kb; rfl; exact Og; exact hw; exact Oi) | (apply Kc; rfl; exact Oj; exact Og; exact hw; exact Oi) | (apply Kd; exact Og; exact hst; exact Oh; rintro _ _ ⟨rfl, rfl⟩) | (apply Ke; rfl; exact Og; exact hst; exact Oh; rintro _ _ ⟨rfl, rfl⟩) | (apply Kf; rfl; exact Og; exact hst; exact Oh; rintro _ _ ⟨rfl, rfl⟩; refine ⟨Ent.go, ?_⟩) | (apply Zo; rfl; exact Oj; exact On; all_goals (intro h; try (exfalso; omega))))
    refine St.f1 Try.func32 ⟨_, ⟨rfl, rfl⟩, Ent.go⟩
/-- the first k of n numbers, the others 0 -/
def fillN (n k : Nat) (g : Nat → Nat) : List Value := (List.range n).map fun j => nat64 (if j < k then g j else 0)
theorem fillN_len (n k : Nat) (g : Nat → Nat) : (fillN n k g).length = n := by simp [fillN]
theorem fillN_set {n k : Nat} (g : Nat → Nat) (h : k < n) : SetN (nat64 (g k)) k (fillN n k g) (fillN n (k + 1) g) := by
  have := SetN.of (v := nat64 (g k)) (n := k) (l := fillN n k g) (by rw [fillN_len]; exact h)
  rwa [show (fillN n k g).set k (nat64 (g k)) = fillN n (k + 1) g by
    apply List.ext_getElem?
    intro j
    rw [List.getElem?_set]
    unfold fillN
    rw [List.getElem?_map, List.getElem?_map, List.length_map, List.length_range]
    by_cases hj : j < n
    · rw [List.getElem?_range hj]
      by_cases e : k = j
      · subst e; simp [h]
      · rw [if_neg e]
        simp only [Option.map_some]
        by_cases hlt : j < k
        · rw [if_pos hlt, if_pos (by omega)]
        · rw [if_neg hlt, if_neg (by omega)]
    · rw [List.getElem?_eq_none (by rw [List.length_range]; omega), if_neg (by omega)]; rfl] at this
theorem fillN_full (n : Nat) (g : Nat → Nat) : fillN n n g = ((List.range n).map g).map nat64 := by
  unfold fillN
  rw [List.map_map]
  refine List.map_congr_left fun j hj => ?_
  rw [if_pos (List.mem_range.1 hj)]; rfl
end Go.Proofs.Ytmcadilggmlbfaa
