/-
  Package tumblerlaw14: want, plan.
-/
import Derived.Test.YtipnljhelbjmaaaGreatBk
namespace Go.Proofs.YtipnljhelbjmaaaGreat
set_option maxRecDepth 100000
section idx
variable {P : Program} {n' : Fi} {E : Env} {L : List HProp} {ty : TypeId}
/-- an element of an array's value -/
theorem OpV.idxAgg {t : TypeId} {x y : Operand} {k : IntKind} {i : Int} {n e : Nat} {l : List Value} {v : Value} [hu : Und P t (.array n e)] [ha1 : IsAg P e false] [hz : Siz P e 1] (hx : ev E x = some (.agg ⟨l⟩)) (hy : ev E y = some (.int k i)) (h0 : 0 ≤ i) (h1 : i < n) (hn : NthN i.toNat l v) :
    OpV P n' (.index t x y) ty E L v := by
  unfold OpV
  exact (fun _ _ _ _ a w ha _ => by
    have h2 := hn.eq
    simp [execOp, ha.ev hx, ha.ev hy, Instr.index, run_underlying hu.h, asIntOf, asAgg, part, hz.h, ha1.h, h0, h1, h2])
end idx
/-- an Ask's cells -/
def wantN (c : Cfg) (cs : List Cell) (who : Int) (args : List Nat) : Nat → List Cell
  | 0 => cs
  | k + 1 => setOf (wantN c cs who args k) (c.at 2 who k) ⟨args.getD k 0, 0⟩
def Pm.want (c : Cfg) (M : Pm) (who : Int) (prog : Nat) (args : List Nat) (tag : Nat) : Pm := ⟨setOf (wantN c M.cs who args 4) (c.at 1 who 0) ⟨prog, tag⟩, M.st, M.tr⟩
set_option maxHeartbeats 600000 in
theorem want_t (Mb C : Nat) (c : Cfg) (hc : Small c) (M : Pm) (who : Int) (prog : Nat) (hp : prog ≤ 1000000) (a0 a1 a2 a3 : Nat) (tag : Nat) :
    Tri Tryz.prog 46 #[.agg ⟨c.m⟩, .pointer (some ⟨Mb, 0, none⟩), .agg ⟨[.int .i64 who, .int .i64 (prog : Int), .int .u64 (a0 : Int), .int .u64 (a1 : Int), .int .u64 (a2 : Int), .int .u64 (a3 : Int)]⟩, .int .u64 (tag : Int)] [Mm Mb C M]
      fun r L => r = .tuple ⟨[]⟩ ∧ L = [Mm Mb C (M.want c who prog [a0, a1, a2, a3] tag)] := by
  have hset := fun (k : Nat) => mset_t Mb C ⟨wantN c M.cs who [a0, a1, a2, a3] k, M.st, M.tr⟩ (c.at 2 who k) ⟨[a0, a1, a2, a3].getD k 0, 0⟩
  have hset2 := mset_t Mb C ⟨wantN c M.cs who [a0, a1, a2, a3] 4, M.st, M.tr⟩ (c.at 1 who 0) ⟨prog, tag⟩
  unfold Cell.v at hset hset2
  refine Tri.of_body (vs := [_, _, _, _]) Tryz.func46 rfl rfl fun w0 F => ?_
  repeat' (first | (apply Ya; exact Oa) | (apply Yb; exact Ob) | (apply Yc; exact Oc; intro b) | (apply Ye; exact Oe; intro g cap rest hcap) | (apply Yd; exact Od; intro ad cap) | (apply Yf; exact Oj) | (apply Yg; exact Oj; exact ⟨rfl, rfl⟩) | (apply Yh; exact Oj; rfl) | (apply Yi; exact Oj; exact On; all_goals (intro h; try (exfalso; omega))) | apply StL.nil | apply St.region | apply St.seq | apply St.block | apply St.inBlock | apply St.skip | (apply St.exit; rfl) | (apply St.cond_t; rfl) | (apply St.cond_f; rfl) | (apply Ud; rfl; exact On; all_goals (intro h; try (exfalso; omega))) | (apply Za; rfl; exact Oa) | (apply Zb; rfl; exact Oa; exact Ent.go) | (apply Zc; rfl; exact Ob) | (apply Zd; rfl; exact Oc; intro b; refine ⟨Ent.go, ?_⟩) | (apply Ze; rfl; exact Oc; intro b) | (apply Zf; rfl; exact Oe; intro g cap rest hcap) | (apply Zg; rfl; exact Od; intro ad cap) | apply StD.nil | exact StD.nope | apply StD.pick | (apply StD.claim; rfl; intro b) | (apply Zi; rfl; exact Oj; exact Oa) | (apply Zj; rfl; exact Oj; exact Oa; exact Ent.go) | (apply Zk; rfl; exact Oj; exact ⟨rfl, rfl⟩) | (apply Zl; rfl; exact Oj; exact ⟨rfl, rfl⟩; exact Ent.go) | (apply Zm; rfl; exact Oj; rfl) | (apply Zn; rfl; exact Oj; exact Ent.go; rfl) | (refine St.draw (id := 6) [(0, 0), (1, 1), (2, 0), (3, 1), (4, 1), (5, 0), (6, 1), (7, 0), (8, 0), (9, 0), (10, 3)] [10] mixed (by kernel_rfl) ?_)  | (apply Zo; rfl; exact Oj; exact On; all_goals (intro h; try (exfalso; omega))))
  refine St.loopY (Lr := ?Lr1) (ι := { k : Nat // k ≤ 4 }) (fun x => 4 - x.1) (fun x => [(12, .int .i64 (x.1 : Int))]) (fun x => [Mm Mb C ⟨wantN c M.cs who [a0, a1, a2, a3] x.1, M.st, M.tr⟩]) ⟨0, Nat.zero_le _⟩ ?hE ?hL ?round
  case hE => exact Sub.go
  case hL => exact Takes.go
  case round =>
    rintro ⟨k, hk⟩ IH; dsimp only
    by_cases hlt : k < 4
    · have hn : NthN (k : Int).toNat [Value.int .u64 (a0 : Int), .int .u64 (a1 : Int), .int .u64 (a2 : Int), .int .u64 (a3 : Int)] (.int .u64 (([a0, a1, a2, a3].getD k 0 : Nat) : Int)) := NthN.u64s (l := [a0, a1, a2, a3]) hlt
      have hs := hset k
      repeat' (first | (apply Ya; exact Oa) | (apply Yb; exact Ob) | (apply Yc; exact Oc; intro b) | (apply Ye; exact Oe; intro g cap rest hcap) | (apply Yd; exact Od; intro ad cap) | (apply Yf; exact Oj) | (apply Yg; exact Oj; exact ⟨rfl, rfl⟩) | (apply Yh; exact Oj; rfl) | (apply Yi; exact Oj; exact On; all_goals (intro h; try (exfalso; omega))) | apply StL.nil | apply St.region | apply St.seq | apply St.block | apply St.inBlock | apply St.skip | (apply St.exit; rfl) | (apply St.cond_t; rfl) | (apply St.cond_f; rfl) | (apply Ud; rfl; exact On; all_goals (intro h; try (exfalso; omega))) | (apply Za; rfl; exact Oa) | (apply Zb; rfl; exact Oa; exact Ent.go) | (apply Zc; rfl; exact Ob) | (apply Zd; rfl; exact Oc; intro b; refine ⟨Ent.go, ?_⟩) | (apply Ze; rfl; exact Oc; intro b) | (apply Zf; rfl; exact Oe; intro g cap rest hcap) | (apply Zg; rfl; exact Od; intro ad cap) | apply StD.nil | exact StD.nope | apply StD.pick | (apply StD.claim; rfl; intro b) | (apply Zi; rfl; exact Oj; exact Oa) | (apply Zj; rfl; exact Oj; exact Oa; exact Ent.go) | (apply Zk; rfl; exact Oj; exact ⟨rfl, rfl⟩) | (apply Zl; rfl; exact Oj; exact ⟨rfl, rfl⟩; exact Ent.go) | (apply Zm; rfl; exact Oj; rfl) | (apply Zn; rfl; exact Oj; exact Ent.go; rfl) | (refine St.draw (id := 6) [(0, 0), (1, 1), (2, 0), (3, 1), (4, 1), (5, 0), (6, 1), (7, 0), (8, 0), (9, 0), (10, 3)] [10] mixed (by kernel_rfl) ?_)  | (apply Zo; rfl; exact Oj; exact On; all_goals (intro h; try (exfalso; omega))))
      (apply StL.v; (apply OpV.idxAgg; rfl; rfl; omega; omega; exact hn); rfl)
      repeat' (first | (apply Ya; exact Oa) | (apply Yb; exact Ob) | (apply Yc; exact Oc; intro b) | (apply Ye; exact Oe; intro g cap rest hcap) | (apply Yd; exact Od; intro ad cap) | (apply Yf; exact Oj) | (apply Yg; exact Oj; exact ⟨rfl, rfl⟩) | (apply Yh; exact Oj; rfl) | (apply Yi; exact Oj; exact On; all_goals (intro h; try (exfalso; omega))) | apply StL.nil | apply St.region | apply St.seq | apply St.block | apply St.inBlock | apply St.skip | (apply St.exit; rfl) | (apply St.cond_t; rfl) | (apply St.cond_f; rfl) | (apply Ud; rfl; exact On; all_goals (intro h; try (exfalso; omega))) | (apply Za; rfl; exact Oa) | (apply Zb; rfl; exact Oa; exact Ent.go) | (apply Zc; rfl; exact Ob) | (apply Zd; rfl; exact Oc; intro b; refine ⟨Ent.go, ?_⟩) | (apply Ze; rfl; exact Oc; intro b) | (apply Zf; rfl; exact Oe; intro g cap rest hcap) | (apply Zg; rfl; exact Od; intro ad cap) | apply StD.nil | exact StD.nope | apply StD.pick | (apply StD.claim; rfl; intro b) | (apply Zi; rfl; exact Oj; exact Oa) | (apply Zj; rfl; exact Oj; exact Oa; exact Ent.go) | (apply Zk; rfl; exact Oj; exact ⟨rfl, rfl⟩) | (apply Zl; rfl; exact Oj; exact ⟨rfl, rfl⟩; exact Ent.go) | (apply Zm; rfl; exact Oj; rfl) | (apply Zn; rfl; exact Oj; exact Ent.go; rfl) | (refine St.draw (id := 6) [(0, 0), (1, 1), (2, 0), (3, 1), (4, 1), (5, 0), (6, 1), (7, 0), (8, 0), (9, 0), (10, 3)] [10] mixed (by kernel_rfl) ?_) | (apply Ka; exact Og; exact at_r c hc _ _ _; exact Oh) | (apply Kb; rfl; exact Og; exact at_r c hc _ _ _; exact Oi) | (apply Kc; rfl; exact Oj; exact Og; exact at_r c hc _ _ _; exact Oi) | (apply Kd; exact Og; exact hs; exact Oh; rintro _ _ ⟨e, rfl, rfl⟩) | (apply Ke; rfl; exact Og; exact hs; exact Oh; rintro _ _ ⟨e, rfl, rfl⟩) | (apply Kf; rfl; exact Og; exact hs; exact Oh; rintro _ _ ⟨e, rfl, rfl⟩; refine ⟨Ent.go, ?_⟩) | (apply Zo; rfl; exact Oj; exact On; all_goals (intro h; try (exfalso; omega))))
      refine IH ⟨k + 1, by omega⟩ (by show 4 - (k + 1) < 4 - k; omega) ?_ ?_
      · exact Sub.go
      · exact Ent.go
    · have hk4 : k = 4 := by omega
      subst hk4
      repeat' (first | (apply Ya; exact Oa) | (apply Yb; exact Ob) | (apply Yc; exact Oc; intro b) | (apply Ye; exact Oe; intro g cap rest hcap) | (apply Yd; exact Od; intro ad cap) | (apply Yf; exact Oj) | (apply Yg; exact Oj; exact ⟨rfl, rfl⟩) | (apply Yh; exact Oj; rfl) | (apply Yi; exact Oj; exact On; all_goals (intro h; try (exfalso; omega))) | apply StL.nil | apply St.region | apply St.seq | apply St.block | apply St.inBlock | apply St.skip | (apply St.exit; rfl) | (apply St.cond_t; rfl) | (apply St.cond_f; rfl) | (apply Ud; rfl; exact On; all_goals (intro h; try (exfalso; omega))) | (apply Za; rfl; exact Oa) | (apply Zb; rfl; exact Oa; exact Ent.go) | (apply Zc; rfl; exact Ob) | (apply Zd; rfl; exact Oc; intro b; refine ⟨Ent.go, ?_⟩) | (apply Ze; rfl; exact Oc; intro b) | (apply Zf; rfl; exact Oe; intro g cap rest hcap) | (apply Zg; rfl; exact Od; intro ad cap) | apply StD.nil | exact StD.nope | apply StD.pick | (apply StD.claim; rfl; intro b) | (apply Zi; rfl; exact Oj; exact Oa) | (apply Zj; rfl; exact Oj; exact Oa; exact Ent.go) | (apply Zk; rfl; exact Oj; exact ⟨rfl, rfl⟩) | (apply Zl; rfl; exact Oj; exact ⟨rfl, rfl⟩; exact Ent.go) | (apply Zm; rfl; exact Oj; rfl) | (apply Zn; rfl; exact Oj; exact Ent.go; rfl) | (refine St.draw (id := 6) [(0, 0), (1, 1), (2, 0), (3, 1), (4, 1), (5, 0), (6, 1), (7, 0), (8, 0), (9, 0), (10, 3)] [10] mixed (by kernel_rfl) ?_) | (apply Ka; exact Og; exact at_r c hc _ _ _; exact Oh) | (apply Kb; rfl; exact Og; exact at_r c hc _ _ _; exact Oi) | (apply Kc; rfl; exact Oj; exact Og; exact at_r c hc _ _ _; exact Oi) | (apply Kd; exact Og; exact hset2; exact Oh; rintro _ _ ⟨e, rfl, rfl⟩) | (apply Ke; rfl; exact Og; exact hset2; exact Oh; rintro _ _ ⟨e, rfl, rfl⟩) | (apply Kf; rfl; exact Og; exact hset2; exact Oh; rintro _ _ ⟨e, rfl, rfl⟩; refine ⟨Ent.go, ?_⟩) | (apply Zo; rfl; exact Oj; exact On; all_goals (intro h; try (exfalso; omega))))
      refine St.f1 Tryz.func46 ⟨_, ⟨rfl, rfl⟩, Ent.go⟩
def opL (o : MOp) : List Value := [.int .i64 o.kind, .int .i64 o.at_, .int .u64 o.old.val, .int .u64 o.old.seq, .int .u64 o.new.val, .int .u64 o.new.seq]
/-- a transaction and a memory, step by step -/
def pstep (c : Cfg) (progs : Progs) (who : Int) (s : Pm × Bm) : Pm × Bm :=
  ((s.1.do who (s.2.ask c).1).1, s.2.tell c c.cap.toNat progs (s.1.do who (s.2.ask c).1).2)
def pit (c : Cfg) (progs : Progs) (who : Int) (s : Pm × Bm) : Nat → Pm × Bm
  | 0 => s
  | k + 1 => pstep c progs who (pit c progs who s k)
theorem pit_inv {c : Cfg} (hc : Small c) (hf : 0 ≤ c.fuel ∧ c.fuel ≤ 1000) {progs : Progs} {who : Int} {s : Pm × Bm} (h : Binv c progs s.2) (hst : s.1.st.length = 8) : ∀ k, Binv c progs (pit c progs who s k).2 ∧ (pit c progs who s k).1.st.length = 8 ∧ (pit c progs who s k).1.cs.length = s.1.cs.length ∧ (pit c progs who s k).1.tr.length ≤ s.1.tr.length + k
  | 0 => ⟨h, hst, rfl, Nat.le_refl _⟩
  | k + 1 => by
    obtain ⟨h1, h2, h3, h4⟩ := pit_inv hc hf h hst k (who := who)
    obtain ⟨g1, g2, g3⟩ := Pm.do_len (pit c progs who s k).1 who ((pit c progs who s k).2.ask c).1
    refine ⟨?_, ?_, ?_, ?_⟩
    · exact h1.tell hc hf _
    · rw [← h2]; exact g2
    · rw [← h3]; exact g1
    · have : (pit c progs who s (k + 1)).1.tr.length ≤ (pit c progs who s k).1.tr.length + 1 := g3
      omega
set_option maxHeartbeats 600000 in
theorem plan_t (Mb C : Nat) (c : Cfg) (hc : Small c) (hf : 0 ≤ c.fuel ∧ c.fuel ≤ 1000) (M : Pm) (hst : M.st.length = 8) (who : Int) (seq : Nat) (pv : Value) (q : HProp) (progs : Progs) (hpv : ProgsR q pv progs) (N : Nat) (htr : M.tr.length + N ≤ 1000000)
    (hN : ∀ k ≤ N, ((pit c progs who (M, Bm.new who seq) k).2.ask c).2 = decide (k < N)) :
    Tri Tryz.prog 47 #[.agg ⟨c.m⟩, .pointer (some ⟨Mb, 0, none⟩), .int .i64 who, .int .u64 (seq : Int), pv] [Mm Mb C M, q]
      fun r L => ∃ B, r = .pointer (some ⟨B, 0, none⟩) ∧ L = [Bd B c pv q progs (pit c progs who (M, Bm.new who seq) N).2, Mm Mb C (pit c progs who (M, Bm.new who seq) N).1, q] := by
  have hinv := pit_inv (who := who) hc hf (s := (M, Bm.new who seq)) (Binv.new hc who seq (progs := progs)) hst
  have hnew := bnew_t c hc pv q progs who seq hpv
  generalize hit : pit c progs who (M, Bm.new who seq) = it at hN hinv ⊢
  have e0 : (M, Bm.new who seq) = it 0 := by rw [← hit]; rfl
  have e1 : ∀ k, it (k + 1) = pstep c progs who (it k) := fun k => by rw [← hit]; rfl
  have em : M = (it 0).1 := by rw [← e0]
  have eb : Bm.new who seq = (it 0).2 := by rw [← e0]
  rw [eb] at hnew
  rw [em]
  have hask : ∀ B k, k ≤ N → RTri Tryz.prog 32 #[.pointer (some ⟨B, 0, none⟩)] [Bd B c pv q progs (it k).2] (.tuple ⟨[.agg ⟨((it k).2.ask c).1.v⟩, .bool (decide (k < N))]⟩) := fun B k hk => by
    rw [← hN k hk]; exact bask_r B c hc pv q progs _ (hinv k).1
  have hdo : ∀ k, k < N → Tri Tryz.prog 99 #[.pointer (some ⟨Mb, 0, none⟩), .int .i64 who, .agg ⟨((it k).2.ask c).1.v⟩] [Mm Mb C (it k).1]
      fun v L => ∃ e, v = .tuple ⟨[.agg ⟨((it k).1.do who ((it k).2.ask c).1).2.v⟩, .int .i64 e]⟩ ∧ L = [Mm Mb C (it (k + 1)).1] := fun k hk => by
    rw [e1]
    have hi := hinv k
    exact mdo_t Mb C (it k).1 hi.2.1 (by have := hi.2.2.2; dsimp only at this; omega) who ((it k).2.ask c).1
  have htell : ∀ B k, Tri Tryz.prog 41 #[.pointer (some ⟨B, 0, none⟩), .agg ⟨((it k).1.do who ((it k).2.ask c).1).2.v⟩] [Bd B c pv q progs (it k).2, q]
      fun r L => r = .tuple ⟨[]⟩ ∧ L = [Bd B c pv q progs (it (k + 1)).2, q] := fun B k => by
    rw [e1]
    exact btell_t B c hc pv q progs (it k).2 hf hpv (hinv k).1 _
  clear e1 e0 hinv hN hit em eb
  unfold MOp.v at hask hdo
  have ha0 := fun B => hask B 0 (Nat.zero_le _)
  obtain ⟨pad, pcap, rfl, hpl, hpr⟩ := hpv
  refine Tri.of_body (vs := [_, _, _, _, _]) Tryz.func47 rfl rfl fun w0 F => ?_
  repeat' (first | (apply Ya; exact Oa) | (apply Yb; exact Ob) | (apply Yc; exact Oc; intro b) | (apply Ye; exact Oe; intro g cap rest hcap) | (apply Yd; exact Od; intro ad cap) | (apply Yf; exact Oj) | (apply Yg; exact Oj; exact ⟨rfl, rfl⟩) | (apply Yh; exact Oj; rfl) | (apply Yi; exact Oj; exact On; all_goals (intro h; try (exfalso; omega))) | apply StL.nil | apply St.region | apply St.seq | apply St.block | apply St.inBlock | apply St.skip | (apply St.exit; rfl) | (apply St.cond_t; rfl) | (apply St.cond_f; rfl) | (apply Ud; rfl; exact On; all_goals (intro h; try (exfalso; omega))) | (apply Za; rfl; exact Oa) | (apply Zb; rfl; exact Oa; exact Ent.go) | (apply Zc; rfl; exact Ob) | (apply Zd; rfl; exact Oc; intro b; refine ⟨Ent.go, ?_⟩) | (apply Ze; rfl; exact Oc; intro b) | (apply Zf; rfl; exact Oe; intro g cap rest hcap) | (apply Zg; rfl; exact Od; intro ad cap) | apply StD.nil | exact StD.nope | apply StD.pick | (apply StD.claim; rfl; intro b) | (apply Zi; rfl; exact Oj; exact Oa) | (apply Zj; rfl; exact Oj; exact Oa; exact Ent.go) | (apply Zk; rfl; exact Oj; exact ⟨rfl, rfl⟩) | (apply Zl; rfl; exact Oj; exact ⟨rfl, rfl⟩; exact Ent.go) | (apply Zm; rfl; exact Oj; rfl) | (apply Zn; rfl; exact Oj; exact Ent.go; rfl)  | (apply Ka; exact Og; exact ha0 _; exact Oh) | (apply Kb; rfl; exact Og; exact ha0 _; exact Oi) | (apply Kc; rfl; exact Oj; exact Og; exact ha0 _; exact Oi) | (apply Kd; exact Og; exact hnew; exact Oh; rintro _ _ ⟨B, rfl, rfl⟩) | (apply Ke; rfl; exact Og; exact hnew; exact Oh; rintro _ _ ⟨B, rfl, rfl⟩) | (apply Kf; rfl; exact Og; exact hnew; exact Oh; rintro _ _ ⟨B, rfl, rfl⟩; refine ⟨Ent.go, ?_⟩) | (apply Zo; rfl; exact Oj; exact On; all_goals (intro h; try (exfalso; omega))))
  revert b; intro A
  refine St.loopY (Lr := ?Lr1) (ι := { x : Nat × Nat // x.1 ≤ N }) (fun x => N - x.1.1) (fun x => [(12, .pointer (some ⟨x.1.2, 0, none⟩)), (13, .bool (decide (x.1.1 < N)))]) (fun x => [bl x.1.2 41 (opL ((it x.1.1).2.ask c).1), Bd B c (.slice pad progs.length pcap) q progs (it x.1.1).2, Mm Mb C (it x.1.1).1]) ⟨(0, A), Nat.zero_le _⟩ ?hE ?hL ?round
  case hE => exact Sub.go
  case hL => unfold opL; exact Takes.go
  case round =>
    rintro ⟨⟨k, Ak⟩, hk⟩ IH; dsimp only at hk IH ⊢
    unfold opL at IH ⊢
    by_cases hlt : k < N
    · rw [decide_eq_true hlt]
      have h1 := hdo k hlt
      have h2 := htell B k
      have h3 := hask B (k + 1) hlt
      repeat' (first | (apply Ya; exact Oa) | (apply Yb; exact Ob) | (apply Yc; exact Oc; intro b) | (apply Ye; exact Oe; intro g cap rest hcap) | (apply Yd; exact Od; intro ad cap) | (apply Yf; exact Oj) | (apply Yg; exact Oj; exact ⟨rfl, rfl⟩) | (apply Yh; exact Oj; rfl) | (apply Yi; exact Oj; exact On; all_goals (intro h; try (exfalso; omega))) | apply StL.nil | apply St.region | apply St.seq | apply St.block | apply St.inBlock | apply St.skip | (apply St.exit; rfl) | (apply St.cond_t; rfl) | (apply St.cond_f; rfl) | (apply Ud; rfl; exact On; all_goals (intro h; try (exfalso; omega))) | (apply Za; rfl; exact Oa) | (apply Zb; rfl; exact Oa; exact Ent.go) | (apply Zc; rfl; exact Ob) | (apply Zd; rfl; exact Oc; intro b; refine ⟨Ent.go, ?_⟩) | (apply Ze; rfl; exact Oc; intro b) | (apply Zf; rfl; exact Oe; intro g cap rest hcap) | (apply Zg; rfl; exact Od; intro ad cap) | apply StD.nil | exact StD.nope | apply StD.pick | (apply StD.claim; rfl; intro b) | (apply Zi; rfl; exact Oj; exact Oa) | (apply Zj; rfl; exact Oj; exact Oa; exact Ent.go) | (apply Zk; rfl; exact Oj; exact ⟨rfl, rfl⟩) | (apply Zl; rfl; exact Oj; exact ⟨rfl, rfl⟩; exact Ent.go) | (apply Zm; rfl; exact Oj; rfl) | (apply Zn; rfl; exact Oj; exact Ent.go; rfl)  | (apply Ka; exact Og; exact h3; exact Oh) | (apply Kb; rfl; exact Og; exact h3; exact Oi) | (apply Kc; rfl; exact Oj; exact Og; exact h3; exact Oi) | (apply Kd; exact Og; exact h1; exact Oh; rintro _ _ ⟨e, rfl, rfl⟩) | (apply Ke; rfl; exact Og; exact h1; exact Oh; rintro _ _ ⟨e, rfl, rfl⟩) | (apply Kf; rfl; exact Og; exact h1; exact Oh; rintro _ _ ⟨e, rfl, rfl⟩; refine ⟨Ent.go, ?_⟩) | (apply Kd; exact Og; exact h2; exact Oh; rintro _ _ ⟨rfl, rfl⟩) | (apply Ke; rfl; exact Og; exact h2; exact Oh; rintro _ _ ⟨rfl, rfl⟩) | (apply Kf; rfl; exact Og; exact h2; exact Oh; rintro _ _ ⟨rfl, rfl⟩; refine ⟨Ent.go, ?_⟩) | (apply Zo; rfl; exact Oj; exact On; all_goals (intro h; try (exfalso; omega))))
      refine IH ⟨(k + 1, b), by dsimp only; omega⟩ (by show N - (k + 1) < N - k; omega) ?_ ?_
      · exact Sub.go
      · exact Ent.go
    · have hkN : k = N := by omega
      subst hkN
      rw [decide_eq_false hlt]
      repeat' (first | (apply Ya; exact Oa) | (apply Yb; exact Ob) | (apply Yc; exact Oc; intro b) | (apply Ye; exact Oe; intro g cap rest hcap) | (apply Yd; exact Od; intro ad cap) | (apply Yf; exact Oj) | (apply Yg; exact Oj; exact ⟨rfl, rfl⟩) | (apply Yh; exact Oj; rfl) | (apply Yi; exact Oj; exact On; all_goals (intro h; try (exfalso; omega))) | apply StL.nil | apply St.region | apply St.seq | apply St.block | apply St.inBlock | apply St.skip | (apply St.exit; rfl) | (apply St.cond_t; rfl) | (apply St.cond_f; rfl) | (apply Ud; rfl; exact On; all_goals (intro h; try (exfalso; omega))) | (apply Za; rfl; exact Oa) | (apply Zb; rfl; exact Oa; exact Ent.go) | (apply Zc; rfl; exact Ob) | (apply Zd; rfl; exact Oc; intro b; refine ⟨Ent.go, ?_⟩) | (apply Ze; rfl; exact Oc; intro b) | (apply Zf; rfl; exact Oe; intro g cap rest hcap) | (apply Zg; rfl; exact Od; intro ad cap) | apply StD.nil | exact StD.nope | apply StD.pick | (apply StD.claim; rfl; intro b) | (apply Zi; rfl; exact Oj; exact Oa) | (apply Zj; rfl; exact Oj; exact Oa; exact Ent.go) | (apply Zk; rfl; exact Oj; exact ⟨rfl, rfl⟩) | (apply Zl; rfl; exact Oj; exact ⟨rfl, rfl⟩; exact Ent.go) | (apply Zm; rfl; exact Oj; rfl) | (apply Zn; rfl; exact Oj; exact Ent.go; rfl)   | (apply Zo; rfl; exact Oj; exact On; all_goals (intro h; try (exfalso; omega))))
      refine St.d1 Tryz.func47 ⟨_, ⟨B, rfl, rfl⟩, Ent.go⟩
end Go.Proofs.YtipnljhelbjmaaaGreat
