/-
  Package tumblerref18: Swap.
-/
import Derived.Test.YtmcadilggmlbfaaRefd
namespace Go.Proofs.Ytmcadilggmlbfaa
/-- a tumblerref18.Auditor -/
def audR (c : Cfg) (C n cc lf nb lc : Nat) (r : Rep) : List Value := c.v ++ (.slice (some ⟨C, 0, none⟩) n cc :: .slice (some ⟨lf, 0, none⟩) nb lc :: r.v)
theorem Cfg.what_11 {c : Cfg} (hc : Small c) {p : Int} (h1 : c.f11 ≤ p) (h2 : p < c.f12) : c.what p = (11, p - c.f11, 0) := by
  have hn := hc.nums.f7; have := hc.t0; have := hc.b0; have := hc.limit
  obtain ⟨hf7, hf10, hf11, hf12, hf13, hf14, hf15, hf16, hf17, hstr⟩ := c.froms
  unfold Cfg.what
  rw [if_neg (by omega), if_neg (by omega), if_neg (by omega), if_neg (by omega), if_neg (by omega), if_neg (by omega), if_neg (by omega), if_neg (by omega), if_neg (by omega), if_pos (by omega)]
theorem Cfg.what_n11 {c : Cfg} (hc : Small c) {p : Int} (h : ¬ (c.f11 ≤ p ∧ p < c.f12)) : (c.what p).1 ≠ 11 := by
  have hn := hc.nums.f7; have := hc.t0; have := hc.b0; have := hc.limit
  obtain ⟨hf7, hf10, hf11, hf12, hf13, hf14, hf15, hf16, hf17, hstr⟩ := c.froms
  have hm := Int.emod_nonneg (p - c.f7) (show (3 : Int) ≠ 0 by decide)
  have hm2 := Int.emod_lt_of_pos (p - c.f7) (show (0 : Int) < 3 by decide)
  clear hc
  unfold Cfg.what
  generalize (p - 1) % c.stride = q
  generalize (p - 1) / c.stride = q2
  generalize (p - c.f16) / 8 = q3
  generalize (p - c.f16) % 8 = q4
  generalize (p - c.f7) / 3 = q5
  generalize (p - c.f7) % 3 = m at hm hm2 ⊢
  repeat' split
  all_goals dsimp only
  all_goals omega
/-- an entry of a log, by where lives stand -/
theorem swapStep_eq {c : Cfg} (hc : Small c) (l : List Nat) (e : Cell) : swapStep c l e = if c.f11 ≤ (e.seq : Int) ∧ (e.seq : Int) < c.f12 then
    (if turnsB (l.getD ((e.seq : Int) - c.f11).toNat 0) e.val then some (l.set ((e.seq : Int) - c.f11).toNat e.val) else none) else some l := by
  have hn := hc.nums.f17; have := hc.t0; have := hc.b0; have := hc.limit
  obtain ⟨hf7, hf10, hf11, hf12, hf13, hf14, hf15, hf16, hf17, hstr⟩ := c.froms
  unfold swapStep
  by_cases h : c.f11 ≤ (e.seq : Int) ∧ (e.seq : Int) < c.f12
  · rw [if_neg (by omega), if_pos h, Cfg.what_11 hc h.1 h.2, if_pos rfl]
  · rw [if_neg h, if_neg (Cfg.what_n11 hc h)]
    split <;> rfl
theorem peek_nth {cs : List Cell} {p : Int} (h0 : 0 ≤ p) (h1 : p < cs.length) (rest : List Value) : NthN (p.toNat * 2 + 0) (cs.flatMap Cell.v ++ rest) (.int .u64 ((peekOf cs p).val : Int)) := by
  have hat : p.toNat < cs.length := by omega
  have e : peekOf cs p = cs[p.toNat] := by simp [peekOf, h0, hat]
  rw [e]
  exact (NthN.flat Cell.v_len hat .zero).app_left rest
theorem peek_drop {cs : List Cell} {p : Int} (h0 : 0 ≤ p) (h1 : p < cs.length) (rest : List Value) : DropN (p.toNat * 2) (cs.flatMap Cell.v ++ rest) ((peekOf cs p).v ++ ((cs.drop (p.toNat + 1)).flatMap Cell.v ++ rest)) := by
  have hat : p.toNat < cs.length := by omega
  have e : peekOf cs p = cs[p.toNat] := by simp [peekOf, h0, hat]
  rw [e, ← List.append_assoc]
  exact (DropN.flat Cell.v_len hat).more rest
theorem Cfg.at5 (c : Cfg) (hc : Small c) {o : Int} (h0 : 0 ≤ o) (h1 : o < c.threads) : 0 ≤ c.at 5 o 0 ∧ c.at 5 o 0 < c.size := by
  have hn := hc.nums.f7; have hn2 := hc.nums.f17; have := hc.b0; have := hc.limit; have := hc.t0
  obtain ⟨hf7, hf10, hf11, hf12, hf13, hf14, hf15, hf16, hf17, hstr⟩ := c.froms
  have hi := hc.imul o h0 h1
  have hcap := hc.cap
  unfold Cfg.size
  unfold Cfg.at
  rw [if_pos ⟨h0, h1, by decide, (by decide : (0 : Int) < 1)⟩]
  show 0 ≤ 8 + o * c.stride + 0 ∧ 8 + o * c.stride + 0 < _
  omega
theorem Cfg.at6 (c : Cfg) (hc : Small c) {o k : Int} (h0 : 0 ≤ o) (h1 : o < c.threads) (h2 : 0 ≤ k) (h3 : k < c.cap) : 0 ≤ c.at 6 o k ∧ c.at 6 o k < c.size := by
  have hn := hc.nums.f7; have hn2 := hc.nums.f17; have := hc.b0; have := hc.limit; have := hc.t0
  obtain ⟨hf7, hf10, hf11, hf12, hf13, hf14, hf15, hf16, hf17, hstr⟩ := c.froms
  have hi := hc.imul o h0 h1
  have hcap := hc.cap
  unfold Cfg.size
  unfold Cfg.at
  rw [if_pos ⟨h0, h1, h2, h3⟩]
  show 0 ≤ 9 + o * c.stride + k ∧ 9 + o * c.stride + k < _
  omega
theorem lifeV_one (l : List Nat) : (lifeV l).all one = true := by
  unfold lifeV
  induction l with
  | nil => rfl
  | cons x l ih => rw [List.map_cons, List.all_cons, ih]; rfl
set_option maxRecDepth 100000 in
theorem rswap_t (c : Cfg) (hc : Small c) (C cc lf nb lc : Nat) (hcc : c.size ≤ cc) (hlc : nb ≤ lc) (r : Rep) (cs : List Cell) (hn : cs.length = c.size) (life : List Nat) (hl : life.length = nb) (hnb : (nb : Int) = c.blocks) (cr lr : List Value)
    (owner : Int) (ho0 : 0 ≤ owner) (ho1 : owner < c.threads) (hs : 0 ≤ r.swaps ∧ r.swaps ≤ 1000000) :
    Tri Try.prog 48 #[.agg ⟨audR c C c.size cc lf nb lc r⟩, .int .i64 owner] [bl C 37 (cs.flatMap Cell.v ++ cr), bl lf 22 (lifeV life ++ lr)]
      fun v L => match swapOf c cs life { r with swaps := r.swaps + 1 } owner with
        | .error e => ∃ lf' lc' x, v = .tuple ⟨[.agg ⟨audR c C c.size cc lf' nb lc' x⟩, .int .i64 e]⟩ ∧ L = []
        | .ok x => ∃ lf' lc' lr', nb ≤ lc' ∧ v = .tuple ⟨[.agg ⟨audR c C c.size cc lf' nb lc' x.2⟩, .int .i64 0]⟩ ∧ L = [bl C 37 (cs.flatMap Cell.v ++ cr), bl lf' 22 (lifeV x.1 ++ lr')] := by
  have hcap := hc.cap
  have := hc.b0; have := hc.b1; have := hc.limit
  have hn17 := hc.nums.f17
  have hn7 := hc.nums.f7
  obtain ⟨hf7, hf10, hf11, hf12, hf13, hf14, hf15, hf16, hf17, hstr⟩ := c.froms
  have hat5 := c.at5 hc ho0 ho1
  have h5 := rat_r c hc 5 owner 0
  have hp5 := peek_nth (cs := cs) hat5.1 (by omega) cr
  have hcp := rcap_r c hc
  have hfr : RTri Try.prog 46 #[.agg ⟨c.v⟩, .int .i64 11] [] (.int .i64 c.f11) := rfrom_11 c hc
  have htk : TakeN (nb * 1) (lifeV life ++ lr) (lifeV life) := by rw [Nat.mul_one, ← hl, ← lifeV_len]; exact TakeN.app _ _
  have hone := lifeV_one life
  have hlog : c.logLen cs owner = min (peekOf cs (c.at 5 owner 0)).val c.cap.toNat := rfl
  refine Tri.of_body (vs := [_, _]) Try.func48 rfl rfl fun w0 F => ?_
  repeat' (first | (apply Ya; exact Oa) | (apply Yb; exact Ob) | (apply Yc; exact Oc; intro b) | (apply Ye; exact Oe; intro g cap rest hcap) | (apply Yd; exact Od; intro ad cap) | (apply Yf; exact Oj) | (apply Yg; exact Oj; exact ⟨rfl, rfl⟩) | (apply Yh; exact Oj; rfl) | (apply Yi; exact Oj; exact On; all_goals (intro h; try (exfalso; omega))) | apply StL.nil | apply St.region | apply St.seq | apply St.block | apply St.inBlock | apply St.skip | (apply St.exit; rfl) | (apply St.cond_t; rfl) | (apply St.cond_f; rfl) | (apply Ud; rfl; exact On; all_goals (intro h; try (exfalso; omega))) | (apply Za; rfl; exact Oa) | (apply Zb; rfl; exact Oa; exact Ent.go) | (apply Zc; rfl; exact Ob) | (apply Zd; rfl; exact Oc; intro b; refine ⟨Ent.go, ?_⟩) | (apply Ze; rfl; exact Oc; intro b) | (apply Zf; rfl; exact Oe; intro g cap rest hcap) | (apply Zg; rfl; exact Od; intro ad cap) | apply StD.nil | exact StD.nope | apply StD.pick | (apply StD.claim; rfl; intro b) | (apply Zi; rfl; exact Oj; exact Oa) | (apply Zj; rfl; exact Oj; exact Oa; exact Ent.go) | (apply Zk; rfl; exact Oj; exact ⟨rfl, rfl⟩) | (apply Zl; rfl; exact Oj; exact ⟨rfl, rfl⟩; exact Ent.go) | (apply Zm; rfl; exact Oj; rfl) | (apply Zn; rfl; exact Oj; exact Ent.go; rfl) | (refine St.draw (id := 2) [(0, 0), (1, 1), (2, 0), (3, 1), (4, 0), (5, 1), (6, 0), (7, 0), (8, 1), (9, 0)] [] mixed (by kernel_rfl) ?_) | (refine St.draw (id := 6) [(0, 0), (1, 1), (2, 0), (3, 1), (4, 0), (5, 0), (6, 1), (7, 0), (8, 1), (9, 2), (10, 3)] [10] mixed (by kernel_rfl) ?_) | (refine St.draw (id := 10) [(0, 0), (1, 0), (2, 0), (3, 1), (4, 0), (5, 1), (6, 1), (7, 0)] [] mixed (by kernel_rfl) ?_) | (refine St.draw (id := 15) [(0, 0), (1, 1), (2, 0), (3, 0), (4, 1), (5, 0)] [] mixed (by kernel_rfl) ?_) | (refine St.draw (id := 17) [(0, 0), (1, 1), (2, 0), (3, 1), (4, 1), (5, 0)] [] mixed (by kernel_rfl) ?_) | (apply Ka; exact Og; exact h5; exact Oh) | (apply Kb; rfl; exact Og; exact h5; exact Oi) | (apply Kc; rfl; exact Oj; exact Og; exact h5; exact Oi) | (apply Zo; rfl; exact Oj; exact On; all_goals (intro h; try (exfalso; omega))))
  rename_i b4 b2 b12
  refine St.loopX (Lr := ?Lr) (ι := { x : Nat × List Nat // x.1 ≤ c.logLen cs owner ∧ swapN c cs owner life x.1 = some x.2 }) (fun x => c.logLen cs owner - x.1.1)
    (fun x => [(8, .int .i64 (x.1.1 : Int))])
    (fun x => [bl g 22 (lifeV x.1.2 ++ rest)]) ⟨(0, life), Nat.zero_le _, rfl⟩ ?hE ?hL ?round
  case hE => exact Sub.go
  case hL => exact Ent.go
  case round =>
    rintro ⟨⟨k, l⟩, hk, hsw⟩ IH; dsimp only at hk hsw ⊢
    have hll : l.length = nb := (swapN_len hsw).trans hl
    by_cases hlt : k < c.logLen cs owner
    · have hlt1 : (k : Int) < c.cap := by omega
      have hat6 := c.at6 hc ho0 ho1 (k := (k : Int)) (by omega) hlt1
      have h6 := rat_r c hc 6 owner k
      have hp6 := peek_drop (cs := cs) hat6.1 (by omega) cr
      have hnext : swapN c cs owner life (k + 1) = swapStep c l (peekOf cs (c.at 6 owner k)) := by simp [swapN, hsw]
      have htk6 : TakeN 2 ((peekOf cs (c.at 6 owner k)).v ++ ((cs.drop ((c.at 6 owner k).toNat + 1)).flatMap Cell.v ++ cr)) (peekOf cs (c.at 6 owner k)).v := TakeN.app (peekOf cs (c.at 6 owner k)).v _
      have hlt2 : (k : Int) < ((peekOf cs (c.at 5 owner 0)).val : Int) := by omega
      generalize peekOf cs (c.at 6 owner k) = e at hp6 htk6 hnext
      rw [swapStep_eq hc] at hnext
      by_cases h2 : c.f11 ≤ (e.seq : Int) ∧ (e.seq : Int) < c.f12
      · rw [if_pos h2] at hnext
        have hlt3 : ((e.seq : Int) - c.f11).toNat < l.length := by omega
        have hnl := (NthN.life hlt3).app_left rest
        have hsl := (SetN.life hlt3 e.val).app_left rest
        have htr := rmay_r l[((e.seq : Int) - c.f11).toNat] e.val
        rw [List.getD_eq_getElem?_getD, List.getElem?_eq_getElem hlt3, Option.getD_some] at hnext
        cases htb : turnsB l[((e.seq : Int) - c.f11).toNat] e.val with
        | true =>
          rw [htb] at htr
          rw [htb, if_pos rfl] at hnext
          repeat' (first | (apply Ya; exact Oa) | (apply Yb; exact Ob) | (apply Yc; exact Oc; intro b) | (apply Ye; exact Oe; intro g cap rest hcap) | (apply Yd; exact Od; intro ad cap) | (apply Yf; exact Oj) | (apply Yg; exact Oj; exact ⟨rfl, rfl⟩) | (apply Yh; exact Oj; rfl) | (apply Yi; exact Oj; exact On; all_goals (intro h; try (exfalso; omega))) | apply StL.nil | apply St.region | apply St.seq | apply St.block | apply St.inBlock | apply St.skip | (apply St.exit; rfl) | (apply St.cond_t; rfl) | (apply St.cond_f; rfl) | (apply Ud; rfl; exact On; all_goals (intro h; try (exfalso; omega))) | (apply Za; rfl; exact Oa) | (apply Zb; rfl; exact Oa; exact Ent.go) | (apply Zc; rfl; exact Ob) | (apply Zd; rfl; exact Oc; intro b; refine ⟨Ent.go, ?_⟩) | (apply Ze; rfl; exact Oc; intro b) | (apply Zf; rfl; exact Oe; intro g cap rest hcap) | (apply Zg; rfl; exact Od; intro ad cap) | apply StD.nil | exact StD.nope | apply StD.pick | (apply StD.claim; rfl; intro b) | (apply Zi; rfl; exact Oj; exact Oa) | (apply Zj; rfl; exact Oj; exact Oa; exact Ent.go) | (apply Zk; rfl; exact Oj; exact ⟨rfl, rfl⟩) | (apply Zl; rfl; exact Oj; exact ⟨rfl, rfl⟩; exact Ent.go) | (apply Zm; rfl; exact Oj; rfl) | (apply Zn; rfl; exact Oj; exact Ent.go; rfl) | (refine St.draw (id := 2) [(0, 0), (1, 1), (2, 0), (3, 1), (4, 0), (5, 1), (6, 0), (7, 0), (8, 1), (9, 0)] [] mixed (by kernel_rfl) ?_) | (refine St.draw (id := 6) [(0, 0), (1, 1), (2, 0), (3, 1), (4, 0), (5, 0), (6, 1), (7, 0), (8, 1), (9, 2), (10, 3)] [10] mixed (by kernel_rfl) ?_) | (refine St.draw (id := 10) [(0, 0), (1, 0), (2, 0), (3, 1), (4, 0), (5, 1), (6, 1), (7, 0)] [] mixed (by kernel_rfl) ?_) | (refine St.draw (id := 15) [(0, 0), (1, 1), (2, 0), (3, 0), (4, 1), (5, 0)] [] mixed (by kernel_rfl) ?_) | (refine St.draw (id := 17) [(0, 0), (1, 1), (2, 0), (3, 1), (4, 1), (5, 0)] [] mixed (by kernel_rfl) ?_) | (apply Ka; exact Og; exact hcp; exact Oh) | (apply Kb; rfl; exact Og; exact hcp; exact Oi) | (apply Kc; rfl; exact Oj; exact Og; exact hcp; exact Oi) | (apply Ka; exact Og; exact h6; exact Oh) | (apply Kb; rfl; exact Og; exact h6; exact Oi) | (apply Kc; rfl; exact Oj; exact Og; exact h6; exact Oi) | (apply Ka; exact Og; exact hfr; exact Oh) | (apply Kb; rfl; exact Og; exact hfr; exact Oi) | (apply Kc; rfl; exact Oj; exact Og; exact hfr; exact Oi) | (apply Ka; exact Og; exact htr; exact Oh) | (apply Kb; rfl; exact Og; exact htr; exact Oi) | (apply Kc; rfl; exact Oj; exact Og; exact htr; exact Oi) | (apply Zo; rfl; exact Oj; exact On; all_goals (intro h; try (exfalso; omega))))
          refine IH ⟨(k + 1, l.set ((e.seq : Int) - c.f11).toNat e.val), hlt, hnext⟩ (by show _ - (k + 1) < _ - k; omega) ?_ ?_
          · exact Sub.go
          · exact Ent.go
        | false =>
          rw [htb] at htr
          rw [htb, if_neg (by decide)] at hnext
          have hso : swapOf c cs life { r with swaps := r.swaps + 1 } owner = .error 52 := by unfold swapOf; rw [swapN_none hnext _ hlt]
          repeat' (first | (apply Ya; exact Oa) | (apply Yb; exact Ob) | (apply Yc; exact Oc; intro b) | (apply Ye; exact Oe; intro g cap rest hcap) | (apply Yd; exact Od; intro ad cap) | (apply Yf; exact Oj) | (apply Yg; exact Oj; exact ⟨rfl, rfl⟩) | (apply Yh; exact Oj; rfl) | (apply Yi; exact Oj; exact On; all_goals (intro h; try (exfalso; omega))) | apply StL.nil | apply St.region | apply St.seq | apply St.block | apply St.inBlock | apply St.skip | (apply St.exit; rfl) | (apply St.cond_t; rfl) | (apply St.cond_f; rfl) | (apply Ud; rfl; exact On; all_goals (intro h; try (exfalso; omega))) | (apply Za; rfl; exact Oa) | (apply Zb; rfl; exact Oa; exact Ent.go) | (apply Zc; rfl; exact Ob) | (apply Zd; rfl; exact Oc; intro b; refine ⟨Ent.go, ?_⟩) | (apply Ze; rfl; exact Oc; intro b) | (apply Zf; rfl; exact Oe; intro g cap rest hcap) | (apply Zg; rfl; exact Od; intro ad cap) | apply StD.nil | exact StD.nope | apply StD.pick | (apply StD.claim; rfl; intro b) | (apply Zi; rfl; exact Oj; exact Oa) | (apply Zj; rfl; exact Oj; exact Oa; exact Ent.go) | (apply Zk; rfl; exact Oj; exact ⟨rfl, rfl⟩) | (apply Zl; rfl; exact Oj; exact ⟨rfl, rfl⟩; exact Ent.go) | (apply Zm; rfl; exact Oj; rfl) | (apply Zn; rfl; exact Oj; exact Ent.go; rfl) | (refine St.draw (id := 2) [(0, 0), (1, 1), (2, 0), (3, 1), (4, 0), (5, 1), (6, 0), (7, 0), (8, 1), (9, 0)] [] mixed (by kernel_rfl) ?_) | (refine St.draw (id := 6) [(0, 0), (1, 1), (2, 0), (3, 1), (4, 0), (5, 0), (6, 1), (7, 0), (8, 1), (9, 2), (10, 3)] [10] mixed (by kernel_rfl) ?_) | (refine St.draw (id := 10) [(0, 0), (1, 0), (2, 0), (3, 1), (4, 0), (5, 1), (6, 1), (7, 0)] [] mixed (by kernel_rfl) ?_) | (refine St.draw (id := 15) [(0, 0), (1, 1), (2, 0), (3, 0), (4, 1), (5, 0)] [] mixed (by kernel_rfl) ?_) | (refine St.draw (id := 17) [(0, 0), (1, 1), (2, 0), (3, 1), (4, 1), (5, 0)] [] mixed (by kernel_rfl) ?_) | (apply Ka; exact Og; exact hcp; exact Oh) | (apply Kb; rfl; exact Og; exact hcp; exact Oi) | (apply Kc; rfl; exact Oj; exact Og; exact hcp; exact Oi) | (apply Ka; exact Og; exact h6; exact Oh) | (apply Kb; rfl; exact Og; exact h6; exact Oi) | (apply Kc; rfl; exact Oj; exact Og; exact h6; exact Oi) | (apply Ka; exact Og; exact hfr; exact Oh) | (apply Kb; rfl; exact Og; exact hfr; exact Oi) | (apply Kc; rfl; exact Oj; exact Og; exact hfr; exact Oi) | (apply Ka; exact Og; exact htr; exact Oh) | (apply Kb; rfl; exact Og; exact htr; exact Oi) | (apply Kc; rfl; exact Oj; exact Og; exact htr; exact Oi) | (apply Zo; rfl; exact Oj; exact On; all_goals (intro h; try (exfalso; omega))))
          refine St.dn (L' := []) Try.func48 ?_ ?_; (dsimp only; rw [hso]; exact ⟨_, _, ⟨_, _, _⟩, rfl, rfl⟩); exact Ent.go
      · rw [if_neg h2] at hnext
        repeat' (first | (apply Ya; exact Oa) | (apply Yb; exact Ob) | (apply Yc; exact Oc; intro b) | (apply Ye; exact Oe; intro g cap rest hcap) | (apply Yd; exact Od; intro ad cap) | (apply Yf; exact Oj) | (apply Yg; exact Oj; exact ⟨rfl, rfl⟩) | (apply Yh; exact Oj; rfl) | (apply Yi; exact Oj; exact On; all_goals (intro h; try (exfalso; omega))) | apply StL.nil | apply St.region | apply St.seq | apply St.block | apply St.inBlock | apply St.skip | (apply St.exit; rfl) | (apply St.cond_t; rfl) | (apply St.cond_f; rfl) | (apply Ud; rfl; exact On; all_goals (intro h; try (exfalso; omega))) | (apply Za; rfl; exact Oa) | (apply Zb; rfl; exact Oa; exact Ent.go) | (apply Zc; rfl; exact Ob) | (apply Zd; rfl; exact Oc; intro b; refine ⟨Ent.go, ?_⟩) | (apply Ze; rfl; exact Oc; intro b) | (apply Zf; rfl; exact Oe; intro g cap rest hcap) | (apply Zg; rfl; exact Od; intro ad cap) | apply StD.nil | exact StD.nope | apply StD.pick | (apply StD.claim; rfl; intro b) | (apply Zi; rfl; exact Oj; exact Oa) | (apply Zj; rfl; exact Oj; exact Oa; exact Ent.go) | (apply Zk; rfl; exact Oj; exact ⟨rfl, rfl⟩) | (apply Zl; rfl; exact Oj; exact ⟨rfl, rfl⟩; exact Ent.go) | (apply Zm; rfl; exact Oj; rfl) | (apply Zn; rfl; exact Oj; exact Ent.go; rfl) | (refine St.draw (id := 2) [(0, 0), (1, 1), (2, 0), (3, 1), (4, 0), (5, 1), (6, 0), (7, 0), (8, 1), (9, 0)] [] mixed (by kernel_rfl) ?_) | (refine St.draw (id := 6) [(0, 0), (1, 1), (2, 0), (3, 1), (4, 0), (5, 0), (6, 1), (7, 0), (8, 1), (9, 2), (10, 3)] [10] mixed (by kernel_rfl) ?_) | (refine St.draw (id := 10) [(0, 0), (1, 0), (2, 0), (3, 1), (4, 0), (5, 1), (6, 1), (7, 0)] [] mixed (by kernel_rfl) ?_) | (refine St.draw (id := 15) [(0, 0), (1, 1), (2, 0), (3, 0), (4, 1), (5, 0)] [] mixed (by kernel_rfl) ?_) | (refine St.draw (id := 17) [(0, 0), (1, 1), (2, 0), (3, 1), (4, 1), (5, 0)] [] mixed (by kernel_rfl) ?_) | (apply Ka; exact Og; exact hcp; exact Oh) | (apply Kb; rfl; exact Og; exact hcp; exact Oi) | (apply Kc; rfl; exact Oj; exact Og; exact hcp; exact Oi) | (apply Ka; exact Og; exact h6; exact Oh) | (apply Kb; rfl; exact Og; exact h6; exact Oi) | (apply Kc; rfl; exact Oj; exact Og; exact h6; exact Oi) | (apply Ka; exact Og; exact hfr; exact Oh) | (apply Kb; rfl; exact Og; exact hfr; exact Oi) | (apply Kc; rfl; exact Oj; exact Og; exact hfr; exact Oi) | (apply Zo; rfl; exact Oj; exact On; all_goals (intro h; try (exfalso; omega))))
        all_goals
          refine IH ⟨(k + 1, l), hlt, hnext⟩ (by show _ - (k + 1) < _ - k; omega) ?_ ?_
          · exact Sub.go
          · exact Ent.go
    · obtain rfl : k = c.logLen cs owner := by omega
      clear IH
      have hlb := rlimbo_r g nb cap l hll (by omega) rest
      have hlim := rlimit_r c hc
      have hlle : limboOf l ≤ nb := Nat.le_trans List.countP_le_length (by omega)
      repeat' (first | (apply Ya; exact Oa) | (apply Yb; exact Ob) | (apply Yc; exact Oc; intro b) | (apply Ye; exact Oe; intro g cap rest hcap) | (apply Yd; exact Od; intro ad cap) | (apply Yf; exact Oj) | (apply Yg; exact Oj; exact ⟨rfl, rfl⟩) | (apply Yh; exact Oj; rfl) | (apply Yi; exact Oj; exact On; all_goals (intro h; try (exfalso; omega))) | apply StL.nil | apply St.region | apply St.seq | apply St.block | apply St.inBlock | apply St.skip | (apply St.exit; rfl) | (apply St.cond_t; rfl) | (apply St.cond_f; rfl) | (apply Ud; rfl; exact On; all_goals (intro h; try (exfalso; omega))) | (apply Za; rfl; exact Oa) | (apply Zb; rfl; exact Oa; exact Ent.go) | (apply Zc; rfl; exact Ob) | (apply Zd; rfl; exact Oc; intro b; refine ⟨Ent.go, ?_⟩) | (apply Ze; rfl; exact Oc; intro b) | (apply Zf; rfl; exact Oe; intro g cap rest hcap) | (apply Zg; rfl; exact Od; intro ad cap) | apply StD.nil | exact StD.nope | apply StD.pick | (apply StD.claim; rfl; intro b) | (apply Zi; rfl; exact Oj; exact Oa) | (apply Zj; rfl; exact Oj; exact Oa; exact Ent.go) | (apply Zk; rfl; exact Oj; exact ⟨rfl, rfl⟩) | (apply Zl; rfl; exact Oj; exact ⟨rfl, rfl⟩; exact Ent.go) | (apply Zm; rfl; exact Oj; rfl) | (apply Zn; rfl; exact Oj; exact Ent.go; rfl) | (refine St.draw (id := 2) [(0, 0), (1, 1), (2, 0), (3, 1), (4, 0), (5, 1), (6, 0), (7, 0), (8, 1), (9, 0)] [] mixed (by kernel_rfl) ?_) | (refine St.draw (id := 6) [(0, 0), (1, 1), (2, 0), (3, 1), (4, 0), (5, 0), (6, 1), (7, 0), (8, 1), (9, 2), (10, 3)] [10] mixed (by kernel_rfl) ?_) | (refine St.draw (id := 10) [(0, 0), (1, 0), (2, 0), (3, 1), (4, 0), (5, 1), (6, 1), (7, 0)] [] mixed (by kernel_rfl) ?_) | (refine St.draw (id := 15) [(0, 0), (1, 1), (2, 0), (3, 0), (4, 1), (5, 0)] [] mixed (by kernel_rfl) ?_) | (refine St.draw (id := 17) [(0, 0), (1, 1), (2, 0), (3, 1), (4, 1), (5, 0)] [] mixed (by kernel_rfl) ?_) | (apply Ka; exact Og; exact hcp; exact Oh) | (apply Kb; rfl; exact Og; exact hcp; exact Oi) | (apply Kc; rfl; exact Oj; exact Og; exact hcp; exact Oi) | (apply Ka; exact Og; exact hlb; exact Oh) | (apply Kb; rfl; exact Og; exact hlb; exact Oi) | (apply Kc; rfl; exact Oj; exact Og; exact hlb; exact Oi) | (apply Ka; exact Og; exact hlim; exact Oh) | (apply Kb; rfl; exact Og; exact hlim; exact Oi) | (apply Kc; rfl; exact Oj; exact Og; exact hlim; exact Oi) | (apply Zo; rfl; exact Oj; exact On; all_goals (intro h; try (exfalso; omega))))
      iterate 2
        · have hso : swapOf c cs life { r with swaps := r.swaps + 1 } owner = .error 6 := by unfold swapOf; rw [hsw]; exact if_pos (by omega)
          refine St.dn (L' := []) Try.func48 ?_ ?_; (dsimp only; rw [hso]; exact ⟨_, _, ⟨_, _, _⟩, rfl, rfl⟩); exact Ent.go
        · have hso : swapOf c cs life { r with swaps := r.swaps + 1 } owner = .ok (l, ⟨r.swaps + 1, r.words, (limboOf l : Int)⟩) := by unfold swapOf; rw [hsw]; dsimp only; rw [if_neg (by omega), if_pos (by omega)]
          refine St.d1 Try.func48 ?_; apply Exists.intro; apply And.intro; (dsimp only; rw [hso]; exact ⟨g, cap, rest, by omega, rfl, rfl⟩); exact Ent.go
        · have hso : swapOf c cs life { r with swaps := r.swaps + 1 } owner = .error 6 := by unfold swapOf; rw [hsw]; exact if_pos (by omega)
          refine St.dn (L' := []) Try.func48 ?_ ?_; (dsimp only; rw [hso]; exact ⟨_, _, ⟨_, _, _⟩, rfl, rfl⟩); exact Ent.go
        · have hso : swapOf c cs life { r with swaps := r.swaps + 1 } owner = .ok (l, ⟨r.swaps + 1, r.words, r.limbo⟩) := by unfold swapOf; rw [hsw]; dsimp only; rw [if_neg (by omega), if_neg (by omega)]
          refine St.d1 Try.func48 ?_; apply Exists.intro; apply And.intro; (dsimp only; rw [hso]; exact ⟨g, cap, rest, by omega, rfl, rfl⟩); exact Ent.go
end Go.Proofs.Ytmcadilggmlbfaa
