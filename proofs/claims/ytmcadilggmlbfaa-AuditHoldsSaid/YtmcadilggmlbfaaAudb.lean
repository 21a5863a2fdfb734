/-
  Package audit: swap.
-/
import Derived.Test.YtmcadilggmlbfaaAud
namespace Go.Proofs.Ytmcadilggmlbfaa
def lifeV (l : List Nat) : List Value := l.map fun (x : Nat) => Value.int .u64 (x : Int)
theorem NthN.life {l : List Nat} {i : Nat} (hi : i < l.length) : NthN (i * 1) (lifeV l) (.int .u64 (l[i] : Int)) := by
  rw [Nat.mul_one]; exact NthN.of (by simp [lifeV, hi])
theorem SetN.life {l : List Nat} {i : Nat} (hi : i < l.length) (x : Nat) : SetN (.int .u64 (x : Int)) (i * 1) (lifeV l) (lifeV (l.set i x)) := by
  rw [Nat.mul_one]
  have := SetN.of (v := Value.int .u64 (x : Int)) (n := i) (l := lifeV l) (by simpa [lifeV] using hi)
  rw [show (lifeV l).set i (.int .u64 (x : Int)) = lifeV (l.set i x) from by simp [lifeV, List.map_set]] at this
  exact this
theorem Cfg.what_life {c : Cfg} (hc : Small c) {p : Int} (h : (c.what p).1 = 11) : 0 ≤ (c.what p).2.1 ∧ (c.what p).2.1 < c.blocks := by
  have hf12 : c.f12 = c.f11 + c.blocks := rfl
  have hm := Int.emod_nonneg (p - c.f7) (show (3 : Int) ≠ 0 by decide)
  have hm2 := Int.emod_lt_of_pos (p - c.f7) (show (0 : Int) < 3 by decide)
  have hb := hc.b0
  clear hc
  revert h
  unfold Cfg.what
  generalize (p - 1) % c.stride = q
  generalize (p - 1) / c.stride = q2
  generalize (p - c.f16) / 8 = q3
  generalize (p - c.f16) % 8 = q4
  generalize (p - c.f7) / 3 = q5
  generalize (p - c.f7) % 3 = m at hm hm2 ⊢
  repeat' split
  all_goals (intro h; dsimp only at h ⊢)
  all_goals first | (exfalso; omega) | omega
/-- an entry of a log, and what it makes of lives -/
def swapStep (c : Cfg) (life : List Nat) (e : Cell) : Option (List Nat) :=
  if 65536 ≤ e.seq then some life else if (c.what e.seq).1 = 11 then
    (if turnsB (life.getD (c.what e.seq).2.1.toNat 0) e.val then some (life.set (c.what e.seq).2.1.toNat e.val) else none) else some life
def swapN (c : Cfg) (cs : List Cell) (owner : Int) (life : List Nat) : Nat → Option (List Nat)
  | 0 => some life
  | k + 1 => (swapN c cs owner life k).bind fun l => swapStep c l (peekOf cs (c.at 6 owner k))
theorem swapStep_len {c : Cfg} {l l' : List Nat} {e : Cell} (h : swapStep c l e = some l') : l'.length = l.length := by
  unfold swapStep at h
  repeat' split at h
  all_goals first | (injection h with h; subst h; simp) | cases h
theorem swapN_len {c : Cfg} {cs : List Cell} {owner : Int} {life : List Nat} : ∀ {k : Nat} {l : List Nat}, swapN c cs owner life k = some l → l.length = life.length
  | 0, l, h => by injection h with h; subst h; rfl
  | k + 1, l, h => by
    simp only [swapN] at h
    cases h1 : swapN c cs owner life k with
    | none => rw [h1] at h; cases h
    | some l1 =>
      rw [h1] at h
      exact (swapStep_len h).trans (swapN_len h1)
/-- an error of one entry is one of all -/
theorem swapN_none {c : Cfg} {cs : List Cell} {owner : Int} {life : List Nat} {k : Nat} (h : swapN c cs owner life k = none) : ∀ n, k ≤ n → swapN c cs owner life n = none := by
  intro n hn
  induction n with
  | zero => have : k = 0 := by omega
            subst this; exact h
  | succ n ih =>
    by_cases hk : k = n + 1
    · subst hk; exact h
    · simp [swapN, ih (by omega)]
def limboOf (l : List Nat) : Nat := l.countP (· == 2)
/-- how many entries a log has, as it stands -/
def Cfg.logLen (c : Cfg) (cs : List Cell) (owner : Int) : Nat := min (peekOf cs (c.at 5 owner 0)).val c.cap.toNat
/-- behind a transaction that became the last one: the lives and the report, or the error -/
def swapOf (c : Cfg) (cs : List Cell) (life : List Nat) (r : Rep) (owner : Int) : Except Int (List Nat × Rep) :=
  match swapN c cs owner life (c.logLen cs owner) with
  | none => .error 52
  | some l => if c.limit < limboOf l then .error 6 else .ok (l, { r with limbo := if r.limbo < (limboOf l : Int) then (limboOf l : Int) else r.limbo })
theorem swap_t (c : Cfg) (hc : Small c) (A M C lf nb n : Nat) (r : Rep) (cs : List Cell) (hn : cs.length = n) (st : List Int) (tv : Value) (life : List Nat) (hl : life.length = nb) (hnb : (nb : Int) = c.blocks) (owner : Int) :
    Tri Try.prog 43 #[.pointer (some ⟨A, 0, none⟩), .int .i64 owner] [bl A 71 (audV c M lf nb r), bl M 87 (memV C n st tv), bl C 37 (cs.flatMap Cell.v), bl lf 22 (lifeV life)]
      fun v L => match swapOf c cs life r owner with
        | .error e => v = .int .i64 e
        | .ok x => v = .int .i64 0 ∧ L = [bl A 71 (audV c M lf nb x.2), bl M 87 (memV C n st tv), bl C 37 (cs.flatMap Cell.v), bl lf 22 (lifeV x.1)] := by
  have hcap := hc.cap
  have := hc.b0; have := hc.b1; have := hc.limit
  have hpk := apeek_r c hc A M C lf nb n r cs hn st tv 5 owner 0
  have hcp := cap_r c hc c.fr rfl
  have htk := take_m c M lf nb r
  have hcn : (c.cap.toNat : Int) = c.cap := by omega
  have hlog : ((c.logLen cs owner : Nat) : Int) = if c.cap < ((peekOf cs (c.at 5 owner 0)).val : Int) then c.cap else ((peekOf cs (c.at 5 owner 0)).val : Int) := by
    unfold Cfg.logLen; split <;> omega
  have hlog2 : (c.logLen cs owner : Int) ≤ 2098 := by rw [hlog]; split <;> omega
  have hlog3 : c.logLen cs owner ≤ 2098 := by omega
  refine Tri.of_body (vs := [_, _]) Try.func43 rfl rfl fun w0 F => ?_
  repeat' (first | (apply Ya; exact Oa) | (apply Yb; exact Ob) | (apply Yc; exact Oc; intro b) | (apply Ye; exact Oe; intro g cap rest hcap) | (apply Yd; exact Od; intro ad cap) | (apply Yf; exact Oj) | (apply Yg; exact Oj; exact ⟨rfl, rfl⟩) | (apply Yh; exact Oj; rfl) | (apply Yi; exact Oj; exact On; all_goals (intro h; try (exfalso; omega))) | apply StL.nil | apply St.region | apply St.seq | apply St.block | apply St.inBlock | apply St.skip | (apply St.exit; rfl) | (apply St.cond_t; rfl) | (apply St.cond_f; rfl) | (apply Ud; rfl; exact On; all_goals (intro h; try (exfalso; omega))) | (apply Za; rfl; exact Oa) | (apply Zb; rfl; exact Oa; exact Ent.go) | (apply Zc; rfl; exact Ob) | (apply Zd; rfl; exact Oc; intro b; refine ⟨Ent.go, ?_⟩) | (apply Ze; rfl; exact Oc; intro b) | (apply Zf; rfl; exact Oe; intro g cap rest hcap) | (apply Zg; rfl; exact Od; intro ad cap) | apply StD.nil | exact StD.nope | apply StD.pick | (apply StD.claim; rfl; intro b) | (apply Zi; rfl; exact Oj; exact Oa) | (apply Zj; rfl; exact Oj; exact Oa; exact Ent.go) | (apply Zk; rfl; exact Oj; exact ⟨rfl, rfl⟩) | (apply Zl; rfl; exact Oj; exact ⟨rfl, rfl⟩; exact Ent.go) | (apply Zm; rfl; exact Oj; rfl) | (apply Zn; rfl; exact Oj; exact Ent.go; rfl) | (refine St.draw (id := 1) [(0, 0), (1, 0), (2, 1), (3, 0), (4, 0), (5, 0), (6, 0), (7, 1), (8, 1), (9, 0), (10, 0), (11, 0)] [] mixed (by kernel_rfl) ?_) | (refine St.draw (id := 7) [(0, 0), (1, 0), (2, 0), (3, 1), (4, 0), (5, 1), (6, 0), (7, 1), (8, 0), (9, 0), (10, 0), (11, 0), (12, 0), (13, 0), (14, 0)] [] mixed (by kernel_rfl) ?_) | (refine St.draw (id := 9) [(0, 0), (1, 0), (2, 0), (3, 1), (4, 0), (5, 0), (6, 1), (7, 0), (8, 1), (9, 1), (10, 0)] [] mixed (by kernel_rfl) ?_) | (refine St.draw (id := 11) [(0, 0), (1, 0), (2, 0), (3, 1), (4, 0), (5, 0), (6, 1), (7, 0), (8, 3)] [8] mixed (by kernel_rfl) ?_) | (apply Ka; exact Og; exact hpk; exact Oh) | (apply Kb; rfl; exact Og; exact hpk; exact Oi) | (apply Kc; rfl; exact Oj; exact Og; exact hpk; exact Oi) | (apply Ka; exact Og; exact hcp; exact Oh) | (apply Kb; rfl; exact Og; exact hcp; exact Oi) | (apply Kc; rfl; exact Oj; exact Og; exact hcp; exact Oi) | (apply Zo; rfl; exact Oj; exact On; all_goals (intro h; try (exfalso; omega))))
  refine St.loop (ι := { x : Nat × List Nat // x.1 ≤ c.logLen cs owner ∧ swapN c cs owner life x.1 = some x.2 }) (fun x => c.logLen cs owner - x.1.1)
    (fun x => [(0, .pointer (some ⟨A, 0, none⟩)), (1, .int .i64 owner), (26, .int .i64 (c.logLen cs owner : Int)), (27, .int .i64 (x.1.1 : Int))])
    (fun x => [bl A 71 (audV c M lf nb r), bl M 87 (memV C n st tv), bl C 37 (cs.flatMap Cell.v), bl lf 22 (lifeV x.1.2)] ++ F) ⟨(0, life), Nat.zero_le _, rfl⟩ ?hE ?hL ?round
  case hE => (focus (repeat (first | exact Sub.nil _ | (apply Sub.cons; first | rfl | (rw [hlog]; rfl)))))
  case hL => exact Ent.go
  case round =>
    rintro ⟨⟨k, l⟩, hk, hsw⟩ IH; dsimp only at hk hsw ⊢
    have hll : l.length = nb := (swapN_len hsw).trans hl
    by_cases hlt : k < c.logLen cs owner
    · have hpe := apeek_r c hc A M C lf nb n r cs hn st tv 6 owner k
      have hnext : swapN c cs owner life (k + 1) = swapStep c l (peekOf cs (c.at 6 owner k)) := by simp [swapN, hsw]
      generalize peekOf cs (c.at 6 owner k) = e at hpe hnext
      by_cases h1 : 65536 ≤ e.seq
      · rw [swapStep, if_pos h1] at hnext
        repeat' (first | (apply Ya; exact Oa) | (apply Yb; exact Ob) | (apply Yc; exact Oc; intro b) | (apply Ye; exact Oe; intro g cap rest hcap) | (apply Yd; exact Od; intro ad cap) | (apply Yf; exact Oj) | (apply Yg; exact Oj; exact ⟨rfl, rfl⟩) | (apply Yh; exact Oj; rfl) | (apply Yi; exact Oj; exact On; all_goals (intro h; try (exfalso; omega))) | apply StL.nil | apply St.region | apply St.seq | apply St.block | apply St.inBlock | apply St.skip | (apply St.exit; rfl) | (apply St.cond_t; rfl) | (apply St.cond_f; rfl) | (apply Ud; rfl; exact On; all_goals (intro h; try (exfalso; omega))) | (apply Za; rfl; exact Oa) | (apply Zb; rfl; exact Oa; exact Ent.go) | (apply Zc; rfl; exact Ob) | (apply Zd; rfl; exact Oc; intro b; refine ⟨Ent.go, ?_⟩) | (apply Ze; rfl; exact Oc; intro b) | (apply Zf; rfl; exact Oe; intro g cap rest hcap) | (apply Zg; rfl; exact Od; intro ad cap) | apply StD.nil | exact StD.nope | apply StD.pick | (apply StD.claim; rfl; intro b) | (apply Zi; rfl; exact Oj; exact Oa) | (apply Zj; rfl; exact Oj; exact Oa; exact Ent.go) | (apply Zk; rfl; exact Oj; exact ⟨rfl, rfl⟩) | (apply Zl; rfl; exact Oj; exact ⟨rfl, rfl⟩; exact Ent.go) | (apply Zm; rfl; exact Oj; rfl) | (apply Zn; rfl; exact Oj; exact Ent.go; rfl) | (refine St.draw (id := 1) [(0, 0), (1, 0), (2, 1), (3, 0), (4, 0), (5, 0), (6, 0), (7, 1), (8, 1), (9, 0), (10, 0), (11, 0)] [] mixed (by kernel_rfl) ?_) | (refine St.draw (id := 7) [(0, 0), (1, 0), (2, 0), (3, 1), (4, 0), (5, 1), (6, 0), (7, 1), (8, 0), (9, 0), (10, 0), (11, 0), (12, 0), (13, 0), (14, 0)] [] mixed (by kernel_rfl) ?_) | (refine St.draw (id := 9) [(0, 0), (1, 0), (2, 0), (3, 1), (4, 0), (5, 0), (6, 1), (7, 0), (8, 1), (9, 1), (10, 0)] [] mixed (by kernel_rfl) ?_) | (refine St.draw (id := 11) [(0, 0), (1, 0), (2, 0), (3, 1), (4, 0), (5, 0), (6, 1), (7, 0), (8, 3)] [8] mixed (by kernel_rfl) ?_) | (apply Ka; exact Og; exact hpe; exact Oh) | (apply Kb; rfl; exact Og; exact hpe; exact Oi) | (apply Kc; rfl; exact Oj; exact Og; exact hpe; exact Oi) | (apply Zo; rfl; exact Oj; exact On; all_goals (intro h; try (exfalso; omega))))
        refine (IH ⟨(k + 1, l), hlt, hnext⟩ (by show _ - (k + 1) < _ - k; omega)).conv ?_ ?_
        · exact Sub.go
        · exact Ent.go
      · rw [swapStep, if_neg h1] at hnext
        have hwr := what_r c hc e.seq
        have hwl := fun h => Cfg.what_life (p := e.seq) hc h
        by_cases h2 : (c.what e.seq).1 = 11
        · rw [if_pos h2] at hnext
          have hwl := hwl h2
          have hlt2 : (c.what e.seq).2.1.toNat < l.length := by omega
          have hnl := NthN.life hlt2
          have hsl := SetN.life hlt2 e.val
          have htr := turns_r l[(c.what e.seq).2.1.toNat] e.val
          rw [List.getD_eq_getElem?_getD, List.getElem?_eq_getElem hlt2, Option.getD_some] at hnext
          cases htb : turnsB l[(c.what e.seq).2.1.toNat] e.val with
          | true =>
            rw [htb] at htr
            rw [htb, if_pos rfl] at hnext
            repeat' (first | (apply Ya; exact Oa) | (apply Yb; exact Ob) | (apply Yc; exact Oc; intro b) | (apply Ye; exact Oe; intro g cap rest hcap) | (apply Yd; exact Od; intro ad cap) | (apply Yf; exact Oj) | (apply Yg; exact Oj; exact ⟨rfl, rfl⟩) | (apply Yh; exact Oj; rfl) | (apply Yi; exact Oj; exact On; all_goals (intro h; try (exfalso; omega))) | apply StL.nil | apply St.region | apply St.seq | apply St.block | apply St.inBlock | apply St.skip | (apply St.exit; rfl) | (apply St.cond_t; rfl) | (apply St.cond_f; rfl) | (apply Ud; rfl; exact On; all_goals (intro h; try (exfalso; omega))) | (apply Za; rfl; exact Oa) | (apply Zb; rfl; exact Oa; exact Ent.go) | (apply Zc; rfl; exact Ob) | (apply Zd; rfl; exact Oc; intro b; refine ⟨Ent.go, ?_⟩) | (apply Ze; rfl; exact Oc; intro b) | (apply Zf; rfl; exact Oe; intro g cap rest hcap) | (apply Zg; rfl; exact Od; intro ad cap) | apply StD.nil | exact StD.nope | apply StD.pick | (apply StD.claim; rfl; intro b) | (apply Zi; rfl; exact Oj; exact Oa) | (apply Zj; rfl; exact Oj; exact Oa; exact Ent.go) | (apply Zk; rfl; exact Oj; exact ⟨rfl, rfl⟩) | (apply Zl; rfl; exact Oj; exact ⟨rfl, rfl⟩; exact Ent.go) | (apply Zm; rfl; exact Oj; rfl) | (apply Zn; rfl; exact Oj; exact Ent.go; rfl) | (refine St.draw (id := 1) [(0, 0), (1, 0), (2, 1), (3, 0), (4, 0), (5, 0), (6, 0), (7, 1), (8, 1), (9, 0), (10, 0), (11, 0)] [] mixed (by kernel_rfl) ?_) | (refine St.draw (id := 7) [(0, 0), (1, 0), (2, 0), (3, 1), (4, 0), (5, 1), (6, 0), (7, 1), (8, 0), (9, 0), (10, 0), (11, 0), (12, 0), (13, 0), (14, 0)] [] mixed (by kernel_rfl) ?_) | (refine St.draw (id := 9) [(0, 0), (1, 0), (2, 0), (3, 1), (4, 0), (5, 0), (6, 1), (7, 0), (8, 1), (9, 1), (10, 0)] [] mixed (by kernel_rfl) ?_) | (refine St.draw (id := 11) [(0, 0), (1, 0), (2, 0), (3, 1), (4, 0), (5, 0), (6, 1), (7, 0), (8, 3)] [8] mixed (by kernel_rfl) ?_) | (apply Ka; exact Og; exact hpe; exact Oh) | (apply Kb; rfl; exact Og; exact hpe; exact Oi) | (apply Kc; rfl; exact Oj; exact Og; exact hpe; exact Oi) | (apply Ka; exact Og; exact hwr; exact Oh) | (apply Kb; rfl; exact Og; exact hwr; exact Oi) | (apply Kc; rfl; exact Oj; exact Og; exact hwr; exact Oi) | (apply Ka; exact Og; exact htr; exact Oh) | (apply Kb; rfl; exact Og; exact htr; exact Oi) | (apply Kc; rfl; exact Oj; exact Og; exact htr; exact Oi) | (apply Zo; rfl; exact Oj; exact On; all_goals (intro h; try (exfalso; omega))))
            refine (IH ⟨(k + 1, l.set (c.what e.seq).2.1.toNat e.val), hlt, hnext⟩ (by show _ - (k + 1) < _ - k; omega)).conv ?_ ?_
            · exact Sub.go
            · exact Ent.go
          | false =>
            rw [htb] at htr
            rw [htb, if_neg (by decide)] at hnext
            repeat' (first | (apply Ya; exact Oa) | (apply Yb; exact Ob) | (apply Yc; exact Oc; intro b) | (apply Ye; exact Oe; intro g cap rest hcap) | (apply Yd; exact Od; intro ad cap) | (apply Yf; exact Oj) | (apply Yg; exact Oj; exact ⟨rfl, rfl⟩) | (apply Yh; exact Oj; rfl) | (apply Yi; exact Oj; exact On; all_goals (intro h; try (exfalso; omega))) | apply StL.nil | apply St.region | apply St.seq | apply St.block | apply St.inBlock | apply St.skip | (apply St.exit; rfl) | (apply St.cond_t; rfl) | (apply St.cond_f; rfl) | (apply Ud; rfl; exact On; all_goals (intro h; try (exfalso; omega))) | (apply Za; rfl; exact Oa) | (apply Zb; rfl; exact Oa; exact Ent.go) | (apply Zc; rfl; exact Ob) | (apply Zd; rfl; exact Oc; intro b; refine ⟨Ent.go, ?_⟩) | (apply Ze; rfl; exact Oc; intro b) | (apply Zf; rfl; exact Oe; intro g cap rest hcap) | (apply Zg; rfl; exact Od; intro ad cap) | apply StD.nil | exact StD.nope | apply StD.pick | (apply StD.claim; rfl; intro b) | (apply Zi; rfl; exact Oj; exact Oa) | (apply Zj; rfl; exact Oj; exact Oa; exact Ent.go) | (apply Zk; rfl; exact Oj; exact ⟨rfl, rfl⟩) | (apply Zl; rfl; exact Oj; exact ⟨rfl, rfl⟩; exact Ent.go) | (apply Zm; rfl; exact Oj; rfl) | (apply Zn; rfl; exact Oj; exact Ent.go; rfl) | (refine St.draw (id := 1) [(0, 0), (1, 0), (2, 1), (3, 0), (4, 0), (5, 0), (6, 0), (7, 1), (8, 1), (9, 0), (10, 0), (11, 0)] [] mixed (by kernel_rfl) ?_) | (refine St.draw (id := 7) [(0, 0), (1, 0), (2, 0), (3, 1), (4, 0), (5, 1), (6, 0), (7, 1), (8, 0), (9, 0), (10, 0), (11, 0), (12, 0), (13, 0), (14, 0)] [] mixed (by kernel_rfl) ?_) | (refine St.draw (id := 9) [(0, 0), (1, 0), (2, 0), (3, 1), (4, 0), (5, 0), (6, 1), (7, 0), (8, 1), (9, 1), (10, 0)] [] mixed (by kernel_rfl) ?_) | (refine St.draw (id := 11) [(0, 0), (1, 0), (2, 0), (3, 1), (4, 0), (5, 0), (6, 1), (7, 0), (8, 3)] [8] mixed (by kernel_rfl) ?_) | (apply Ka; exact Og; exact hpe; exact Oh) | (apply Kb; rfl; exact Og; exact hpe; exact Oi) | (apply Kc; rfl; exact Oj; exact Og; exact hpe; exact Oi) | (apply Ka; exact Og; exact hwr; exact Oh) | (apply Kb; rfl; exact Og; exact hwr; exact Oi) | (apply Kc; rfl; exact Oj; exact Og; exact hwr; exact Oi) | (apply Ka; exact Og; exact htr; exact Oh) | (apply Kb; rfl; exact Og; exact htr; exact Oi) | (apply Kc; rfl; exact Oj; exact Og; exact htr; exact Oi) | (apply Zo; rfl; exact Oj; exact On; all_goals (intro h; try (exfalso; omega))))
            have hso : swapOf c cs life r owner = .error 52 := by unfold swapOf; rw [swapN_none hnext _ hlt]
            refine St.dn (L' := []) Try.func43 ?_ ?_; (dsimp only; rw [hso]; rfl); exact Ent.go
        · rw [if_neg h2] at hnext
          repeat' (first | (apply Ya; exact Oa) | (apply Yb; exact Ob) | (apply Yc; exact Oc; intro b) | (apply Ye; exact Oe; intro g cap rest hcap) | (apply Yd; exact Od; intro ad cap) | (apply Yf; exact Oj) | (apply Yg; exact Oj; exact ⟨rfl, rfl⟩) | (apply Yh; exact Oj; rfl) | (apply Yi; exact Oj; exact On; all_goals (intro h; try (exfalso; omega))) | apply StL.nil | apply St.region | apply St.seq | apply St.block | apply St.inBlock | apply St.skip | (apply St.exit; rfl) | (apply St.cond_t; rfl) | (apply St.cond_f; rfl) | (apply Ud; rfl; exact On; all_goals (intro h; try (exfalso; omega))) | (apply Za; rfl; exact Oa) | (apply Zb; rfl; exact Oa; exact Ent.go) | (apply Zc; rfl; exact Ob) | (apply Zd; rfl; exact Oc; intro b; refine ⟨Ent.go, ?_⟩) | (apply Ze; rfl; exact Oc; intro b) | (apply Zf; rfl; exact Oe; intro g cap rest hcap) | (apply Zg; rfl; exact Od; intro ad cap) | apply StD.nil | exact StD.nope | apply StD.pick | (apply StD.claim; rfl; intro b) | (apply Zi; rfl; exact Oj; exact Oa) | (apply Zj; rfl; exact Oj; exact Oa; exact Ent.go) | (apply Zk; rfl; exact Oj; exact ⟨rfl, rfl⟩) | (apply Zl; rfl; exact Oj; exact ⟨rfl, rfl⟩; exact Ent.go) | (apply Zm; rfl; exact Oj; rfl) | (apply Zn; rfl; exact Oj; exact Ent.go; rfl) | (refine St.draw (id := 1) [(0, 0), (1, 0), (2, 1), (3, 0), (4, 0), (5, 0), (6, 0), (7, 1), (8, 1), (9, 0), (10, 0), (11, 0)] [] mixed (by kernel_rfl) ?_) | (refine St.draw (id := 7) [(0, 0), (1, 0), (2, 0), (3, 1), (4, 0), (5, 1), (6, 0), (7, 1), (8, 0), (9, 0), (10, 0), (11, 0), (12, 0), (13, 0), (14, 0)] [] mixed (by kernel_rfl) ?_) | (refine St.draw (id := 9) [(0, 0), (1, 0), (2, 0), (3, 1), (4, 0), (5, 0), (6, 1), (7, 0), (8, 1), (9, 1), (10, 0)] [] mixed (by kernel_rfl) ?_) | (refine St.draw (id := 11) [(0, 0), (1, 0), (2, 0), (3, 1), (4, 0), (5, 0), (6, 1), (7, 0), (8, 3)] [8] mixed (by kernel_rfl) ?_) | (apply Ka; exact Og; exact hpe; exact Oh) | (apply Kb; rfl; exact Og; exact hpe; exact Oi) | (apply Kc; rfl; exact Oj; exact Og; exact hpe; exact Oi) | (apply Ka; exact Og; exact hwr; exact Oh) | (apply Kb; rfl; exact Og; exact hwr; exact Oi) | (apply Kc; rfl; exact Oj; exact Og; exact hwr; exact Oi) | (apply Zo; rfl; exact Oj; exact On; all_goals (intro h; try (exfalso; omega))))
          refine (IH ⟨(k + 1, l), hlt, hnext⟩ (by show _ - (k + 1) < _ - k; omega)).conv ?_ ?_
          · exact Sub.go
          · exact Ent.go
    · obtain rfl : k = c.logLen cs owner := by omega
      clear IH
      repeat' (first | (apply Ya; exact Oa) | (apply Yb; exact Ob) | (apply Yc; exact Oc; intro b) | (apply Ye; exact Oe; intro g cap rest hcap) | (apply Yd; exact Od; intro ad cap) | (apply Yf; exact Oj) | (apply Yg; exact Oj; exact ⟨rfl, rfl⟩) | (apply Yh; exact Oj; rfl) | (apply Yi; exact Oj; exact On; all_goals (intro h; try (exfalso; omega))) | apply StL.nil | apply St.region | apply St.seq | apply St.block | apply St.inBlock | apply St.skip | (apply St.exit; rfl) | (apply St.cond_t; rfl) | (apply St.cond_f; rfl) | (apply Ud; rfl; exact On; all_goals (intro h; try (exfalso; omega))) | (apply Za; rfl; exact Oa) | (apply Zb; rfl; exact Oa; exact Ent.go) | (apply Zc; rfl; exact Ob) | (apply Zd; rfl; exact Oc; intro b; refine ⟨Ent.go, ?_⟩) | (apply Ze; rfl; exact Oc; intro b) | (apply Zf; rfl; exact Oe; intro g cap rest hcap) | (apply Zg; rfl; exact Od; intro ad cap) | apply StD.nil | exact StD.nope | apply StD.pick | (apply StD.claim; rfl; intro b) | (apply Zi; rfl; exact Oj; exact Oa) | (apply Zj; rfl; exact Oj; exact Oa; exact Ent.go) | (apply Zk; rfl; exact Oj; exact ⟨rfl, rfl⟩) | (apply Zl; rfl; exact Oj; exact ⟨rfl, rfl⟩; exact Ent.go) | (apply Zm; rfl; exact Oj; rfl) | (apply Zn; rfl; exact Oj; exact Ent.go; rfl) | (refine St.draw (id := 1) [(0, 0), (1, 0), (2, 1), (3, 0), (4, 0), (5, 0), (6, 0), (7, 1), (8, 1), (9, 0), (10, 0), (11, 0)] [] mixed (by kernel_rfl) ?_) | (refine St.draw (id := 7) [(0, 0), (1, 0), (2, 0), (3, 1), (4, 0), (5, 1), (6, 0), (7, 1), (8, 0), (9, 0), (10, 0), (11, 0), (12, 0), (13, 0), (14, 0)] [] mixed (by kernel_rfl) ?_) | (refine St.draw (id := 9) [(0, 0), (1, 0), (2, 0), (3, 1), (4, 0), (5, 0), (6, 1), (7, 0), (8, 1), (9, 1), (10, 0)] [] mixed (by kernel_rfl) ?_) | (refine St.draw (id := 11) [(0, 0), (1, 0), (2, 0), (3, 1), (4, 0), (5, 0), (6, 1), (7, 0), (8, 3)] [8] mixed (by kernel_rfl) ?_)  | (apply Zo; rfl; exact Oj; exact On; all_goals (intro h; try (exfalso; omega))))
      refine St.loop (ι := { j : Nat // j ≤ nb }) (fun j => nb - j.1)
        (fun j => [(0, .pointer (some ⟨A, 0, none⟩)), (11, .int .i64 (limboOf (l.take j.1) : Int)), (74, .slice (some ⟨lf, 0, none⟩) nb nb), (75, .int .i64 (nb : Int)), (76, .int .i64 (j.1 : Int))])
        (fun j => [bl A 71 (audV c M lf nb r), bl M 87 (memV C n st tv), bl C 37 (cs.flatMap Cell.v), bl lf 22 (lifeV l)] ++ F) ⟨0, Nat.zero_le _⟩ ?hE2 ?hL2 ?round2
      case hE2 => exact Sub.go
      case hL2 => exact Ent.go
      case round2 =>
        rintro ⟨j, hj⟩ IH; dsimp only
        have hle : limboOf (l.take j) ≤ j := Nat.le_trans List.countP_le_length (by rw [List.length_take]; omega)
        by_cases hlt2 : j < nb
        · have hjl : j < l.length := by omega
          have hnl : NthN ((j : Int).toNat * 1) (lifeV l) (.int .u64 (l[j] : Int)) := NthN.life hjl
          have hcount : limboOf (l.take (j + 1)) = limboOf (l.take j) + if l[j] = 2 then 1 else 0 := by
            unfold limboOf
            rw [List.take_succ_eq_append_getElem hjl, List.countP_append, List.countP_singleton]
            simp
          by_cases h2 : l[j] = 2
          · rw [if_pos h2] at hcount
            have hcount' : ((limboOf (l.take (j + 1)) : Nat) : Int) = (limboOf (l.take j) : Int) + 1 := by omega
            have h2' : ((l[j] : Nat) : Int) = 2 := by omega
            repeat' (first | (apply Ya; exact Oa) | (apply Yb; exact Ob) | (apply Yc; exact Oc; intro b) | (apply Ye; exact Oe; intro g cap rest hcap) | (apply Yd; exact Od; intro ad cap) | (apply Yf; exact Oj) | (apply Yg; exact Oj; exact ⟨rfl, rfl⟩) | (apply Yh; exact Oj; rfl) | (apply Yi; exact Oj; exact On; all_goals (intro h; try (exfalso; omega))) | apply StL.nil | apply St.region | apply St.seq | apply St.block | apply St.inBlock | apply St.skip | (apply St.exit; rfl) | (apply St.cond_t; rfl) | (apply St.cond_f; rfl) | (apply Ud; rfl; exact On; all_goals (intro h; try (exfalso; omega))) | (apply Za; rfl; exact Oa) | (apply Zb; rfl; exact Oa; exact Ent.go) | (apply Zc; rfl; exact Ob) | (apply Zd; rfl; exact Oc; intro b; refine ⟨Ent.go, ?_⟩) | (apply Ze; rfl; exact Oc; intro b) | (apply Zf; rfl; exact Oe; intro g cap rest hcap) | (apply Zg; rfl; exact Od; intro ad cap) | apply StD.nil | exact StD.nope | apply StD.pick | (apply StD.claim; rfl; intro b) | (apply Zi; rfl; exact Oj; exact Oa) | (apply Zj; rfl; exact Oj; exact Oa; exact Ent.go) | (apply Zk; rfl; exact Oj; exact ⟨rfl, rfl⟩) | (apply Zl; rfl; exact Oj; exact ⟨rfl, rfl⟩; exact Ent.go) | (apply Zm; rfl; exact Oj; rfl) | (apply Zn; rfl; exact Oj; exact Ent.go; rfl) | (refine St.draw (id := 1) [(0, 0), (1, 0), (2, 1), (3, 0), (4, 0), (5, 0), (6, 0), (7, 1), (8, 1), (9, 0), (10, 0), (11, 0)] [] mixed (by kernel_rfl) ?_) | (refine St.draw (id := 7) [(0, 0), (1, 0), (2, 0), (3, 1), (4, 0), (5, 1), (6, 0), (7, 1), (8, 0), (9, 0), (10, 0), (11, 0), (12, 0), (13, 0), (14, 0)] [] mixed (by kernel_rfl) ?_) | (refine St.draw (id := 9) [(0, 0), (1, 0), (2, 0), (3, 1), (4, 0), (5, 0), (6, 1), (7, 0), (8, 1), (9, 1), (10, 0)] [] mixed (by kernel_rfl) ?_) | (refine St.draw (id := 11) [(0, 0), (1, 0), (2, 0), (3, 1), (4, 0), (5, 0), (6, 1), (7, 0), (8, 3)] [8] mixed (by kernel_rfl) ?_)  | (apply Zo; rfl; exact Oj; exact On; all_goals (intro h; try (exfalso; omega))))
            refine (IH ⟨j + 1, hlt2⟩ (by show _ - (j + 1) < _ - j; omega)).conv ?_ ?_
            · (focus (repeat (first | exact Sub.nil _ | (apply Sub.cons; first | rfl | (rw [hcount']; rfl)))))
            · exact Ent.go
          · rw [if_neg h2] at hcount
            have hcount' : ((limboOf (l.take (j + 1)) : Nat) : Int) = (limboOf (l.take j) : Int) := by omega
            have h2' : ¬ ((l[j] : Nat) : Int) = 2 := by omega
            repeat' (first | (apply Ya; exact Oa) | (apply Yb; exact Ob) | (apply Yc; exact Oc; intro b) | (apply Ye; exact Oe; intro g cap rest hcap) | (apply Yd; exact Od; intro ad cap) | (apply Yf; exact Oj) | (apply Yg; exact Oj; exact ⟨rfl, rfl⟩) | (apply Yh; exact Oj; rfl) | (apply Yi; exact Oj; exact On; all_goals (intro h; try (exfalso; omega))) | apply StL.nil | apply St.region | apply St.seq | apply St.block | apply St.inBlock | apply St.skip | (apply St.exit; rfl) | (apply St.cond_t; rfl) | (apply St.cond_f; rfl) | (apply Ud; rfl; exact On; all_goals (intro h; try (exfalso; omega))) | (apply Za; rfl; exact Oa) | (apply Zb; rfl; exact Oa; exact Ent.go) | (apply Zc; rfl; exact Ob) | (apply Zd; rfl; exact Oc; intro b; refine ⟨Ent.go, ?_⟩) | (apply Ze; rfl; exact Oc; intro b) | (apply Zf; rfl; exact Oe; intro g cap rest hcap) | (apply Zg; rfl; exact Od; intro ad cap) | apply StD.nil | exact StD.nope | apply StD.pick | (apply StD.claim; rfl; intro b) | (apply Zi; rfl; exact Oj; exact Oa) | (apply Zj; rfl; exact Oj; exact Oa; exact Ent.go) | (apply Zk; rfl; exact Oj; exact ⟨rfl, rfl⟩) | (apply Zl; rfl; exact Oj; exact ⟨rfl, rfl⟩; exact Ent.go) | (apply Zm; rfl; exact Oj; rfl) | (apply Zn; rfl; exact Oj; exact Ent.go; rfl) | (refine St.draw (id := 1) [(0, 0), (1, 0), (2, 1), (3, 0), (4, 0), (5, 0), (6, 0), (7, 1), (8, 1), (9, 0), (10, 0), (11, 0)] [] mixed (by kernel_rfl) ?_) | (refine St.draw (id := 7) [(0, 0), (1, 0), (2, 0), (3, 1), (4, 0), (5, 1), (6, 0), (7, 1), (8, 0), (9, 0), (10, 0), (11, 0), (12, 0), (13, 0), (14, 0)] [] mixed (by kernel_rfl) ?_) | (refine St.draw (id := 9) [(0, 0), (1, 0), (2, 0), (3, 1), (4, 0), (5, 0), (6, 1), (7, 0), (8, 1), (9, 1), (10, 0)] [] mixed (by kernel_rfl) ?_) | (refine St.draw (id := 11) [(0, 0), (1, 0), (2, 0), (3, 1), (4, 0), (5, 0), (6, 1), (7, 0), (8, 3)] [8] mixed (by kernel_rfl) ?_)  | (apply Zo; rfl; exact Oj; exact On; all_goals (intro h; try (exfalso; omega))))
            refine (IH ⟨j + 1, hlt2⟩ (by show _ - (j + 1) < _ - j; omega)).conv ?_ ?_
            · (focus (repeat (first | exact Sub.nil _ | (apply Sub.cons; first | rfl | (rw [hcount']; rfl)))))
            · exact Ent.go
        · have ej : j = nb := by omega
          subst ej
          have etake : l.take j = l := List.take_of_length_le (by omega)
          rw [etake] at *
          clear IH
          have hlim := limit_r c hc c.fr
          repeat' (first | (apply Ya; exact Oa) | (apply Yb; exact Ob) | (apply Yc; exact Oc; intro b) | (apply Ye; exact Oe; intro g cap rest hcap) | (apply Yd; exact Od; intro ad cap) | (apply Yf; exact Oj) | (apply Yg; exact Oj; exact ⟨rfl, rfl⟩) | (apply Yh; exact Oj; rfl) | (apply Yi; exact Oj; exact On; all_goals (intro h; try (exfalso; omega))) | apply StL.nil | apply St.region | apply St.seq | apply St.block | apply St.inBlock | apply St.skip | (apply St.exit; rfl) | (apply St.cond_t; rfl) | (apply St.cond_f; rfl) | (apply Ud; rfl; exact On; all_goals (intro h; try (exfalso; omega))) | (apply Za; rfl; exact Oa) | (apply Zb; rfl; exact Oa; exact Ent.go) | (apply Zc; rfl; exact Ob) | (apply Zd; rfl; exact Oc; intro b; refine ⟨Ent.go, ?_⟩) | (apply Ze; rfl; exact Oc; intro b) | (apply Zf; rfl; exact Oe; intro g cap rest hcap) | (apply Zg; rfl; exact Od; intro ad cap) | apply StD.nil | exact StD.nope | apply StD.pick | (apply StD.claim; rfl; intro b) | (apply Zi; rfl; exact Oj; exact Oa) | (apply Zj; rfl; exact Oj; exact Oa; exact Ent.go) | (apply Zk; rfl; exact Oj; exact ⟨rfl, rfl⟩) | (apply Zl; rfl; exact Oj; exact ⟨rfl, rfl⟩; exact Ent.go) | (apply Zm; rfl; exact Oj; rfl) | (apply Zn; rfl; exact Oj; exact Ent.go; rfl) | (refine St.draw (id := 1) [(0, 0), (1, 0), (2, 1), (3, 0), (4, 0), (5, 0), (6, 0), (7, 1), (8, 1), (9, 0), (10, 0), (11, 0)] [] mixed (by kernel_rfl) ?_) | (refine St.draw (id := 7) [(0, 0), (1, 0), (2, 0), (3, 1), (4, 0), (5, 1), (6, 0), (7, 1), (8, 0), (9, 0), (10, 0), (11, 0), (12, 0), (13, 0), (14, 0)] [] mixed (by kernel_rfl) ?_) | (refine St.draw (id := 9) [(0, 0), (1, 0), (2, 0), (3, 1), (4, 0), (5, 0), (6, 1), (7, 0), (8, 1), (9, 1), (10, 0)] [] mixed (by kernel_rfl) ?_) | (refine St.draw (id := 11) [(0, 0), (1, 0), (2, 0), (3, 1), (4, 0), (5, 0), (6, 1), (7, 0), (8, 3)] [8] mixed (by kernel_rfl) ?_) | (apply Ka; exact Og; exact hlim; exact Oh) | (apply Kb; rfl; exact Og; exact hlim; exact Oi) | (apply Kc; rfl; exact Oj; exact Og; exact hlim; exact Oi) | (apply Zo; rfl; exact Oj; exact On; all_goals (intro h; try (exfalso; omega))))
          · have hso : swapOf c cs life r owner = .error 6 := by unfold swapOf; rw [hsw]; exact if_pos h
            refine St.dn (L' := []) Try.func43 ?_ ?_; (dsimp only; rw [hso]; rfl); exact Ent.go
          · have hso : swapOf c cs life r owner = .ok (l, { r with limbo := if r.limbo < (limboOf l : Int) then (limboOf l : Int) else r.limbo }) := by unfold swapOf; rw [hsw]; exact if_neg h
            refine St.d1 Try.func43 ?_; apply Exists.intro; apply And.intro; (dsimp only; rw [hso]; exact ⟨rfl, rfl⟩); exact Ent.go
end Go.Proofs.Ytmcadilggmlbfaa
