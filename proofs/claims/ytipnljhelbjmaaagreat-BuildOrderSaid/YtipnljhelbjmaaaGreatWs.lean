/-
  Package wset: New, slot, Put, Get, Mark, Back.
-/
import Derived.Test.YtipnljhelbjmaaaGreatWsp
namespace Go.Proofs.YtipnljhelbjmaaaGreat
def entV (p : Int × Nat) : List Value := [.int .i64 p.1, .int .u64 (p.2 : Int)]
theorem entV_len (p : Int × Nat) : (entV p).length = 2 := rfl
def ints (l : List Nat) : List Value := l.map fun (x : Nat) => Value.int .i64 (x : Int)
theorem ints_len (l : List Nat) : (ints l).length = l.length := by simp [ints]
theorem NthN.ints {l : List Nat} {i : Nat} (hi : i < l.length) : NthN i (ints l) (.int .i64 ((l.getD i 0 : Nat) : Int)) := NthN.of (by simp [Go.Proofs.YtipnljhelbjmaaaGreat.ints, hi])
theorem SetN.ints {l : List Nat} {i : Nat} (hi : i < l.length) (x : Nat) : SetN (.int .i64 (x : Int)) i (ints l) (ints (l.set i x)) := by
  have := SetN.of (v := Value.int .i64 (x : Int)) (n := i) (l := Go.Proofs.YtipnljhelbjmaaaGreat.ints l) (by rw [ints_len]; exact hi)
  rw [show (Go.Proofs.YtipnljhelbjmaaaGreat.ints l).set i (.int .i64 (x : Int)) = Go.Proofs.YtipnljhelbjmaaaGreat.ints (l.set i x) from by simp [Go.Proofs.YtipnljhelbjmaaaGreat.ints, List.map_set]] at this
  exact this
/-- a change: which entry, what it was, whether it is new -/
structure Chg where
  k : Nat
  was : Nat
  fresh : Bool
def Chg.v (c : Chg) : List Value := [.int .i64 (c.k : Int), .int .u64 (c.was : Int), .bool c.fresh]
theorem Chg.v_len (c : Chg) : c.v.length = 3 := rfl
/-- where a key stands -/
def kidx : List (Int × Nat) → Int → Option Nat
  | [], _ => none
  | (a, _) :: m, k => if a = k then some 0 else (kidx m k).map (· + 1)
theorem kidx_spec : ∀ (m : List (Int × Nat)) (a : Int), (kidx m a = none ∧ mget m a = none) ∨ ∃ (i : Nat) (x : Nat) (hi : i < m.length), kidx m a = some i ∧ mget m a = some x ∧ m[i] = (a, x) ∧ ∀ y, mput m a y = m.set i (a, y)
  | [], a => .inl ⟨rfl, rfl⟩
  | (b, y) :: m, a => by
    by_cases h : b = a
    · exact .inr ⟨0, y, by simp, by simp [kidx, h], by simp [mget, h], by simp [h], fun z => by simp [mput, h]⟩
    · rcases kidx_spec m a with ⟨h1, h2⟩ | ⟨i, x, hi, h1, h2, h3, h4⟩
      · exact .inl ⟨by simp [kidx, h, h1], by simp [mget, h, h2]⟩
      · exact .inr ⟨i + 1, x, by simp; omega, by simp [kidx, h, h1], by simp [mget, h, h2], by simpa using h3, fun z => by simp [mput, h, h4 z]⟩
def chgOf (m : List (Int × Nat)) (a : Int) : Chg := match kidx m a with
  | some i => ⟨i, (m.getD i (0, 0)).2, false⟩
  | none => ⟨m.length, 0, true⟩
def chgsN (puts : List (Int × Nat)) : Nat → List Chg
  | 0 => []
  | n + 1 => chgsN puts n ++ [chgOf (allP (puts.take n)) (puts.getD n (0, 0)).1]
def chgs (puts : List (Int × Nat)) : List Chg := chgsN puts puts.length
theorem chgsN_len (puts : List (Int × Nat)) : ∀ n, (chgsN puts n).length = n
  | 0 => rfl
  | n + 1 => by rw [chgsN, List.length_append, chgsN_len]; rfl
theorem chgsN_app (puts l : List (Int × Nat)) : ∀ n, n ≤ puts.length → chgsN (puts ++ l) n = chgsN puts n
  | 0, _ => rfl
  | n + 1, h => by
    have h1 : n < puts.length := h
    rw [chgsN, chgsN, chgsN_app puts l n (by omega), List.take_append_of_le_length (by omega)]
    congr 3
    simp [List.getD_eq_getElem?_getD, List.getElem?_append_left h1]
theorem chgs_snoc (puts : List (Int × Nat)) (a : Int) (x : Nat) : chgs (puts ++ [(a, x)]) = chgs puts ++ [chgOf (allP puts) a] := by
  unfold chgs
  rw [List.length_append, List.length_singleton, chgsN, chgsN_app _ _ _ (Nat.le_refl _), List.take_left]
  simp
def keysP (puts : List (Int × Nat)) : List Int := (allP puts).map (·.1)
def tabP (p : Nat) (puts : List (Int × Nat)) : List Nat := tabN (2 ^ p) (keysP puts) (keysP puts).length
/-- what stands in a set's memory -/
structure WsX (room : Nat) (puts : List (Int × Nat)) where
  lad : Option Addr
  lcap : Nat
  dad : Option Addr
  dcap : Nat
  T : Nat
  p : Nat
  hp : p ≤ 20
  h2 : 2 ≤ 2 ^ p
  hroom : 2 * room ≤ 2 ^ p
  hm : (allP puts).length ≤ room
  hr : room ≤ 65536
def setV (room : Nat) (lv : Value) (T sz : Nat) (dv : Value) : List Value := [.int .i64 (room : Int), lv, .slice (some ⟨T, 0, none⟩) sz sz, dv]
def wsL (W room : Nat) (puts : List (Int × Nat)) (x : WsX room puts) : List HProp :=
  [bl W 151 (setV room (.slice x.lad (allP puts).length x.lcap) x.T (2 ^ x.p) (.slice x.dad puts.length x.dcap)), Row (.slice x.lad (allP puts).length x.lcap) 111 2 (allP puts).length ((allP puts).flatMap entV),
   bl x.T 3 (ints (tabP x.p puts)), Row (.slice x.dad puts.length x.dcap) 198 3 puts.length ((chgs puts).flatMap Chg.v)]
def WsE (W room : Nat) (puts : List (Int × Nat)) : HProp := ex (wsL W room puts)
theorem WsX.pow {room : Nat} {puts : List (Int × Nat)} (x : WsX room puts) : 2 ^ x.p ≤ 1048576 := Nat.le_trans (Nat.pow_le_pow_right (by decide) x.hp) (by decide)
theorem WsX.lt {room : Nat} {puts : List (Int × Nat)} (x : WsX room puts) : (keysP puts).length < 2 ^ x.p := by
  have := x.hm; have := x.hroom; have := x.h2
  rw [keysP, List.length_map]; omega
theorem WsX.tab {room : Nat} {puts : List (Int × Nat)} (x : WsX room puts) : TabOk (2 ^ x.p) (keysP puts) (tabP x.p puts) (keysP puts).length := tab_ok (allP_nodup puts) _ (Nat.le_refl _) (Nat.le_of_lt x.lt)
set_option maxRecDepth 100000 in
theorem wnewE_t (room : Nat) (hr : room ≤ 65536) : Tri Tryz.prog 13 #[.int .i64 (room : Int)] [] fun v L => ∃ W, v = .pointer (some ⟨W, 0, none⟩) ∧ L = [WsE W room []] := by
  have e : (if (65536 : Int) < (if (room : Int) < 0 then 0 else (room : Int)) then 65536 else (if (room : Int) < 0 then 0 else (room : Int))) = (room : Int) := by
    rw [if_neg (show ¬ (room : Int) < 0 by omega), if_neg (by omega)]
  refine Tri.of_body (vs := [_]) Tryz.func13 rfl rfl fun w0 F => ?_
  repeat' (first | (apply Ya; exact Oa) | (apply Yb; exact Ob) | (apply Yc; exact Oc; intro b) | (apply Ye; exact Oe; intro g cap rest hcap) | (apply Yd; exact Od; intro ad cap) | (apply Yf; exact Oj) | (apply Yg; exact Oj; exact ⟨rfl, rfl⟩) | (apply Yh; exact Oj; rfl) | (apply Yi; exact Oj; exact On; all_goals (intro h; try (exfalso; omega))) | apply StL.nil | apply St.region | apply St.seq | apply St.block | apply St.inBlock | apply St.skip | (apply St.exit; rfl) | (apply St.cond_t; rfl) | (apply St.cond_f; rfl) | (apply Ud; rfl; exact On; all_goals (intro h; try (exfalso; omega))) | (apply Za; rfl; exact Oa) | (apply Zb; rfl; exact Oa; exact Ent.go) | (apply Zc; rfl; exact Ob) | (apply Zd; rfl; exact Oc; intro b; refine ⟨Ent.go, ?_⟩) | (apply Ze; rfl; exact Oc; intro b) | (apply Zf; rfl; exact Oe; intro g cap rest hcap) | (apply Zg; rfl; exact Od; intro ad cap) | apply StD.nil | exact StD.nope | apply StD.pick | (apply StD.claim; rfl; intro b) | (apply Zi; rfl; exact Oj; exact Oa) | (apply Zj; rfl; exact Oj; exact Oa; exact Ent.go) | (apply Zk; rfl; exact Oj; exact ⟨rfl, rfl⟩) | (apply Zl; rfl; exact Oj; exact ⟨rfl, rfl⟩; exact Ent.go) | (apply Zm; rfl; exact Oj; rfl) | (apply Zn; rfl; exact Oj; exact Ent.go; rfl)   | (apply Zo; rfl; exact Oj; exact On; all_goals (intro h; try (exfalso; omega))))
  rw [e]
  refine St.loopX (Lr := ?Lr) (ι := { p : Nat // 1 ≤ p ∧ p ≤ 17 }) (fun p => 17 - p.1)
    (fun p => [(3, .int .i64 ((2 ^ p.1 : Nat) : Int))]) (fun p => []) ⟨1, by decide⟩ ?hE ?hL ?round
  case hE => exact Sub.go
  case hL => exact Ent.go
  case round =>
    rintro ⟨p, hp1, hp2⟩ IH; dsimp only at hp1 hp2 ⊢
    have hpow : 2 ^ p ≤ 131072 := Nat.le_trans (Nat.pow_le_pow_right (by decide) hp2) (by decide)
    have hpow1 : 2 ≤ 2 ^ p := Nat.le_trans (by decide) (Nat.pow_le_pow_right (n := 2) (by decide) hp1)
    have hsucc : 2 ^ (p + 1) = 2 ^ p * 2 := Nat.pow_succ ..
    have hmax : ∀ q, 17 ≤ q → 131072 ≤ 2 ^ q := fun q hq => Nat.le_trans (by decide) (Nat.pow_le_pow_right (n := 2) (by decide) hq)
    have hmp := hmax p
    generalize hg : 2 ^ p = sz at *
    by_cases hlt : sz < 2 * room
    · repeat' (first | (apply Ya; exact Oa) | (apply Yb; exact Ob) | (apply Yc; exact Oc; intro b) | (apply Ye; exact Oe; intro g cap rest hcap) | (apply Yd; exact Od; intro ad cap) | (apply Yf; exact Oj) | (apply Yg; exact Oj; exact ⟨rfl, rfl⟩) | (apply Yh; exact Oj; rfl) | (apply Yi; exact Oj; exact On; all_goals (intro h; try (exfalso; omega))) | apply StL.nil | apply St.region | apply St.seq | apply St.block | apply St.inBlock | apply St.skip | (apply St.exit; rfl) | (apply St.cond_t; rfl) | (apply St.cond_f; rfl) | (apply Ud; rfl; exact On; all_goals (intro h; try (exfalso; omega))) | (apply Za; rfl; exact Oa) | (apply Zb; rfl; exact Oa; exact Ent.go) | (apply Zc; rfl; exact Ob) | (apply Zd; rfl; exact Oc; intro b; refine ⟨Ent.go, ?_⟩) | (apply Ze; rfl; exact Oc; intro b) | (apply Zf; rfl; exact Oe; intro g cap rest hcap) | (apply Zg; rfl; exact Od; intro ad cap) | apply StD.nil | exact StD.nope | apply StD.pick | (apply StD.claim; rfl; intro b) | (apply Zi; rfl; exact Oj; exact Oa) | (apply Zj; rfl; exact Oj; exact Oa; exact Ent.go) | (apply Zk; rfl; exact Oj; exact ⟨rfl, rfl⟩) | (apply Zl; rfl; exact Oj; exact ⟨rfl, rfl⟩; exact Ent.go) | (apply Zm; rfl; exact Oj; rfl) | (apply Zn; rfl; exact Oj; exact Ent.go; rfl)   | (apply Zo; rfl; exact Oj; exact On; all_goals (intro h; try (exfalso; omega))))
      refine IH ⟨p + 1, by omega, by omega⟩ (by show 17 - (p + 1) < 17 - p; omega) ?_ ?_
      · (focus (repeat (first | exact Sub.nil _ | (apply Sub.cons; first | rfl | (dsimp only; rw [hsucc, Int.natCast_mul]; rfl)))))
      · exact Ent.go
    · clear IH
      repeat' (first | (apply Ya; exact Oa) | (apply Yb; exact Ob) | (apply Yc; exact Oc; intro b) | (apply Ye; exact Oe; intro g cap rest hcap) | (apply Yd; exact Od; intro ad cap) | (apply Yf; exact Oj) | (apply Yg; exact Oj; exact ⟨rfl, rfl⟩) | (apply Yh; exact Oj; rfl) | (apply Yi; exact Oj; exact On; all_goals (intro h; try (exfalso; omega))) | apply StL.nil | apply St.region | apply St.seq | apply St.block | apply St.inBlock | apply St.skip | (apply St.exit; rfl) | (apply St.cond_t; rfl) | (apply St.cond_f; rfl) | (apply Ud; rfl; exact On; all_goals (intro h; try (exfalso; omega))) | (apply Za; rfl; exact Oa) | (apply Zb; rfl; exact Oa; exact Ent.go) | (apply Zc; rfl; exact Ob) | (apply Zd; rfl; exact Oc; intro b; refine ⟨Ent.go, ?_⟩) | (apply Ze; rfl; exact Oc; intro b) | (apply Zf; rfl; exact Oe; intro g cap rest hcap) | (apply Zg; rfl; exact Od; intro ad cap) | apply StD.nil | exact StD.nope | apply StD.pick | (apply StD.claim; rfl; intro b) | (apply Zi; rfl; exact Oj; exact Oa) | (apply Zj; rfl; exact Oj; exact Oa; exact Ent.go) | (apply Zk; rfl; exact Oj; exact ⟨rfl, rfl⟩) | (apply Zl; rfl; exact Oj; exact ⟨rfl, rfl⟩; exact Ent.go) | (apply Zm; rfl; exact Oj; rfl) | (apply Zn; rfl; exact Oj; exact Ent.go; rfl)   | (apply Zo; rfl; exact Oj; exact On; all_goals (intro h; try (exfalso; omega))))
      have hz : (List.replicate (sz : Int).toNat (cl (Value.int .i64 0))).flatten = ints (tabP p []) := by
        rw [show cl (Value.int .i64 0) = [Value.int .i64 ((0 : Nat) : Int)] from rfl, List.flatten_replicate_singleton]
        show _ = (List.replicate (2 ^ p) 0).map _
        rw [List.map_replicate, hg]; rfl
      rw [hz]
      subst hg
      rename_i bT
      refine St.d1 Tryz.func13 ⟨_, ⟨_, rfl, rfl⟩, ?_⟩
      refine Ent.trans ?_ (Ent.ex_in (Ls := wsL _ room []) ⟨none, 0, none, 0, bT, p, by omega, hpow1, by omega, Nat.zero_le _, hr⟩)
      refine Ent.trans (Ent.row_nil 111 2) (Ent.trans (Ent.row_nil 198 3) ?_)
      exact Ent.go
/-- the list of entries can be read, by q -/
def LsR (q : HProp) (lad : Option Addr) (m : List (Int × Nat)) : Prop := m.length = 0 ∨ ∃ g rest, lad = some ⟨g, 0, none⟩ ∧ RdC q g (m.flatMap entV ++ rest)
theorem LsR.at {q : HProp} {lad : Option Addr} {m : List (Int × Nat)} (h : LsR q lad m) {i : Nat} (hi : i < m.length) : ∃ g l, lad = some ⟨g, 0, none⟩ ∧ RdC q g l ∧ NthN (i * 2 + 0) l (.int .i64 m[i].1) ∧ NthN (i * 2 + 1) l (.int .u64 (m[i].2 : Int)) := by
  rcases h with h | ⟨g, rest, h1, h2⟩
  · omega
  · exact ⟨g, _, h1, h2, (NthN.flat entV_len hi .zero).app_left rest, (NthN.flat entV_len hi (.succ .zero)).app_left rest⟩
set_option maxRecDepth 100000 in
theorem slot_t (q : HProp) (W room lcap T p : Nat) (lad : Option Addr) (dv : Value) (puts : List (Int × Nat)) (hp : p ≤ 20) (htab : TabOk (2 ^ p) (keysP puts) (tabP p puts) (keysP puts).length) (hlt : (keysP puts).length < 2 ^ p)
    (hW : RdC q W (setV room (.slice lad (allP puts).length lcap) T (2 ^ p) dv)) (hL : LsR q lad (allP puts)) (hT : RdC q T (ints (tabP p puts))) (a : Int) :
    Tri Tryz.prog 100 #[.pointer (some ⟨W, 0, none⟩), .int .i64 a] [q] fun v L => v = .int .i64 ((slotOf (tabP p puts) (keysP puts) a : Nat) : Int) ∧ L = [q] := by
  have hpow : 2 ^ p ≤ 1048576 := Nat.le_trans (Nat.pow_le_pow_right (by decide) hp) (by decide)
  have hpos : 0 < 2 ^ p := Nat.two_pow_pos p
  have hand : ∀ x : Int, 0 ≤ x → x < 9223372036854775808 → AndIs .i64 x (((2 ^ p : Nat) : Int) - 1) ((x.toNat % 2 ^ p : Nat) : Int) := by
    intro x h0 h1
    have := AndIs.mask (k := .i64) (p := p) (.inl rfl) h0 (by omega) h1
    rw [show ((2 ^ p - 1 : Nat) : Int) = ((2 ^ p : Nat) : Int) - 1 by omega] at this
    exact this
  have hs := slot_is htab hlt (keysP puts) a
  have hlen := htab.len
  have hw : ∀ x : Int, IntKind.u64.wrap x = x % 18446744073709551616 := fun x => by simp [IntKind.wrap, IntKind.bits, IntKind.signed]
  have hash0 : AndIs .i64 (IntKind.i64.wrap (IntKind.u64.wrap (IntKind.u64.wrap a * 11400714819323198485) / 2 ^ Int.toNat 40)) (((2 ^ p : Nat) : Int) - 1) ((hsh (2 ^ p) a : Nat) : Int) := by
    have e1 : IntKind.u64.wrap (IntKind.u64.wrap a * 11400714819323198485) / 2 ^ Int.toNat 40 = a * 11400714819323198485 % 18446744073709551616 / 1099511627776 := by
      rw [hw, hw, Int.mul_emod, Int.emod_emod, ← Int.mul_emod]; rfl
    rw [e1]
    have h0 : 0 ≤ a * 11400714819323198485 % 18446744073709551616 := Int.emod_nonneg _ (by decide)
    have h1 : a * 11400714819323198485 % 18446744073709551616 < 18446744073709551616 := Int.emod_lt_of_pos _ (by decide)
    unfold hsh
    generalize a * 11400714819323198485 % 18446744073709551616 = y at h0 h1 ⊢
    have h2 : fits .i64 (y / 1099511627776) := by simp only [fits]; omega
    rw [wrap_fits h2]
    exact hand _ (by omega) (by omega)
  refine Tri.of_body (vs := [_, _]) Tryz.func100 rfl rfl fun w0 F => ?_
  repeat' (first | (apply Ya; exact Oa) | (apply Yb; exact Ob) | (apply Yc; exact Oc; intro b) | (apply Ye; exact Oe; intro g cap rest hcap) | (apply Yd; exact Od; intro ad cap) | (apply Yf; exact Oj) | (apply Yg; exact Oj; exact ⟨rfl, rfl⟩) | (apply Yh; exact Oj; rfl) | (apply Yi; exact Oj; exact On; all_goals (intro h; try (exfalso; omega))) | apply StL.nil | apply St.region | apply St.seq | apply St.block | apply St.inBlock | apply St.skip | (apply St.exit; rfl) | (apply St.cond_t; rfl) | (apply St.cond_f; rfl) | (apply Ud; rfl; exact On; all_goals (intro h; try (exfalso; omega))) | (apply Za; rfl; exact Oa) | (apply Zb; rfl; exact Oa; exact Ent.go) | (apply Zc; rfl; exact Ob) | (apply Zd; rfl; exact Oc; intro b; refine ⟨Ent.go, ?_⟩) | (apply Ze; rfl; exact Oc; intro b) | (apply Zf; rfl; exact Oe; intro g cap rest hcap) | (apply Zg; rfl; exact Od; intro ad cap) | apply StD.nil | exact StD.nope | apply StD.pick | (apply StD.claim; rfl; intro b) | (apply Zi; rfl; exact Oj; exact Oa) | (apply Zj; rfl; exact Oj; exact Oa; exact Ent.go) | (apply Zk; rfl; exact Oj; exact ⟨rfl, rfl⟩) | (apply Zl; rfl; exact Oj; exact ⟨rfl, rfl⟩; exact Ent.go) | (apply Zm; rfl; exact Oj; rfl) | (apply Zn; rfl; exact Oj; exact Ent.go; rfl) | (refine St.draw (id := 3) [(0, 0), (1, 0), (2, 0), (3, 1), (4, 0), (5, 0), (6, 1), (7, 0), (8, 0), (9, 0), (10, 0), (11, 0), (12, 1), (13, 0), (14, 0), (15, 0), (16, 1), (17, 0), (18, 0), (19, 1), (20, 0), (21, 0), (22, 0), (23, 1), (24, 0), (25, 0), (26, 0)] [] mixed (by kernel_rfl) ?_)  | (apply Zo; rfl; exact Oj; exact On; all_goals (intro h; try (exfalso; omega))))
  refine St.loopX (Lr := ?Lr) (ι := { d : Nat // d ≤ far (tabP p puts) (keysP puts) a }) (fun d => far (tabP p puts) (keysP puts) a - d.1)
    (fun d => [(6, .int .i64 (((hsh (2 ^ p) a + d.1) % 2 ^ p : Nat) : Int))]) (fun d => []) ⟨0, Nat.zero_le _⟩ ?hE ?hL ?round
  case hE =>
    have e0 : (hsh (2 ^ p) a + 0) % 2 ^ p = hsh (2 ^ p) a := by rw [Nat.add_zero]; unfold hsh; rw [Nat.mod_mod]
    dsimp only
    rw [e0]
    exact Sub.go
  case hL => exact Ent.go
  case round =>
    rintro ⟨d, hd⟩ IH; dsimp only at hd ⊢
    have hk : (hsh (2 ^ p) a + d) % 2 ^ p < 2 ^ p := Nat.mod_lt _ hpos
    have hnext : ((hsh (2 ^ p) a + d) % 2 ^ p + 1) % 2 ^ p = (hsh (2 ^ p) a + (d + 1)) % 2 ^ p := by rw [Nat.mod_add_mod, Nat.add_assoc]
    have hstop : d = far (tabP p puts) (keysP puts) a → (hsh (2 ^ p) a + d) % 2 ^ p = slotOf (tabP p puts) (keysP puts) a := by
      rintro rfl; unfold slotOf; rw [hlen]
    have hgo := hs.go d
    have hst := hs.stop
    have hand1 := hand (((hsh (2 ^ p) a + d) % 2 ^ p : Nat) + 1 : Int) (by omega) (by omega)
    rw [show ((((hsh (2 ^ p) a + d) % 2 ^ p : Nat) + 1 : Int)).toNat = (hsh (2 ^ p) a + d) % 2 ^ p + 1 by omega, hnext] at hand1
    generalize hg : (hsh (2 ^ p) a + d) % 2 ^ p = k at *
    have hnT : NthN ((k : Int).toNat * 1) (ints (tabP p puts)) (.int .i64 (((tabP p puts).getD k 0 : Nat) : Int)) := by
      rw [Nat.mul_one]; exact NthN.ints (by rw [hlen]; exact hk)
    have hval := htab.val k hk
    have hkm : (keysP puts).length = (allP puts).length := by rw [keysP, List.length_map]
    have hkey : ∀ i (hi : i < (allP puts).length), (keysP puts).getD i 0 = (allP puts)[i].1 := by
      intro i hi
      rw [keysP, List.getD_eq_getElem?_getD, List.getElem?_map, List.getElem?_eq_getElem hi]; rfl
    by_cases hlt2 : d < far (tabP p puts) (keysP puts) a
    · have hgo := hgo hlt2
      unfold stopB at hgo
      simp only [Bool.or_eq_false_iff, beq_eq_false_iff_ne] at hgo
      generalize (tabP p puts).getD k 0 = t at *
      have hti : t - 1 < (allP puts).length := by omega
      obtain ⟨g, l, rfl, hrd, hn1, hn2⟩ := hL.at hti
      rw [hkey _ hti] at hgo
      rw [show (t - 1) * 2 = ((t : Int) - 1).toNat * 2 by omega] at hn1
      generalize (allP puts)[t - 1].1 = kk at hn1 hgo
      have hne : ¬ (t : Int) = 0 := by omega
      have hne2 := hgo.2
      repeat' (first | (apply Ya; exact Oa) | (apply Yb; exact Ob) | (apply Yc; exact Oc; intro b) | (apply Ye; exact Oe; intro g cap rest hcap) | (apply Yd; exact Od; intro ad cap) | (apply Yf; exact Oj) | (apply Yg; exact Oj; exact ⟨rfl, rfl⟩) | (apply Yh; exact Oj; rfl) | (apply Yi; exact Oj; exact On; all_goals (intro h; try (exfalso; omega))) | apply StL.nil | apply St.region | apply St.seq | apply St.block | apply St.inBlock | apply St.skip | (apply St.exit; rfl) | (apply St.cond_t; rfl) | (apply St.cond_f; rfl) | (apply Ud; rfl; exact On; all_goals (intro h; try (exfalso; omega))) | (apply Za; rfl; exact Oa) | (apply Zb; rfl; exact Oa; exact Ent.go) | (apply Zc; rfl; exact Ob) | (apply Zd; rfl; exact Oc; intro b; refine ⟨Ent.go, ?_⟩) | (apply Ze; rfl; exact Oc; intro b) | (apply Zf; rfl; exact Oe; intro g cap rest hcap) | (apply Zg; rfl; exact Od; intro ad cap) | apply StD.nil | exact StD.nope | apply StD.pick | (apply StD.claim; rfl; intro b) | (apply Zi; rfl; exact Oj; exact Oa) | (apply Zj; rfl; exact Oj; exact Oa; exact Ent.go) | (apply Zk; rfl; exact Oj; exact ⟨rfl, rfl⟩) | (apply Zl; rfl; exact Oj; exact ⟨rfl, rfl⟩; exact Ent.go) | (apply Zm; rfl; exact Oj; rfl) | (apply Zn; rfl; exact Oj; exact Ent.go; rfl) | (refine St.draw (id := 3) [(0, 0), (1, 0), (2, 0), (3, 1), (4, 0), (5, 0), (6, 1), (7, 0), (8, 0), (9, 0), (10, 0), (11, 0), (12, 1), (13, 0), (14, 0), (15, 0), (16, 1), (17, 0), (18, 0), (19, 1), (20, 0), (21, 0), (22, 0), (23, 1), (24, 0), (25, 0), (26, 0)] [] mixed (by kernel_rfl) ?_)  | (apply Zo; rfl; exact Oj; exact On; all_goals (intro h; try (exfalso; omega))))
      refine IH ⟨d + 1, hlt2⟩ (by show _ - (d + 1) < _ - d; omega) ?_ ?_
      · exact Sub.go
      · exact Ent.go
    · have hstop := hstop (by omega)
      rw [← hstop] at hst ⊢
      clear IH
      unfold stopB at hst
      simp only [Bool.or_eq_true, beq_iff_eq] at hst
      generalize (tabP p puts).getD k 0 = t at *
      by_cases ht0 : t = 0
      · have ht0' : (t : Int) = 0 := by omega
        repeat' (first | (apply Ya; exact Oa) | (apply Yb; exact Ob) | (apply Yc; exact Oc; intro b) | (apply Ye; exact Oe; intro g cap rest hcap) | (apply Yd; exact Od; intro ad cap) | (apply Yf; exact Oj) | (apply Yg; exact Oj; exact ⟨rfl, rfl⟩) | (apply Yh; exact Oj; rfl) | (apply Yi; exact Oj; exact On; all_goals (intro h; try (exfalso; omega))) | apply StL.nil | apply St.region | apply St.seq | apply St.block | apply St.inBlock | apply St.skip | (apply St.exit; rfl) | (apply St.cond_t; rfl) | (apply St.cond_f; rfl) | (apply Ud; rfl; exact On; all_goals (intro h; try (exfalso; omega))) | (apply Za; rfl; exact Oa) | (apply Zb; rfl; exact Oa; exact Ent.go) | (apply Zc; rfl; exact Ob) | (apply Zd; rfl; exact Oc; intro b; refine ⟨Ent.go, ?_⟩) | (apply Ze; rfl; exact Oc; intro b) | (apply Zf; rfl; exact Oe; intro g cap rest hcap) | (apply Zg; rfl; exact Od; intro ad cap) | apply StD.nil | exact StD.nope | apply StD.pick | (apply StD.claim; rfl; intro b) | (apply Zi; rfl; exact Oj; exact Oa) | (apply Zj; rfl; exact Oj; exact Oa; exact Ent.go) | (apply Zk; rfl; exact Oj; exact ⟨rfl, rfl⟩) | (apply Zl; rfl; exact Oj; exact ⟨rfl, rfl⟩; exact Ent.go) | (apply Zm; rfl; exact Oj; rfl) | (apply Zn; rfl; exact Oj; exact Ent.go; rfl) | (refine St.draw (id := 3) [(0, 0), (1, 0), (2, 0), (3, 1), (4, 0), (5, 0), (6, 1), (7, 0), (8, 0), (9, 0), (10, 0), (11, 0), (12, 1), (13, 0), (14, 0), (15, 0), (16, 1), (17, 0), (18, 0), (19, 1), (20, 0), (21, 0), (22, 0), (23, 1), (24, 0), (25, 0), (26, 0)] [] mixed (by kernel_rfl) ?_)  | (apply Zo; rfl; exact Oj; exact On; all_goals (intro h; try (exfalso; omega))))
        (first | refine St.dn Tryz.func100 ⟨?_, rfl⟩ Ent.go | refine St.fl Tryz.func100 ⟨?_, rfl⟩ Ent.go)
        rfl
      · have hti : t - 1 < (allP puts).length := by omega
        obtain ⟨g, l, rfl, hrd, hn1, hn2⟩ := hL.at hti
        rw [hkey _ hti] at hst
        rw [show (t - 1) * 2 = ((t : Int) - 1).toNat * 2 by omega] at hn1
        generalize (allP puts)[t - 1].1 = kk at hn1 hst
        have hne : ¬ (t : Int) = 0 := by omega
        have hne2 : kk = a := by omega
        repeat' (first | (apply Ya; exact Oa) | (apply Yb; exact Ob) | (apply Yc; exact Oc; intro b) | (apply Ye; exact Oe; intro g cap rest hcap) | (apply Yd; exact Od; intro ad cap) | (apply Yf; exact Oj) | (apply Yg; exact Oj; exact ⟨rfl, rfl⟩) | (apply Yh; exact Oj; rfl) | (apply Yi; exact Oj; exact On; all_goals (intro h; try (exfalso; omega))) | apply StL.nil | apply St.region | apply St.seq | apply St.block | apply St.inBlock | apply St.skip | (apply St.exit; rfl) | (apply St.cond_t; rfl) | (apply St.cond_f; rfl) | (apply Ud; rfl; exact On; all_goals (intro h; try (exfalso; omega))) | (apply Za; rfl; exact Oa) | (apply Zb; rfl; exact Oa; exact Ent.go) | (apply Zc; rfl; exact Ob) | (apply Zd; rfl; exact Oc; intro b; refine ⟨Ent.go, ?_⟩) | (apply Ze; rfl; exact Oc; intro b) | (apply Zf; rfl; exact Oe; intro g cap rest hcap) | (apply Zg; rfl; exact Od; intro ad cap) | apply StD.nil | exact StD.nope | apply StD.pick | (apply StD.claim; rfl; intro b) | (apply Zi; rfl; exact Oj; exact Oa) | (apply Zj; rfl; exact Oj; exact Oa; exact Ent.go) | (apply Zk; rfl; exact Oj; exact ⟨rfl, rfl⟩) | (apply Zl; rfl; exact Oj; exact ⟨rfl, rfl⟩; exact Ent.go) | (apply Zm; rfl; exact Oj; rfl) | (apply Zn; rfl; exact Oj; exact Ent.go; rfl) | (refine St.draw (id := 3) [(0, 0), (1, 0), (2, 0), (3, 1), (4, 0), (5, 0), (6, 1), (7, 0), (8, 0), (9, 0), (10, 0), (11, 0), (12, 1), (13, 0), (14, 0), (15, 0), (16, 1), (17, 0), (18, 0), (19, 1), (20, 0), (21, 0), (22, 0), (23, 1), (24, 0), (25, 0), (26, 0)] [] mixed (by kernel_rfl) ?_)  | (apply Zo; rfl; exact Oj; exact On; all_goals (intro h; try (exfalso; omega))))
        (first | refine St.dn Tryz.func100 ⟨?_, rfl⟩ Ent.go | refine St.fl Tryz.func100 ⟨?_, rfl⟩ Ent.go)
        rfl
end Go.Proofs.YtipnljhelbjmaaaGreat
