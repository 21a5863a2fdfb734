/-
  Package pool: release, Take, Give, Settle.
-/
import Derived.Test.YtipnljhelbjmaaaGreatPo
namespace Go.Proofs.YtipnljhelbjmaaaGreat
theorem putP_len (room : Nat) (puts : List (Int × Nat)) (a : Int) (v : Nat) : puts.length ≤ (putP room puts a v).length ∧ (putP room puts a v).length ≤ puts.length + 1 := by
  unfold putP
  split
  · omega
  · rw [List.length_append]; simp
def relP (c : Cfg) (room : Nat) (nt : Int) (puts : List (Int × Nat)) (b : Nat) : Int × List (Int × Nat) :=
  if nt < c.blocks then (nt + 1, putP room (putP room puts (c.at 11 b 0) 0) (c.at 13 nt 0) b) else (nt, putP room puts (c.at 11 b 0) 0)
set_option maxRecDepth 100000 in
theorem prelease_b (Pb W room N : Nat) (lv : Value) (c : Cfg) (hc : Small c) (p : Po) (puts : List (Int × Nat)) (b : Nat) (hb : b ≤ 1000000) (ht : 0 ≤ p.nt) (hlen : puts.length + 2 ≤ 1000000000) :
    Tri Tryz.prog 63 #[.pointer (some ⟨Pb, 0, none⟩), .pointer (some ⟨W, 0, none⟩), .int .i64 (b : Int)] [bl Pb 148 (poolV c N p lv), Ws W room puts]
      fun r L => r = .tuple ⟨[]⟩ ∧ L = [bl Pb 148 (poolV c N { p with nt := (relP c room p.nt puts b).1 } lv), Ws W room (relP c room p.nt puts b).2] := by
  have htk := take_p c N p lv
  have hcf := cfg_r c
  have h11 := at_r c hc 11 b 0
  have h13 := at_r c hc 13 p.nt 0
  have hl := putP_len room puts (c.at 11 b 0) 0
  have hp1 := wput_t W room puts (c.at 11 b 0) 0 (by omega)
  have hp2 := wput_t W room (putP room puts (c.at 11 b 0) 0) (c.at 13 p.nt 0) b (by omega)
  have := hc.b0; have := hc.b1
  unfold relP
  by_cases hnt : p.nt < c.blocks
  · rw [if_pos hnt]
    dsimp only
    refine Tri.of_body (vs := [_, _, _]) Tryz.func63 rfl rfl fun w0 F => ?_
    repeat' (first | (apply Ya; exact Oa) | (apply Yb; exact Ob) | (apply Yc; exact Oc; intro b) | (apply Ye; exact Oe; intro g cap rest hcap) | (apply Yd; exact Od; intro ad cap) | (apply Yf; exact Oj) | (apply Yg; exact Oj; exact ⟨rfl, rfl⟩) | (apply Yh; exact Oj; rfl) | (apply Yi; exact Oj; exact On; all_goals (intro h; try (exfalso; omega))) | apply StL.nil | apply St.region | apply St.seq | apply St.block | apply St.inBlock | apply St.skip | (apply St.exit; rfl) | (apply St.cond_t; rfl) | (apply St.cond_f; rfl) | (apply Ud; rfl; exact On; all_goals (intro h; try (exfalso; omega))) | (apply Za; rfl; exact Oa) | (apply Zb; rfl; exact Oa; exact Ent.go) | (apply Zc; rfl; exact Ob) | (apply Zd; rfl; exact Oc; intro b; refine ⟨Ent.go, ?_⟩) | (apply Ze; rfl; exact Oc; intro b) | (apply Zf; rfl; exact Oe; intro g cap rest hcap) | (apply Zg; rfl; exact Od; intro ad cap) | apply StD.nil | exact StD.nope | apply StD.pick | (apply StD.claim; rfl; intro b) | (apply Zi; rfl; exact Oj; exact Oa) | (apply Zj; rfl; exact Oj; exact Oa; exact Ent.go) | (apply Zk; rfl; exact Oj; exact ⟨rfl, rfl⟩) | (apply Zl; rfl; exact Oj; exact ⟨rfl, rfl⟩; exact Ent.go) | (apply Zm; rfl; exact Oj; rfl) | (apply Zn; rfl; exact Oj; exact Ent.go; rfl) | (refine St.draw (id := 1) [(0, 0), (1, 0), (2, 0), (3, 0), (4, 1), (5, 0), (6, 0), (7, 0), (8, 1), (9, 1), (10, 0), (11, 0)] [] mixed (by kernel_rfl) ?_) | (refine St.draw (id := 2) [(0, 0), (1, 0), (2, 0), (3, 0), (4, 1), (5, 0), (6, 0), (7, 0), (8, 0), (9, 1), (10, 1), (11, 0), (12, 0), (13, 3)] [13] mixed (by kernel_rfl) ?_) | (apply Ka; exact Og; exact hcf; exact Oh) | (apply Kb; rfl; exact Og; exact hcf; exact Oi) | (apply Kc; rfl; exact Oj; exact Og; exact hcf; exact Oi) | (apply Ka; exact Og; exact h11; exact Oh) | (apply Kb; rfl; exact Og; exact h11; exact Oi) | (apply Kc; rfl; exact Oj; exact Og; exact h11; exact Oi) | (apply Ka; exact Og; exact h13; exact Oh) | (apply Kb; rfl; exact Og; exact h13; exact Oi) | (apply Kc; rfl; exact Oj; exact Og; exact h13; exact Oi) | (apply Kd; exact Og; exact hp1; exact Oh; rintro _ _ ⟨rfl, rfl⟩) | (apply Ke; rfl; exact Og; exact hp1; exact Oh; rintro _ _ ⟨rfl, rfl⟩) | (apply Kf; rfl; exact Og; exact hp1; exact Oh; rintro _ _ ⟨rfl, rfl⟩; refine ⟨Ent.go, ?_⟩) | (apply Kd; exact Og; exact hp2; exact Oh; rintro _ _ ⟨rfl, rfl⟩) | (apply Ke; rfl; exact Og; exact hp2; exact Oh; rintro _ _ ⟨rfl, rfl⟩) | (apply Kf; rfl; exact Og; exact hp2; exact Oh; rintro _ _ ⟨rfl, rfl⟩; refine ⟨Ent.go, ?_⟩) | (apply Zo; rfl; exact Oj; exact On; all_goals (intro h; try (exfalso; omega))))
    refine St.f1 Tryz.func63 ⟨_, ⟨rfl, rfl⟩, ?_⟩
    exact Ent.go
  · rw [if_neg hnt]
    dsimp only
    refine Tri.of_body (vs := [_, _, _]) Tryz.func63 rfl rfl fun w0 F => ?_
    repeat' (first | (apply Ya; exact Oa) | (apply Yb; exact Ob) | (apply Yc; exact Oc; intro b) | (apply Ye; exact Oe; intro g cap rest hcap) | (apply Yd; exact Od; intro ad cap) | (apply Yf; exact Oj) | (apply Yg; exact Oj; exact ⟨rfl, rfl⟩) | (apply Yh; exact Oj; rfl) | (apply Yi; exact Oj; exact On; all_goals (intro h; try (exfalso; omega))) | apply StL.nil | apply St.region | apply St.seq | apply St.block | apply St.inBlock | apply St.skip | (apply St.exit; rfl) | (apply St.cond_t; rfl) | (apply St.cond_f; rfl) | (apply Ud; rfl; exact On; all_goals (intro h; try (exfalso; omega))) | (apply Za; rfl; exact Oa) | (apply Zb; rfl; exact Oa; exact Ent.go) | (apply Zc; rfl; exact Ob) | (apply Zd; rfl; exact Oc; intro b; refine ⟨Ent.go, ?_⟩) | (apply Ze; rfl; exact Oc; intro b) | (apply Zf; rfl; exact Oe; intro g cap rest hcap) | (apply Zg; rfl; exact Od; intro ad cap) | apply StD.nil | exact StD.nope | apply StD.pick | (apply StD.claim; rfl; intro b) | (apply Zi; rfl; exact Oj; exact Oa) | (apply Zj; rfl; exact Oj; exact Oa; exact Ent.go) | (apply Zk; rfl; exact Oj; exact ⟨rfl, rfl⟩) | (apply Zl; rfl; exact Oj; exact ⟨rfl, rfl⟩; exact Ent.go) | (apply Zm; rfl; exact Oj; rfl) | (apply Zn; rfl; exact Oj; exact Ent.go; rfl) | (refine St.draw (id := 1) [(0, 0), (1, 0), (2, 0), (3, 0), (4, 1), (5, 0), (6, 0), (7, 0), (8, 1), (9, 1), (10, 0), (11, 0)] [] mixed (by kernel_rfl) ?_) | (refine St.draw (id := 2) [(0, 0), (1, 0), (2, 0), (3, 0), (4, 1), (5, 0), (6, 0), (7, 0), (8, 0), (9, 1), (10, 1), (11, 0), (12, 0), (13, 3)] [13] mixed (by kernel_rfl) ?_) | (apply Ka; exact Og; exact hcf; exact Oh) | (apply Kb; rfl; exact Og; exact hcf; exact Oi) | (apply Kc; rfl; exact Oj; exact Og; exact hcf; exact Oi) | (apply Ka; exact Og; exact h11; exact Oh) | (apply Kb; rfl; exact Og; exact h11; exact Oi) | (apply Kc; rfl; exact Oj; exact Og; exact h11; exact Oi) | (apply Ka; exact Og; exact h13; exact Oh) | (apply Kb; rfl; exact Og; exact h13; exact Oi) | (apply Kc; rfl; exact Oj; exact Og; exact h13; exact Oi) | (apply Kd; exact Og; exact hp1; exact Oh; rintro _ _ ⟨rfl, rfl⟩) | (apply Ke; rfl; exact Og; exact hp1; exact Oh; rintro _ _ ⟨rfl, rfl⟩) | (apply Kf; rfl; exact Og; exact hp1; exact Oh; rintro _ _ ⟨rfl, rfl⟩; refine ⟨Ent.go, ?_⟩) | (apply Zo; rfl; exact Oj; exact On; all_goals (intro h; try (exfalso; omega))))
    refine St.f1 Tryz.func63 ⟨_, ⟨rfl, rfl⟩, ?_⟩
    exact Ent.go
def takeN (c : Cfg) (room : Nat) (puts : List (Int × Nat)) (b : Nat) : Nat → List (Int × Nat)
  | 0 => putP room puts (c.at 11 b 0) 1
  | k + 1 => putP room (takeN c room puts b k) (c.at 16 b k) 0
theorem takeN_len (c : Cfg) (room : Nat) (puts : List (Int × Nat)) (b : Nat) : ∀ k, puts.length ≤ (takeN c room puts b k).length ∧ (takeN c room puts b k).length ≤ puts.length + k + 1
  | 0 => putP_len ..
  | k + 1 => by
    have := takeN_len c room puts b k
    have := putP_len room (takeN c room puts b k) (c.at 16 b k) 0
    simp only [takeN]; omega
def takeP (c : Cfg) (room : Nat) (nt : Int) (puts : List (Int × Nat)) (b : Nat) : Int × List (Int × Nat) := if nt = 0 ∨ c.at 11 b 0 = -1 then (nt, puts) else (nt - 1, takeN c room puts b 8)
set_option maxRecDepth 100000 in
theorem ptake_tE (Pb W room : Nat) (c : Cfg) (hc : Small c) (p : Po) (puts : List (Int × Nat)) (b : Nat) (hlen : puts.length + 9 ≤ 1000000000) (ht : 0 ≤ p.nt ∧ p.nt ≤ 1000000) :
    Tri Tryz.prog 157 #[.pointer (some ⟨Pb, 0, none⟩), .pointer (some ⟨W, 0, none⟩), .int .i64 (b : Int)] [PlE Pb c p, Ws W room puts]
      fun r L => r = .tuple ⟨[]⟩ ∧ L = [PlE Pb c { p with nt := (takeP c room p.nt puts b).1 }, Ws W room (takeP c room p.nt puts b).2] := by
  refine Tri.ex_out fun x => ?_
  have htk := take_p c x.N p (.slice x.lad p.limbo.length x.lcap)
  have htk2 := take_p c x.N { p with nt := p.nt - 1 } (.slice x.lad p.limbo.length x.lcap)
  have h11 := at_r c hc 11 b 0
  have hp1 := wput_t W room puts (c.at 11 b 0) 1 (by omega)
  unfold takeP
  by_cases hno : p.nt = 0 ∨ c.at 11 b 0 = -1
  · rw [if_pos hno]
    refine Tri.of_body (vs := [_, _, _]) Tryz.func157 rfl rfl fun w0 F => ?_
    repeat' (first | (apply Ya; exact Oa) | (apply Yb; exact Ob) | (apply Yc; exact Oc; intro b) | (apply Ye; exact Oe; intro g cap rest hcap) | (apply Yd; exact Od; intro ad cap) | (apply Yf; exact Oj) | (apply Yg; exact Oj; exact ⟨rfl, rfl⟩) | (apply Yh; exact Oj; rfl) | (apply Yi; exact Oj; exact On; all_goals (intro h; try (exfalso; omega))) | apply StL.nil | apply St.region | apply St.seq | apply St.block | apply St.inBlock | apply St.skip | (apply St.exit; rfl) | (apply St.cond_t; rfl) | (apply St.cond_f; rfl) | (apply Ud; rfl; exact On; all_goals (intro h; try (exfalso; omega))) | (apply Za; rfl; exact Oa) | (apply Zb; rfl; exact Oa; exact Ent.go) | (apply Zc; rfl; exact Ob) | (apply Zd; rfl; exact Oc; intro b; refine ⟨Ent.go, ?_⟩) | (apply Ze; rfl; exact Oc; intro b) | (apply Zf; rfl; exact Oe; intro g cap rest hcap) | (apply Zg; rfl; exact Od; intro ad cap) | apply StD.nil | exact StD.nope | apply StD.pick | (apply StD.claim; rfl; intro b) | (apply Zi; rfl; exact Oj; exact Oa) | (apply Zj; rfl; exact Oj; exact Oa; exact Ent.go) | (apply Zk; rfl; exact Oj; exact ⟨rfl, rfl⟩) | (apply Zl; rfl; exact Oj; exact ⟨rfl, rfl⟩; exact Ent.go) | (apply Zm; rfl; exact Oj; rfl) | (apply Zn; rfl; exact Oj; exact Ent.go; rfl)  | (apply Ka; exact Og; exact h11; exact Oh) | (apply Kb; rfl; exact Og; exact h11; exact Oi) | (apply Kc; rfl; exact Oj; exact Og; exact h11; exact Oi) | (apply Zo; rfl; exact Oj; exact On; all_goals (intro h; try (exfalso; omega))))
    all_goals
      refine St.d1 Tryz.func157 ⟨_, ⟨rfl, rfl⟩, ?_⟩
      exact Ent.trans Ent.go (Ent.ex_in (Ls := plL Pb c { p with nt := p.nt }) x)
  · rw [if_neg hno]
    dsimp only
    refine Tri.of_body (vs := [_, _, _]) Tryz.func157 rfl rfl fun w0 F => ?_
    repeat' (first | (apply Ya; exact Oa) | (apply Yb; exact Ob) | (apply Yc; exact Oc; intro b) | (apply Ye; exact Oe; intro g cap rest hcap) | (apply Yd; exact Od; intro ad cap) | (apply Yf; exact Oj) | (apply Yg; exact Oj; exact ⟨rfl, rfl⟩) | (apply Yh; exact Oj; rfl) | (apply Yi; exact Oj; exact On; all_goals (intro h; try (exfalso; omega))) | apply StL.nil | apply St.region | apply St.seq | apply St.block | apply St.inBlock | apply St.skip | (apply St.exit; rfl) | (apply St.cond_t; rfl) | (apply St.cond_f; rfl) | (apply Ud; rfl; exact On; all_goals (intro h; try (exfalso; omega))) | (apply Za; rfl; exact Oa) | (apply Zb; rfl; exact Oa; exact Ent.go) | (apply Zc; rfl; exact Ob) | (apply Zd; rfl; exact Oc; intro b; refine ⟨Ent.go, ?_⟩) | (apply Ze; rfl; exact Oc; intro b) | (apply Zf; rfl; exact Oe; intro g cap rest hcap) | (apply Zg; rfl; exact Od; intro ad cap) | apply StD.nil | exact StD.nope | apply StD.pick | (apply StD.claim; rfl; intro b) | (apply Zi; rfl; exact Oj; exact Oa) | (apply Zj; rfl; exact Oj; exact Oa; exact Ent.go) | (apply Zk; rfl; exact Oj; exact ⟨rfl, rfl⟩) | (apply Zl; rfl; exact Oj; exact ⟨rfl, rfl⟩; exact Ent.go) | (apply Zm; rfl; exact Oj; rfl) | (apply Zn; rfl; exact Oj; exact Ent.go; rfl)  | (apply Ka; exact Og; exact h11; exact Oh) | (apply Kb; rfl; exact Og; exact h11; exact Oi) | (apply Kc; rfl; exact Oj; exact Og; exact h11; exact Oi) | (apply Kd; exact Og; exact hp1; exact Oh; rintro _ _ ⟨rfl, rfl⟩) | (apply Ke; rfl; exact Og; exact hp1; exact Oh; rintro _ _ ⟨rfl, rfl⟩) | (apply Kf; rfl; exact Og; exact hp1; exact Oh; rintro _ _ ⟨rfl, rfl⟩; refine ⟨Ent.go, ?_⟩) | (apply Zo; rfl; exact Oj; exact On; all_goals (intro h; try (exfalso; omega))))
    refine St.loopX (Lr := ?Lr) (ι := { k : Nat // k ≤ 8 }) (fun k => 8 - k.1) (fun k => [(39, .int .i64 (k.1 : Int))]) (fun k => [Ws W room (takeN c room puts b k.1)]) ⟨0, Nat.zero_le _⟩ ?hE ?hL ?round
    case hE => exact Sub.go
    case hL => exact Ent.go
    case round =>
      rintro ⟨k, hk⟩ IH; dsimp only at hk ⊢
      by_cases hlt : k < 8
      · have hk1 : k + 1 ≤ 8 := hlt
        have hk2 : 8 - (k + 1) < 8 - k := by omega
        have hkl := takeN_len c room puts b k
        have h16 := at_r c hc 16 b k
        have hp2 := wput_t W room (takeN c room puts b k) (c.at 16 b k) 0 (by omega)
        repeat' (first | (apply Ya; exact Oa) | (apply Yb; exact Ob) | (apply Yc; exact Oc; intro b) | (apply Ye; exact Oe; intro g cap rest hcap) | (apply Yd; exact Od; intro ad cap) | (apply Yf; exact Oj) | (apply Yg; exact Oj; exact ⟨rfl, rfl⟩) | (apply Yh; exact Oj; rfl) | (apply Yi; exact Oj; exact On; all_goals (intro h; try (exfalso; omega))) | apply StL.nil | apply St.region | apply St.seq | apply St.block | apply St.inBlock | apply St.skip | (apply St.exit; rfl) | (apply St.cond_t; rfl) | (apply St.cond_f; rfl) | (apply Ud; rfl; exact On; all_goals (intro h; try (exfalso; omega))) | (apply Za; rfl; exact Oa) | (apply Zb; rfl; exact Oa; exact Ent.go) | (apply Zc; rfl; exact Ob) | (apply Zd; rfl; exact Oc; intro b; refine ⟨Ent.go, ?_⟩) | (apply Ze; rfl; exact Oc; intro b) | (apply Zf; rfl; exact Oe; intro g cap rest hcap) | (apply Zg; rfl; exact Od; intro ad cap) | apply StD.nil | exact StD.nope | apply StD.pick | (apply StD.claim; rfl; intro b) | (apply Zi; rfl; exact Oj; exact Oa) | (apply Zj; rfl; exact Oj; exact Oa; exact Ent.go) | (apply Zk; rfl; exact Oj; exact ⟨rfl, rfl⟩) | (apply Zl; rfl; exact Oj; exact ⟨rfl, rfl⟩; exact Ent.go) | (apply Zm; rfl; exact Oj; rfl) | (apply Zn; rfl; exact Oj; exact Ent.go; rfl)  | (apply Ka; exact Og; exact h16; exact Oh) | (apply Kb; rfl; exact Og; exact h16; exact Oi) | (apply Kc; rfl; exact Oj; exact Og; exact h16; exact Oi) | (apply Kd; exact Og; exact hp2; exact Oh; rintro _ _ ⟨rfl, rfl⟩) | (apply Ke; rfl; exact Og; exact hp2; exact Oh; rintro _ _ ⟨rfl, rfl⟩) | (apply Kf; rfl; exact Og; exact hp2; exact Oh; rintro _ _ ⟨rfl, rfl⟩; refine ⟨Ent.go, ?_⟩) | (apply Zo; rfl; exact Oj; exact On; all_goals (intro h; try (exfalso; omega))))
        refine IH ⟨k + 1, hk1⟩ hk2 ?_ ?_
        · exact Sub.go
        · exact Ent.go
      · obtain rfl : k = 8 := by omega
        clear IH
        repeat' (first | (apply Ya; exact Oa) | (apply Yb; exact Ob) | (apply Yc; exact Oc; intro b) | (apply Ye; exact Oe; intro g cap rest hcap) | (apply Yd; exact Od; intro ad cap) | (apply Yf; exact Oj) | (apply Yg; exact Oj; exact ⟨rfl, rfl⟩) | (apply Yh; exact Oj; rfl) | (apply Yi; exact Oj; exact On; all_goals (intro h; try (exfalso; omega))) | apply StL.nil | apply St.region | apply St.seq | apply St.block | apply St.inBlock | apply St.skip | (apply St.exit; rfl) | (apply St.cond_t; rfl) | (apply St.cond_f; rfl) | (apply Ud; rfl; exact On; all_goals (intro h; try (exfalso; omega))) | (apply Za; rfl; exact Oa) | (apply Zb; rfl; exact Oa; exact Ent.go) | (apply Zc; rfl; exact Ob) | (apply Zd; rfl; exact Oc; intro b; refine ⟨Ent.go, ?_⟩) | (apply Ze; rfl; exact Oc; intro b) | (apply Zf; rfl; exact Oe; intro g cap rest hcap) | (apply Zg; rfl; exact Od; intro ad cap) | apply StD.nil | exact StD.nope | apply StD.pick | (apply StD.claim; rfl; intro b) | (apply Zi; rfl; exact Oj; exact Oa) | (apply Zj; rfl; exact Oj; exact Oa; exact Ent.go) | (apply Zk; rfl; exact Oj; exact ⟨rfl, rfl⟩) | (apply Zl; rfl; exact Oj; exact ⟨rfl, rfl⟩; exact Ent.go) | (apply Zm; rfl; exact Oj; rfl) | (apply Zn; rfl; exact Oj; exact Ent.go; rfl)   | (apply Zo; rfl; exact Oj; exact On; all_goals (intro h; try (exfalso; omega))))
        refine St.f1 Tryz.func157 ⟨_, ⟨rfl, rfl⟩, ?_⟩
        exact Ent.trans Ent.go (Ent.ex_in (Ls := plL Pb c { p with nt := p.nt - 1 }) x)
def giveP (c : Cfg) (room : Nat) (nl : Int) (puts : List (Int × Nat)) (b : Nat) : Int × List (Int × Nat) :=
  if c.limit ≤ nl ∨ c.at 11 b 0 = -1 then (nl, puts) else (nl + 1, putP room (putP room puts (c.at 11 b 0) 2) (c.at 15 nl 0) b)
set_option maxRecDepth 100000 in
theorem pgive_tE (Pb W room : Nat) (c : Cfg) (hc : Small c) (p : Po) (puts : List (Int × Nat)) (b : Nat) (hlen : puts.length + 2 ≤ 1000000000) (ht : 0 ≤ p.nl) :
    Tri Tryz.prog 133 #[.pointer (some ⟨Pb, 0, none⟩), .pointer (some ⟨W, 0, none⟩), .int .i64 (b : Int)] [PlE Pb c p, Ws W room puts]
      fun r L => r = .tuple ⟨[]⟩ ∧ L = [PlE Pb c { p with nl := (giveP c room p.nl puts b).1 }, Ws W room (giveP c room p.nl puts b).2] := by
  refine Tri.ex_out fun x => ?_
  have htk := take_p c x.N p (.slice x.lad p.limbo.length x.lcap)
  have hlm := limit_r c hc c.fr
  have h11 := at_r c hc 11 b 0
  have h15 := at_r c hc 15 p.nl 0
  have hl := putP_len room puts (c.at 11 b 0) 2
  have hp1 := wput_t W room puts (c.at 11 b 0) 2 (by omega)
  have hp2 := wput_t W room (putP room puts (c.at 11 b 0) 2) (c.at 15 p.nl 0) b (by omega)
  have := hc.limit
  unfold giveP
  by_cases hno : c.limit ≤ p.nl ∨ c.at 11 b 0 = -1
  · rw [if_pos hno]
    refine Tri.of_body (vs := [_, _, _]) Tryz.func133 rfl rfl fun w0 F => ?_
    repeat' (first | (apply Ya; exact Oa) | (apply Yb; exact Ob) | (apply Yc; exact Oc; intro b) | (apply Ye; exact Oe; intro g cap rest hcap) | (apply Yd; exact Od; intro ad cap) | (apply Yf; exact Oj) | (apply Yg; exact Oj; exact ⟨rfl, rfl⟩) | (apply Yh; exact Oj; rfl) | (apply Yi; exact Oj; exact On; all_goals (intro h; try (exfalso; omega))) | apply StL.nil | apply St.region | apply St.seq | apply St.block | apply St.inBlock | apply St.skip | (apply St.exit; rfl) | (apply St.cond_t; rfl) | (apply St.cond_f; rfl) | (apply Ud; rfl; exact On; all_goals (intro h; try (exfalso; omega))) | (apply Za; rfl; exact Oa) | (apply Zb; rfl; exact Oa; exact Ent.go) | (apply Zc; rfl; exact Ob) | (apply Zd; rfl; exact Oc; intro b; refine ⟨Ent.go, ?_⟩) | (apply Ze; rfl; exact Oc; intro b) | (apply Zf; rfl; exact Oe; intro g cap rest hcap) | (apply Zg; rfl; exact Od; intro ad cap) | apply StD.nil | exact StD.nope | apply StD.pick | (apply StD.claim; rfl; intro b) | (apply Zi; rfl; exact Oj; exact Oa) | (apply Zj; rfl; exact Oj; exact Oa; exact Ent.go) | (apply Zk; rfl; exact Oj; exact ⟨rfl, rfl⟩) | (apply Zl; rfl; exact Oj; exact ⟨rfl, rfl⟩; exact Ent.go) | (apply Zm; rfl; exact Oj; rfl) | (apply Zn; rfl; exact Oj; exact Ent.go; rfl) | (refine St.draw (id := 0) [(0, 0), (1, 0), (2, 0), (3, 0), (4, 1), (5, 0), (6, 0), (7, 0), (8, 1), (9, 1), (10, 0), (11, 0), (12, 0), (13, 0), (14, 0), (15, 1), (16, 0), (17, 1), (18, 0), (19, 0)] [] mixed (by kernel_rfl) ?_) | (refine St.draw (id := 2) [(0, 0), (1, 0), (2, 0), (3, 0), (4, 1), (5, 0), (6, 0), (7, 0), (8, 0), (9, 1), (10, 1), (11, 0), (12, 0), (13, 3)] [13] mixed (by kernel_rfl) ?_) | (apply Ka; exact Og; exact h11; exact Oh) | (apply Kb; rfl; exact Og; exact h11; exact Oi) | (apply Kc; rfl; exact Oj; exact Og; exact h11; exact Oi) | (apply Ka; exact Og; exact hlm; exact Oh) | (apply Kb; rfl; exact Og; exact hlm; exact Oi) | (apply Kc; rfl; exact Oj; exact Og; exact hlm; exact Oi) | (apply Zo; rfl; exact Oj; exact On; all_goals (intro h; try (exfalso; omega))))
    all_goals
      refine St.d1 Tryz.func133 ⟨_, ⟨rfl, rfl⟩, ?_⟩
      exact Ent.trans Ent.go (Ent.ex_in (Ls := plL Pb c { p with nl := p.nl }) x)
  · rw [if_neg hno]
    have hb63 : (b : Int) ≤ 9223372036854775807 := by
      have : (b : Int) < c.blocks := by
        refine Decidable.by_contra fun h => hno (.inr ?_)
        unfold Cfg.at
        rw [if_neg]
        rintro ⟨_, h2, _⟩
        exact h h2
      have := hc.b1
      omega
    refine Tri.of_body (vs := [_, _, _]) Tryz.func133 rfl rfl fun w0 F => ?_
    repeat' (first | (apply Ya; exact Oa) | (apply Yb; exact Ob) | (apply Yc; exact Oc; intro b) | (apply Ye; exact Oe; intro g cap rest hcap) | (apply Yd; exact Od; intro ad cap) | (apply Yf; exact Oj) | (apply Yg; exact Oj; exact ⟨rfl, rfl⟩) | (apply Yh; exact Oj; rfl) | (apply Yi; exact Oj; exact On; all_goals (intro h; try (exfalso; omega))) | apply StL.nil | apply St.region | apply St.seq | apply St.block | apply St.inBlock | apply St.skip | (apply St.exit; rfl) | (apply St.cond_t; rfl) | (apply St.cond_f; rfl) | (apply Ud; rfl; exact On; all_goals (intro h; try (exfalso; omega))) | (apply Za; rfl; exact Oa) | (apply Zb; rfl; exact Oa; exact Ent.go) | (apply Zc; rfl; exact Ob) | (apply Zd; rfl; exact Oc; intro b; refine ⟨Ent.go, ?_⟩) | (apply Ze; rfl; exact Oc; intro b) | (apply Zf; rfl; exact Oe; intro g cap rest hcap) | (apply Zg; rfl; exact Od; intro ad cap) | apply StD.nil | exact StD.nope | apply StD.pick | (apply StD.claim; rfl; intro b) | (apply Zi; rfl; exact Oj; exact Oa) | (apply Zj; rfl; exact Oj; exact Oa; exact Ent.go) | (apply Zk; rfl; exact Oj; exact ⟨rfl, rfl⟩) | (apply Zl; rfl; exact Oj; exact ⟨rfl, rfl⟩; exact Ent.go) | (apply Zm; rfl; exact Oj; rfl) | (apply Zn; rfl; exact Oj; exact Ent.go; rfl) | (refine St.draw (id := 0) [(0, 0), (1, 0), (2, 0), (3, 0), (4, 1), (5, 0), (6, 0), (7, 0), (8, 1), (9, 1), (10, 0), (11, 0), (12, 0), (13, 0), (14, 0), (15, 1), (16, 0), (17, 1), (18, 0), (19, 0)] [] mixed (by kernel_rfl) ?_) | (refine St.draw (id := 2) [(0, 0), (1, 0), (2, 0), (3, 0), (4, 1), (5, 0), (6, 0), (7, 0), (8, 0), (9, 1), (10, 1), (11, 0), (12, 0), (13, 3)] [13] mixed (by kernel_rfl) ?_) | (apply Ka; exact Og; exact h11; exact Oh) | (apply Kb; rfl; exact Og; exact h11; exact Oi) | (apply Kc; rfl; exact Oj; exact Og; exact h11; exact Oi) | (apply Ka; exact Og; exact hlm; exact Oh) | (apply Kb; rfl; exact Og; exact hlm; exact Oi) | (apply Kc; rfl; exact Oj; exact Og; exact hlm; exact Oi) | (apply Ka; exact Og; exact h15; exact Oh) | (apply Kb; rfl; exact Og; exact h15; exact Oi) | (apply Kc; rfl; exact Oj; exact Og; exact h15; exact Oi) | (apply Kd; exact Og; exact hp1; exact Oh; rintro _ _ ⟨rfl, rfl⟩) | (apply Ke; rfl; exact Og; exact hp1; exact Oh; rintro _ _ ⟨rfl, rfl⟩) | (apply Kf; rfl; exact Og; exact hp1; exact Oh; rintro _ _ ⟨rfl, rfl⟩; refine ⟨Ent.go, ?_⟩) | (apply Kd; exact Og; exact hp2; exact Oh; rintro _ _ ⟨rfl, rfl⟩) | (apply Ke; rfl; exact Og; exact hp2; exact Oh; rintro _ _ ⟨rfl, rfl⟩) | (apply Kf; rfl; exact Og; exact hp2; exact Oh; rintro _ _ ⟨rfl, rfl⟩; refine ⟨Ent.go, ?_⟩) | (apply Zo; rfl; exact Oj; exact On; all_goals (intro h; try (exfalso; omega))))
    refine St.f1 Tryz.func133 ⟨_, ⟨rfl, rfl⟩, ?_⟩
    exact Ent.trans Ent.go (Ent.ex_in (Ls := plL Pb c { p with nl := p.nl + 1 }) x)
structure SetS where
  kept : Nat
  nt : Int
  puts : List (Int × Nat)
def setStep (c : Cfg) (room : Nat) (names : List Nat) (k : Nat) (b : Nat) (s : SetS) : SetS :=
  if c.blocks ≤ (b : Int) then s else if cnt names ((b : Int) + 1) = 0 then ⟨s.kept, (relP c room s.nt s.puts b).1, (relP c room s.nt s.puts b).2⟩ else
  ⟨s.kept + 1, s.nt, if s.kept ≠ k then putP room s.puts (c.at 15 s.kept 0) b else s.puts⟩
def setGo (c : Cfg) (room : Nat) (names : List Nat) : Nat → List Nat → SetS → SetS
  | _, [], s => s
  | k, b :: l, s => setGo c room names (k + 1) l (setStep c room names k b s)
theorem relP_len (c : Cfg) (room : Nat) (nt : Int) (puts : List (Int × Nat)) (b : Nat) : puts.length ≤ (relP c room nt puts b).2.length ∧ (relP c room nt puts b).2.length ≤ puts.length + 2 := by
  have h1 := putP_len room puts (c.at 11 b 0) 0
  have h2 := putP_len room (putP room puts (c.at 11 b 0) 0) (c.at 13 nt 0) b
  unfold relP
  split
  · dsimp only; omega
  · dsimp only; omega
theorem setStep_len (c : Cfg) (room : Nat) (names : List Nat) (k b : Nat) (s : SetS) : s.puts.length ≤ (setStep c room names k b s).puts.length ∧ (setStep c room names k b s).puts.length ≤ s.puts.length + 2 ∧ (setStep c room names k b s).kept ≤ s.kept + 1 := by
  unfold setStep
  split
  · omega
  · split
    · have := relP_len c room s.nt s.puts b
      dsimp only; omega
    · have := putP_len room s.puts (c.at 15 s.kept 0) b
      dsimp only
      split <;> omega
end Go.Proofs.YtipnljhelbjmaaaGreat
