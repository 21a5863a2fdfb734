/-
  Package wset: All.
-/
import Derived.Test.YtipnljhelbjmaaaGreatWsc
namespace Go.Proofs.YtipnljhelbjmaaaGreat
set_option maxRecDepth 100000 in
theorem clone_ent (v : Value) (n : Nat) (xs : List Value) (h1 : xs.all one = true) (hn : n ≤ 1000000000) : Tri Tryz.prog 117 #[v] [Row v 111 2 n xs]
    fun r L => ∃ ad cap, r = .slice ad n cap ∧ L = [Row v 111 2 n xs, Row (.slice ad n cap) 111 2 n xs] := by
  refine Tri.of_body (vs := [_]) Tryz.func117 rfl rfl fun w0 F => ?_
  refine St.rowC (fun hv h0 hx => ?_) (fun g cap rest hv hrf => ?_)
  · subst hv h0 hx
    repeat' (first | (apply Ya; exact Oa) | (apply Yb; exact Ob) | (apply Yc; exact Oc; intro b) | (apply Ye; exact Oe; intro g cap rest hcap) | (apply Yd; exact Od; intro ad cap) | (apply Yf; exact Oj) | (apply Yg; exact Oj; exact ⟨rfl, rfl⟩) | (apply Yh; exact Oj; rfl) | (apply Yi; exact Oj; exact On; all_goals (intro h; try (exfalso; omega))) | apply StL.nil | apply St.region | apply St.seq | apply St.block | apply St.inBlock | apply St.skip | (apply St.exit; rfl) | (apply St.cond_t; rfl) | (apply St.cond_f; rfl) | (apply Ud; rfl; exact On; all_goals (intro h; try (exfalso; omega))) | (apply Za; rfl; exact Oa) | (apply Zb; rfl; exact Oa; exact Ent.go) | (apply Zc; rfl; exact Ob) | (apply Zd; rfl; exact Oc; intro b; refine ⟨Ent.go, ?_⟩) | (apply Ze; rfl; exact Oc; intro b) | (apply Zf; rfl; exact Oe; intro g cap rest hcap) | (apply Zg; rfl; exact Od; intro ad cap) | apply StD.nil | exact StD.nope | apply StD.pick | (apply StD.claim; rfl; intro b) | (apply Zi; rfl; exact Oj; exact Oa) | (apply Zj; rfl; exact Oj; exact Oa; exact Ent.go) | (apply Zk; rfl; exact Oj; exact ⟨rfl, rfl⟩) | (apply Zl; rfl; exact Oj; exact ⟨rfl, rfl⟩; exact Ent.go) | (apply Zm; rfl; exact Oj; rfl) | (apply Zn; rfl; exact Oj; exact Ent.go; rfl)   | (apply Zo; rfl; exact Oj; exact On; all_goals (intro h; try (exfalso; omega))))
    refine St.d1 Tryz.func117 ⟨_, ⟨none, 0, rfl, rfl⟩, ?_⟩
    exact Ent.trans (Ent.row_nil 111 2) (Ent.trans (Ent.row_nil 111 2) Ent.go)
  · subst hv
    have htk : TakeN (n * 2) (xs ++ rest) xs := by rw [← hrf.len]; exact TakeN.app _ _
    repeat' (first | (apply Ya; exact Oa) | (apply Yb; exact Ob) | (apply Yc; exact Oc; intro b) | (apply Ye; exact Oe; intro g cap rest hcap) | (apply Yd; exact Od; intro ad cap) | (apply Yf; exact Oj) | (apply Yg; exact Oj; exact ⟨rfl, rfl⟩) | (apply Yh; exact Oj; rfl) | (apply Yi; exact Oj; exact On; all_goals (intro h; try (exfalso; omega))) | apply StL.nil | apply St.region | apply St.seq | apply St.block | apply St.inBlock | apply St.skip | (apply St.exit; rfl) | (apply St.cond_t; rfl) | (apply St.cond_f; rfl) | (apply Ud; rfl; exact On; all_goals (intro h; try (exfalso; omega))) | (apply Za; rfl; exact Oa) | (apply Zb; rfl; exact Oa; exact Ent.go) | (apply Zc; rfl; exact Ob) | (apply Zd; rfl; exact Oc; intro b; refine ⟨Ent.go, ?_⟩) | (apply Ze; rfl; exact Oc; intro b) | (apply Zf; rfl; exact Oe; intro g cap rest hcap) | (apply Zg; rfl; exact Od; intro ad cap) | apply StD.nil | exact StD.nope | apply StD.pick | (apply StD.claim; rfl; intro b) | (apply Zi; rfl; exact Oj; exact Oa) | (apply Zj; rfl; exact Oj; exact Oa; exact Ent.go) | (apply Zk; rfl; exact Oj; exact ⟨rfl, rfl⟩) | (apply Zl; rfl; exact Oj; exact ⟨rfl, rfl⟩; exact Ent.go) | (apply Zm; rfl; exact Oj; rfl) | (apply Zn; rfl; exact Oj; exact Ent.go; rfl)   | (apply Zo; rfl; exact Oj; exact On; all_goals (intro h; try (exfalso; omega))))
    refine St.d1 Tryz.func117 ⟨_, ⟨_, _, rfl, rfl⟩, ?_⟩
    refine Ent.trans (Ent.of_take (p := bl g 111 (xs ++ rest)) Take.go) (Ent.trans (Ent.rowF hrf) Ent.go)
set_option maxRecDepth 100000 in
theorem wallE_t (W room : Nat) (puts : List (Int × Nat)) : Tri Tryz.prog 75 #[.pointer (some ⟨W, 0, none⟩)] [WsE W room puts]
    fun r L => ∃ ad cap, r = .slice ad (allP puts).length cap ∧ L = [WsE W room puts, Row (.slice ad (allP puts).length cap) 111 2 (allP puts).length ((allP puts).flatMap entV)] := by
  refine Tri.ex_out fun x => ?_
  have hm := x.hm
  have hr := x.hr
  have hcl := clone_ent (.slice x.lad (allP puts).length x.lcap) (allP puts).length _ (entV_one (allP puts)) (by omega)
  refine Tri.of_body (vs := [_]) Tryz.func75 rfl rfl fun w0 F => ?_
  repeat' (first | (apply Ya; exact Oa) | (apply Yb; exact Ob) | (apply Yc; exact Oc; intro b) | (apply Ye; exact Oe; intro g cap rest hcap) | (apply Yd; exact Od; intro ad cap) | (apply Yf; exact Oj) | (apply Yg; exact Oj; exact ⟨rfl, rfl⟩) | (apply Yh; exact Oj; rfl) | (apply Yi; exact Oj; exact On; all_goals (intro h; try (exfalso; omega))) | apply StL.nil | apply St.region | apply St.seq | apply St.block | apply St.inBlock | apply St.skip | (apply St.exit; rfl) | (apply St.cond_t; rfl) | (apply St.cond_f; rfl) | (apply Ud; rfl; exact On; all_goals (intro h; try (exfalso; omega))) | (apply Za; rfl; exact Oa) | (apply Zb; rfl; exact Oa; exact Ent.go) | (apply Zc; rfl; exact Ob) | (apply Zd; rfl; exact Oc; intro b; refine ⟨Ent.go, ?_⟩) | (apply Ze; rfl; exact Oc; intro b) | (apply Zf; rfl; exact Oe; intro g cap rest hcap) | (apply Zg; rfl; exact Od; intro ad cap) | apply StD.nil | exact StD.nope | apply StD.pick | (apply StD.claim; rfl; intro b) | (apply Zi; rfl; exact Oj; exact Oa) | (apply Zj; rfl; exact Oj; exact Oa; exact Ent.go) | (apply Zk; rfl; exact Oj; exact ⟨rfl, rfl⟩) | (apply Zl; rfl; exact Oj; exact ⟨rfl, rfl⟩; exact Ent.go) | (apply Zm; rfl; exact Oj; rfl) | (apply Zn; rfl; exact Oj; exact Ent.go; rfl)   | (apply Kd; exact Og; exact hcl; exact Oh; rintro _ _ ⟨ad, cap, rfl, rfl⟩) | (apply Ke; rfl; exact Og; exact hcl; exact Oh; rintro _ _ ⟨ad, cap, rfl, rfl⟩) | (apply Kf; rfl; exact Og; exact hcl; exact Oh; rintro _ _ ⟨ad, cap, rfl, rfl⟩; refine ⟨Ent.go, ?_⟩) | (apply Zo; rfl; exact Oj; exact On; all_goals (intro h; try (exfalso; omega))))
  refine St.d1 Tryz.func75 ⟨_, ⟨_, _, rfl, rfl⟩, ?_⟩
  exact Ent.trans Ent.go (Ent.ex_in (Ls := wsL W room puts) x)
/-- a set's memory -/
def Ws (W room : Nat) (puts : List (Int × Nat)) : HProp := WsE W room puts
theorem wnew_t (room : Nat) (hr : room ≤ 65536) : Tri Tryz.prog 13 #[.int .i64 (room : Int)] [] fun v L => ∃ W, v = .pointer (some ⟨W, 0, none⟩) ∧ L = [Ws W room []] := wnewE_t room hr
theorem wget_r (W room : Nat) (puts : List (Int × Nat)) (a : Int) : RTri Tryz.prog 53 #[.pointer (some ⟨W, 0, none⟩), .int .i64 a] [Ws W room puts] (.tuple ⟨[.int .u64 (((mget (allP puts) a).getD 0 : Nat) : Int), .bool (mget (allP puts) a).isSome]⟩) := wgetE_r W room puts a
theorem wmark_r (W room : Nat) (puts : List (Int × Nat)) : RTri Tryz.prog 67 #[.pointer (some ⟨W, 0, none⟩)] [Ws W room puts] (.int .i64 (puts.length : Int)) := wmarkE_r W room puts
theorem wput_t (W room : Nat) (puts : List (Int × Nat)) (a : Int) (v : Nat) (hlen : puts.length ≤ 1000000000) : Tri Tryz.prog 64 #[.pointer (some ⟨W, 0, none⟩), .int .i64 a, .int .u64 (v : Int)] [Ws W room puts] fun r L => r = .int .i64 (putR room puts a) ∧ L = [Ws W room (putP room puts a v)] := wputE_t W room puts a v hlen
theorem wback_t (W room mark : Nat) (puts : List (Int × Nat)) (hm : mark ≤ puts.length) (hlen : puts.length ≤ 1000000000) : Tri Tryz.prog 107 #[.pointer (some ⟨W, 0, none⟩), .int .i64 (mark : Int)] [Ws W room puts] fun r L => r = .bool true ∧ L = [Ws W room (puts.take mark)] := wbackE_t W room mark puts hm hlen
theorem wall_t (W room : Nat) (puts : List (Int × Nat)) : Tri Tryz.prog 75 #[.pointer (some ⟨W, 0, none⟩)] [Ws W room puts]
    fun r L => ∃ ad cap, r = .slice ad (allP puts).length cap ∧ L = [Ws W room puts, Row (.slice ad (allP puts).length cap) 111 2 (allP puts).length ((allP puts).flatMap entV)] := wallE_t W room puts
attribute [irreducible] Ws
end Go.Proofs.YtipnljhelbjmaaaGreat
