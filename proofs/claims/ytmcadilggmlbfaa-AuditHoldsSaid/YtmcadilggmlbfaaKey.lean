/-
  maps.Keys, slices.Collect at maps keyed by uint64.
-/
import Derived.Test.YtmcadilggmlbfaaTy
namespace Go.Proofs.Ytmcadilggmlbfaa
set_option maxRecDepth 100000
def nat64 (n : Nat) : Value := .int .u64 (n : Int)
def zero8 : List Nat := [0, 0, 0, 0, 0, 0, 0, 0]
def aggL (l : List Nat) : Value := .agg ⟨l.map nat64⟩
abbrev u64K : Int → Value := Value.int .u64
instance mapBlocks : MapTy Try.prog 118 Int (List Nat) u64K aggL zero8 := MapTy.int (kt := 22) (et := 93) (by kernel_rfl) (by kernel_rfl) (fun w => by rfl)
def u64V (k : Int) : List Value := [.int .u64 k]
set_option maxHeartbeats 1000000 in
theorem keys1_it (Bm mb : Nat) (m : List (Int × List Nat)) : Iter Try.prog 65 [.pointer (some ⟨Bm, 0, none⟩)] [bl Bm 118 [.map (some mb)], Mp mb u64K aggL m] u64V m.length (fun xs => xs.Perm (m.map (·.1))) := by
  intro l J hy
  refine Tri.of_body (vs := [_, _]) Try.func65 rfl rfl fun w0 F => ?_
  repeat' (first | (apply Ya; exact Oa) | (apply Yb; exact Ob) | (apply Yc; exact Oc; intro b) | (apply Ye; exact Oe; intro g cap rest hcap) | (apply Yd; exact Od; intro ad cap) | (apply Yf; exact Oj) | (apply Yg; exact Oj; exact ⟨rfl, rfl⟩) | (apply Yh; exact Oj; rfl) | (apply Yi; exact Oj; exact On; all_goals (intro h; try (exfalso; omega))) | apply StL.nil | apply St.region | apply St.seq | apply St.block | apply St.inBlock | apply St.skip | (apply St.exit; rfl) | (apply St.cond_t; rfl) | (apply St.cond_f; rfl) | (apply Ud; rfl; exact On; all_goals (intro h; try (exfalso; omega))) | (apply Za; rfl; exact Oa) | (apply Zb; rfl; exact Oa; exact Ent.go) | (apply Zc; rfl; exact Ob) | (apply Zd; rfl; exact Oc; intro b; refine ⟨Ent.go, ?_⟩) | (apply Ze; rfl; exact Oc; intro b) | (apply Zf; rfl; exact Oe; intro g cap rest hcap) | (apply Zg; rfl; exact Od; intro ad cap) | apply StD.nil | exact StD.nope | apply StD.pick | (apply StD.claim; rfl; intro b) | (apply Zi; rfl; exact Oj; exact Oa) | (apply Zj; rfl; exact Oj; exact Oa; exact Ent.go) | (apply Zk; rfl; exact Oj; exact ⟨rfl, rfl⟩) | (apply Zl; rfl; exact Oj; exact ⟨rfl, rfl⟩; exact Ent.go) | (apply Zm; rfl; exact Oj; rfl) | (apply Zn; rfl; exact Oj; exact Ent.go; rfl)   | (apply Zo; rfl; exact Oj; exact On; all_goals (intro h; try (exfalso; omega))))
  refine St.loopY (Lr := ?Lr) (ι := { x : List Int × List (Int × List Nat) × Option (Int × List Nat) // (x.1 ++ x.2.1.map (·.1)).Perm (m.map (·.1)) }) (fun x => x.1.2.1.length) (fun _ => []) (fun x => [Mr b mb u64K aggL m x.1.2.1 x.1.2.2, J x.1.1]) ⟨([], m, none), List.Perm.refl _⟩ ?hE ?hL ?round
  case hE => exact Sub.go
  case hL => exact Takes.go
  case round =>
    rintro ⟨⟨pre, left, cur⟩, hp⟩ IH; dsimp only at hp ⊢
    by_cases hne : left = []
    · subst hne
      repeat' (first | (apply Ya; exact Oa) | (apply Yb; exact Ob) | (apply Yc; exact Oc; intro b) | (apply Ye; exact Oe; intro g cap rest hcap) | (apply Yd; exact Od; intro ad cap) | (apply Yf; exact Oj) | (apply Yg; exact Oj; exact ⟨rfl, rfl⟩) | (apply Yh; exact Oj; rfl) | (apply Yi; exact Oj; exact On; all_goals (intro h; try (exfalso; omega))) | apply StL.nil | apply St.region | apply St.seq | apply St.block | apply St.inBlock | apply St.skip | (apply St.exit; rfl) | (apply St.cond_t; rfl) | (apply St.cond_f; rfl) | (apply Ud; rfl; exact On; all_goals (intro h; try (exfalso; omega))) | (apply Za; rfl; exact Oa) | (apply Zb; rfl; exact Oa; exact Ent.go) | (apply Zc; rfl; exact Ob) | (apply Zd; rfl; exact Oc; intro b; refine ⟨Ent.go, ?_⟩) | (apply Ze; rfl; exact Oc; intro b) | (apply Zf; rfl; exact Oe; intro g cap rest hcap) | (apply Zg; rfl; exact Od; intro ad cap) | apply StD.nil | exact StD.nope | apply StD.pick | (apply StD.claim; rfl; intro b) | (apply Zi; rfl; exact Oj; exact Oa) | (apply Zj; rfl; exact Oj; exact Oa; exact Ent.go) | (apply Zk; rfl; exact Oj; exact ⟨rfl, rfl⟩) | (apply Zl; rfl; exact Oj; exact ⟨rfl, rfl⟩; exact Ent.go) | (apply Zm; rfl; exact Oj; rfl) | (apply Zn; rfl; exact Oj; exact Ent.go; rfl)   | (apply Zo; rfl; exact Oj; exact On; all_goals (intro h; try (exfalso; omega))))
      refine St.f1 Try.func65 ⟨_, ⟨pre, by simpa using hp, rfl⟩, ?_⟩
      exact Ent.trans Ent.mr_mp Ent.go
    · have hlt : pre.length < m.length := by
        have h1 := hp.length_eq
        rw [List.length_append, List.length_map, List.length_map] at h1
        have := List.length_pos_iff.2 hne
        omega
      apply St.seq
      apply St.region
      (apply StL.ok; (apply OpOk.nextM1 hne; rfl; (focus (repeat first | exact Take.here | apply Take.there))); rfl; rintro _ _ ⟨l1, ⟨k, u⟩, l2, hsp, rfl, rfl⟩)
      repeat' (first | (refine St.halt 3 ?_) |(apply Ya; exact Oa) | (apply Yb; exact Ob) | (apply Yc; exact Oc; intro b) | (apply Ye; exact Oe; intro g cap rest hcap) | (apply Yd; exact Od; intro ad cap) | (apply Yf; exact Oj) | (apply Yg; exact Oj; exact ⟨rfl, rfl⟩) | (apply Yh; exact Oj; rfl) | (apply Yi; exact Oj; exact On; all_goals (intro h; try (exfalso; omega))) | apply StL.nil | apply St.region | apply St.seq | apply St.block | apply St.inBlock | apply St.skip | (apply St.exit; rfl) | (apply St.cond_t; rfl) | (apply St.cond_f; rfl) | (apply Ud; rfl; exact On; all_goals (intro h; try (exfalso; omega))) | (apply Za; rfl; exact Oa) | (apply Zb; rfl; exact Oa; exact Ent.go) | (apply Zc; rfl; exact Ob) | (apply Zd; rfl; exact Oc; intro b; refine ⟨Ent.go, ?_⟩) | (apply Ze; rfl; exact Oc; intro b) | (apply Zf; rfl; exact Oe; intro g cap rest hcap) | (apply Zg; rfl; exact Od; intro ad cap) | apply StD.nil | exact StD.nope | apply StD.pick | (apply StD.claim; rfl; intro b) | (apply Zi; rfl; exact Oj; exact Oa) | (apply Zj; rfl; exact Oj; exact Oa; exact Ent.go) | (apply Zk; rfl; exact Oj; exact ⟨rfl, rfl⟩) | (apply Zl; rfl; exact Oj; exact ⟨rfl, rfl⟩; exact Ent.go) | (apply Zm; rfl; exact Oj; rfl) | (apply Zn; rfl; exact Oj; exact Ent.go; rfl)   | (apply Zo; rfl; exact Oj; exact On; all_goals (intro h; try (exfalso; omega))))
      apply Halt.go
      apply St.seq
      apply St.regionI
      (apply StI.v; exact OpV.go; rfl; (intro c h; cases h))
      (apply StI.v; exact OpV.go; rfl; (intro c h; cases h))
      refine StI.yield (L1 := [J pre]) (F1 := ?F1) rfl Evs.go (hy pre k hlt) Ent.go rfl ?_
      rintro _ rfl
      (apply StI.v; exact OpV.go; rfl; (intro c h; cases h))
      apply StI.done
      repeat' (first | (apply Ya; exact Oa) | (apply Yb; exact Ob) | (apply Yc; exact Oc; intro b) | (apply Ye; exact Oe; intro g cap rest hcap) | (apply Yd; exact Od; intro ad cap) | (apply Yf; exact Oj) | (apply Yg; exact Oj; exact ⟨rfl, rfl⟩) | (apply Yh; exact Oj; rfl) | (apply Yi; exact Oj; exact On; all_goals (intro h; try (exfalso; omega))) | apply StL.nil | apply St.region | apply St.seq | apply St.block | apply St.inBlock | apply St.skip | (apply St.exit; rfl) | (apply St.cond_t; rfl) | (apply St.cond_f; rfl) | (apply Ud; rfl; exact On; all_goals (intro h; try (exfalso; omega))) | (apply Za; rfl; exact Oa) | (apply Zb; rfl; exact Oa; exact Ent.go) | (apply Zc; rfl; exact Ob) | (apply Zd; rfl; exact Oc; intro b; refine ⟨Ent.go, ?_⟩) | (apply Ze; rfl; exact Oc; intro b) | (apply Zf; rfl; exact Oe; intro g cap rest hcap) | (apply Zg; rfl; exact Od; intro ad cap) | apply StD.nil | exact StD.nope | apply StD.pick | (apply StD.claim; rfl; intro b) | (apply Zi; rfl; exact Oj; exact Oa) | (apply Zj; rfl; exact Oj; exact Oa; exact Ent.go) | (apply Zk; rfl; exact Oj; exact ⟨rfl, rfl⟩) | (apply Zl; rfl; exact Oj; exact ⟨rfl, rfl⟩; exact Ent.go) | (apply Zm; rfl; exact Oj; rfl) | (apply Zn; rfl; exact Oj; exact Ent.go; rfl)   | (apply Zo; rfl; exact Oj; exact On; all_goals (intro h; try (exfalso; omega))))
      refine IH ⟨(pre ++ [k], l1 ++ l2, some (k, u)), ?_⟩ ?_ ?_ ?_
      · refine List.Perm.trans ?_ hp
        rw [hsp]
        simp only [List.map_append, List.map_cons, List.append_assoc, List.singleton_append]
        refine List.Perm.append_left _ ?_
        exact (List.perm_middle (a := k) (l₁ := l1.map (·.1)) (l₂ := l2.map (·.1))).symm
      · show (l1 ++ l2).length < left.length
        rw [hsp]; simp
      · exact Sub.go
      · exact Ent.go
theorem keys_t (mb : Nat) : Tri Try.prog 57 #[.map (some mb)] [] fun r L => ∃ Bm, r = .func (.func 65) ⟨[]⟩ ⟨[.pointer (some ⟨Bm, 0, none⟩)]⟩ ∧ L = [bl Bm 118 [.map (some mb)]] := by
  refine Tri.of_body (vs := [_]) Try.func57 rfl rfl fun w0 F => ?_
  repeat' (first | (apply Ya; exact Oa) | (apply Yb; exact Ob) | (apply Yc; exact Oc; intro b) | (apply Ye; exact Oe; intro g cap rest hcap) | (apply Yd; exact Od; intro ad cap) | (apply Yf; exact Oj) | (apply Yg; exact Oj; exact ⟨rfl, rfl⟩) | (apply Yh; exact Oj; rfl) | (apply Yi; exact Oj; exact On; all_goals (intro h; try (exfalso; omega))) | apply StL.nil | apply St.region | apply St.seq | apply St.block | apply St.inBlock | apply St.skip | (apply St.exit; rfl) | (apply St.cond_t; rfl) | (apply St.cond_f; rfl) | (apply Ud; rfl; exact On; all_goals (intro h; try (exfalso; omega))) | (apply Za; rfl; exact Oa) | (apply Zb; rfl; exact Oa; exact Ent.go) | (apply Zc; rfl; exact Ob) | (apply Zd; rfl; exact Oc; intro b; refine ⟨Ent.go, ?_⟩) | (apply Ze; rfl; exact Oc; intro b) | (apply Zf; rfl; exact Oe; intro g cap rest hcap) | (apply Zg; rfl; exact Od; intro ad cap) | apply StD.nil | exact StD.nope | apply StD.pick | (apply StD.claim; rfl; intro b) | (apply Zi; rfl; exact Oj; exact Oa) | (apply Zj; rfl; exact Oj; exact Oa; exact Ent.go) | (apply Zk; rfl; exact Oj; exact ⟨rfl, rfl⟩) | (apply Zl; rfl; exact Oj; exact ⟨rfl, rfl⟩; exact Ent.go) | (apply Zm; rfl; exact Oj; rfl) | (apply Zn; rfl; exact Oj; exact Ent.go; rfl)   | (apply Zo; rfl; exact Oj; exact On; all_goals (intro h; try (exfalso; omega))))
  refine St.d1 Try.func57 ⟨_, ⟨b, rfl, rfl⟩, Ent.go⟩
def rowU (ad : Option Addr) (cap : Nat) (xs : List Int) : HProp := Row (.slice ad xs.length cap) 22 1 xs.length (xs.map u64K)
def appJ (Bs : Nat) (xs : List Int) : HProp := ex (ι := Option Addr × Nat) fun x => [bl Bs 69 [.slice x.1 xs.length x.2], rowU x.1 x.2 xs]
set_option maxHeartbeats 1000000 in
theorem appendSeq_t (f : FuncId) [Enters Try.prog f] (caps : List Value) (Li : List HProp) (N : Nat) (hN : N ≤ 1000000) (S : List Int → Prop) (hit : Iter Try.prog f caps Li u64V N S) :
    Tri Try.prog 66 #[.slice none 0 0, .func (.func f) ⟨[]⟩ ⟨caps⟩] Li fun r L => ∃ xs ad cap, S xs ∧ r = .slice ad xs.length cap ∧ L = Li ++ [rowU ad cap xs] := by
  refine Tri.of_body (vs := [_, _]) Try.func66 rfl rfl fun w0 F => ?_
  repeat' (first | (apply Ya; exact Oa) | (apply Yb; exact Ob) | (apply Yc; exact Oc; intro b) | (apply Ye; exact Oe; intro g cap rest hcap) | (apply Yd; exact Od; intro ad cap) | (apply Yf; exact Oj) | (apply Yg; exact Oj; exact ⟨rfl, rfl⟩) | (apply Yh; exact Oj; rfl) | (apply Yi; exact Oj; exact On; all_goals (intro h; try (exfalso; omega))) | apply StL.nil | apply St.region | apply St.seq | apply St.block | apply St.inBlock | apply St.skip | (apply St.exit; rfl) | (apply St.cond_t; rfl) | (apply St.cond_f; rfl) | (apply Ud; rfl; exact On; all_goals (intro h; try (exfalso; omega))) | (apply Za; rfl; exact Oa) | (apply Zb; rfl; exact Oa; exact Ent.go) | (apply Zc; rfl; exact Ob) | (apply Zd; rfl; exact Oc; intro b; refine ⟨Ent.go, ?_⟩) | (apply Ze; rfl; exact Oc; intro b) | (apply Zf; rfl; exact Oe; intro g cap rest hcap) | (apply Zg; rfl; exact Od; intro ad cap) | apply StD.nil | exact StD.nope | apply StD.pick | (apply StD.claim; rfl; intro b) | (apply Zi; rfl; exact Oj; exact Oa) | (apply Zj; rfl; exact Oj; exact Oa; exact Ent.go) | (apply Zk; rfl; exact Oj; exact ⟨rfl, rfl⟩) | (apply Zl; rfl; exact Oj; exact ⟨rfl, rfl⟩; exact Ent.go) | (apply Zm; rfl; exact Oj; rfl) | (apply Zn; rfl; exact Oj; exact Ent.go; rfl)   | (apply Zo; rfl; exact Oj; exact On; all_goals (intro h; try (exfalso; omega))))
  refine St.rangeFn (fun xs => [appJ b xs]) (Lr := F) rfl rfl hit ?hL ?hy ?h
  case hL =>
    refine Ent.trans (M := appJ b [] :: (Li ++ F)) ?_ Ent.mid
    refine Ent.trans (Ent.row_nil 22 1) ?_
    exact Ent.trans Ent.go (Ent.ex_in (Ls := fun x : Option Addr × Nat => [bl b 69 [.slice x.1 ([] : List Int).length x.2], rowU x.1 x.2 []]) (none, 0))
  case hy =>
    intro a ha fn l D pre x hlt
    have ha7 := ha.put (d := some 7) rfl (.int .u64 x)
    have e7 : ((#[7] : Array Tmp).zip ⟨u64V x⟩).foldl (fun tmps (t, a) => tmps.setIfInBounds t a) a.tmps = a.tmps.setIfInBounds 7 (.int .u64 x) := by simp [u64V]
    have hE := (⟨ha7.size, rfl, ha7.at_⟩ : AOk _ _ { tmps := a.tmps.setIfInBounds 7 (.int .u64 x), defers := [] })
    rw [← e7] at hE
    refine YTri.mk1 rfl rfl rfl rfl hE rfl rfl ?hB
    case hB =>
      intro w0 F Q h
      apply StR.block
      refine StR.conv ?_ (Sub.refl _) (Ent.of_take (p := appJ b pre) Take.go)
      refine StR.ex_out fun y => ?_
      obtain ⟨vad, vcap⟩ := y
      dsimp only
      apply StR.region
      (apply StI.v; exact OpV.go; rfl; (intro c h; cases h))
      (apply StI.v; exact OpV.go; rfl; (intro c h; cases h))
      (apply StI.ok; exact OpOk.gf; rfl; (intro c h; cases h); rintro _ _ ⟨g, rfl, rfl⟩)
      unfold rowU
      (apply StI.ok; exact OpOk.ga; rfl; (intro c h; cases h); rintro _ _ ⟨nad, ncap, rfl, rfl⟩)
      (apply StI.ok; exact OpOk.gt; rfl; (intro c h; cases h); rintro _ _ ⟨rfl, rfl⟩)
      refine StI.fin ?_ (fun a w hs ho => h a w _ rfl hs ho)
      have hx := Ent.ex_in (Ls := fun y : Option Addr × Nat => [bl b 69 [.slice y.1 (pre ++ [x]).length y.2], rowU y.1 y.2 (pre ++ [x])]) (L := F) (nad, ncap)
      unfold rowU at hx
      rw [show (pre ++ [x]).length = pre.length + 1 by simp, show (pre ++ [x]).map u64K = pre.map u64K ++ [.int .u64 x] by simp] at hx
      apply Ent.take
      exact Take.go
      refine Ent.trans Ent.go (Ent.trans hx ?_)
      unfold appJ rowU
      rw [show (pre ++ [x]).length = pre.length + 1 by simp, show (pre ++ [x]).map u64K = pre.map u64K ++ [.int .u64 x] by simp]
      exact Ent.refl _
  case h =>
    intro D xs hS
    refine St.conv ?_ (Sub.refl _) (Ent.trans (Ent.cons Ent.mid') (Ent.of_take (p := appJ b xs) (.there .here)))
    refine St.ex_out fun y => ?_
    obtain ⟨vad, vcap⟩ := y
    dsimp only
    repeat' (first | (apply Ya; exact Oa) | (apply Yb; exact Ob) | (apply Yc; exact Oc; intro b) | (apply Ye; exact Oe; intro g cap rest hcap) | (apply Yd; exact Od; intro ad cap) | (apply Yf; exact Oj) | (apply Yg; exact Oj; exact ⟨rfl, rfl⟩) | (apply Yh; exact Oj; rfl) | (apply Yi; exact Oj; exact On; all_goals (intro h; try (exfalso; omega))) | apply StL.nil | apply St.region | apply St.seq | apply St.block | apply St.inBlock | apply St.skip | (apply St.exit; rfl) | (apply St.cond_t; rfl) | (apply St.cond_f; rfl) | (apply Ud; rfl; exact On; all_goals (intro h; try (exfalso; omega))) | (apply Za; rfl; exact Oa) | (apply Zb; rfl; exact Oa; exact Ent.go) | (apply Zc; rfl; exact Ob) | (apply Zd; rfl; exact Oc; intro b; refine ⟨Ent.go, ?_⟩) | (apply Ze; rfl; exact Oc; intro b) | (apply Zf; rfl; exact Oe; intro g cap rest hcap) | (apply Zg; rfl; exact Od; intro ad cap) | apply StD.nil | exact StD.nope | apply StD.pick | (apply StD.claim; rfl; intro b) | (apply Zi; rfl; exact Oj; exact Oa) | (apply Zj; rfl; exact Oj; exact Oa; exact Ent.go) | (apply Zk; rfl; exact Oj; exact ⟨rfl, rfl⟩) | (apply Zl; rfl; exact Oj; exact ⟨rfl, rfl⟩; exact Ent.go) | (apply Zm; rfl; exact Oj; rfl) | (apply Zn; rfl; exact Oj; exact Ent.go; rfl)   | (apply Zo; rfl; exact Oj; exact On; all_goals (intro h; try (exfalso; omega))))
    refine St.dM Try.func66 ⟨_, ⟨xs, vad, vcap, hS, rfl, rfl⟩, ?_⟩
    refine Ent.drop ?_
    rw [List.append_assoc]
    exact Ent.mid
end Go.Proofs.Ytmcadilggmlbfaa
