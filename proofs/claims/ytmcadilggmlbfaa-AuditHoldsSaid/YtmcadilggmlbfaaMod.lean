/-
  Package model: a state's roots, blocks, handles.
-/
import Derived.Test.YtmcadilggmlbfaaSrt
namespace Go.Proofs.Ytmcadilggmlbfaa
set_option maxRecDepth 100000
/-- a state's own cells -/
def stV (roots : List Nat) (mb : Nat) : List Value := roots.map nat64 ++ [.map (some mb)]
def rootOf (roots : List Nat) (k : Int) : Nat := if k < 0 ∨ 16 ≤ k then 0 else roots.getD k.toNat 0
theorem stV_map {roots : List Nat} (h : roots.length = 16) (mb : Nat) : NthN (0 + 16) (stV roots mb) (.map (some mb)) := by
  refine NthN.of ?_
  unfold stV
  rw [List.getElem?_append_right (by simp [h])]
  simp [h]
theorem root_r (S mb : Nat) (roots : List Nat) (hr : roots.length = 16) (k : Int) : RTri Try.prog 35 #[.pointer (some ⟨S, 0, none⟩), .int .i64 k] [bl S 125 (stV roots mb)] (.int .u64 (rootOf roots k : Int)) := by
  apply RTri.of_reads
  intro p hp
  have hrd : RdC p S (stV roots mb) := RdC.of_sat hp (ReadsC.here RdC.bl)
  unfold rootOf
  by_cases h : k < 0 ∨ 16 ≤ k
  · rw [if_pos h]
    by_cases h0 : k < 0
    · refine Tri.of_body (vs := [_, _]) Try.func35 rfl rfl fun w0 F => ?_
      repeat' (first | (apply Ya; exact Oa) | (apply Yb; exact Ob) | (apply Yc; exact Oc; intro b) | (apply Ye; exact Oe; intro g cap rest hcap) | (apply Yd; exact Od; intro ad cap) | (apply Yf; exact Oj) | (apply Yg; exact Oj; exact ⟨rfl, rfl⟩) | (apply Yh; exact Oj; rfl) | (apply Yi; exact Oj; exact On; all_goals (intro h; try (exfalso; omega))) | apply StL.nil | apply St.region | apply St.seq | apply St.block | apply St.inBlock | apply St.skip | (apply St.exit; rfl) | (apply St.cond_t; rfl) | (apply St.cond_f; rfl) | (apply Ud; rfl; exact On; all_goals (intro h; try (exfalso; omega))) | (apply Za; rfl; exact Oa) | (apply Zb; rfl; exact Oa; exact Ent.go) | (apply Zc; rfl; exact Ob) | (apply Zd; rfl; exact Oc; intro b; refine ⟨Ent.go, ?_⟩) | (apply Ze; rfl; exact Oc; intro b) | (apply Zf; rfl; exact Oe; intro g cap rest hcap) | (apply Zg; rfl; exact Od; intro ad cap) | apply StD.nil | exact StD.nope | apply StD.pick | (apply StD.claim; rfl; intro b) | (apply Zi; rfl; exact Oj; exact Oa) | (apply Zj; rfl; exact Oj; exact Oa; exact Ent.go) | (apply Zk; rfl; exact Oj; exact ⟨rfl, rfl⟩) | (apply Zl; rfl; exact Oj; exact ⟨rfl, rfl⟩; exact Ent.go) | (apply Zm; rfl; exact Oj; rfl) | (apply Zn; rfl; exact Oj; exact Ent.go; rfl)   | (apply Zo; rfl; exact Oj; exact On; all_goals (intro h; try (exfalso; omega))))
      refine St.d1 Try.func35 ⟨_, ⟨rfl, rfl⟩, Ent.go⟩
    · have h1 : 16 ≤ k := by omega
      refine Tri.of_body (vs := [_, _]) Try.func35 rfl rfl fun w0 F => ?_
      repeat' (first | (apply Ya; exact Oa) | (apply Yb; exact Ob) | (apply Yc; exact Oc; intro b) | (apply Ye; exact Oe; intro g cap rest hcap) | (apply Yd; exact Od; intro ad cap) | (apply Yf; exact Oj) | (apply Yg; exact Oj; exact ⟨rfl, rfl⟩) | (apply Yh; exact Oj; rfl) | (apply Yi; exact Oj; exact On; all_goals (intro h; try (exfalso; omega))) | apply StL.nil | apply St.region | apply St.seq | apply St.block | apply St.inBlock | apply St.skip | (apply St.exit; rfl) | (apply St.cond_t; rfl) | (apply St.cond_f; rfl) | (apply Ud; rfl; exact On; all_goals (intro h; try (exfalso; omega))) | (apply Za; rfl; exact Oa) | (apply Zb; rfl; exact Oa; exact Ent.go) | (apply Zc; rfl; exact Ob) | (apply Zd; rfl; exact Oc; intro b; refine ⟨Ent.go, ?_⟩) | (apply Ze; rfl; exact Oc; intro b) | (apply Zf; rfl; exact Oe; intro g cap rest hcap) | (apply Zg; rfl; exact Od; intro ad cap) | apply StD.nil | exact StD.nope | apply StD.pick | (apply StD.claim; rfl; intro b) | (apply Zi; rfl; exact Oj; exact Oa) | (apply Zj; rfl; exact Oj; exact Oa; exact Ent.go) | (apply Zk; rfl; exact Oj; exact ⟨rfl, rfl⟩) | (apply Zl; rfl; exact Oj; exact ⟨rfl, rfl⟩; exact Ent.go) | (apply Zm; rfl; exact Oj; rfl) | (apply Zn; rfl; exact Oj; exact Ent.go; rfl)   | (apply Zo; rfl; exact Oj; exact On; all_goals (intro h; try (exfalso; omega))))
      refine St.d1 Try.func35 ⟨_, ⟨rfl, rfl⟩, Ent.go⟩
  · rw [if_neg h]
    have hn : NthN (0 + 0 + k.toNat * 1) (stV roots mb) (.int .u64 ((roots.getD k.toNat 0 : Nat) : Int)) := NthN.of (by
      unfold stV
      rw [List.getElem?_append_left (by simp; omega), List.getElem?_map, show 0 + 0 + k.toNat * 1 = k.toNat by omega, List.getElem?_eq_getElem (by omega), List.getD_eq_getElem?_getD, List.getElem?_eq_getElem (by omega)]
      rfl)
    refine Tri.of_body (vs := [_, _]) Try.func35 rfl rfl fun w0 F => ?_
    repeat' (first | (apply Ya; exact Oa) | (apply Yb; exact Ob) | (apply Yc; exact Oc; intro b) | (apply Ye; exact Oe; intro g cap rest hcap) | (apply Yd; exact Od; intro ad cap) | (apply Yf; exact Oj) | (apply Yg; exact Oj; exact ⟨rfl, rfl⟩) | (apply Yh; exact Oj; rfl) | (apply Yi; exact Oj; exact On; all_goals (intro h; try (exfalso; omega))) | apply StL.nil | apply St.region | apply St.seq | apply St.block | apply St.inBlock | apply St.skip | (apply St.exit; rfl) | (apply St.cond_t; rfl) | (apply St.cond_f; rfl) | (apply Ud; rfl; exact On; all_goals (intro h; try (exfalso; omega))) | (apply Za; rfl; exact Oa) | (apply Zb; rfl; exact Oa; exact Ent.go) | (apply Zc; rfl; exact Ob) | (apply Zd; rfl; exact Oc; intro b; refine ⟨Ent.go, ?_⟩) | (apply Ze; rfl; exact Oc; intro b) | (apply Zf; rfl; exact Oe; intro g cap rest hcap) | (apply Zg; rfl; exact Od; intro ad cap) | apply StD.nil | exact StD.nope | apply StD.pick | (apply StD.claim; rfl; intro b) | (apply Zi; rfl; exact Oj; exact Oa) | (apply Zj; rfl; exact Oj; exact Oa; exact Ent.go) | (apply Zk; rfl; exact Oj; exact ⟨rfl, rfl⟩) | (apply Zl; rfl; exact Oj; exact ⟨rfl, rfl⟩; exact Ent.go) | (apply Zm; rfl; exact Oj; rfl) | (apply Zn; rfl; exact Oj; exact Ent.go; rfl)   | (apply Zo; rfl; exact Oj; exact On; all_goals (intro h; try (exfalso; omega))))
    refine St.d1 Try.func35 ⟨_, ⟨rfl, rfl⟩, Ent.go⟩
theorem mget_mem {κ β : Type} [DecidableEq κ] {k : κ} {x : β} : ∀ {m : List (κ × β)}, mget m k = some x → (k, x) ∈ m
  | [], h => by cases h
  | (y, z) :: m, h => by
    unfold mget at h
    split at h
    · injection h with h; subst h; subst y; simp
    · exact List.mem_cons_of_mem _ (mget_mem h)
theorem eight_of {α : Type} {l : List α} (h : l.length = 8) : ∃ x0 x1 x2 x3 x4 x5 x6 x7, l = [x0, x1, x2, x3, x4, x5, x6, x7] := by
  match l, h with
  | [x0, x1, x2, x3, x4, x5, x6, x7], _ => exact ⟨_, _, _, _, _, _, _, _, rfl⟩
theorem block_r (S mb : Nat) (roots : List Nat) (hr : roots.length = 16) (m : List (Int × List Nat)) (hm : ∀ p ∈ m, p.2.length = 8) (h : Nat) : RTri Try.prog 36 #[.pointer (some ⟨S, 0, none⟩), .int .u64 (h : Int)] [bl S 125 (stV roots mb), Mp mb u64K aggL m]
    (.tuple ⟨[.agg ⟨((mget m (h : Int)).getD zero8).map nat64⟩, .bool (mget m (h : Int)).isSome]⟩) := by
  apply RTri.of_reads
  intro p hp
  have hX : RdC p S (stV roots mb) := RdC.of_sat hp (ReadsC.here RdC.bl)
  have hM : RdM p mb u64K aggL m := RdM.of_sat hp (ReadsM.there (ReadsM.here RdM.mp))
  have hmp := stV_map hr mb
  obtain ⟨x0, x1, x2, x3, x4, x5, x6, x7, hg⟩ : ∃ x0 x1 x2 x3 x4 x5 x6 x7, (mget m (h : Int)).getD zero8 = [x0, x1, x2, x3, x4, x5, x6, x7] := eight_of (by
    cases hq : mget m (h : Int) with
    | none => rfl
    | some l => exact hm _ (mget_mem hq))
  refine Tri.of_body (vs := [_, _]) Try.func36 rfl rfl fun w0 F => ?_
  repeat' (first | (apply Ya; exact Oa) | (apply Yb; exact Ob) | (apply Yc; exact Oc; intro b) | (apply Ye; exact Oe; intro g cap rest hcap) | (apply Yd; exact Od; intro ad cap) | (apply Yf; exact Oj) | (apply Yg; exact Oj; exact ⟨rfl, rfl⟩) | (apply Yh; exact Oj; rfl) | (apply Yi; exact Oj; exact On; all_goals (intro h; try (exfalso; omega))) | apply StL.nil | apply St.region | apply St.seq | apply St.block | apply St.inBlock | apply St.skip | (apply St.exit; rfl) | (apply St.cond_t; rfl) | (apply St.cond_f; rfl) | (apply Ud; rfl; exact On; all_goals (intro h; try (exfalso; omega))) | (apply Za; rfl; exact Oa) | (apply Zb; rfl; exact Oa; exact Ent.go) | (apply Zc; rfl; exact Ob) | (apply Zd; rfl; exact Oc; intro b; refine ⟨Ent.go, ?_⟩) | (apply Ze; rfl; exact Oc; intro b) | (apply Zf; rfl; exact Oe; intro g cap rest hcap) | (apply Zg; rfl; exact Od; intro ad cap) | apply StD.nil | exact StD.nope | apply StD.pick | (apply StD.claim; rfl; intro b) | (apply Zi; rfl; exact Oj; exact Oa) | (apply Zj; rfl; exact Oj; exact Oa; exact Ent.go) | (apply Zk; rfl; exact Oj; exact ⟨rfl, rfl⟩) | (apply Zl; rfl; exact Oj; exact ⟨rfl, rfl⟩; exact Ent.go) | (apply Zm; rfl; exact Oj; rfl) | (apply Zn; rfl; exact Oj; exact Ent.go; rfl)   | (apply Zo; rfl; exact Oj; exact On; all_goals (intro h; try (exfalso; omega))))
  have hag : aggL ((mget m (h : Int)).getD zero8) = .agg ⟨[nat64 x0, nat64 x1, nat64 x2, nat64 x3, nat64 x4, nat64 x5, nat64 x6, nat64 x7]⟩ := by rw [hg]; rfl
  rw [hag]
  repeat' (first | (apply Ya; exact Oa) | (apply Yb; exact Ob) | (apply Yc; exact Oc; intro b) | (apply Ye; exact Oe; intro g cap rest hcap) | (apply Yd; exact Od; intro ad cap) | (apply Yf; exact Oj) | (apply Yg; exact Oj; exact ⟨rfl, rfl⟩) | (apply Yh; exact Oj; rfl) | (apply Yi; exact Oj; exact On; all_goals (intro h; try (exfalso; omega))) | apply StL.nil | apply St.region | apply St.seq | apply St.block | apply St.inBlock | apply St.skip | (apply St.exit; rfl) | (apply St.cond_t; rfl) | (apply St.cond_f; rfl) | (apply Ud; rfl; exact On; all_goals (intro h; try (exfalso; omega))) | (apply Za; rfl; exact Oa) | (apply Zb; rfl; exact Oa; exact Ent.go) | (apply Zc; rfl; exact Ob) | (apply Zd; rfl; exact Oc; intro b; refine ⟨Ent.go, ?_⟩) | (apply Ze; rfl; exact Oc; intro b) | (apply Zf; rfl; exact Oe; intro g cap rest hcap) | (apply Zg; rfl; exact Od; intro ad cap) | apply StD.nil | exact StD.nope | apply StD.pick | (apply StD.claim; rfl; intro b) | (apply Zi; rfl; exact Oj; exact Oa) | (apply Zj; rfl; exact Oj; exact Oa; exact Ent.go) | (apply Zk; rfl; exact Oj; exact ⟨rfl, rfl⟩) | (apply Zl; rfl; exact Oj; exact ⟨rfl, rfl⟩; exact Ent.go) | (apply Zm; rfl; exact Oj; rfl) | (apply Zn; rfl; exact Oj; exact Ent.go; rfl)   | (apply Zo; rfl; exact Oj; exact On; all_goals (intro h; try (exfalso; omega))))
  refine St.d1 Try.func36 ⟨_, ⟨?_, rfl⟩, Ent.go⟩
  rw [hg]; rfl
def noMap : List (Int × List Nat) := []
set_option maxHeartbeats 1000000 in
theorem mof_t (roots : List Nat) (hr : roots.length = 16) (mb : Nat) (m : List (Int × List Nat)) (hnd : (m.map (·.1)).Nodup) (h0 : ∀ p ∈ m, p.1 ≠ 0) (h8 : ∀ p ∈ m, p.2.length = 8) :
    Tri Try.prog 55 #[aggL roots, .map (some mb)] [Mp mb u64K aggL m] fun r L => ∃ S mb' m', r = .pointer (some ⟨S, 0, none⟩) ∧ m'.Perm m ∧ L = [bl S 125 (stV roots mb'), Mp mb' u64K aggL m'] := by
  obtain ⟨x0, x1, x2, x3, x4, x5, x6, x7, x8, x9, x10, x11, x12, x13, x14, x15, rfl⟩ : ∃ x0 x1 x2 x3 x4 x5 x6 x7 x8 x9 x10 x11 x12 x13 x14 x15, roots = [x0, x1, x2, x3, x4, x5, x6, x7, x8, x9, x10, x11, x12, x13, x14, x15] := by
    match roots, hr with
    | [x0, x1, x2, x3, x4, x5, x6, x7, x8, x9, x10, x11, x12, x13, x14, x15], _ => exact ⟨_, _, _, _, _, _, _, _, _, _, _, _, _, _, _, _, rfl⟩
  rw [show aggL [x0, x1, x2, x3, x4, x5, x6, x7, x8, x9, x10, x11, x12, x13, x14, x15] = .agg ⟨[nat64 x0, nat64 x1, nat64 x2, nat64 x3, nat64 x4, nat64 x5, nat64 x6, nat64 x7, nat64 x8, nat64 x9, nat64 x10, nat64 x11, nat64 x12, nat64 x13, nat64 x14, nat64 x15]⟩ from rfl]
  refine Tri.of_body (vs := [_, _]) Try.func55 rfl rfl fun w0 F => ?_
  repeat' (first | (apply Ya; exact Oa) | (apply Yb; exact Ob) | (apply Yc; exact Oc; intro b) | (apply Ye; exact Oe; intro g cap rest hcap) | (apply Yd; exact Od; intro ad cap) | (apply Yf; exact Oj) | (apply Yg; exact Oj; exact ⟨rfl, rfl⟩) | (apply Yh; exact Oj; rfl) | (apply Yi; exact Oj; exact On; all_goals (intro h; try (exfalso; omega))) | apply StL.nil | apply St.region | apply St.seq | apply St.block | apply St.inBlock | apply St.skip | (apply St.exit; rfl) | (apply St.cond_t; rfl) | (apply St.cond_f; rfl) | (apply Ud; rfl; exact On; all_goals (intro h; try (exfalso; omega))) | (apply Za; rfl; exact Oa) | (apply Zb; rfl; exact Oa; exact Ent.go) | (apply Zc; rfl; exact Ob) | (apply Zd; rfl; exact Oc; intro b; refine ⟨Ent.go, ?_⟩) | (apply Ze; rfl; exact Oc; intro b) | (apply Zf; rfl; exact Oe; intro g cap rest hcap) | (apply Zg; rfl; exact Od; intro ad cap) | apply StD.nil | exact StD.nope | apply StD.pick | (apply StD.claim; rfl; intro b) | (apply Zi; rfl; exact Oj; exact Oa) | (apply Zj; rfl; exact Oj; exact Oa; exact Ent.go) | (apply Zk; rfl; exact Oj; exact ⟨rfl, rfl⟩) | (apply Zl; rfl; exact Oj; exact ⟨rfl, rfl⟩; exact Ent.go) | (apply Zm; rfl; exact Oj; rfl) | (apply Zn; rfl; exact Oj; exact Ent.go; rfl) | (refine St.draw (id := 6) [(0, 0), (1, 0), (2, 0), (3, 1), (4, 0), (5, 1), (6, 3)] [6] mixed (by kernel_rfl) ?_)  | (apply Zo; rfl; exact Oj; exact On; all_goals (intro h; try (exfalso; omega))))
  rename_i Bx Bn Bs
  refine St.loopY (Lr := ?Lr) (ι := { x : List (Int × List Nat) × List (Int × List Nat) × Option (Int × List Nat) // (x.1 ++ x.2.1).Perm m }) (fun x => x.1.2.1.length) (fun _ => []) (fun x => [Mr b mb u64K aggL m x.1.2.1 x.1.2.2, Mp Bn u64K aggL x.1.1]) ⟨([], m, none), List.Perm.refl _⟩ ?hE ?hL ?round
  case hE => exact Sub.go
  case hL => exact Takes.go
  case round =>
    rintro ⟨⟨pre, left, cur⟩, hp⟩ IH; dsimp only at hp ⊢
    by_cases hne : left = []
    · subst hne
      clear IH
      repeat' (first | (apply Ya; exact Oa) | (apply Yb; exact Ob) | (apply Yc; exact Oc; intro b) | (apply Ye; exact Oe; intro g cap rest hcap) | (apply Yd; exact Od; intro ad cap) | (apply Yf; exact Oj) | (apply Yg; exact Oj; exact ⟨rfl, rfl⟩) | (apply Yh; exact Oj; rfl) | (apply Yi; exact Oj; exact On; all_goals (intro h; try (exfalso; omega))) | apply StL.nil | apply St.region | apply St.seq | apply St.block | apply St.inBlock | apply St.skip | (apply St.exit; rfl) | (apply St.cond_t; rfl) | (apply St.cond_f; rfl) | (apply Ud; rfl; exact On; all_goals (intro h; try (exfalso; omega))) | (apply Za; rfl; exact Oa) | (apply Zb; rfl; exact Oa; exact Ent.go) | (apply Zc; rfl; exact Ob) | (apply Zd; rfl; exact Oc; intro b; refine ⟨Ent.go, ?_⟩) | (apply Ze; rfl; exact Oc; intro b) | (apply Zf; rfl; exact Oe; intro g cap rest hcap) | (apply Zg; rfl; exact Od; intro ad cap) | apply StD.nil | exact StD.nope | apply StD.pick | (apply StD.claim; rfl; intro b) | (apply Zi; rfl; exact Oj; exact Oa) | (apply Zj; rfl; exact Oj; exact Oa; exact Ent.go) | (apply Zk; rfl; exact Oj; exact ⟨rfl, rfl⟩) | (apply Zl; rfl; exact Oj; exact ⟨rfl, rfl⟩; exact Ent.go) | (apply Zm; rfl; exact Oj; rfl) | (apply Zn; rfl; exact Oj; exact Ent.go; rfl) | (refine St.draw (id := 6) [(0, 0), (1, 0), (2, 0), (3, 1), (4, 0), (5, 1), (6, 3)] [6] mixed (by kernel_rfl) ?_)  | (apply Zo; rfl; exact Oj; exact On; all_goals (intro h; try (exfalso; omega))))
      refine St.d1 Try.func55 ⟨_, ⟨Bs, Bn, pre, rfl, by simpa using hp, rfl⟩, Ent.go⟩
    · apply St.seq
      apply St.region
      (apply StL.ok; (apply OpOk.nextM1 hne; rfl; (focus (repeat first | exact Take.here | apply Take.there))); rfl; rintro _ _ ⟨l1, ⟨k, u⟩, l2, hsp, rfl, rfl⟩)
      have hin : (k, u) ∈ m := hp.subset (by rw [hsp]; simp)
      have hk0 := h0 _ hin
      have hu8 := h8 _ hin
      dsimp only at hk0 hu8
      obtain ⟨y0, y1, y2, y3, y4, y5, y6, y7, rfl⟩ := eight_of hu8
      have hnew : mget pre k = none := by
        cases hg : mget pre k with
        | none => rfl
        | some z =>
          exfalso
          have h1 : ((pre ++ left).map (·.1)).Nodup := (hp.map _).nodup_iff.2 hnd
          rw [hsp, List.map_append, List.nodup_append] at h1
          exact h1.2.2 k (List.mem_map.2 ⟨_, mget_mem hg, rfl⟩) k (by simp) rfl
      have hput := mput_new pre k [y0, y1, y2, y3, y4, y5, y6, y7] hnew
      repeat' (first | (refine St.halt 4 ?_) |(apply Ya; exact Oa) | (apply Yb; exact Ob) | (apply Yc; exact Oc; intro b) | (apply Ye; exact Oe; intro g cap rest hcap) | (apply Yd; exact Od; intro ad cap) | (apply Yf; exact Oj) | (apply Yg; exact Oj; exact ⟨rfl, rfl⟩) | (apply Yh; exact Oj; rfl) | (apply Yi; exact Oj; exact On; all_goals (intro h; try (exfalso; omega))) | apply StL.nil | apply St.region | apply St.seq | apply St.block | apply St.inBlock | apply St.skip | (apply St.exit; rfl) | (apply St.cond_t; rfl) | (apply St.cond_f; rfl) | (apply Ud; rfl; exact On; all_goals (intro h; try (exfalso; omega))) | (apply Za; rfl; exact Oa) | (apply Zb; rfl; exact Oa; exact Ent.go) | (apply Zc; rfl; exact Ob) | (apply Zd; rfl; exact Oc; intro b; refine ⟨Ent.go, ?_⟩) | (apply Ze; rfl; exact Oc; intro b) | (apply Zf; rfl; exact Oe; intro g cap rest hcap) | (apply Zg; rfl; exact Od; intro ad cap) | apply StD.nil | exact StD.nope | apply StD.pick | (apply StD.claim; rfl; intro b) | (apply Zi; rfl; exact Oj; exact Oa) | (apply Zj; rfl; exact Oj; exact Oa; exact Ent.go) | (apply Zk; rfl; exact Oj; exact ⟨rfl, rfl⟩) | (apply Zl; rfl; exact Oj; exact ⟨rfl, rfl⟩; exact Ent.go) | (apply Zm; rfl; exact Oj; rfl) | (apply Zn; rfl; exact Oj; exact Ent.go; rfl) | (refine St.draw (id := 6) [(0, 0), (1, 0), (2, 0), (3, 1), (4, 0), (5, 1), (6, 3)] [6] mixed (by kernel_rfl) ?_)  | (apply Zo; rfl; exact Oj; exact On; all_goals (intro h; try (exfalso; omega))))
      apply Halt.go
      apply St.seq
      apply St.region
      (apply StL.v; (apply OpV.entryM; rfl; (focus (repeat first | exact Take.here | apply Take.there))); rfl)
      rw [show aggL [y0, y1, y2, y3, y4, y5, y6, y7] = .agg ⟨[nat64 y0, nat64 y1, nat64 y2, nat64 y3, nat64 y4, nat64 y5, nat64 y6, nat64 y7]⟩ from rfl]
      repeat' (first | (apply Ya; exact Oa) | (apply Yb; exact Ob) | (apply Yc; exact Oc; intro b) | (apply Ye; exact Oe; intro g cap rest hcap) | (apply Yd; exact Od; intro ad cap) | (apply Yf; exact Oj) | (apply Yg; exact Oj; exact ⟨rfl, rfl⟩) | (apply Yh; exact Oj; rfl) | (apply Yi; exact Oj; exact On; all_goals (intro h; try (exfalso; omega))) | apply StL.nil | apply St.region | apply St.seq | apply St.block | apply St.inBlock | apply St.skip | (apply St.exit; rfl) | (apply St.cond_t; rfl) | (apply St.cond_f; rfl) | (apply Ud; rfl; exact On; all_goals (intro h; try (exfalso; omega))) | (apply Za; rfl; exact Oa) | (apply Zb; rfl; exact Oa; exact Ent.go) | (apply Zc; rfl; exact Ob) | (apply Zd; rfl; exact Oc; intro b; refine ⟨Ent.go, ?_⟩) | (apply Ze; rfl; exact Oc; intro b) | (apply Zf; rfl; exact Oe; intro g cap rest hcap) | (apply Zg; rfl; exact Od; intro ad cap) | apply StD.nil | exact StD.nope | apply StD.pick | (apply StD.claim; rfl; intro b) | (apply Zi; rfl; exact Oj; exact Oa) | (apply Zj; rfl; exact Oj; exact Oa; exact Ent.go) | (apply Zk; rfl; exact Oj; exact ⟨rfl, rfl⟩) | (apply Zl; rfl; exact Oj; exact ⟨rfl, rfl⟩; exact Ent.go) | (apply Zm; rfl; exact Oj; rfl) | (apply Zn; rfl; exact Oj; exact Ent.go; rfl) | (refine St.draw (id := 6) [(0, 0), (1, 0), (2, 0), (3, 1), (4, 0), (5, 1), (6, 3)] [6] mixed (by kernel_rfl) ?_)  | (apply Zo; rfl; exact Oj; exact On; all_goals (intro h; try (exfalso; omega))))
      (refine StD.ok3 rfl (OpOk.mapUpdate (u := [y0, y1, y2, y3, y4, y5, y6, y7]) rfl rfl rfl Take.go) rfl ?_; rintro _ _ ⟨rfl, rfl⟩)
      rw [hput]
      repeat' (first | (apply Ya; exact Oa) | (apply Yb; exact Ob) | (apply Yc; exact Oc; intro b) | (apply Ye; exact Oe; intro g cap rest hcap) | (apply Yd; exact Od; intro ad cap) | (apply Yf; exact Oj) | (apply Yg; exact Oj; exact ⟨rfl, rfl⟩) | (apply Yh; exact Oj; rfl) | (apply Yi; exact Oj; exact On; all_goals (intro h; try (exfalso; omega))) | apply StL.nil | apply St.region | apply St.seq | apply St.block | apply St.inBlock | apply St.skip | (apply St.exit; rfl) | (apply St.cond_t; rfl) | (apply St.cond_f; rfl) | (apply Ud; rfl; exact On; all_goals (intro h; try (exfalso; omega))) | (apply Za; rfl; exact Oa) | (apply Zb; rfl; exact Oa; exact Ent.go) | (apply Zc; rfl; exact Ob) | (apply Zd; rfl; exact Oc; intro b; refine ⟨Ent.go, ?_⟩) | (apply Ze; rfl; exact Oc; intro b) | (apply Zf; rfl; exact Oe; intro g cap rest hcap) | (apply Zg; rfl; exact Od; intro ad cap) | apply StD.nil | exact StD.nope | apply StD.pick | (apply StD.claim; rfl; intro b) | (apply Zi; rfl; exact Oj; exact Oa) | (apply Zj; rfl; exact Oj; exact Oa; exact Ent.go) | (apply Zk; rfl; exact Oj; exact ⟨rfl, rfl⟩) | (apply Zl; rfl; exact Oj; exact ⟨rfl, rfl⟩; exact Ent.go) | (apply Zm; rfl; exact Oj; rfl) | (apply Zn; rfl; exact Oj; exact Ent.go; rfl) | (refine St.draw (id := 6) [(0, 0), (1, 0), (2, 0), (3, 1), (4, 0), (5, 1), (6, 3)] [6] mixed (by kernel_rfl) ?_)  | (apply Zo; rfl; exact Oj; exact On; all_goals (intro h; try (exfalso; omega))))
      refine IH ⟨(pre ++ [(k, [y0, y1, y2, y3, y4, y5, y6, y7])], l1 ++ l2, some (k, [y0, y1, y2, y3, y4, y5, y6, y7])), ?_⟩ ?_ ?_ ?_
      · refine List.Perm.trans ?_ hp
        rw [hsp]
        simp only [List.append_assoc, List.singleton_append]
        exact List.Perm.append_left _ List.perm_middle.symm
      · show (l1 ++ l2).length < left.length
        rw [hsp]; simp
      · exact Sub.go
      · exact Ent.go
theorem handles_t (S mb : Nat) (roots : List Nat) (hr : roots.length = 16) (m : List (Int × List Nat)) (hm : m.length ≤ 12) : Tri Try.prog 34 #[.pointer (some ⟨S, 0, none⟩)] [bl S 125 (stV roots mb), Mp mb u64K aggL m]
    fun r L => ∃ ys ad cap, ys.Perm (m.map (·.1)) ∧ Up ys ∧ r = .slice ad ys.length cap ∧ L = [bl S 125 (stV roots mb), Mp mb u64K aggL m, rowU ad cap ys] := by
  have hmp := stV_map hr mb
  have hk := keys_t mb
  have hs := fun Bm => sorted_t Bm mb m hm
  refine Tri.of_body (vs := [_]) Try.func34 rfl rfl fun w0 F => ?_
  repeat' (first | (apply Ya; exact Oa) | (apply Yb; exact Ob) | (apply Yc; exact Oc; intro b) | (apply Ye; exact Oe; intro g cap rest hcap) | (apply Yd; exact Od; intro ad cap) | (apply Yf; exact Oj) | (apply Yg; exact Oj; exact ⟨rfl, rfl⟩) | (apply Yh; exact Oj; rfl) | (apply Yi; exact Oj; exact On; all_goals (intro h; try (exfalso; omega))) | apply StL.nil | apply St.region | apply St.seq | apply St.block | apply St.inBlock | apply St.skip | (apply St.exit; rfl) | (apply St.cond_t; rfl) | (apply St.cond_f; rfl) | (apply Ud; rfl; exact On; all_goals (intro h; try (exfalso; omega))) | (apply Za; rfl; exact Oa) | (apply Zb; rfl; exact Oa; exact Ent.go) | (apply Zc; rfl; exact Ob) | (apply Zd; rfl; exact Oc; intro b; refine ⟨Ent.go, ?_⟩) | (apply Ze; rfl; exact Oc; intro b) | (apply Zf; rfl; exact Oe; intro g cap rest hcap) | (apply Zg; rfl; exact Od; intro ad cap) | apply StD.nil | exact StD.nope | apply StD.pick | (apply StD.claim; rfl; intro b) | (apply Zi; rfl; exact Oj; exact Oa) | (apply Zj; rfl; exact Oj; exact Oa; exact Ent.go) | (apply Zk; rfl; exact Oj; exact ⟨rfl, rfl⟩) | (apply Zl; rfl; exact Oj; exact ⟨rfl, rfl⟩; exact Ent.go) | (apply Zm; rfl; exact Oj; rfl) | (apply Zn; rfl; exact Oj; exact Ent.go; rfl)   | (apply Kd; exact Og; exact hk; exact Oh; rintro _ _ ⟨Bm, rfl, rfl⟩) | (apply Ke; rfl; exact Og; exact hk; exact Oh; rintro _ _ ⟨Bm, rfl, rfl⟩) | (apply Kf; rfl; exact Og; exact hk; exact Oh; rintro _ _ ⟨Bm, rfl, rfl⟩; refine ⟨Ent.go, ?_⟩) | (apply Kd; exact Og; exact hs Bm; exact Oh; rintro _ _ ⟨ys, ad, cap, hp, hu, rfl, rfl⟩) | (apply Ke; rfl; exact Og; exact hs Bm; exact Oh; rintro _ _ ⟨ys, ad, cap, hp, hu, rfl, rfl⟩) | (apply Kf; rfl; exact Og; exact hs Bm; exact Oh; rintro _ _ ⟨ys, ad, cap, hp, hu, rfl, rfl⟩; refine ⟨Ent.go, ?_⟩) | (apply Zo; rfl; exact Oj; exact On; all_goals (intro h; try (exfalso; omega))))
  refine St.d1 Try.func34 ⟨_, ⟨ys, ad, cap, hp, hu, rfl, rfl⟩, Ent.go⟩
end Go.Proofs.Ytmcadilggmlbfaa
