/-
  Package model: a state; New, Root, Block, Clone.
-/
import Derived.Test.YtphheopbngdhhaaGreatDoorInsc
import Derived.Test.YtphheopbngdhhaaGreatDoorJc
namespace Go.Proofs.YtphheopbngdhhaaGreatDoor
set_option maxRecDepth 100000
def zero8 : List Nat := [0, 0, 0, 0, 0, 0, 0, 0]
def aggL (l : List Nat) : Value := .agg ⟨u64s l⟩
abbrev u64K : Int → Value := Value.int .u64
instance mapBlocks : MapTy Tryz.prog 89 Int (List Nat) u64K aggL zero8 := MapTy.int (kt := 22) (et := 105) (by kernel_rfl) (by kernel_rfl) (fun w => by rfl)
def g4 (l : List Nat) : List Value := [.int .u64 ((l.getD 0 0 : Nat) : Int), .int .u64 ((l.getD 1 0 : Nat) : Int), .int .u64 ((l.getD 2 0 : Nat) : Int), .int .u64 ((l.getD 3 0 : Nat) : Int)]
def g16 (l : List Nat) : List Value := [.int .u64 ((l.getD 0 0 : Nat) : Int), .int .u64 ((l.getD 1 0 : Nat) : Int), .int .u64 ((l.getD 2 0 : Nat) : Int), .int .u64 ((l.getD 3 0 : Nat) : Int), .int .u64 ((l.getD 4 0 : Nat) : Int), .int .u64 ((l.getD 5 0 : Nat) : Int), .int .u64 ((l.getD 6 0 : Nat) : Int), .int .u64 ((l.getD 7 0 : Nat) : Int), .int .u64 ((l.getD 8 0 : Nat) : Int), .int .u64 ((l.getD 9 0 : Nat) : Int), .int .u64 ((l.getD 10 0 : Nat) : Int), .int .u64 ((l.getD 11 0 : Nat) : Int), .int .u64 ((l.getD 12 0 : Nat) : Int), .int .u64 ((l.getD 13 0 : Nat) : Int), .int .u64 ((l.getD 14 0 : Nat) : Int), .int .u64 ((l.getD 15 0 : Nat) : Int)]
theorem len16 {l : List Nat} (h : l.length = 16) : ∃ a0 a1 a2 a3 a4 a5 a6 a7 a8 a9 a10 a11 a12 a13 a14 a15, l = [a0, a1, a2, a3, a4, a5, a6, a7, a8, a9, a10, a11, a12, a13, a14, a15] := by
  match l, h with
  | [a0, a1, a2, a3, a4, a5, a6, a7, a8, a9, a10, a11, a12, a13, a14, a15], _ => exact ⟨a0, a1, a2, a3, a4, a5, a6, a7, a8, a9, a10, a11, a12, a13, a14, a15, rfl⟩
theorem len4 {l : List Nat} (h : l.length = 4) : ∃ a0 a1 a2 a3, l = [a0, a1, a2, a3] := by
  match l, h with
  | [a0, a1, a2, a3], _ => exact ⟨a0, a1, a2, a3, rfl⟩
theorem eight_of {α : Type} {l : List α} (h : l.length = 8) : ∃ x0 x1 x2 x3 x4 x5 x6 x7, l = [x0, x1, x2, x3, x4, x5, x6, x7] := by
  match l, h with
  | [x0, x1, x2, x3, x4, x5, x6, x7], _ => exact ⟨_, _, _, _, _, _, _, _, rfl⟩
theorem g16_eq {l : List Nat} (h : l.length = 16) : g16 l = u64s l := by
  obtain ⟨a0, a1, a2, a3, a4, a5, a6, a7, a8, a9, a10, a11, a12, a13, a14, a15, rfl⟩ := len16 h
  rfl
theorem g4_eq {l : List Nat} (h : l.length = 4) : g4 l = u64s l := by
  obtain ⟨a0, a1, a2, a3, rfl⟩ := len4 h
  rfl
theorem mget_mem {κ β : Type} [DecidableEq κ] {k : κ} {x : β} : ∀ {m : List (κ × β)}, mget m k = some x → (k, x) ∈ m
  | [], h => by cases h
  | (y, z) :: m, h => by
    unfold mget at h
    split at h
    · injection h with h; subst h; subst y; simp
    · exact List.mem_cons_of_mem _ (mget_mem h)
/-- roots, and blocks by their handles -/
structure Ms where
  roots : List Nat
  blocks : List (Int × List Nat)
structure MsOk (m : Ms) : Prop where
  r : m.roots.length = 16
  b : ∀ p ∈ m.blocks, p.2.length = 8
theorem MsOk.get {m : Ms} (h : MsOk m) (k : Int) : ((mget m.blocks k).getD zero8).length = 8 := by
  cases hq : mget m.blocks k with
  | none => rfl
  | some l => exact h.b _ (mget_mem hq)
/-- a state's own cells -/
def stV (roots : List Nat) (mb : Nat) : List Value := g16 roots ++ [.map (some mb)]
def msL (S : Nat) (m : Ms) (mb : Nat) : List HProp := [bl S 91 (stV m.roots mb), Mp mb u64K aggL m.blocks]
def MsE (S : Nat) (m : Ms) : HProp := ex (msL S m)
theorem Ent.ms {S mb : Nat} {m : Ms} {L : List HProp} : Ent (bl S 91 (stV m.roots mb) :: Mp mb u64K aggL m.blocks :: L) (MsE S m :: L) := Ent.ex_in (Ls := msL S m) mb
def rootOf (roots : List Nat) (k : Int) : Nat := if k < 0 ∨ 16 ≤ k then 0 else roots.getD k.toNat 0
theorem g16_at {l : List Nat} (rest : List Value) {a : Int} (h0 : 0 ≤ a) (h1 : a < 16) : NthN (0 + 0 + a.toNat * 1) (g16 l ++ rest) (.int .u64 ((l.getD a.toNat 0 : Nat) : Int)) := by
  have h : a = 0 ∨ a = 1 ∨ a = 2 ∨ a = 3 ∨ a = 4 ∨ a = 5 ∨ a = 6 ∨ a = 7 ∨ a = 8 ∨ a = 9 ∨ a = 10 ∨ a = 11 ∨ a = 12 ∨ a = 13 ∨ a = 14 ∨ a = 15 := by omega
  rcases h with rfl | rfl | rfl | rfl | rfl | rfl | rfl | rfl | rfl | rfl | rfl | rfl | rfl | rfl | rfl | rfl <;> exact NthN.of rfl
def ms0 : Ms := ⟨[0, 0, 0, 0, 0, 0, 0, 0, 0, 0, 0, 0, 0, 0, 0, 0], []⟩
theorem mnew_t : Tri Tryz.prog 8 #[] [] fun v L => ∃ S, v = .pointer (some ⟨S, 0, none⟩) ∧ L = [MsE S ms0] := by
  refine Tri.of_body (vs := []) Tryz.func8 rfl rfl fun w0 F => ?_
  repeat' (first | refine Ga ?_ | (refine Gb ?_; intro b) | (refine Gd ?_; intro g cap rest hcap) | (refine Gc ?_; intro ad cap)  | (refine Ge ?_ ?_ <;> (intro h; try (exfalso; omega))) | fail)
  rename_i mb
  refine St.d1 Tryz.func8 ⟨_, ⟨b, rfl, rfl⟩, Ent.trans ?_ (Ent.ms (mb := mb))⟩
  exact Ent.go
theorem mroot_r (S : Nat) (m : Ms) (k : Int) : RTri Tryz.prog 37 #[.pointer (some ⟨S, 0, none⟩), .int .i64 k] [MsE S m] (.int .u64 (rootOf m.roots k : Int)) := by
  refine RTri.of_exact fun W0 hs => ?_
  obtain ⟨mb, hs⟩ := sat_ex hs
  have hrd := RdC.exact hs (ReadsC.here RdC.bl)
  unfold rootOf
  by_cases h : k < 0 ∨ 16 ≤ k
  · rw [if_pos h]
    by_cases h0 : k < 0
    · refine Tri.of_body (vs := [_, _]) Tryz.func37 rfl rfl fun w0 F => ?_
      repeat' (first | refine Ga ?_ | (refine Gb ?_; intro b) | (refine Gd ?_; intro g cap rest hcap) | (refine Gc ?_; intro ad cap)  | (refine Ge ?_ ?_ <;> (intro h; try (exfalso; omega))) | fail)
      refine St.d1 Tryz.func37 ⟨_, ⟨rfl, rfl⟩, Ent.go⟩
    · have h1 : 16 ≤ k := by omega
      refine Tri.of_body (vs := [_, _]) Tryz.func37 rfl rfl fun w0 F => ?_
      repeat' (first | refine Ga ?_ | (refine Gb ?_; intro b) | (refine Gd ?_; intro g cap rest hcap) | (refine Gc ?_; intro ad cap)  | (refine Ge ?_ ?_ <;> (intro h; try (exfalso; omega))) | fail)
      refine St.d1 Tryz.func37 ⟨_, ⟨rfl, rfl⟩, Ent.go⟩
  · rw [if_neg h]
    have hn : NthN (0 + 0 + k.toNat * 1) (stV m.roots mb) (.int .u64 ((m.roots.getD k.toNat 0 : Nat) : Int)) := g16_at _ (by omega) (by omega)
    refine Tri.of_body (vs := [_, _]) Tryz.func37 rfl rfl fun w0 F => ?_
    repeat' (first | refine Ga ?_ | (refine Gb ?_; intro b) | (refine Gd ?_; intro g cap rest hcap) | (refine Gc ?_; intro ad cap)  | (refine Ge ?_ ?_ <;> (intro h; try (exfalso; omega))) | fail)
    refine St.d1 Tryz.func37 ⟨_, ⟨rfl, rfl⟩, Ent.go⟩
theorem RdM.exact {W : World} {L : List HProp} {b : Nat} {κ β : Type} {enc : κ → Value} {f : β → Value} {m : List (κ × β)} (hs : Sat L (hpOf W)) (r : ReadsM b enc f m L) : RdM (exact' W) b enc f m :=
  RdM.of_sat (p := exact' W) (fun k hk => by rw [show k = hpOf W from hk]; exact hs) r
theorem mblock_r (S : Nat) (m : Ms) (hm : MsOk m) (h : Nat) : RTri Tryz.prog 38 #[.pointer (some ⟨S, 0, none⟩), .int .u64 (h : Int)] [MsE S m]
    (.tuple ⟨[aggL ((mget m.blocks (h : Int)).getD zero8), .bool (mget m.blocks (h : Int)).isSome]⟩) := by
  refine RTri.of_exact fun W0 hs => ?_
  obtain ⟨mb, hs⟩ := sat_ex hs
  have hX := RdC.exact hs (ReadsC.here RdC.bl)
  have hM := RdM.exact hs (ReadsM.there (ReadsM.here RdM.mp))
  unfold stV g16 at hX
  obtain ⟨x0, x1, x2, x3, x4, x5, x6, x7, hg⟩ := eight_of (hm.get (h : Int))
  have hag : aggL ((mget m.blocks (h : Int)).getD zero8) = .agg ⟨[.int .u64 (x0 : Int), .int .u64 (x1 : Int), .int .u64 (x2 : Int), .int .u64 (x3 : Int), .int .u64 (x4 : Int), .int .u64 (x5 : Int), .int .u64 (x6 : Int), .int .u64 (x7 : Int)]⟩ := by rw [hg]; rfl
  rw [hag]
  refine Tri.of_body (vs := [_, _]) Tryz.func38 rfl rfl fun w0 F => ?_
  repeat' (first | refine Ga ?_ | (refine Gb ?_; intro b) | (refine Gd ?_; intro g cap rest hcap) | (refine Gc ?_; intro ad cap)  | (refine Ge ?_ ?_ <;> (intro h; try (exfalso; omega))) | fail)
  rw [hag]
  repeat' (first | refine Ga ?_ | (refine Gb ?_; intro b) | (refine Gd ?_; intro g cap rest hcap) | (refine Gc ?_; intro ad cap)  | (refine Ge ?_ ?_ <;> (intro h; try (exfalso; omega))) | fail)
  refine St.d1 Tryz.func38 ⟨_, ⟨rfl, rfl⟩, Ent.go⟩
theorem OpV.eqM0 {P : Program} {n' : Fi} {E : Env} {L : List HProp} {ty : TypeId} {t t' kt et : Nat} {x y : Operand} {b : Nat} [hu : Und P t (.map kt et)] (hx : ev E x = some (.map (some b))) (hy : ev E y = some (.map none)) : OpV P n' (.binOp .eql t x y t') ty E L (.bool false) := by
  unfold OpV
  exact (fun _ _ _ _ a w ha _ => by
    have h0 : ∀ d, (Op.equalIn (d + 1) t (.map (some b)) (.map none)).run P w = .ok false w := fun d => by simp [Op.equalIn, run_underlying hu.h]
    have h1 := h0 9999
    simp only [execOp, ha.ev hx, ha.ev hy, Sem.run_bind, eqGuard, binOp, Op.equal, Op.maxDepth]
    simp [h1])
set_option maxHeartbeats 1000000 in
theorem mapsClone_t (mb : Nat) (m : List (Int × List Nat)) : Tri Tryz.prog 97 #[.map (some mb)] [Mp mb u64K aggL m] fun v L => ∃ c, v = .map (some c) ∧ L = [Mp c u64K aggL m, Mp mb u64K aggL m] := by
  refine Tri.of_body (vs := [_]) Tryz.func97 rfl rfl fun w0 F => ?_
  repeat' (first | refine Ga ?_ | (refine Gb ?_; intro b) | (refine Gd ?_; intro g cap rest hcap) | (refine Gc ?_; intro ad cap)  | (refine Ge ?_ ?_ <;> (intro h; try (exfalso; omega))) | fail)
  (apply StL.v; (apply OpV.eqM0; rfl; rfl); rfl)
  repeat' (first | refine Ga ?_ | (refine Gb ?_; intro b) | (refine Gd ?_; intro g cap rest hcap) | (refine Gc ?_; intro ad cap)  | (refine Ge ?_ ?_ <;> (intro h; try (exfalso; omega))) | fail)
  (apply StL.ok; (apply OpOk.mclone (fn := Tryz.f131) Tryz.func131 (by kernel_rfl) rfl (by kernel_rfl) (by kernel_rfl) rfl Take.go); rfl; rintro _ _ ⟨c, rfl, rfl⟩)
  repeat' (first | refine Ga ?_ | (refine Gb ?_; intro b) | (refine Gd ?_; intro g cap rest hcap) | (refine Gc ?_; intro ad cap)  | (refine Ge ?_ ?_ <;> (intro h; try (exfalso; omega))) | fail)
  refine St.d1 Tryz.func97 ⟨_, ⟨c, rfl, rfl⟩, Ent.go⟩
theorem mclone_t (S : Nat) (m : Ms) : Tri Tryz.prog 67 #[.pointer (some ⟨S, 0, none⟩)] [MsE S m] fun v L => ∃ S', v = .pointer (some ⟨S', 0, none⟩) ∧ L = [MsE S' m, MsE S m] := by
  refine Tri.ex_out fun mb => ?_
  unfold msL
  have hc := mapsClone_t mb m.blocks
  have htk : TakeN 16 (stV m.roots mb) (g16 m.roots) := TakeN.app (g16 m.roots) _
  have hdr : DropN (0 + 0) (stV m.roots mb) (stV m.roots mb) := .zero
  have hgl : (g16 m.roots).length = 16 := rfl
  refine Tri.of_body (vs := [_]) Tryz.func67 rfl rfl fun w0 F => ?_
  repeat' (first | refine Ga ?_ | (refine Gb ?_; intro b) | (refine Gd ?_; intro g cap rest hcap) | (refine Gc ?_; intro ad cap) | (refine St.draw (id := 1) [(0, 0), (1, 0), (2, 0), (3, 1), (4, 0), (5, 0), (6, 0), (7, 1), (8, 2), (9, 0), (10, 2), (11, 0)] [] mixed (by kernel_rfl) ?_) | (refine Gt hc ?_; rintro _ _ ⟨c, rfl, rfl⟩) | (refine Gu hc ?_; rintro _ _ ⟨c, rfl, rfl⟩; refine ⟨Ent.go, ?_⟩) | (refine Ge ?_ ?_ <;> (intro h; try (exfalso; omega))) | fail)
  refine St.d1 Tryz.func67 ⟨_, ⟨b, rfl, rfl⟩, ?_⟩
  refine Ent.trans ?_ (Ent.ms (S := b) (mb := c) (m := m) (L := MsE S m :: F))
  refine Ent.trans ?_ (Ent.cons (Ent.cons (Ent.ms (S := S) (mb := mb) (m := m) (L := F))))
  exact Ent.go
end Go.Proofs.YtphheopbngdhhaaGreatDoor
