/-
  Package queue: Decode.
-/
import Derived.Test.YtphheopbngdhhaaGreatDoorQf
namespace Go.Proofs.YtphheopbngdhhaaGreatDoor
set_option maxRecDepth 100000
def decGo (m : List (Int × List Nat)) (b : List Nat) : Nat → Nat → Nat → List Nat → Option (List Nat × Nat)
  | 0, _, _, _ => none
  | k + 1, at_, last, out => if at_ = 0 then some (out, last) else match mget m (at_ : Int) with
    | none => none
    | some node => if b.getD 3 0 ≤ out.length ∨ 64 ≤ out.length then none else decGo m b k (node.getD 1 0) at_ (out ++ [node.getD 0 0])
def decE (m : List (Int × List Nat)) (b : List Nat) : Option Qu × Int := match decGo m b 66 (b.getD 1 0) 0 [] with
  | none => (none, 33)
  | some (out, last) => if last = b.getD 2 0 ∧ out.length = b.getD 3 0 ∧ b.getD 3 0 ≤ b.getD 4 0 then (some ⟨b.getD 4 0, out⟩, 0) else (none, 33)
def decM (m : Ms) (root : Int) : Option Qu × Int :=
  if rootOf m.roots root = 0 then (none, 4) else match mget m.blocks ((rootOf m.roots root : Nat) : Int) with
  | none => (none, 44)
  | some b => if b.getD 0 0 = 1 then decE m.blocks b else (none, 32)
theorem decGo_len {m : List (Int × List Nat)} {b : List Nat} : ∀ (k at_ last : Nat) (out o : List Nat) (l : Nat), decGo m b k at_ last out = some (o, l) → out.length ≤ 64 → o.length ≤ 64
  | 0, _, _, _, _, _, h, _ => by cases h
  | k + 1, at_, last, out, o, l, h, hl => by
    unfold decGo at h
    split at h
    · injection h with h; injection h with h1 h2; subst h1; exact hl
    · split at h
      · cases h
      · split at h
        · cases h
        · next hn => exact decGo_len k _ _ _ o l h (by rw [List.length_append, List.length_singleton]; omega)
def decQ (S : Nat) (m : Ms) (r : Option Qu × Int) (v : Value) (L : List HProp) : Prop := ∃ pv H, v = .tuple ⟨[pv, .int .i64 r.2]⟩ ∧ QuR H pv r.1 ∧ L = [H, MsE S m]
set_option maxHeartbeats 2000000 in
theorem decode_t (S : Nat) (m : Ms) (hm : MsOk m) (root : Int) : Tri Tryz.prog 17 #[.pointer (some ⟨S, 0, none⟩), .int .i64 root] [MsE S m] (decQ S m (decM m root)) := by
  have hr := mroot_r S m root
  have hb := fun h => mblock_r S m hm h
  unfold decM
  generalize rootOf m.roots root = h at hr ⊢
  by_cases h0 : h = 0
  · rw [if_pos h0]
    refine Tri.of_body (vs := [_, _]) Tryz.func17 rfl rfl fun w0 F => ?_
    repeat' (first | refine Ga ?_ | (refine Gb ?_; intro b) | (refine Gd ?_; intro g cap rest hcap) | (refine Gc ?_; intro ad cap) | (refine St.draw (id := 14) [(0, 0), (1, 0), (2, 0), (3, 0), (4, 0), (5, 0), (6, 1), (7, 0), (8, 0), (9, 0), (10, 1), (11, 0), (12, 0), (13, 0), (14, 0), (15, 0), (16, 0), (17, 1), (18, 0), (19, 0), (20, 0)] [] mixed (by kernel_rfl) ?_) | (refine St.draw (id := 16) [(0, 0), (1, 0), (2, 0), (3, 0), (4, 1), (5, 0), (6, 1), (7, 2), (8, 3), (9, 0), (10, 0), (11, 3)] [8, 11] mixed (by kernel_rfl) ?_) | (refine St.draw (id := 17) [(0, 0), (1, 0), (2, 1), (3, 0), (4, 0)] [] mixed (by kernel_rfl) ?_) | (refine St.draw (id := 18) [(0, 0), (1, 0), (2, 1), (3, 0), (4, 0), (5, 0), (6, 0), (7, 0), (8, 1), (9, 0), (10, 0), (11, 0), (12, 1), (13, 0), (14, 0), (15, 0), (16, 0), (17, 1), (18, 0), (19, 1), (20, 0), (21, 0)] [] mixed (by kernel_rfl) ?_)| refine Gl hr ?_ | (refine Ge ?_ ?_ <;> (intro h; try (exfalso; omega))) | fail)
    all_goals first | (exfalso; omega) | skip
    refine St.d1 Tryz.func17 ⟨_, ⟨_, star [], rfl, rfl, rfl⟩, ?_⟩
    exact Ent.trans (Ent.star_in []) Ent.go
  · rw [if_neg h0]
    have hbh := hb h
    cases hg : mget m.blocks (h : Int) with
    | none =>
      rw [hg] at hbh
      rw [show aggL ((none : Option (List Nat)).getD zero8) = .agg ⟨u64s zero8⟩ from rfl] at hbh
      refine Tri.of_body (vs := [_, _]) Tryz.func17 rfl rfl fun w0 F => ?_
      repeat' (first | refine Ga ?_ | (refine Gb ?_; intro b) | (refine Gd ?_; intro g cap rest hcap) | (refine Gc ?_; intro ad cap) | (refine St.draw (id := 14) [(0, 0), (1, 0), (2, 0), (3, 0), (4, 0), (5, 0), (6, 1), (7, 0), (8, 0), (9, 0), (10, 1), (11, 0), (12, 0), (13, 0), (14, 0), (15, 0), (16, 0), (17, 1), (18, 0), (19, 0), (20, 0)] [] mixed (by kernel_rfl) ?_) | (refine St.draw (id := 16) [(0, 0), (1, 0), (2, 0), (3, 0), (4, 1), (5, 0), (6, 1), (7, 2), (8, 3), (9, 0), (10, 0), (11, 3)] [8, 11] mixed (by kernel_rfl) ?_) | (refine St.draw (id := 17) [(0, 0), (1, 0), (2, 1), (3, 0), (4, 0)] [] mixed (by kernel_rfl) ?_) | (refine St.draw (id := 18) [(0, 0), (1, 0), (2, 1), (3, 0), (4, 0), (5, 0), (6, 0), (7, 0), (8, 1), (9, 0), (10, 0), (11, 0), (12, 1), (13, 0), (14, 0), (15, 0), (16, 0), (17, 1), (18, 0), (19, 1), (20, 0), (21, 0)] [] mixed (by kernel_rfl) ?_)| refine Gl hr ?_ | refine Gl hbh ?_ | (refine Ge ?_ ?_ <;> (intro h; try (exfalso; omega))) | fail)
      all_goals first | (exfalso; omega) | skip
      refine St.d1 Tryz.func17 ⟨_, ⟨_, star [], rfl, rfl, rfl⟩, ?_⟩
      exact Ent.trans (Ent.star_in []) Ent.go
    | some bk =>
      have hl8 : bk.length = 8 := hm.b _ (mget_mem hg)
      have hul : (u64s bk).length = 8 := by rw [u64s_len, hl8]
      have hone := u64s_one bk
      have hspl := u64s_over hl8
      rw [hg] at hbh
      rw [show aggL ((some bk).getD zero8) = .agg ⟨u64s bk⟩ from rfl] at hbh
      have hat := fun (a : Nat) (ha : a < 8) => u64s_at8 hl8 ha
      have a0 : NthN (0 + (0 : Int).toNat * 1) (u64s bk) (.int .u64 ((bk.getD 0 0 : Nat) : Int)) := hat 0 (by decide)
      have a1 : NthN (0 + (1 : Int).toNat * 1) (u64s bk) (.int .u64 ((bk.getD 1 0 : Nat) : Int)) := hat 1 (by decide)
      have a2 : NthN (0 + (2 : Int).toNat * 1) (u64s bk) (.int .u64 ((bk.getD 2 0 : Nat) : Int)) := hat 2 (by decide)
      have a3 : NthN (0 + (3 : Int).toNat * 1) (u64s bk) (.int .u64 ((bk.getD 3 0 : Nat) : Int)) := hat 3 (by decide)
      have a4 : NthN (0 + (4 : Int).toNat * 1) (u64s bk) (.int .u64 ((bk.getD 4 0 : Nat) : Int)) := hat 4 (by decide)
      clear hat
      dsimp only
      by_cases hk : bk.getD 0 0 = 1
      · rw [if_pos hk]
        have hstep : ∀ (k at_ last : Nat) (out : List Nat), decGo m.blocks bk (k + 1) at_ last out = if at_ = 0 then some (out, last) else match mget m.blocks (at_ : Int) with | none => none | some node => if bk.getD 3 0 ≤ out.length ∨ 64 ≤ out.length then none else decGo m.blocks bk k (node.getD 1 0) at_ (out ++ [node.getD 0 0]) := fun _ _ _ _ => rfl
        have hfin : ∀ r, decGo m.blocks bk 66 (bk.getD 1 0) 0 [] = r → decE m.blocks bk = match r with | none => (none, 33) | some (out, last) => if last = bk.getD 2 0 ∧ out.length = bk.getD 3 0 ∧ bk.getD 3 0 ≤ bk.getD 4 0 then (some ⟨bk.getD 4 0, out⟩, 0) else (none, 33) := fun r h => by rw [← h]; rfl
        generalize bk.getD 0 0 = c0 at *
        generalize bk.getD 1 0 = c1 at *
        generalize bk.getD 2 0 = c2 at *
        generalize bk.getD 3 0 = c3 at *
        generalize bk.getD 4 0 = c4 at *
        subst hk
        generalize hR : decGo m.blocks bk 66 c1 0 [] = R0 at hfin
        refine Tri.of_body (vs := [_, _]) Tryz.func17 rfl rfl fun w0 F => ?_
        repeat' (first | refine Ga ?_ | (refine Gb ?_; intro b) | (refine Gd ?_; intro g cap rest hcap) | (refine Gc ?_; intro ad cap) | (refine St.draw (id := 14) [(0, 0), (1, 0), (2, 0), (3, 0), (4, 0), (5, 0), (6, 1), (7, 0), (8, 0), (9, 0), (10, 1), (11, 0), (12, 0), (13, 0), (14, 0), (15, 0), (16, 0), (17, 1), (18, 0), (19, 0), (20, 0)] [] mixed (by kernel_rfl) ?_) | (refine St.draw (id := 16) [(0, 0), (1, 0), (2, 0), (3, 0), (4, 1), (5, 0), (6, 1), (7, 2), (8, 3), (9, 0), (10, 0), (11, 3)] [8, 11] mixed (by kernel_rfl) ?_) | (refine St.draw (id := 17) [(0, 0), (1, 0), (2, 1), (3, 0), (4, 0)] [] mixed (by kernel_rfl) ?_) | (refine St.draw (id := 18) [(0, 0), (1, 0), (2, 1), (3, 0), (4, 0), (5, 0), (6, 0), (7, 0), (8, 1), (9, 0), (10, 0), (11, 0), (12, 1), (13, 0), (14, 0), (15, 0), (16, 0), (17, 1), (18, 0), (19, 1), (20, 0), (21, 0)] [] mixed (by kernel_rfl) ?_)| refine Gl hr ?_ | refine Gl hbh ?_ | (refine Ge ?_ ?_ <;> (intro h; try (exfalso; omega))) | fail)
        all_goals first | (exfalso; omega) | skip
        revert b; intro Bq
        refine St.conv ?_ (Sub.refl _) (Ent.row_nil 22 1)
        refine St.loopY (Lr := ?Lr1) (ι := { x : Nat × Nat × Nat × List Nat × Option Addr × Nat // decGo m.blocks bk x.1 x.2.1 x.2.2.1 x.2.2.2.1 = R0 ∧ x.1 + x.2.2.2.1.length = 66 ∧ x.2.2.2.1.length ≤ 64 }) (fun x => x.1.1)
          (fun x => [(10, .int .u64 (x.1.2.2.1 : Int)), (11, .int .u64 (x.1.2.1 : Int))]) (fun x => [bl Bq 125 [.int .u64 (c4 : Int), .slice x.1.2.2.2.2.1 x.1.2.2.2.1.length x.1.2.2.2.2.2], Row (.slice x.1.2.2.2.2.1 x.1.2.2.2.1.length x.1.2.2.2.2.2) 22 1 x.1.2.2.2.1.length (u64s x.1.2.2.2.1)]) ⟨(66, c1, 0, [], none, 0), hR, rfl, Nat.zero_le _⟩ ?hE1 ?hL1 ?round1
        case hE1 => exact Sub.go
        case hL1 => exact Takes.go
        case round1 =>
          rintro ⟨⟨k, at_, last, out, oad, ocap⟩, hgo, hkl, hol⟩ IH; dsimp only at hgo hkl hol IH ⊢
          obtain ⟨k, rfl⟩ : ∃ k', k = k' + 1 := ⟨k - 1, by omega⟩
          rw [hstep] at hgo
          by_cases hz : at_ = 0
          · rw [if_pos hz] at hgo
            subst hgo
            rw [hfin _ rfl]
            dsimp only
            clear IH
            by_cases hc : last = c2 ∧ out.length = c3 ∧ c3 ≤ c4
            · rw [if_pos hc]
              obtain ⟨hc1, hc2, hc3⟩ := hc
              repeat' (first | refine Ga ?_ | (refine Gb ?_; intro b) | (refine Gd ?_; intro g cap rest hcap) | (refine Gc ?_; intro ad cap) | (refine St.draw (id := 14) [(0, 0), (1, 0), (2, 0), (3, 0), (4, 0), (5, 0), (6, 1), (7, 0), (8, 0), (9, 0), (10, 1), (11, 0), (12, 0), (13, 0), (14, 0), (15, 0), (16, 0), (17, 1), (18, 0), (19, 0), (20, 0)] [] mixed (by kernel_rfl) ?_) | (refine St.draw (id := 16) [(0, 0), (1, 0), (2, 0), (3, 0), (4, 1), (5, 0), (6, 1), (7, 2), (8, 3), (9, 0), (10, 0), (11, 3)] [8, 11] mixed (by kernel_rfl) ?_) | (refine St.draw (id := 17) [(0, 0), (1, 0), (2, 1), (3, 0), (4, 0)] [] mixed (by kernel_rfl) ?_) | (refine St.draw (id := 18) [(0, 0), (1, 0), (2, 1), (3, 0), (4, 0), (5, 0), (6, 0), (7, 0), (8, 1), (9, 0), (10, 0), (11, 0), (12, 1), (13, 0), (14, 0), (15, 0), (16, 0), (17, 1), (18, 0), (19, 1), (20, 0), (21, 0)] [] mixed (by kernel_rfl) ?_) | (refine Ge ?_ ?_ <;> (intro h; try (exfalso; omega))) | fail)
              all_goals first | (exfalso; omega) | skip
              refine St.conv ?_ (Sub.refl _) (Ent.of_take (p := Row (.slice oad out.length ocap) 22 1 out.length (u64s out)) Take.go)
              refine St.rowS fun R hR => ?_
              refine St.d1 Tryz.func17 ⟨_, ⟨_, star [bl Bq 125 [.int .u64 (c4 : Int), .slice oad out.length ocap], R], rfl, ⟨Bq, _, rfl, RdC.star (p := bl Bq 125 [.int .u64 (c4 : Int), .slice oad out.length ocap]) (.head _) RdC.bl, hR.weak fun b l h => RdC.star (.tail _ (.head _)) h⟩, rfl⟩, ?_⟩
              refine Ent.trans ?_ (Ent.star_in _)
              exact Ent.go
            · rw [if_neg hc]
              repeat' (first | refine Ga ?_ | (refine Gb ?_; intro b) | (refine Gd ?_; intro g cap rest hcap) | (refine Gc ?_; intro ad cap) | (refine St.draw (id := 14) [(0, 0), (1, 0), (2, 0), (3, 0), (4, 0), (5, 0), (6, 1), (7, 0), (8, 0), (9, 0), (10, 1), (11, 0), (12, 0), (13, 0), (14, 0), (15, 0), (16, 0), (17, 1), (18, 0), (19, 0), (20, 0)] [] mixed (by kernel_rfl) ?_) | (refine St.draw (id := 16) [(0, 0), (1, 0), (2, 0), (3, 0), (4, 1), (5, 0), (6, 1), (7, 2), (8, 3), (9, 0), (10, 0), (11, 3)] [8, 11] mixed (by kernel_rfl) ?_) | (refine St.draw (id := 17) [(0, 0), (1, 0), (2, 1), (3, 0), (4, 0)] [] mixed (by kernel_rfl) ?_) | (refine St.draw (id := 18) [(0, 0), (1, 0), (2, 1), (3, 0), (4, 0), (5, 0), (6, 0), (7, 0), (8, 1), (9, 0), (10, 0), (11, 0), (12, 1), (13, 0), (14, 0), (15, 0), (16, 0), (17, 1), (18, 0), (19, 1), (20, 0), (21, 0)] [] mixed (by kernel_rfl) ?_) | (refine Ge ?_ ?_ <;> (intro h; try (exfalso; omega))) | fail)
              all_goals first | (exfalso; omega) | skip
              all_goals refine St.d1 Tryz.func17 ⟨_, ⟨_, star [], rfl, rfl, rfl⟩, ?_⟩
              all_goals exact Ent.trans (Ent.star_in []) Ent.go
          · rw [if_neg hz] at hgo
            have hba := hb at_
            cases hga : mget m.blocks (at_ : Int) with
            | none =>
              rw [hga] at hgo hba
              dsimp only at hgo
              subst hgo
              rw [hfin _ rfl]
              dsimp only
              rw [show aggL ((none : Option (List Nat)).getD zero8) = .agg ⟨u64s zero8⟩ from rfl] at hba
              clear IH
              repeat' (first | refine Ga ?_ | (refine Gb ?_; intro b) | (refine Gd ?_; intro g cap rest hcap) | (refine Gc ?_; intro ad cap) | (refine St.draw (id := 14) [(0, 0), (1, 0), (2, 0), (3, 0), (4, 0), (5, 0), (6, 1), (7, 0), (8, 0), (9, 0), (10, 1), (11, 0), (12, 0), (13, 0), (14, 0), (15, 0), (16, 0), (17, 1), (18, 0), (19, 0), (20, 0)] [] mixed (by kernel_rfl) ?_) | (refine St.draw (id := 16) [(0, 0), (1, 0), (2, 0), (3, 0), (4, 1), (5, 0), (6, 1), (7, 2), (8, 3), (9, 0), (10, 0), (11, 3)] [8, 11] mixed (by kernel_rfl) ?_) | (refine St.draw (id := 17) [(0, 0), (1, 0), (2, 1), (3, 0), (4, 0)] [] mixed (by kernel_rfl) ?_) | (refine St.draw (id := 18) [(0, 0), (1, 0), (2, 1), (3, 0), (4, 0), (5, 0), (6, 0), (7, 0), (8, 1), (9, 0), (10, 0), (11, 0), (12, 1), (13, 0), (14, 0), (15, 0), (16, 0), (17, 1), (18, 0), (19, 1), (20, 0), (21, 0)] [] mixed (by kernel_rfl) ?_)| refine Gl hba ?_ | (refine Ge ?_ ?_ <;> (intro h; try (exfalso; omega))) | fail)
              all_goals first | (exfalso; omega) | skip
              refine St.d1 Tryz.func17 ⟨_, ⟨_, star [], rfl, rfl, rfl⟩, ?_⟩
              exact Ent.trans (Ent.star_in []) Ent.go
            | some node =>
              have hn8 : node.length = 8 := hm.b _ (mget_mem hga)
              have hnl : (u64s node).length = 8 := by rw [u64s_len, hn8]
              have hnone := u64s_one node
              have hnspl := u64s_over hn8
              rw [hga] at hgo hba
              dsimp only at hgo
              rw [show aggL ((some node).getD zero8) = .agg ⟨u64s node⟩ from rfl] at hba
              have n0 : NthN (0 + (0 : Int).toNat * 1) (u64s node) (.int .u64 ((node.getD 0 0 : Nat) : Int)) := u64s_at8 hn8 (a := 0) (by decide)
              have n1 : NthN (0 + (1 : Int).toNat * 1) (u64s node) (.int .u64 ((node.getD 1 0 : Nat) : Int)) := u64s_at8 hn8 (a := 1) (by decide)
              by_cases hc : c3 ≤ out.length ∨ 64 ≤ out.length
              · rw [if_pos hc] at hgo
                subst hgo
                rw [hfin _ rfl]
                dsimp only
                clear IH
                repeat' (first | refine Ga ?_ | (refine Gb ?_; intro b) | (refine Gd ?_; intro g cap rest hcap) | (refine Gc ?_; intro ad cap) | (refine St.draw (id := 14) [(0, 0), (1, 0), (2, 0), (3, 0), (4, 0), (5, 0), (6, 1), (7, 0), (8, 0), (9, 0), (10, 1), (11, 0), (12, 0), (13, 0), (14, 0), (15, 0), (16, 0), (17, 1), (18, 0), (19, 0), (20, 0)] [] mixed (by kernel_rfl) ?_) | (refine St.draw (id := 16) [(0, 0), (1, 0), (2, 0), (3, 0), (4, 1), (5, 0), (6, 1), (7, 2), (8, 3), (9, 0), (10, 0), (11, 3)] [8, 11] mixed (by kernel_rfl) ?_) | (refine St.draw (id := 17) [(0, 0), (1, 0), (2, 1), (3, 0), (4, 0)] [] mixed (by kernel_rfl) ?_) | (refine St.draw (id := 18) [(0, 0), (1, 0), (2, 1), (3, 0), (4, 0), (5, 0), (6, 0), (7, 0), (8, 1), (9, 0), (10, 0), (11, 0), (12, 1), (13, 0), (14, 0), (15, 0), (16, 0), (17, 1), (18, 0), (19, 1), (20, 0), (21, 0)] [] mixed (by kernel_rfl) ?_)| refine Gl hba ?_ | (refine Ge ?_ ?_ <;> (intro h; try (exfalso; omega))) | fail)
                all_goals first | (exfalso; omega) | skip
                all_goals refine St.d1 Tryz.func17 ⟨_, ⟨_, star [], rfl, rfl, rfl⟩, ?_⟩
                all_goals exact Ent.trans (Ent.star_in []) Ent.go
              · rw [if_neg hc] at hgo
                repeat' (first | refine Ga ?_ | (refine Gb ?_; intro b) | (refine Gd ?_; intro g cap rest hcap) | (refine Gc ?_; intro ad cap) | (refine St.draw (id := 14) [(0, 0), (1, 0), (2, 0), (3, 0), (4, 0), (5, 0), (6, 1), (7, 0), (8, 0), (9, 0), (10, 1), (11, 0), (12, 0), (13, 0), (14, 0), (15, 0), (16, 0), (17, 1), (18, 0), (19, 0), (20, 0)] [] mixed (by kernel_rfl) ?_) | (refine St.draw (id := 16) [(0, 0), (1, 0), (2, 0), (3, 0), (4, 1), (5, 0), (6, 1), (7, 2), (8, 3), (9, 0), (10, 0), (11, 3)] [8, 11] mixed (by kernel_rfl) ?_) | (refine St.draw (id := 17) [(0, 0), (1, 0), (2, 1), (3, 0), (4, 0)] [] mixed (by kernel_rfl) ?_) | (refine St.draw (id := 18) [(0, 0), (1, 0), (2, 1), (3, 0), (4, 0), (5, 0), (6, 0), (7, 0), (8, 1), (9, 0), (10, 0), (11, 0), (12, 1), (13, 0), (14, 0), (15, 0), (16, 0), (17, 1), (18, 0), (19, 1), (20, 0), (21, 0)] [] mixed (by kernel_rfl) ?_)| refine Gl hba ?_ | (refine Ge ?_ ?_ <;> (intro h; try (exfalso; omega))) | fail)
                all_goals first | (exfalso; omega) | skip
                refine IH ⟨(k, node.getD 1 0, at_, out ++ [node.getD 0 0], ad, cap), hgo, by rw [List.length_append]; show k + (out.length + 1) = 66; omega, by rw [List.length_append]; show out.length + 1 ≤ 64; omega⟩ (by show k < k + 1; omega) ?_ ?_
                · exact Sub.go
                · dsimp only; rw [List.length_append, show u64s (out ++ [node.getD 0 0]) = u64s out ++ [.int .u64 ((node.getD 0 0 : Nat) : Int)] by simp [u64s]]; exact Ent.go
      · rw [if_neg hk]
        generalize bk.getD 0 0 = c0 at *
        refine Tri.of_body (vs := [_, _]) Tryz.func17 rfl rfl fun w0 F => ?_
        repeat' (first | refine Ga ?_ | (refine Gb ?_; intro b) | (refine Gd ?_; intro g cap rest hcap) | (refine Gc ?_; intro ad cap) | (refine St.draw (id := 14) [(0, 0), (1, 0), (2, 0), (3, 0), (4, 0), (5, 0), (6, 1), (7, 0), (8, 0), (9, 0), (10, 1), (11, 0), (12, 0), (13, 0), (14, 0), (15, 0), (16, 0), (17, 1), (18, 0), (19, 0), (20, 0)] [] mixed (by kernel_rfl) ?_) | (refine St.draw (id := 16) [(0, 0), (1, 0), (2, 0), (3, 0), (4, 1), (5, 0), (6, 1), (7, 2), (8, 3), (9, 0), (10, 0), (11, 3)] [8, 11] mixed (by kernel_rfl) ?_) | (refine St.draw (id := 17) [(0, 0), (1, 0), (2, 1), (3, 0), (4, 0)] [] mixed (by kernel_rfl) ?_) | (refine St.draw (id := 18) [(0, 0), (1, 0), (2, 1), (3, 0), (4, 0), (5, 0), (6, 0), (7, 0), (8, 1), (9, 0), (10, 0), (11, 0), (12, 1), (13, 0), (14, 0), (15, 0), (16, 0), (17, 1), (18, 0), (19, 1), (20, 0), (21, 0)] [] mixed (by kernel_rfl) ?_)| refine Gl hr ?_ | refine Gl hbh ?_ | (refine Ge ?_ ?_ <;> (intro h; try (exfalso; omega))) | fail)
        all_goals first | (exfalso; omega) | skip
        refine St.d1 Tryz.func17 ⟨_, ⟨_, star [], rfl, rfl, rfl⟩, ?_⟩
        exact Ent.trans (Ent.star_in []) Ent.go
end Go.Proofs.YtphheopbngdhhaaGreatDoor
