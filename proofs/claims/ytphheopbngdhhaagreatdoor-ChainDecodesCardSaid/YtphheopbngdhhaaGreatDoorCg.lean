/-
  Package chain: Decode.
-/
import Derived.Test.YtphheopbngdhhaaGreatDoorCd
namespace Go.Proofs.YtphheopbngdhhaaGreatDoor
set_option maxRecDepth 100000
def decGo (m : List (Int × List Nat)) : Nat → Nat → List Nat → Option (List Nat)
  | 0, _, _ => none
  | k + 1, at_, out => if at_ = 0 then some out else match mget m (at_ : Int) with
    | none => none
    | some node => if 64 ≤ out.length ∨ (out ≠ [] ∧ node.getD 0 0 ≤ out.getLastD 0) then none else decGo m k (node.getD 1 0) (out ++ [node.getD 0 0])
def decE (m : List (Int × List Nat)) (b : List Nat) : Option Qu × Int := match decGo m 66 (b.getD 1 0) [] with
  | none => (none, 33)
  | some out => if out.length = b.getD 2 0 ∧ b.getD 2 0 ≤ b.getD 3 0 then (some ⟨b.getD 3 0, out⟩, 0) else (none, 33)
def decM (m : Ms) (root : Int) : Option Qu × Int :=
  if rootOf m.roots root = 0 then (none, 4) else match mget m.blocks ((rootOf m.roots root : Nat) : Int) with
  | none => (none, 44)
  | some b => if b.getD 0 0 = 2 then decE m.blocks b else (none, 32)
theorem decGo_len {m : List (Int × List Nat)} : ∀ (k at_ : Nat) (out o : List Nat), decGo m k at_ out = some o → out.length ≤ 64 → o.length ≤ 64
  | 0, _, _, _, h, _ => by cases h
  | k + 1, at_, out, o, h, hl => by
    unfold decGo at h
    split at h
    · injection h with h; subst h; exact hl
    · split at h
      · cases h
      · split at h
        · cases h
        · next hn => exact decGo_len k _ _ o h (by rw [List.length_append, List.length_singleton]; omega)
def decQ (S : Nat) (m : Ms) (r : Option Qu × Int) (v : Value) (L : List HProp) : Prop := ∃ pv H, v = .tuple ⟨[pv, .int .i64 r.2]⟩ ∧ QuR H pv r.1 ∧ L = [H, MsE S m]
set_option maxHeartbeats 2000000 in
theorem decode_t (S : Nat) (m : Ms) (hm : MsOk m) (root : Int) : Tri Tryz.prog 21 #[.pointer (some ⟨S, 0, none⟩), .int .i64 root] [MsE S m] (decQ S m (decM m root)) := by
  have hr := mroot_r S m root
  have hb := fun h => mblock_r S m hm h
  unfold decM
  generalize rootOf m.roots root = h at hr ⊢
  by_cases h0 : h = 0
  · rw [if_pos h0]
    refine Tri.of_body (vs := [_, _]) Tryz.func21 rfl rfl fun w0 F => ?_
    repeat' (first | refine Ga ?_ | (refine Gb ?_; intro b) | (refine Gd ?_; intro g cap rest hcap) | (refine Gc ?_; intro ad cap) | (refine St.draw (id := 14) [(0, 0), (1, 0), (2, 0), (3, 0), (4, 0), (5, 0), (6, 0), (7, 0), (8, 0), (9, 0), (10, 0), (11, 1), (12, 0), (13, 0), (14, 0), (15, 1), (16, 0), (17, 0), (18, 0), (19, 1), (20, 0), (21, 0), (22, 0)] [] mixed (by kernel_rfl) ?_) | (refine St.draw (id := 16) [(0, 0), (1, 0), (2, 0), (3, 0), (4, 1), (5, 0), (6, 1), (7, 2), (8, 3), (9, 0), (10, 0), (11, 3)] [8, 11] mixed (by kernel_rfl) ?_) | (refine St.draw (id := 18) [(0, 0), (1, 0), (2, 0), (3, 1), (4, 0), (5, 0), (6, 0), (7, 1), (8, 0), (9, 0), (10, 0), (11, 1), (12, 0), (13, 1), (14, 0), (15, 0)] [] mixed (by kernel_rfl) ?_)| refine Gl hr ?_ | (refine Ge ?_ ?_ <;> (intro h; try (exfalso; omega))) | fail)
    all_goals first | (exfalso; omega) | skip
    refine St.d1 Tryz.func21 ⟨_, ⟨_, star [], rfl, rfl, rfl⟩, ?_⟩
    exact Ent.trans (Ent.star_in []) Ent.go
  · rw [if_neg h0]
    have hbh := hb h
    cases hg : mget m.blocks (h : Int) with
    | none =>
      rw [hg] at hbh
      rw [show aggL ((none : Option (List Nat)).getD zero8) = .agg ⟨u64s zero8⟩ from rfl] at hbh
      refine Tri.of_body (vs := [_, _]) Tryz.func21 rfl rfl fun w0 F => ?_
      repeat' (first | refine Ga ?_ | (refine Gb ?_; intro b) | (refine Gd ?_; intro g cap rest hcap) | (refine Gc ?_; intro ad cap) | (refine St.draw (id := 14) [(0, 0), (1, 0), (2, 0), (3, 0), (4, 0), (5, 0), (6, 0), (7, 0), (8, 0), (9, 0), (10, 0), (11, 1), (12, 0), (13, 0), (14, 0), (15, 1), (16, 0), (17, 0), (18, 0), (19, 1), (20, 0), (21, 0), (22, 0)] [] mixed (by kernel_rfl) ?_) | (refine St.draw (id := 16) [(0, 0), (1, 0), (2, 0), (3, 0), (4, 1), (5, 0), (6, 1), (7, 2), (8, 3), (9, 0), (10, 0), (11, 3)] [8, 11] mixed (by kernel_rfl) ?_) | (refine St.draw (id := 18) [(0, 0), (1, 0), (2, 0), (3, 1), (4, 0), (5, 0), (6, 0), (7, 1), (8, 0), (9, 0), (10, 0), (11, 1), (12, 0), (13, 1), (14, 0), (15, 0)] [] mixed (by kernel_rfl) ?_)| refine Gl hr ?_ | refine Gl hbh ?_ | (refine Ge ?_ ?_ <;> (intro h; try (exfalso; omega))) | fail)
      all_goals first | (exfalso; omega) | skip
      refine St.d1 Tryz.func21 ⟨_, ⟨_, star [], rfl, rfl, rfl⟩, ?_⟩
      exact Ent.trans (Ent.star_in []) Ent.go
    | some bk =>
      have hl8 : bk.length = 8 := hm.b _ (mget_mem hg)
      have hul : (u64s bk).length = 8 := by rw [u64s_len, hl8]
      have hone := u64s_one bk
      have hspl := u64s_over hl8
      rw [hg] at hbh
      rw [show aggL ((some bk).getD zero8) = .agg ⟨u64s bk⟩ from rfl] at hbh
      have hat := fun (a : Nat) (ha : a < 8) => u64s_at8 hl8 ha
      have a0 : NthN (0 + (0 : Int).toNat * 1) (u64s bk) (.int .u64 ((bk.getD 0 0 : Nat) : Int)) := hat 0 (by decide)
      have a1 : NthN (0 + (1 : Int).toNat * 1) (u64s bk) (.int .u64 ((bk.getD 1 0 : Nat) : Int)) := hat 1 (by decide)
      have a2 : NthN (0 + (2 : Int).toNat * 1) (u64s bk) (.int .u64 ((bk.getD 2 0 : Nat) : Int)) := hat 2 (by decide)
      have a3 : NthN (0 + (3 : Int).toNat * 1) (u64s bk) (.int .u64 ((bk.getD 3 0 : Nat) : Int)) := hat 3 (by decide)
      clear hat
      dsimp only
      by_cases hk : bk.getD 0 0 = 2
      · rw [if_pos hk]
        have hstep : ∀ (k at_ : Nat) (out : List Nat), decGo m.blocks (k + 1) at_ out = if at_ = 0 then some out else match mget m.blocks (at_ : Int) with | none => none | some node => if 64 ≤ out.length ∨ (out ≠ [] ∧ node.getD 0 0 ≤ out.getLastD 0) then none else decGo m.blocks k (node.getD 1 0) (out ++ [node.getD 0 0]) := fun _ _ _ => rfl
        have hfin : ∀ r, decGo m.blocks 66 (bk.getD 1 0) [] = r → decE m.blocks bk = match r with | none => (none, 33) | some out => if out.length = bk.getD 2 0 ∧ bk.getD 2 0 ≤ bk.getD 3 0 then (some ⟨bk.getD 3 0, out⟩, 0) else (none, 33) := fun r h => by rw [← h]; rfl
        generalize bk.getD 0 0 = c0 at *
        generalize bk.getD 1 0 = c1 at *
        generalize bk.getD 2 0 = c2 at *
        generalize bk.getD 3 0 = c3 at *
        subst hk
        generalize hR : decGo m.blocks 66 c1 [] = R0 at hfin
        refine Tri.of_body (vs := [_, _]) Tryz.func21 rfl rfl fun w0 F => ?_
        repeat' (first | refine Ga ?_ | (refine Gb ?_; intro b) | (refine Gd ?_; intro g cap rest hcap) | (refine Gc ?_; intro ad cap) | (refine St.draw (id := 14) [(0, 0), (1, 0), (2, 0), (3, 0), (4, 0), (5, 0), (6, 0), (7, 0), (8, 0), (9, 0), (10, 0), (11, 1), (12, 0), (13, 0), (14, 0), (15, 1), (16, 0), (17, 0), (18, 0), (19, 1), (20, 0), (21, 0), (22, 0)] [] mixed (by kernel_rfl) ?_) | (refine St.draw (id := 16) [(0, 0), (1, 0), (2, 0), (3, 0), (4, 1), (5, 0), (6, 1), (7, 2), (8, 3), (9, 0), (10, 0), (11, 3)] [8, 11] mixed (by kernel_rfl) ?_) | (refine St.draw (id := 18) [(0, 0), (1, 0), (2, 0), (3, 1), (4, 0), (5, 0), (6, 0), (7, 1), (8, 0), (9, 0), (10, 0), (11, 1), (12, 0), (13, 1), (14, 0), (15, 0)] [] mixed (by kernel_rfl) ?_)| refine Gl hr ?_ | refine Gl hbh ?_ | (refine Ge ?_ ?_ <;> (intro h; try (exfalso; omega))) | fail)
        all_goals first | (exfalso; omega) | skip
        revert b; intro Bq
        refine St.conv ?_ (Sub.refl _) (Ent.row_nil 22 1)
        refine St.loopY (Lr := ?Lr1) (ι := { x : Nat × Nat × List Nat × Option Addr × Nat // decGo m.blocks x.1 x.2.1 x.2.2.1 = R0 ∧ x.1 + x.2.2.1.length = 66 ∧ x.2.2.1.length ≤ 64 }) (fun x => x.1.1)
          (fun x => [(10, .int .u64 (x.1.2.1 : Int))]) (fun x => [bl Bq 142 [.int .u64 (c3 : Int), .slice x.1.2.2.2.1 x.1.2.2.1.length x.1.2.2.2.2], Row (.slice x.1.2.2.2.1 x.1.2.2.1.length x.1.2.2.2.2) 22 1 x.1.2.2.1.length (u64s x.1.2.2.1)]) ⟨(66, c1, [], none, 0), hR, rfl, Nat.zero_le _⟩ ?hE1 ?hL1 ?round1
        case hE1 => exact Sub.go
        case hL1 => exact Takes.go
        case round1 =>
          rintro ⟨⟨k, at_, out, oad, ocap⟩, hgo, hkl, hol⟩ IH; dsimp only at hgo hkl hol IH ⊢
          obtain ⟨k, rfl⟩ : ∃ k', k = k' + 1 := ⟨k - 1, by omega⟩
          rw [hstep] at hgo
          by_cases hz : at_ = 0
          · rw [if_pos hz] at hgo
            subst hgo
            rw [hfin _ rfl]
            dsimp only
            clear IH
            by_cases hc : out.length = c2 ∧ c2 ≤ c3
            · rw [if_pos hc]
              obtain ⟨hc2, hc3⟩ := hc
              repeat' (first | refine Ga ?_ | (refine Gb ?_; intro b) | (refine Gd ?_; intro g cap rest hcap) | (refine Gc ?_; intro ad cap) | (refine St.draw (id := 14) [(0, 0), (1, 0), (2, 0), (3, 0), (4, 0), (5, 0), (6, 0), (7, 0), (8, 0), (9, 0), (10, 0), (11, 1), (12, 0), (13, 0), (14, 0), (15, 1), (16, 0), (17, 0), (18, 0), (19, 1), (20, 0), (21, 0), (22, 0)] [] mixed (by kernel_rfl) ?_) | (refine St.draw (id := 16) [(0, 0), (1, 0), (2, 0), (3, 0), (4, 1), (5, 0), (6, 1), (7, 2), (8, 3), (9, 0), (10, 0), (11, 3)] [8, 11] mixed (by kernel_rfl) ?_) | (refine St.draw (id := 18) [(0, 0), (1, 0), (2, 0), (3, 1), (4, 0), (5, 0), (6, 0), (7, 1), (8, 0), (9, 0), (10, 0), (11, 1), (12, 0), (13, 1), (14, 0), (15, 0)] [] mixed (by kernel_rfl) ?_) | (refine Ge ?_ ?_ <;> (intro h; try (exfalso; omega))) | fail)
              all_goals first | (exfalso; omega) | skip
              refine St.conv ?_ (Sub.refl _) (Ent.of_take (p := Row (.slice oad out.length ocap) 22 1 out.length (u64s out)) Take.go)
              refine St.rowS fun R hR => ?_
              refine St.d1 Tryz.func21 ⟨_, ⟨_, star [bl Bq 142 [.int .u64 (c3 : Int), .slice oad out.length ocap], R], rfl, ⟨Bq, _, rfl, RdC.star (p := bl Bq 142 [.int .u64 (c3 : Int), .slice oad out.length ocap]) (.head _) RdC.bl, hR.weak fun b l h => RdC.star (.tail _ (.head _)) h⟩, rfl⟩, ?_⟩
              refine Ent.trans ?_ (Ent.star_in _)
              exact Ent.go
            · rw [if_neg hc]
              repeat' (first | refine Ga ?_ | (refine Gb ?_; intro b) | (refine Gd ?_; intro g cap rest hcap) | (refine Gc ?_; intro ad cap) | (refine St.draw (id := 14) [(0, 0), (1, 0), (2, 0), (3, 0), (4, 0), (5, 0), (6, 0), (7, 0), (8, 0), (9, 0), (10, 0), (11, 1), (12, 0), (13, 0), (14, 0), (15, 1), (16, 0), (17, 0), (18, 0), (19, 1), (20, 0), (21, 0), (22, 0)] [] mixed (by kernel_rfl) ?_) | (refine St.draw (id := 16) [(0, 0), (1, 0), (2, 0), (3, 0), (4, 1), (5, 0), (6, 1), (7, 2), (8, 3), (9, 0), (10, 0), (11, 3)] [8, 11] mixed (by kernel_rfl) ?_) | (refine St.draw (id := 18) [(0, 0), (1, 0), (2, 0), (3, 1), (4, 0), (5, 0), (6, 0), (7, 1), (8, 0), (9, 0), (10, 0), (11, 1), (12, 0), (13, 1), (14, 0), (15, 0)] [] mixed (by kernel_rfl) ?_) | (refine Ge ?_ ?_ <;> (intro h; try (exfalso; omega))) | fail)
              all_goals first | (exfalso; omega) | skip
              all_goals refine St.d1 Tryz.func21 ⟨_, ⟨_, star [], rfl, rfl, rfl⟩, ?_⟩
              all_goals exact Ent.trans (Ent.star_in []) Ent.go
          · rw [if_neg hz] at hgo
            have hba := hb at_
            cases hga : mget m.blocks (at_ : Int) with
            | none =>
              rw [hga] at hgo hba
              dsimp only at hgo
              subst hgo
              rw [hfin _ rfl]
              dsimp only
              rw [show aggL ((none : Option (List Nat)).getD zero8) = .agg ⟨u64s zero8⟩ from rfl] at hba
              clear IH
              repeat' (first | refine Ga ?_ | (refine Gb ?_; intro b) | (refine Gd ?_; intro g cap rest hcap) | (refine Gc ?_; intro ad cap) | (refine St.draw (id := 14) [(0, 0), (1, 0), (2, 0), (3, 0), (4, 0), (5, 0), (6, 0), (7, 0), (8, 0), (9, 0), (10, 0), (11, 1), (12, 0), (13, 0), (14, 0), (15, 1), (16, 0), (17, 0), (18, 0), (19, 1), (20, 0), (21, 0), (22, 0)] [] mixed (by kernel_rfl) ?_) | (refine St.draw (id := 16) [(0, 0), (1, 0), (2, 0), (3, 0), (4, 1), (5, 0), (6, 1), (7, 2), (8, 3), (9, 0), (10, 0), (11, 3)] [8, 11] mixed (by kernel_rfl) ?_) | (refine St.draw (id := 18) [(0, 0), (1, 0), (2, 0), (3, 1), (4, 0), (5, 0), (6, 0), (7, 1), (8, 0), (9, 0), (10, 0), (11, 1), (12, 0), (13, 1), (14, 0), (15, 0)] [] mixed (by kernel_rfl) ?_)| refine Gl hba ?_ | (refine Ge ?_ ?_ <;> (intro h; try (exfalso; omega))) | fail)
              all_goals first | (exfalso; omega) | skip
              all_goals refine St.d1 Tryz.func21 ⟨_, ⟨_, star [], rfl, rfl, rfl⟩, ?_⟩
              all_goals exact Ent.trans (Ent.star_in []) Ent.go
            | some node =>
              have hn8 : node.length = 8 := hm.b _ (mget_mem hga)
              have hnl : (u64s node).length = 8 := by rw [u64s_len, hn8]
              have hnone := u64s_one node
              have hnspl := u64s_over hn8
              rw [hga] at hgo hba
              dsimp only at hgo
              rw [show aggL ((some node).getD zero8) = .agg ⟨u64s node⟩ from rfl] at hba
              have n0 : NthN (0 + (0 : Int).toNat * 1) (u64s node) (.int .u64 ((node.getD 0 0 : Nat) : Int)) := u64s_at8 hn8 (a := 0) (by decide)
              have n1 : NthN (0 + (1 : Int).toNat * 1) (u64s node) (.int .u64 ((node.getD 1 0 : Nat) : Int)) := u64s_at8 hn8 (a := 1) (by decide)
              by_cases h64 : 64 ≤ out.length
              · rw [if_pos (.inl h64)] at hgo
                subst hgo
                rw [hfin _ rfl]
                dsimp only
                clear IH
                repeat' (first | refine Ga ?_ | (refine Gb ?_; intro b) | (refine Gd ?_; intro g cap rest hcap) | (refine Gc ?_; intro ad cap) | (refine St.draw (id := 14) [(0, 0), (1, 0), (2, 0), (3, 0), (4, 0), (5, 0), (6, 0), (7, 0), (8, 0), (9, 0), (10, 0), (11, 1), (12, 0), (13, 0), (14, 0), (15, 1), (16, 0), (17, 0), (18, 0), (19, 1), (20, 0), (21, 0), (22, 0)] [] mixed (by kernel_rfl) ?_) | (refine St.draw (id := 16) [(0, 0), (1, 0), (2, 0), (3, 0), (4, 1), (5, 0), (6, 1), (7, 2), (8, 3), (9, 0), (10, 0), (11, 3)] [8, 11] mixed (by kernel_rfl) ?_) | (refine St.draw (id := 18) [(0, 0), (1, 0), (2, 0), (3, 1), (4, 0), (5, 0), (6, 0), (7, 1), (8, 0), (9, 0), (10, 0), (11, 1), (12, 0), (13, 1), (14, 0), (15, 0)] [] mixed (by kernel_rfl) ?_)| refine Gl hba ?_ | (refine Ge ?_ ?_ <;> (intro h; try (exfalso; omega))) | fail)
                all_goals first | (exfalso; omega) | skip
                all_goals refine St.d1 Tryz.func21 ⟨_, ⟨_, star [], rfl, rfl, rfl⟩, ?_⟩
                all_goals exact Ent.trans (Ent.star_in []) Ent.go
              · by_cases h0 : out = []
                · rw [if_neg (fun h => h.elim h64 fun h => h.1 h0)] at hgo
                  have h0l : out.length = 0 := by rw [h0]; rfl
                  repeat' (first | refine Ga ?_ | (refine Gb ?_; intro b) | (refine Gd ?_; intro g cap rest hcap) | (refine Gc ?_; intro ad cap) | (refine St.draw (id := 14) [(0, 0), (1, 0), (2, 0), (3, 0), (4, 0), (5, 0), (6, 0), (7, 0), (8, 0), (9, 0), (10, 0), (11, 1), (12, 0), (13, 0), (14, 0), (15, 1), (16, 0), (17, 0), (18, 0), (19, 1), (20, 0), (21, 0), (22, 0)] [] mixed (by kernel_rfl) ?_) | (refine St.draw (id := 16) [(0, 0), (1, 0), (2, 0), (3, 0), (4, 1), (5, 0), (6, 1), (7, 2), (8, 3), (9, 0), (10, 0), (11, 3)] [8, 11] mixed (by kernel_rfl) ?_) | (refine St.draw (id := 18) [(0, 0), (1, 0), (2, 0), (3, 1), (4, 0), (5, 0), (6, 0), (7, 1), (8, 0), (9, 0), (10, 0), (11, 1), (12, 0), (13, 1), (14, 0), (15, 0)] [] mixed (by kernel_rfl) ?_)| refine Gl hba ?_ | (refine Ge ?_ ?_ <;> (intro h; try (exfalso; omega))) | fail)
                  all_goals first | (exfalso; omega) | skip
                  refine IH ⟨(k, node.getD 1 0, out ++ [node.getD 0 0], ad, cap), hgo, by rw [List.length_append]; show k + (out.length + 1) = 66; omega, by rw [List.length_append]; show out.length + 1 ≤ 64; omega⟩ (by show k < k + 1; omega) ?_ ?_
                  · exact Sub.go
                  · dsimp only; rw [List.length_append, show u64s (out ++ [node.getD 0 0]) = u64s out ++ [.int .u64 ((node.getD 0 0 : Nat) : Int)] by simp [u64s]]; exact Ent.go
                · have h0l : 0 < out.length := List.length_pos_iff.mpr h0
                  refine St.conv ?_ (Sub.refl _) (Ent.of_take (p := Row (.slice oad out.length ocap) 22 1 out.length (u64s out)) Take.go)
                  refine St.rowF h0l fun g lcp rest hv hrf => ?_
                  injection hv with hv1 hv2 hv3
                  subst hv1 hv3
                  have hlast : NthN (((out.length : Int) - 1).toNat * 1) (u64s out ++ rest) (.int .u64 ((out.getLastD 0 : Nat) : Int)) := by
                    have := (NthN.u64s (l := out) (i := out.length - 1) (by omega)).app_left rest
                    rw [show ((out.length : Int) - 1).toNat * 1 = out.length - 1 by omega]
                    rw [List.getD_eq_getElem?_getD, ← List.getLast?_eq_getElem?, ← List.getLastD_eq_getLast?] at this
                    exact this
                  generalize out.getLastD 0 = lst at hlast hgo
                  by_cases hc : node.getD 0 0 ≤ lst
                  · rw [if_pos (.inr ⟨h0, hc⟩)] at hgo
                    subst hgo
                    rw [hfin _ rfl]
                    dsimp only
                    clear IH
                    repeat' (first | refine Ga ?_ | (refine Gb ?_; intro b) | (refine Gd ?_; intro g cap rest hcap) | (refine Gc ?_; intro ad cap) | (refine St.draw (id := 14) [(0, 0), (1, 0), (2, 0), (3, 0), (4, 0), (5, 0), (6, 0), (7, 0), (8, 0), (9, 0), (10, 0), (11, 1), (12, 0), (13, 0), (14, 0), (15, 1), (16, 0), (17, 0), (18, 0), (19, 1), (20, 0), (21, 0), (22, 0)] [] mixed (by kernel_rfl) ?_) | (refine St.draw (id := 16) [(0, 0), (1, 0), (2, 0), (3, 0), (4, 1), (5, 0), (6, 1), (7, 2), (8, 3), (9, 0), (10, 0), (11, 3)] [8, 11] mixed (by kernel_rfl) ?_) | (refine St.draw (id := 18) [(0, 0), (1, 0), (2, 0), (3, 1), (4, 0), (5, 0), (6, 0), (7, 1), (8, 0), (9, 0), (10, 0), (11, 1), (12, 0), (13, 1), (14, 0), (15, 0)] [] mixed (by kernel_rfl) ?_)| refine Gl hba ?_ | (refine Ge ?_ ?_ <;> (intro h; try (exfalso; omega))) | fail)
                    all_goals first | (exfalso; omega) | skip
                    all_goals refine St.d1 Tryz.func21 ⟨_, ⟨_, star [], rfl, rfl, rfl⟩, ?_⟩
                    all_goals exact Ent.trans (Ent.star_in []) Ent.go
                  · rw [if_neg (fun h => h.elim h64 fun h => hc h.2)] at hgo
                    repeat' (first | refine St.halt 16 ?_ |refine Ga ?_ | (refine Gb ?_; intro b) | (refine Gd ?_; intro g cap rest hcap) | (refine Gc ?_; intro ad cap) | (refine St.draw (id := 14) [(0, 0), (1, 0), (2, 0), (3, 0), (4, 0), (5, 0), (6, 0), (7, 0), (8, 0), (9, 0), (10, 0), (11, 1), (12, 0), (13, 0), (14, 0), (15, 1), (16, 0), (17, 0), (18, 0), (19, 1), (20, 0), (21, 0), (22, 0)] [] mixed (by kernel_rfl) ?_) | (refine St.draw (id := 16) [(0, 0), (1, 0), (2, 0), (3, 0), (4, 1), (5, 0), (6, 1), (7, 2), (8, 3), (9, 0), (10, 0), (11, 3)] [8, 11] mixed (by kernel_rfl) ?_) | (refine St.draw (id := 18) [(0, 0), (1, 0), (2, 0), (3, 1), (4, 0), (5, 0), (6, 0), (7, 1), (8, 0), (9, 0), (10, 0), (11, 1), (12, 0), (13, 1), (14, 0), (15, 0)] [] mixed (by kernel_rfl) ?_)| refine Gl hba ?_ | (refine Ge ?_ ?_ <;> (intro h; try (exfalso; omega))) | fail)
                    all_goals first | (exfalso; omega) | skip
                    apply Halt.go
                    refine St.conv ?_ (Sub.refl _) (Ent.trans (Ent.of_take (p := bl g 22 (u64s out ++ rest)) Take.go) (Ent.rowF hrf))
                    apply St.seq
                    repeat' (first | refine Ga ?_ | (refine Gb ?_; intro b) | (refine Gd ?_; intro g cap rest hcap) | (refine Gc ?_; intro ad cap) | (refine St.draw (id := 14) [(0, 0), (1, 0), (2, 0), (3, 0), (4, 0), (5, 0), (6, 0), (7, 0), (8, 0), (9, 0), (10, 0), (11, 1), (12, 0), (13, 0), (14, 0), (15, 1), (16, 0), (17, 0), (18, 0), (19, 1), (20, 0), (21, 0), (22, 0)] [] mixed (by kernel_rfl) ?_) | (refine St.draw (id := 16) [(0, 0), (1, 0), (2, 0), (3, 0), (4, 1), (5, 0), (6, 1), (7, 2), (8, 3), (9, 0), (10, 0), (11, 3)] [8, 11] mixed (by kernel_rfl) ?_) | (refine St.draw (id := 18) [(0, 0), (1, 0), (2, 0), (3, 1), (4, 0), (5, 0), (6, 0), (7, 1), (8, 0), (9, 0), (10, 0), (11, 1), (12, 0), (13, 1), (14, 0), (15, 0)] [] mixed (by kernel_rfl) ?_)| refine Gl hba ?_ | (refine Ge ?_ ?_ <;> (intro h; try (exfalso; omega))) | fail)
                    refine IH ⟨(k, node.getD 1 0, out ++ [node.getD 0 0], ad, cap), hgo, by rw [List.length_append]; show k + (out.length + 1) = 66; omega, by rw [List.length_append]; show out.length + 1 ≤ 64; omega⟩ (by show k < k + 1; omega) ?_ ?_
                    · exact Sub.go
                    · dsimp only; rw [List.length_append, show u64s (out ++ [node.getD 0 0]) = u64s out ++ [.int .u64 ((node.getD 0 0 : Nat) : Int)] by simp [u64s]]; exact Ent.go
      · rw [if_neg hk]
        generalize bk.getD 0 0 = c0 at *
        refine Tri.of_body (vs := [_, _]) Tryz.func21 rfl rfl fun w0 F => ?_
        repeat' (first | refine Ga ?_ | (refine Gb ?_; intro b) | (refine Gd ?_; intro g cap rest hcap) | (refine Gc ?_; intro ad cap) | (refine St.draw (id := 14) [(0, 0), (1, 0), (2, 0), (3, 0), (4, 0), (5, 0), (6, 0), (7, 0), (8, 0), (9, 0), (10, 0), (11, 1), (12, 0), (13, 0), (14, 0), (15, 1), (16, 0), (17, 0), (18, 0), (19, 1), (20, 0), (21, 0), (22, 0)] [] mixed (by kernel_rfl) ?_) | (refine St.draw (id := 16) [(0, 0), (1, 0), (2, 0), (3, 0), (4, 1), (5, 0), (6, 1), (7, 2), (8, 3), (9, 0), (10, 0), (11, 3)] [8, 11] mixed (by kernel_rfl) ?_) | (refine St.draw (id := 18) [(0, 0), (1, 0), (2, 0), (3, 1), (4, 0), (5, 0), (6, 0), (7, 1), (8, 0), (9, 0), (10, 0), (11, 1), (12, 0), (13, 1), (14, 0), (15, 0)] [] mixed (by kernel_rfl) ?_)| refine Gl hr ?_ | refine Gl hbh ?_ | (refine Ge ?_ ?_ <;> (intro h; try (exfalso; omega))) | fail)
        all_goals first | (exfalso; omega) | skip
        refine St.d1 Tryz.func21 ⟨_, ⟨_, star [], rfl, rfl, rfl⟩, ?_⟩
        exact Ent.trans (Ent.star_in []) Ent.go
end Go.Proofs.YtphheopbngdhhaaGreatDoor
