/-
  Package table: a block of buckets.
-/
import Derived.Test.YthbignifgljphaaGreatDoorTe
namespace Go.Proofs.YthbignifgljphaaGreatDoor
set_option maxRecDepth 100000
theorem take_step {A : List Nds} {i : Nat} (h : i < A.length) : (A.take (i + 1)).flatten = (A.take i).flatten ++ A.getD i [] := by
  rw [List.take_add_one, List.flatten_append, List.getD_eq_getElem?_getD, List.getElem?_eq_getElem h]
  simp
set_option maxHeartbeats 2000000 in
theorem buckets_t (S X mb n fr g h w0 w1 w2 w3 w4 w5 w6 w7 : Nat) (m : Ms) (hm : MsOk m) (caps : List Value) (q : HProp) [Enters Tryz.prog g] (A : List Nds) (h8 : A.length = 8) (hn8 : n ≤ 8) (hg : mget m.blocks (h : Int) = some (A.map headH)) (hc : ∀ c ∈ A, Chn m.blocks c)
    (hz : 0 ∉ A.flatten.map (·.1)) (hfr : ∀ i, i < fr → A.getD i [] = []) (hk : ∀ i, i < n → ∀ x ∈ A.getD i [], x.2.1 % n = i)
    (hq : ∀ x ∈ A.flatten, RTri Tryz.prog g ⟨.int .u64 (x.2.1 : Int) :: caps⟩ [q] (.bool true)) (mm : Seen) (hnd : (mm.map (·.1) ++ (seenOf A.flatten).map (·.1)).Nodup) :
    Tri Tryz.prog 40 #[.pointer (some ⟨X, 0, none⟩), .int .u64 (h : Int), .int .u64 (fr : Int), .int .u64 (n : Int), .func (.func g) ⟨[]⟩ ⟨caps⟩]
      [MsE S m, bl X 98 [.pointer (some ⟨S, 0, none⟩), .int .u64 (w0 : Int), .int .u64 (w1 : Int), .int .u64 (w2 : Int), .int .u64 (w3 : Int), .int .u64 (w4 : Int), .int .u64 (w5 : Int), .int .u64 (w6 : Int), .int .u64 (w7 : Int), .map (some mb)], Mp mb u64K u64N mm, q]
      fun v L => v = .bool true ∧ L = [MsE S m, bl X 98 [.pointer (some ⟨S, 0, none⟩), .int .u64 (w0 : Int), .int .u64 (w1 : Int), .int .u64 (w2 : Int), .int .u64 (w3 : Int), .int .u64 (w4 : Int), .int .u64 (w5 : Int), .int .u64 (w6 : Int), .int .u64 (w7 : Int), .map (some mb)], Mp mb u64K u64N (mm ++ seenOf (A.take n).flatten), q] := by
  have hb := mblock_r S m hm h
  rw [hg] at hb
  rw [show aggL ((some (A.map headH)).getD zero8) = .agg ⟨u64s (A.map headH)⟩ from rfl] at hb
  have hl8 : (A.map headH).length = 8 := by rw [List.length_map]; exact h8
  have hul : (u64s (A.map headH)).length = 8 := by rw [u64s_len, hl8]
  have hone := u64s_one (A.map headH)
  have hspl := u64s_over hl8
  have hat := fun (a : Nat) (ha : a < 8) => u64s_at8 hl8 ha
  refine Tri.of_body (vs := [_, _, _, _, _]) Tryz.func40 rfl rfl fun w0 F => ?_
  repeat' (first | refine Ga ?_ | (refine Gb ?_; intro b) | (refine Gd ?_; intro g cap rest hcap) | (refine Gc ?_; intro ad cap) | refine Gl hb ?_ | (refine Ge ?_ ?_ <;> (intro h; try (exfalso; omega))) | fail)
  all_goals first | (exfalso; omega) | skip
  revert b
  rename_i Bn Br Bl
  intro Bi0
  refine St.loopY (Lr := ?Lr1) (ι := { x : Nat × Nat // x.1 ≤ n }) (fun x => n - x.1.1) (fun x => [(13, .pointer (some ⟨x.1.2, 0, none⟩)), (12, .bool true)]) (fun x => [bl x.1.2 25 [.int .u64 (x.1.1 : Int)], Mp mb u64K u64N (mm ++ seenOf (A.take x.1.1).flatten)]) ⟨(0, Bi0), Nat.zero_le _⟩ ?hE1 ?hL1 ?round1
  case hE1 => exact Sub.go
  case hL1 => rw [show mm ++ seenOf (A.take ((0, Bi0) : Nat × Nat).1).flatten = mm from List.append_nil mm]; exact Takes.go
  case round1 =>
    rintro ⟨⟨k, Bi⟩, hkn⟩ IH; dsimp only at hkn IH ⊢
    by_cases hlt : k < n
    · have hk8 : k < A.length := by omega
      have hrow : A.getD k [] ∈ A := getD_mem hk8
      have hsub : ∀ x ∈ A.getD k [], x ∈ A.flatten := fun x hx => List.mem_flatten.mpr ⟨_, hrow, hx⟩
      have hw := hat k (by omega)
      rw [map_getD] at hw
      have hst : mm ++ seenOf (A.take (k + 1)).flatten = mm ++ seenOf (A.take k).flatten ++ seenOf (A.getD k []) := by
        rw [take_step hk8, seenOf_app, List.append_assoc]
      by_cases hf : k < fr
      · have hnil := hfr k hf
        rw [hnil] at hw hst
        rw [show seenOf [] = [] from rfl, List.append_nil] at hst
        have hw : NthN (0 + (k : Int).toNat * 1) (u64s (A.map headH)) (.int .u64 0) := hw
        repeat' (first | refine Ga ?_ | (refine Gb ?_; intro b) | (refine Gd ?_; intro g cap rest hcap) | (refine Gc ?_; intro ad cap)  | (refine Ge ?_ ?_ <;> (intro h; try (exfalso; omega))) | fail)
        all_goals first | (exfalso; omega) | skip
        revert b; intro Bi2
        refine IH ⟨(k + 1, Bi2), hlt⟩ (by show n - (k + 1) < n - k; omega) ?_ ?_
        · exact Sub.go
        · dsimp only; rw [hst]; exact Ent.go
      · have hnd' : ((mm ++ seenOf (A.take k).flatten).map (·.1) ++ (seenOf (A.getD k [])).map (·.1)).Nodup := by
          have h1 : (A.take (k + 1)).flatten ++ (A.drop (k + 1)).flatten = A.flatten := by rw [← List.flatten_append, List.take_append_drop]
          rw [← h1, seenOf_app, List.map_append, ← List.append_assoc] at hnd
          have h2 := (List.nodup_append.mp hnd).1
          rw [take_step hk8, seenOf_app, List.map_append, ← List.append_assoc, ← List.map_append] at h2
          exact h2
        have hbk := fun Bn Bi Br w0 w1 w2 w3 w4 w5 w6 w7 => bucket_t S X mb Bn Bi Br n k g w0 w1 w2 w3 w4 w5 w6 w7 m hm caps q (by omega) (A.getD k []) (hc _ hrow) (fun hm' => hz (by
          obtain ⟨z, hz', e⟩ := List.mem_map.mp hm'
          rw [← e]
          exact List.mem_map_of_mem (hsub z hz'))) (hk k hlt) (fun x hx => hq x (hsub x hx)) (mm ++ seenOf (A.take k).flatten) hnd'
        repeat' (first | refine Ga ?_ | (refine Gb ?_; intro b) | (refine Gd ?_; intro g cap rest hcap) | (refine Gc ?_; intro ad cap)  | (refine Gt (hbk _ _ _ _ _ _ _ _ _ _ _) ?_; rintro _ _ ⟨rfl, rfl⟩) | (refine Ge ?_ ?_ <;> (intro h; try (exfalso; omega))) | fail)
        all_goals first | (exfalso; omega) | skip
        revert b; intro Bi2
        refine IH ⟨(k + 1, Bi2), hlt⟩ (by show n - (k + 1) < n - k; omega) ?_ ?_
        · exact Sub.go
        · dsimp only; rw [hst]; exact Ent.go
    · obtain rfl : k = n := by omega
      clear IH
      repeat' (first | refine Ga ?_ | (refine Gb ?_; intro b) | (refine Gd ?_; intro g cap rest hcap) | (refine Gc ?_; intro ad cap)  | (refine Ge ?_ ?_ <;> (intro h; try (exfalso; omega))) | fail)
      all_goals first | (exfalso; omega) | skip
      refine St.d1 Tryz.func40 ⟨_, ⟨rfl, rfl⟩, Ent.go⟩
end Go.Proofs.YthbignifgljphaaGreatDoor
