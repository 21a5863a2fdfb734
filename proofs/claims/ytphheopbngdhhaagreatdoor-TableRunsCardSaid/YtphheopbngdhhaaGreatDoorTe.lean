/-
  Package table: bucket, buckets.
-/
import Derived.Test.YtphheopbngdhhaaGreatDoorTl
import Derived.Test.YtphheopbngdhhaaGreatDoorTi
namespace Go.Proofs.YtphheopbngdhhaaGreatDoor
set_option maxRecDepth 100000
def seenOf (c : Nds) : Seen := c.map fun x => ((x.2.1 : Int), x.2.2)
theorem seenOf_app (a b : Nds) : seenOf (a ++ b) = seenOf a ++ seenOf b := List.map_append
set_option maxHeartbeats 2000000 in
theorem bucket_t (S X mb Bn Bi Br n i g w0 w1 w2 w3 w4 w5 w6 w7 : Nat) (m : Ms) (hm : MsOk m) (caps : List Value) (q : HProp) [Enters Tryz.prog g] (hn : 0 < n) (c : Nds) (hc : Chn m.blocks c) (hz : 0 ∉ c.map (·.1)) (hk : ∀ x ∈ c, x.2.1 % n = i)
    (hq : ∀ x ∈ c, RTri Tryz.prog g ⟨.int .u64 (x.2.1 : Int) :: caps⟩ [q] (.bool true)) (mm : Seen) (hnd : (mm.map (·.1) ++ (seenOf c).map (·.1)).Nodup) :
    Tri Tryz.prog 69 #[.pointer (some ⟨X, 0, none⟩), .int .u64 (headH c : Int), .func (.func 70) ⟨[]⟩ ⟨[.pointer (some ⟨Bn, 0, none⟩), .pointer (some ⟨Bi, 0, none⟩), .pointer (some ⟨Br, 0, none⟩)]⟩]
      [MsE S m, bl X 111 [.pointer (some ⟨S, 0, none⟩), .int .u64 (w0 : Int), .int .u64 (w1 : Int), .int .u64 (w2 : Int), .int .u64 (w3 : Int), .int .u64 (w4 : Int), .int .u64 (w5 : Int), .int .u64 (w6 : Int), .int .u64 (w7 : Int), .map (some mb)], Mp mb u64K u64N mm, bl Bn 22 [.int .u64 (n : Int)], bl Bi 22 [.int .u64 (i : Int)], bl Br 113 [.func (.func g) ⟨[]⟩ ⟨caps⟩], q]
      fun v L => v = .bool true ∧ L = [MsE S m, bl X 111 [.pointer (some ⟨S, 0, none⟩), .int .u64 (w0 : Int), .int .u64 (w1 : Int), .int .u64 (w2 : Int), .int .u64 (w3 : Int), .int .u64 (w4 : Int), .int .u64 (w5 : Int), .int .u64 (w6 : Int), .int .u64 (w7 : Int), .map (some mb)], Mp mb u64K u64N (mm ++ seenOf c), bl Bn 22 [.int .u64 (n : Int)], bl Bi 22 [.int .u64 (i : Int)], bl Br 113 [.func (.func g) ⟨[]⟩ ⟨caps⟩], q] := by
  refine Tri.of_body (vs := [_, _, _]) Tryz.func69 rfl rfl fun w0 F => ?_
  repeat' (first | refine Ga ?_ | (refine Gb ?_; intro b) | (refine Gd ?_; intro g cap rest hcap) | (refine Gc ?_; intro ad cap) | (refine St.draw (id := 3) [(0, 0), (1, 0), (2, 0), (3, 1), (4, 0), (5, 1), (6, 1), (7, 0), (8, 0), (9, 0), (10, 0), (11, 0)] [] mixed (by kernel_rfl) ?_) | (refine St.draw (id := 6) [(0, 0), (1, 0), (2, 0), (3, 1), (4, 0), (5, 1), (6, 0), (7, 1), (8, 3)] [8] mixed (by kernel_rfl) ?_) | (refine Ge ?_ ?_ <;> (intro h; try (exfalso; omega))) | fail)
  refine St.loopY (Lr := ?Lr1) (ι := { x : Nds × Nds // x.1 ++ x.2 = c }) (fun x => x.1.2.length) (fun x => [(1, .int .u64 (headH x.1.2 : Int))]) (fun x => [Mp mb u64K u64N (mm ++ seenOf x.1.1)]) ⟨([], c), rfl⟩ ?hE1 ?hL1 ?round1
  case hE1 => exact Sub.go
  case hL1 => rw [show mm ++ seenOf (([], c) : Nds × Nds).1 = mm from List.append_nil mm]; exact Takes.go
  case round1 =>
    rintro ⟨⟨dn, rs⟩, hs⟩ IH; dsimp only at hs IH ⊢
    cases rs with
    | nil =>
      rw [List.append_nil] at hs
      subst hs
      clear IH
      have h0 : ((headH ([] : Nds) : Nat) : Int) = 0 := rfl
      rw [h0]
      repeat' (first | refine Ga ?_ | (refine Gb ?_; intro b) | (refine Gd ?_; intro g cap rest hcap) | (refine Gc ?_; intro ad cap) | (refine St.draw (id := 3) [(0, 0), (1, 0), (2, 0), (3, 1), (4, 0), (5, 1), (6, 1), (7, 0), (8, 0), (9, 0), (10, 0), (11, 0)] [] mixed (by kernel_rfl) ?_) | (refine St.draw (id := 6) [(0, 0), (1, 0), (2, 0), (3, 1), (4, 0), (5, 1), (6, 0), (7, 1), (8, 3)] [8] mixed (by kernel_rfl) ?_) | (refine Ge ?_ ?_ <;> (intro h; try (exfalso; omega))) | fail)
      all_goals first | (exfalso; omega) | skip
      refine St.d1 Tryz.func69 ⟨_, ⟨rfl, rfl⟩, Ent.go⟩
    | cons x xs =>
      have hxc : x ∈ c := by rw [← hs]; simp
      have hch : Chn m.blocks (x :: xs) := by rw [← hs] at hc; exact hc.right
      have hx0 : x.1 ≠ 0 := fun e => hz (by rw [← e]; exact List.mem_map_of_mem hxc)
      have hb := mblock_r S m hm x.1
      rw [hch.1] at hb
      rw [show aggL ((some [x.2.1, headH xs, x.2.2, 0, 0, 0, 0, 0] : Option (List Nat)).getD zero8) = .agg ⟨[.int .u64 (x.2.1 : Int), .int .u64 (headH xs : Int), .int .u64 (x.2.2 : Int), .int .u64 ((0 : Nat) : Int), .int .u64 ((0 : Nat) : Int), .int .u64 ((0 : Nat) : Int), .int .u64 ((0 : Nat) : Int), .int .u64 ((0 : Nat) : Int)]⟩ from rfl] at hb
      have hnone : mget (mm ++ seenOf dn) (x.2.1 : Int) = none := by
        refine mget_none_of fun hm' => ?_
        rw [List.map_append] at hm'
        rw [← hs, seenOf_app, List.map_append] at hnd
        have h1 : ((x.2.1 : Nat) : Int) ∈ (seenOf (x :: xs)).map (·.1) := by simp [seenOf]
        obtain ⟨_, n2, n3⟩ := List.nodup_append.mp hnd
        rcases List.mem_append.mp hm' with h | h
        · exact n3 _ h _ (List.mem_append_right _ h1) rfl
        · exact (List.nodup_append.mp n2).2.2 _ h _ h1 rfl
      have hr := b64_r Bn Bi Br n i g x.2.1 caps q hn (hk x hxc) (hq x hxc)
      have hhd : ((headH (x :: xs) : Nat) : Int) = (x.1 : Int) := rfl
      rw [hhd]
      have hput : mput (mm ++ seenOf dn) (x.2.1 : Int) x.2.2 = mm ++ seenOf (dn ++ [x]) := by
        rw [mput_len_new hnone, seenOf_app, List.append_assoc]; rfl
      have hlk : (mget (mm ++ seenOf dn) (x.2.1 : Int)).isSome = false := by rw [hnone]; rfl
      have hlv : (mget (mm ++ seenOf dn) (x.2.1 : Int)).getD 0 = 0 := by rw [hnone]; rfl
      repeat' (first | refine Ga ?_ | (refine Gb ?_; intro b) | (refine Gd ?_; intro g cap rest hcap) | (refine Gc ?_; intro ad cap) | (refine St.draw (id := 3) [(0, 0), (1, 0), (2, 0), (3, 1), (4, 0), (5, 1), (6, 1), (7, 0), (8, 0), (9, 0), (10, 0), (11, 0)] [] mixed (by kernel_rfl) ?_) | (refine St.draw (id := 6) [(0, 0), (1, 0), (2, 0), (3, 1), (4, 0), (5, 1), (6, 0), (7, 1), (8, 3)] [8] mixed (by kernel_rfl) ?_)| refine Gl hb ?_ | refine Ka (OpC.callv (by rfl) Evs.go) hr Oh ?_ | refine Kb rfl (OpC.callv (by rfl) Evs.go) hr Oi ?_ | refine Kc rfl Oj (OpC.callv (by rfl) Evs.go) hr Oi ?_ | (refine Ge ?_ ?_ <;> (intro h; try (exfalso; omega))) | fail)
      all_goals first | (exfalso; omega) | (exfalso; simp_all; done) | skip
      all_goals refine IH ⟨(dn ++ [x], xs), by rw [List.append_assoc]; exact hs⟩ (by show xs.length < xs.length + 1; omega) ?_ ?_
      · exact Sub.go
      · rw [← hput]; exact Ent.go
theorem take_step {A : List Nds} {i : Nat} (h : i < A.length) : (A.take (i + 1)).flatten = (A.take i).flatten ++ A.getD i [] := by
  rw [List.take_add_one, List.flatten_append, List.getD_eq_getElem?_getD, List.getElem?_eq_getElem h]
  simp
set_option maxHeartbeats 2000000 in
theorem buckets_t (S X mb n fr g h w0 w1 w2 w3 w4 w5 w6 w7 : Nat) (m : Ms) (hm : MsOk m) (caps : List Value) (q : HProp) [Enters Tryz.prog g] (A : List Nds) (h8 : A.length = 8) (hn8 : n ≤ 8) (hg : mget m.blocks (h : Int) = some (A.map headH)) (hc : ∀ c ∈ A, Chn m.blocks c)
    (hz : 0 ∉ A.flatten.map (·.1)) (hfr : ∀ i, i < fr → A.getD i [] = []) (hk : ∀ i, i < n → ∀ x ∈ A.getD i [], x.2.1 % n = i)
    (hq : ∀ x ∈ A.flatten, RTri Tryz.prog g ⟨.int .u64 (x.2.1 : Int) :: caps⟩ [q] (.bool true)) (mm : Seen) (hnd : (mm.map (·.1) ++ (seenOf A.flatten).map (·.1)).Nodup) :
    Tri Tryz.prog 40 #[.pointer (some ⟨X, 0, none⟩), .int .u64 (h : Int), .int .u64 (fr : Int), .int .u64 (n : Int), .func (.func g) ⟨[]⟩ ⟨caps⟩]
      [MsE S m, bl X 111 [.pointer (some ⟨S, 0, none⟩), .int .u64 (w0 : Int), .int .u64 (w1 : Int), .int .u64 (w2 : Int), .int .u64 (w3 : Int), .int .u64 (w4 : Int), .int .u64 (w5 : Int), .int .u64 (w6 : Int), .int .u64 (w7 : Int), .map (some mb)], Mp mb u64K u64N mm, q]
      fun v L => v = .bool true ∧ L = [MsE S m, bl X 111 [.pointer (some ⟨S, 0, none⟩), .int .u64 (w0 : Int), .int .u64 (w1 : Int), .int .u64 (w2 : Int), .int .u64 (w3 : Int), .int .u64 (w4 : Int), .int .u64 (w5 : Int), .int .u64 (w6 : Int), .int .u64 (w7 : Int), .map (some mb)], Mp mb u64K u64N (mm ++ seenOf (A.take n).flatten), q] := by
  have hb := mblock_r S m hm h
  rw [hg] at hb
  rw [show aggL ((some (A.map headH)).getD zero8) = .agg ⟨u64s (A.map headH)⟩ from rfl] at hb
  have hl8 : (A.map headH).length = 8 := by rw [List.length_map]; exact h8
  have hul : (u64s (A.map headH)).length = 8 := by rw [u64s_len, hl8]
  have hone := u64s_one (A.map headH)
  have hspl := u64s_over hl8
  have hat := fun (a : Nat) (ha : a < 8) => u64s_at8 hl8 ha
  refine Tri.of_body (vs := [_, _, _, _, _]) Tryz.func40 rfl rfl fun w0 F => ?_
  repeat' (first | refine Ga ?_ | (refine Gb ?_; intro b) | (refine Gd ?_; intro g cap rest hcap) | (refine Gc ?_; intro ad cap) | refine Gl hb ?_ | (refine Ge ?_ ?_ <;> (intro h; try (exfalso; omega))) | fail)
  all_goals first | (exfalso; omega) | skip
  revert b
  rename_i Bn Br Bl
  intro Bi0
  refine St.loopY (Lr := ?Lr1) (ι := { x : Nat × Nat // x.1 ≤ n }) (fun x => n - x.1.1) (fun x => [(13, .pointer (some ⟨x.1.2, 0, none⟩)), (12, .bool true)]) (fun x => [bl x.1.2 22 [.int .u64 (x.1.1 : Int)], Mp mb u64K u64N (mm ++ seenOf (A.take x.1.1).flatten)]) ⟨(0, Bi0), Nat.zero_le _⟩ ?hE1 ?hL1 ?round1
  case hE1 => exact Sub.go
  case hL1 => rw [show mm ++ seenOf (A.take ((0, Bi0) : Nat × Nat).1).flatten = mm from List.append_nil mm]; exact Takes.go
  case round1 =>
    rintro ⟨⟨k, Bi⟩, hkn⟩ IH; dsimp only at hkn IH ⊢
    by_cases hlt : k < n
    · have hk8 : k < A.length := by omega
      have hrow : A.getD k [] ∈ A := getD_mem hk8
      have hsub : ∀ x ∈ A.getD k [], x ∈ A.flatten := fun x hx => List.mem_flatten.mpr ⟨_, hrow, hx⟩
      have hw := hat k (by omega)
      rw [map_getD] at hw
      have hst : mm ++ seenOf (A.take (k + 1)).flatten = mm ++ seenOf (A.take k).flatten ++ seenOf (A.getD k []) := by
        rw [take_step hk8, seenOf_app, List.append_assoc]
      by_cases hf : k < fr
      · have hnil := hfr k hf
        rw [hnil] at hw hst
        rw [show seenOf [] = [] from rfl, List.append_nil] at hst
        have hw : NthN (0 + (k : Int).toNat * 1) (u64s (A.map headH)) (.int .u64 0) := hw
        repeat' (first | refine Ga ?_ | (refine Gb ?_; intro b) | (refine Gd ?_; intro g cap rest hcap) | (refine Gc ?_; intro ad cap)  | (refine Ge ?_ ?_ <;> (intro h; try (exfalso; omega))) | fail)
        all_goals first | (exfalso; omega) | skip
        revert b; intro Bi2
        refine IH ⟨(k + 1, Bi2), hlt⟩ (by show n - (k + 1) < n - k; omega) ?_ ?_
        · exact Sub.go
        · dsimp only; rw [hst]; exact Ent.go
      · have hnd' : ((mm ++ seenOf (A.take k).flatten).map (·.1) ++ (seenOf (A.getD k [])).map (·.1)).Nodup := by
          have h1 : (A.take (k + 1)).flatten ++ (A.drop (k + 1)).flatten = A.flatten := by rw [← List.flatten_append, List.take_append_drop]
          rw [← h1, seenOf_app, List.map_append, ← List.append_assoc] at hnd
          have h2 := (List.nodup_append.mp hnd).1
          rw [take_step hk8, seenOf_app, List.map_append, ← List.append_assoc, ← List.map_append] at h2
          exact h2
        have hbk := fun Bn Bi Br w0 w1 w2 w3 w4 w5 w6 w7 => bucket_t S X mb Bn Bi Br n k g w0 w1 w2 w3 w4 w5 w6 w7 m hm caps q (by omega) (A.getD k []) (hc _ hrow) (fun hm' => hz (by
          obtain ⟨z, hz', e⟩ := List.mem_map.mp hm'
          rw [← e]
          exact List.mem_map_of_mem (hsub z hz'))) (hk k hlt) (fun x hx => hq x (hsub x hx)) (mm ++ seenOf (A.take k).flatten) hnd'
        repeat' (first | refine Ga ?_ | (refine Gb ?_; intro b) | (refine Gd ?_; intro g cap rest hcap) | (refine Gc ?_; intro ad cap)  | (refine Gt (hbk _ _ _ _ _ _ _ _ _ _ _) ?_; rintro _ _ ⟨rfl, rfl⟩) | (refine Ge ?_ ?_ <;> (intro h; try (exfalso; omega))) | fail)
        all_goals first | (exfalso; omega) | skip
        revert b; intro Bi2
        refine IH ⟨(k + 1, Bi2), hlt⟩ (by show n - (k + 1) < n - k; omega) ?_ ?_
        · exact Sub.go
        · dsimp only; rw [hst]; exact Ent.go
    · obtain rfl : k = n := by omega
      clear IH
      repeat' (first | refine Ga ?_ | (refine Gb ?_; intro b) | (refine Gd ?_; intro g cap rest hcap) | (refine Gc ?_; intro ad cap)  | (refine Ge ?_ ?_ <;> (intro h; try (exfalso; omega))) | fail)
      all_goals first | (exfalso; omega) | skip
      refine St.d1 Tryz.func40 ⟨_, ⟨rfl, rfl⟩, Ent.go⟩
end Go.Proofs.YtphheopbngdhhaaGreatDoor
