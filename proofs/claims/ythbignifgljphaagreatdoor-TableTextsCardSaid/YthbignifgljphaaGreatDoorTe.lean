/-
  Package table: bucket, buckets.
-/
import Derived.Test.YthbignifgljphaaGreatDoorTl
import Derived.Test.YthbignifgljphaaGreatDoorTi
namespace Go.Proofs.YthbignifgljphaaGreatDoor
set_option maxRecDepth 100000
def seenOf (c : Nds) : Seen := c.map fun x => ((x.2.1 : Int), x.2.2)
theorem seenOf_app (a b : Nds) : seenOf (a ++ b) = seenOf a ++ seenOf b := List.map_append
set_option maxHeartbeats 2000000 in
theorem bucket_t (S X mb Bn Bi Br n i g w0 w1 w2 w3 w4 w5 w6 w7 : Nat) (m : Ms) (hm : MsOk m) (caps : List Value) (q : HProp) [Enters Tryz.prog g] (hn : 0 < n) (c : Nds) (hc : Chn m.blocks c) (hz : 0 ∉ c.map (·.1)) (hk : ∀ x ∈ c, x.2.1 % n = i)
    (hq : ∀ x ∈ c, RTri Tryz.prog g ⟨.int .u64 (x.2.1 : Int) :: caps⟩ [q] (.bool true)) (mm : Seen) (hnd : (mm.map (·.1) ++ (seenOf c).map (·.1)).Nodup) :
    Tri Tryz.prog 63 #[.pointer (some ⟨X, 0, none⟩), .int .u64 (headH c : Int), .func (.func 64) ⟨[]⟩ ⟨[.pointer (some ⟨Bn, 0, none⟩), .pointer (some ⟨Bi, 0, none⟩), .pointer (some ⟨Br, 0, none⟩)]⟩]
      [MsE S m, bl X 98 [.pointer (some ⟨S, 0, none⟩), .int .u64 (w0 : Int), .int .u64 (w1 : Int), .int .u64 (w2 : Int), .int .u64 (w3 : Int), .int .u64 (w4 : Int), .int .u64 (w5 : Int), .int .u64 (w6 : Int), .int .u64 (w7 : Int), .map (some mb)], Mp mb u64K u64N mm, bl Bn 25 [.int .u64 (n : Int)], bl Bi 25 [.int .u64 (i : Int)], bl Br 100 [.func (.func g) ⟨[]⟩ ⟨caps⟩], q]
      fun v L => v = .bool true ∧ L = [MsE S m, bl X 98 [.pointer (some ⟨S, 0, none⟩), .int .u64 (w0 : Int), .int .u64 (w1 : Int), .int .u64 (w2 : Int), .int .u64 (w3 : Int), .int .u64 (w4 : Int), .int .u64 (w5 : Int), .int .u64 (w6 : Int), .int .u64 (w7 : Int), .map (some mb)], Mp mb u64K u64N (mm ++ seenOf c), bl Bn 25 [.int .u64 (n : Int)], bl Bi 25 [.int .u64 (i : Int)], bl Br 100 [.func (.func g) ⟨[]⟩ ⟨caps⟩], q] := by
  refine Tri.of_body (vs := [_, _, _]) Tryz.func63 rfl rfl fun w0 F => ?_
  repeat' (first | refine Ga ?_ | (refine Gb ?_; intro b) | (refine Gd ?_; intro g cap rest hcap) | (refine Gc ?_; intro ad cap) | (refine St.draw (id := 3) [(0, 0), (1, 0), (2, 0), (3, 1), (4, 0), (5, 1), (6, 1), (7, 0), (8, 0), (9, 0), (10, 0), (11, 0)] [] mixed (by kernel_rfl) ?_) | (refine St.draw (id := 6) [(0, 0), (1, 0), (2, 0), (3, 1), (4, 0), (5, 1), (6, 0), (7, 1), (8, 3)] [8] mixed (by kernel_rfl) ?_) | (refine Ge ?_ ?_ <;> (intro h; try (exfalso; omega))) | fail)
  refine St.loopY (Lr := ?Lr1) (ι := { x : Nds × Nds // x.1 ++ x.2 = c }) (fun x => x.1.2.length) (fun x => [(1, .int .u64 (headH x.1.2 : Int))]) (fun x => [Mp mb u64K u64N (mm ++ seenOf x.1.1)]) ⟨([], c), rfl⟩ ?hE1 ?hL1 ?round1
  case hE1 => exact Sub.go
  case hL1 => rw [show mm ++ seenOf (([], c) : Nds × Nds).1 = mm from List.append_nil mm]; exact Takes.go
  case round1 =>
    rintro ⟨⟨dn, rs⟩, hs⟩ IH; dsimp only at hs IH ⊢
    cases rs with
    | nil =>
      rw [List.append_nil] at hs
      subst hs
      clear IH
      have h0 : ((headH ([] : Nds) : Nat) : Int) = 0 := rfl
      rw [h0]
      repeat' (first | refine Ga ?_ | (refine Gb ?_; intro b) | (refine Gd ?_; intro g cap rest hcap) | (refine Gc ?_; intro ad cap) | (refine St.draw (id := 3) [(0, 0), (1, 0), (2, 0), (3, 1), (4, 0), (5, 1), (6, 1), (7, 0), (8, 0), (9, 0), (10, 0), (11, 0)] [] mixed (by kernel_rfl) ?_) | (refine St.draw (id := 6) [(0, 0), (1, 0), (2, 0), (3, 1), (4, 0), (5, 1), (6, 0), (7, 1), (8, 3)] [8] mixed (by kernel_rfl) ?_) | (refine Ge ?_ ?_ <;> (intro h; try (exfalso; omega))) | fail)
      all_goals first | (exfalso; omega) | skip
      refine St.d1 Tryz.func63 ⟨_, ⟨rfl, rfl⟩, Ent.go⟩
    | cons x xs =>
      have hxc : x ∈ c := by rw [← hs]; simp
      have hch : Chn m.blocks (x :: xs) := by rw [← hs] at hc; exact hc.right
      have hx0 : x.1 ≠ 0 := fun e => hz (by rw [← e]; exact List.mem_map_of_mem hxc)
      have hb := mblock_r S m hm x.1
      rw [hch.1] at hb
      rw [show aggL ((some [x.2.1, headH xs, x.2.2, 0, 0, 0, 0, 0] : Option (List Nat)).getD zero8) = .agg ⟨[.int .u64 (x.2.1 : Int), .int .u64 (headH xs : Int), .int .u64 (x.2.2 : Int), .int .u64 ((0 : Nat) : Int), .int .u64 ((0 : Nat) : Int), .int .u64 ((0 : Nat) : Int), .int .u64 ((0 : Nat) : Int), .int .u64 ((0 : Nat) : Int)]⟩ from rfl] at hb
      have hnone : mget (mm ++ seenOf dn) (x.2.1 : Int) = none := by
        refine mget_none_of fun hm' => ?_
        rw [List.map_append] at hm'
        rw [← hs, seenOf_app, List.map_append] at hnd
        have h1 : ((x.2.1 : Nat) : Int) ∈ (seenOf (x :: xs)).map (·.1) := by simp [seenOf]
        obtain ⟨_, n2, n3⟩ := List.nodup_append.mp hnd
        rcases List.mem_append.mp hm' with h | h
        · exact n3 _ h _ (List.mem_append_right _ h1) rfl
        · exact (List.nodup_append.mp n2).2.2 _ h _ h1 rfl
      have hr := b64_r Bn Bi Br n i g x.2.1 caps q hn (hk x hxc) (hq x hxc)
      have hhd : ((headH (x :: xs) : Nat) : Int) = (x.1 : Int) := rfl
      rw [hhd]
      have hput : mput (mm ++ seenOf dn) (x.2.1 : Int) x.2.2 = mm ++ seenOf (dn ++ [x]) := by
        rw [mput_len_new hnone, seenOf_app, List.append_assoc]; rfl
      have hlk : (mget (mm ++ seenOf dn) (x.2.1 : Int)).isSome = false := by rw [hnone]; rfl
      have hlv : (mget (mm ++ seenOf dn) (x.2.1 : Int)).getD 0 = 0 := by rw [hnone]; rfl
      repeat' (first | refine Ga ?_ | (refine Gb ?_; intro b) | (refine Gd ?_; intro g cap rest hcap) | (refine Gc ?_; intro ad cap) | (refine St.draw (id := 3) [(0, 0), (1, 0), (2, 0), (3, 1), (4, 0), (5, 1), (6, 1), (7, 0), (8, 0), (9, 0), (10, 0), (11, 0)] [] mixed (by kernel_rfl) ?_) | (refine St.draw (id := 6) [(0, 0), (1, 0), (2, 0), (3, 1), (4, 0), (5, 1), (6, 0), (7, 1), (8, 3)] [8] mixed (by kernel_rfl) ?_)| refine Gl hb ?_ | refine Ka (OpC.callv (by rfl) Evs.go) hr Oh ?_ | refine Kb rfl (OpC.callv (by rfl) Evs.go) hr Oi ?_ | refine Kc rfl Oj (OpC.callv (by rfl) Evs.go) hr Oi ?_ | (refine Ge ?_ ?_ <;> (intro h; try (exfalso; omega))) | fail)
      all_goals first | (exfalso; omega) | (exfalso; simp_all; done) | skip
      all_goals refine IH ⟨(dn ++ [x], xs), by rw [List.append_assoc]; exact hs⟩ (by show xs.length < xs.length + 1; omega) ?_ ?_
      · exact Sub.go
      · rw [← hput]; exact Ent.go
end Go.Proofs.YthbignifgljphaaGreatDoor
