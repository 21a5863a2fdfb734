/-
  Package tumblerref20: Root, Words, Chain.
-/
import Derived.Test.YtphheopbngdhhaaGreatDoorPb
namespace Go.Proofs.YtphheopbngdhhaaGreatDoor
set_option maxRecDepth 100000
theorem xroot_r (rs : List Nat) (bx : Value) (k : Int) : RTri Tryz.prog 53 #[.agg ⟨g16t rs [bx]⟩, .int .i64 k] [] (.int .u64 (rootOf rs k : Int)) := by
  apply RTri.of_pure
  unfold rootOf
  by_cases h : k < 0 ∨ 16 ≤ k
  · rw [if_pos h]
    by_cases h0 : k < 0
    · refine Tri.of_body (vs := [_, _]) Tryz.func53 rfl rfl fun w0 F => ?_
      repeat' (first | refine Ga ?_ | (refine Gb ?_; intro b) | (refine Gd ?_; intro g cap rest hcap) | (refine Gc ?_; intro ad cap)  | (refine Ge ?_ ?_ <;> (intro h; try (exfalso; omega))) | fail)
      all_goals first | (exfalso; omega) | skip
      refine St.d1 Tryz.func53 ⟨_, ⟨rfl, rfl⟩, Ent.go⟩
    · have h1 : 16 ≤ k := by omega
      refine Tri.of_body (vs := [_, _]) Tryz.func53 rfl rfl fun w0 F => ?_
      repeat' (first | refine Ga ?_ | (refine Gb ?_; intro b) | (refine Gd ?_; intro g cap rest hcap) | (refine Gc ?_; intro ad cap)  | (refine Ge ?_ ?_ <;> (intro h; try (exfalso; omega))) | fail)
      all_goals first | (exfalso; omega) | skip
      refine St.d1 Tryz.func53 ⟨_, ⟨rfl, rfl⟩, Ent.go⟩
  · rw [if_neg h]
    have hn := g16t_at (l := rs) [bx] (a := k.toNat) (by omega)
    have hn0 : NthN (0 + 0 + k.toNat * 1) (g16t rs [bx]) (.int .u64 ((rs.getD k.toNat 0 : Nat) : Int)) := by rw [show 0 + 0 + k.toNat * 1 = k.toNat by omega]; exact hn
    have hn1 : NthN (0 + k.toNat * 1) (g16t rs [bx]) (.int .u64 ((rs.getD k.toNat 0 : Nat) : Int)) := by rw [show 0 + k.toNat * 1 = k.toNat by omega]; exact hn
    refine Tri.of_body (vs := [_, _]) Tryz.func53 rfl rfl fun w0 F => ?_
    repeat' (first | refine Ga ?_ | (refine Gb ?_; intro b) | (refine Gd ?_; intro g cap rest hcap) | (refine Gc ?_; intro ad cap)  | (refine Ge ?_ ?_ <;> (intro h; try (exfalso; omega))) | fail)
    all_goals first | (exfalso; omega) | skip
    refine St.d1 Tryz.func53 ⟨_, ⟨rfl, rfl⟩, Ent.go⟩
theorem xwords_r (q : HProp) (rs : List Nat) (bx : Value) (bs : List (Nat × List Nat)) (hb : ListR boxV q bx bs) (hbl : bs.length ≤ 1000) (h : Nat) : RTri Tryz.prog 54 #[.agg ⟨g16t rs [bx]⟩, .int .u64 (h : Int)] [q] (.tuple ⟨[.agg ⟨g8 ((lkB bs h).getD zero8)⟩, .bool (lkB bs h).isSome]⟩) := by
  refine RTri.of_reads fun p hp => ?_
  have hf := (xfind_r q rs bx bs hb hbl h).of_read hp
  have hb := hb.weak fun b l h => RdC.of_sat hp (ReadsC.here h)
  obtain ⟨ad, cap, rfl, _, hb⟩ := hb
  cases hg : lkB bs h with
  | none =>
    rw [find_none 0 hg] at hf
    refine Tri.of_body (vs := [_, _]) Tryz.func54 rfl rfl fun w0 F => ?_
    repeat' (first | refine Ga ?_ | (refine Gb ?_; intro b) | (refine Gd ?_; intro g cap rest hcap) | (refine Gc ?_; intro ad cap) | refine Gl hf ?_ | (refine Ge ?_ ?_ <;> (intro h; try (exfalso; omega))) | fail)
    all_goals first | (exfalso; omega) | skip
    refine St.d1 Tryz.func54 ⟨_, ⟨rfl, rfl⟩, Ent.go⟩
  | some bk =>
    obtain ⟨i, hi, hfi, hbi⟩ := find_some (bs := bs) 0 hg
    rw [Nat.zero_add] at hfi
    rw [hfi] at hf
    obtain ⟨bf, o, l, l1, rfl, hrd, hdr, htk⟩ := ListR.at (f := boxV) (sz := 9) boxV_len hb i hi
    rw [hbi] at htk
    unfold boxV at htk
    dsimp only at htk
    obtain ⟨l2, hdr8, htk8⟩ := box_words hdr htk
    refine Tri.of_body (vs := [_, _]) Tryz.func54 rfl rfl fun w0 F => ?_
    repeat' (first | refine Ga ?_ | (refine Gb ?_; intro b) | (refine Gd ?_; intro g cap rest hcap) | (refine Gc ?_; intro ad cap) | refine Gl hf ?_ | (refine Ge ?_ ?_ <;> (intro h; try (exfalso; omega))) | fail)
    all_goals first | (exfalso; omega) | skip
    refine St.d1 Tryz.func54 ⟨_, ⟨rfl, rfl⟩, Ent.go⟩
def chainQ (q : HProp) (r : List Nat × Bool) (v : Value) (L : List HProp) : Prop := ∃ ad cap, v = .tuple ⟨[.slice ad r.1.length cap, .bool r.2]⟩ ∧ L = [Row (.slice ad r.1.length cap) 22 1 r.1.length (u64s r.1), q]
set_option maxHeartbeats 1000000 in
theorem xchain_t (q : HProp) (rs : List Nat) (bx : Value) (bs : List (Nat × List Nat)) (hb : ListR boxV q bx bs) (hbl : bs.length ≤ 1000) (h : Nat) : Tri Tryz.prog 55 #[.agg ⟨g16t rs [bx]⟩, .int .u64 (h : Int), .int .i64 1, .int .i64 64] [q] (chainQ q (chGo bs 66 h [])) := by
  have hwd := fun h => xwords_r q rs bx bs hb hbl h
  have hstep : ∀ (k h : Nat) (out : List Nat), chGo bs (k + 1) h out = if h = 0 then (out, true) else match lkB bs h with | none => (out, false) | some w => if out.length = 64 then (out, false) else chGo bs k (w.getD 1 0) (out ++ [h]) := fun _ _ _ => rfl
  generalize hR : chGo bs 66 h [] = R
  unfold chainQ
  refine Tri.of_body (vs := [_, _, _, _]) Tryz.func55 rfl rfl fun w0 F => ?_
  repeat' (first | refine Ga ?_ | (refine Gb ?_; intro b) | (refine Gd ?_; intro g cap rest hcap) | (refine Gc ?_; intro ad cap)  | (refine Ge ?_ ?_ <;> (intro h; try (exfalso; omega))) | fail)
  revert b; intro B
  refine St.conv ?_ (Sub.refl _) (Ent.row_bl (sz := 1) (n := 0) rfl (by decide))
  refine St.loopY (Lr := ?Lr1) (ι := { x : Nat × Nat × List Nat × Option Addr × Nat // chGo bs x.1 x.2.1 x.2.2.1 = R ∧ x.1 + x.2.2.1.length = 66 ∧ x.2.2.1.length ≤ 64 }) (fun x => x.1.1)
    (fun x => [(1, .int .u64 (x.1.2.1 : Int)), (10, .slice x.1.2.2.2.1 x.1.2.2.1.length x.1.2.2.2.2)]) (fun x => [Row (.slice x.1.2.2.2.1 x.1.2.2.1.length x.1.2.2.2.2) 22 1 x.1.2.2.1.length (u64s x.1.2.2.1)]) ⟨(66, h, [], some ⟨B, 0, none⟩, 0), hR, rfl, Nat.zero_le _⟩ ?hE1 ?hL1 ?round1
  case hE1 => exact Sub.go
  case hL1 => exact Takes.go
  case round1 =>
    rintro ⟨⟨k, at_, out, oad, ocap⟩, hgo, hkl, hol⟩ IH; dsimp only at hgo hkl hol IH ⊢
    obtain ⟨k, rfl⟩ : ∃ k', k = k' + 1 := ⟨k - 1, by omega⟩
    rw [hstep] at hgo
    by_cases hz : at_ = 0
    · rw [if_pos hz] at hgo
      subst hgo hz
      clear IH
      repeat' (first | refine Ga ?_ | (refine Gb ?_; intro b) | (refine Gd ?_; intro g cap rest hcap) | (refine Gc ?_; intro ad cap)  | (refine Ge ?_ ?_ <;> (intro h; try (exfalso; omega))) | fail)
      all_goals first | (exfalso; omega) | skip
      refine St.d1 Tryz.func55 ⟨_, ⟨oad, ocap, rfl, rfl⟩, Ent.go⟩
    · rw [if_neg hz] at hgo
      have hw := hwd at_
      cases hg : lkB bs at_ with
      | none =>
        rw [hg] at hgo hw
        dsimp only at hgo
        subst hgo
        clear IH
        rw [show (none : Option (List Nat)).getD zero8 = zero8 from rfl, show (none : Option (List Nat)).isSome = false from rfl] at hw
        repeat' (first | refine Ga ?_ | (refine Gb ?_; intro b) | (refine Gd ?_; intro g cap rest hcap) | (refine Gc ?_; intro ad cap) | refine Gl hw ?_ | (refine Ge ?_ ?_ <;> (intro h; try (exfalso; omega))) | fail)
        all_goals first | (exfalso; omega) | skip
        refine St.d1 Tryz.func55 ⟨_, ⟨oad, ocap, rfl, rfl⟩, Ent.go⟩
      | some bk =>
        rw [hg] at hgo hw
        dsimp only at hgo
        rw [show (some bk).getD zero8 = bk from rfl, show (some bk).isSome = true from rfl] at hw
        have hn1 : NthN (0 + (1 : Int).toNat * 1) (g8 bk) (.int .u64 ((bk.getD 1 0 : Nat) : Int)) := g8_at (l := bk) (a := 1) (by decide)
        by_cases h64 : out.length = 64
        · rw [if_pos h64] at hgo
          subst hgo
          clear IH
          repeat' (first | refine Ga ?_ | (refine Gb ?_; intro b) | (refine Gd ?_; intro g cap rest hcap) | (refine Gc ?_; intro ad cap) | refine Gl hw ?_ | (refine Ge ?_ ?_ <;> (intro h; try (exfalso; omega))) | fail)
          all_goals first | (exfalso; omega) | skip
          refine St.d1 Tryz.func55 ⟨_, ⟨oad, ocap, rfl, rfl⟩, Ent.go⟩
        · rw [if_neg h64] at hgo
          repeat' (first | refine Ga ?_ | (refine Gb ?_; intro b) | (refine Gd ?_; intro g cap rest hcap) | (refine Gc ?_; intro ad cap) | refine Gl hw ?_ | (refine Ge ?_ ?_ <;> (intro h; try (exfalso; omega))) | fail)
          all_goals first | (exfalso; omega) | skip
          refine IH ⟨(k, bk.getD 1 0, out ++ [at_], ad, cap), hgo, by rw [List.length_append]; show k + (out.length + 1) = 66; omega, by rw [List.length_append]; show out.length + 1 ≤ 64; omega⟩ (by show k < k + 1; omega) ?_ ?_
          · dsimp only; rw [List.length_append]; exact Sub.go
          · dsimp only; rw [List.length_append, show u64s (out ++ [at_]) = u64s out ++ [.int .u64 (at_ : Int)] by simp [u64s]]; exact Ent.go
end Go.Proofs.YtphheopbngdhhaaGreatDoor
