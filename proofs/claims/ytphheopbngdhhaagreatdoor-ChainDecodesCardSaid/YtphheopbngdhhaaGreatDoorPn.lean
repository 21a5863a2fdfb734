/-
  Package tumblerlaw21: ChainDecodes.
-/
import Derived.Test.YtphheopbngdhhaaGreatDoorPm
import Derived.Test.YtphheopbngdhhaaGreatDoorPh
import Derived.Test.YtphheopbngdhhaaGreatDoorCh
import Derived.Test.YtphheopbngdhhaaGreatDoorCf
namespace Go.Proofs.YtphheopbngdhhaaGreatDoor
set_option maxRecDepth 100000
theorem XuR.pcells {q : HProp} {v : Value} {x : Option Qu} (h : XuR q v x) : ∃ (p : Bool) (n : Nat) (ad : Option Addr) (m cap : Nat), v = .agg ⟨[.bool p, .int .u64 (n : Int), .slice ad m cap]⟩ := by
  cases x with
  | none => exact ⟨false, 0, none, 0, 0, h⟩
  | some x =>
    obtain ⟨lv, rfl, hsl⟩ := h
    rcases hsl with ⟨rfl, _⟩ | ⟨_, _, _, _, _, rfl, _⟩
    · exact ⟨true, _, _, _, _, rfl⟩
    · exact ⟨true, _, _, _, _, rfl⟩
def xdecV (q : HProp) (r : Option Qu × Int) (v : Value) (L : List HProp) : Prop := ∃ (p : Bool) (n : Nat) (ad : Option Addr) (m cap : Nat) (H : HProp), v = .tuple ⟨[.agg ⟨[.bool p, .int .u64 (n : Int), .slice ad m cap]⟩, .int .i64 r.2]⟩ ∧ XuR H (.agg ⟨[.bool p, .int .u64 (n : Int), .slice ad m cap]⟩) r.1 ∧ L = [H, q]
theorem xdecQ.v {q : HProp} {r : Option Qu × Int} {v : Value} {L : List HProp} (h : xdecQ q r v L) : xdecV q r v L := by
  obtain ⟨xv, H, rfl, h2, rfl⟩ := h
  obtain ⟨p, n, ad, m, cap, rfl⟩ := h2.pcells
  exact ⟨p, n, ad, m, cap, H, rfl, h2, rfl⟩
theorem docM_len {roots : List Nat} {bs : List (Nat × List Nat)} {root : Int} {y : Qu} (h : (docM roots bs root).1 = some y) : y.list.length ≤ 64 := by
  unfold docM at h
  split at h
  · cases h
  · split at h
    · cases h
    · split at h
      · unfold docE at h
        split at h
        · injection h with h
          subst h
          dsimp only
          rw [List.length_map]
          exact chGo_most _ _ _ _ (by decide)
        · cases h
      · cases h
theorem lsame2_p (H1 H2 : HProp) (pv xv : Value) (q : Option Qu) (hq : QuR H1 pv q) (hx : XuR H2 xv q) (hln : ∀ y, q = some y → y.list.length ≤ 1000000) : RTri Tryz.prog 23 #[pv, xv] [H1, H2] (.bool true) := by
  have h := (lsame_r (star [H1, H2]) pv xv q q (hq.weak fun _ _ h => RdC.star (p := H1) (.head _) h) (hx.weak fun _ _ h => RdC.star (p := H2) (.tail _ (.head _)) h) hln).ent (Ent.star_in [H1, H2] (M := []))
  rw [qEq_refl] at h
  exact h
set_option maxHeartbeats 1000000 in
theorem qdecodes_t (q : HProp) (pv : Value) (pokes : List PokeB) (root : Int) (hv : ListR pokeV q pv pokes) : Tri Tryz.prog 5 #[pv, .int .i64 root] [q] fun v L => v = .bool true ∧ L = [q] := by
  have hmade := fun h => made_t q pv pokes hv h
  obtain ⟨oad, ocap, rfl, _, hv⟩ := hv
  by_cases h60 : 60 < pokes.length
  · refine Tri.of_body (vs := [_, _]) Tryz.func5 rfl rfl fun w0 F => ?_
    repeat' (first | refine Ga ?_ | (refine Gb ?_; intro b) | (refine Gd ?_; intro g cap rest hcap) | (refine Gc ?_; intro ad cap)  | (refine Gt alive_t ?_; rintro _ _ ⟨rfl, rfl⟩) | (refine Ge ?_ ?_ <;> (intro h; try (exfalso; omega))) | fail)
    all_goals first | (exfalso; omega) | skip
    refine St.d1 Tryz.func5 ⟨_, ⟨rfl, rfl⟩, Ent.go⟩
  have hmade := hmade (by omega)
  unfold madeQ at hmade
  refine Tri.of_body (vs := [_, _]) Tryz.func5 rfl rfl fun w0 F => ?_
  repeat' (first | refine St.halt 6 ?_ |refine Ga ?_ | (refine Gb ?_; intro b) | (refine Gd ?_; intro g cap rest hcap) | (refine Gc ?_; intro ad cap)  | (refine Gt alive_t ?_; rintro _ _ ⟨rfl, rfl⟩) | (refine Gt hmade ?_; rintro _ _ ⟨S, m, rs, bs, b1, b2, b3, HB, rfl, hi, hb, rfl⟩) | (refine Ge ?_ ?_ <;> (intro h; try (exfalso; omega))) | fail)
  all_goals first | (exfalso; omega) | skip
  apply Halt.go
  have hbl := hi.len
  have hdec := decode_t S m hi.ok root
  rw [decM_docM hi.rel root] at hdec
  have hxd := (xdec_t HB rs b1 b2 b3 bs hb (by omega) root).mono (Q' := xdecV HB (docM rs bs root)) (fun _ _ h => h.v)
  have hln := fun y (h : (docM rs bs root).1 = some y) => docM_len h
  unfold decQ at hdec
  unfold xdecV at hxd
  generalize docM rs bs root = r at hdec hxd hln
  obtain ⟨qu, ec⟩ := r
  dsimp only at hdec hxd hln
  repeat' (first | refine St.halt 8 ?_ |refine Ga ?_ | (refine Gb ?_; intro b) | (refine Gd ?_; intro g cap rest hcap) | (refine Gc ?_; intro ad cap)  | (refine Gt hdec ?_; rintro _ _ ⟨pv2, Hd, rfl, hq2, rfl⟩) | (refine Gt hxd ?_; rintro _ _ ⟨yp, yn, yad, ym, ycap, H3, rfl, hx3, rfl⟩) | (refine Ge ?_ ?_ <;> (intro h; try (exfalso; omega))) | fail)
  all_goals first | (exfalso; omega) | skip
  apply Halt.go
  have hs := lsame2_p Hd H3 _ _ qu hq2 hx3 (fun y hy => by have := hln y hy; omega)
  repeat' (first | refine Ga ?_ | (refine Gb ?_; intro b) | (refine Gd ?_; intro g cap rest hcap) | (refine Gc ?_; intro ad cap) | refine Gl hs ?_ | (refine Ge ?_ ?_ <;> (intro h; try (exfalso; omega))) | fail)
  all_goals first | (exfalso; omega) | skip
  all_goals refine St.d1 Tryz.func5 ⟨_, ⟨rfl, rfl⟩, Ent.go⟩
end Go.Proofs.YtphheopbngdhhaaGreatDoor
