/-
  For every configuration and all cells that are set the law AuditHolds returns true and leaves its arguments as they were (the statement AuditHoldsSaid, with no further condition).
-/
import Derived.Test.YtmcadilggmlbfaaRow
import Derived.Test.YtmcadilggmlbfaaHdf
namespace Go.Proofs.Ytmcadilggmlbfaa
open Go.ChangeShapes Go.WideShapes Go.ChangeAt Go.RowKit Go.Deep
theorem tri_run {P : Program} {f : FuncId} {args : Array Value} {W : World} {Q : Value → Prop} (h : Tri P f args [exact' W] fun v L => Q v ∧ L = [exact' W]) :
    Calls P f args W fun e W' => ∃ v, e = .returned v ∧ Q v ∧ Sat ([exact' W] ++ []) (hpOf W') ∧ Old W W' := by
  unfold Tri at h
  refine (h W [] (exact_sat W)).mono ?_
  rintro e W' ⟨v, L, he, ⟨hq, rfl⟩, hs, ho⟩
  exact ⟨v, he, hq, hs, ho⟩
set_option maxRecDepth 100000 in
theorem holds_contract (H : Type) (enc : TypeId × Value → H) (W : World) (base : Nat) (args : Array Value) (ds gs : List (DataW H)) (before : List MemPlace)
    (hval : ∀ (j : Nat) t v, Try.f5.params[j]? = some t → args[j]? = some v → Value.okWide Try.prog W .any base t v)
    (hW : DataW.Whole enc Try.prog Try.f5.params.toList Rows.auditHoldsSpec.vars false W args.toList ds gs before) :
    Calls Try.prog 5 args W fun e W' => ∃ v, e = .returned v ∧ Rows.auditHoldsSpec.post enc Try.prog Try.f5 false true false false W args v W' := by
  have hW' := hW
  obtain ⟨p, q, hA0, hV, rfl, hfz, hnd⟩ := hW
  have hA : DataW.TrodAll enc Try.prog W 0 (fun _ => true) true Try.f5.params.toList args.toList ds p := hA0
  rw [Try.params5] at hA hval
  obtain ⟨v0, vs0, d0, ds0, p0, q0, hargs, rfl, rfl, h0, r0⟩ := trodAll_cons hA
  obtain ⟨v1, vs1, d1, ds1, p1, q1, rfl, rfl, rfl, h1, r1⟩ := trodAll_cons r0
  obtain ⟨rfl, rfl, rfl⟩ := trodAll_nil r1
  obtain rfl : args = #[v0, v1] := by cases args; simp_all
  obtain ⟨rfl, rfl⟩ := trodVars_none hV
  clear hA0 hA r0 r1
  have k0 := hval 0 _ v0 rfl rfl
  have k1 := hval 1 _ v1 rfl rfl
  obtain ⟨⟨c0⟩, rfl, _⟩ := okWide_struct Try.underlying24 k0
  obtain ⟨_, h0⟩ := h0
  obtain ⟨c, e0⟩ := cfg_of h0
  obtain rfl : c0 = c.v := e0
  obtain ⟨ad, sets, cap, rfl, hle, _, hev⟩ := slice_of MOp.v MOp.v_len (by decide) Try.underlying45 (by kernel_rfl) (fun _ _ _ h => op_of h) k1 h1
  refine (tri_run (Q := fun v => v = .bool true) (holds_t c (exact' W) _ sets ⟨ad, cap, rfl, hle, hev⟩)).mono ?_
  rintro e W' ⟨v, rfl, rfl, hs, ho⟩
  exact ⟨_, rfl, post_true laid_ hW' rfl rfl Try.underlying4 (by kernel_rfl) rfl hs ho⟩
set_option maxRecDepth 100000 in
theorem holds_lifted (os : Os) (started : os.Started) (H : Type) (enc : TypeId × Value → H) :
    ReturnsInHanded {} Try.checked os 5 .any (Rows.auditHoldsSpec.pre6 enc Try.prog Try.f5 Rows.auditHoldsRow.domain false) (Rows.auditHoldsSpec.post enc Try.prog Try.f5 false true false false) := by
  refine returnsInHanded_of_change (C := Try.checked) own_ started (by kernel_rfl) Try.func5
    (ChangeSpec.witness6 (enc := enc) (C := Try.checked) false ⟨#[], #[.agg #[.int .i64 0, .int .i64 0, .int .i64 0, .int .i64 0, .int .u64 0, .int .u64 0], .slice none 0 0], []⟩ 8 (by kernel_rfl) (by kernel_rfl) (by kernel_rfl) (by kernel_rfl)) ?_
  intro W base args ds gs before hval hW _ _
  exact holds_contract H enc W base args ds gs before hval hW
theorem audit_holds : Rows.AuditHoldsSaid :=
  OpenClaim.holds_of_wide 5 Try.f5 rfl rfl rfl rfl rfl rfl rfl ⟨rfl, rfl, rfl, rfl, rfl⟩ rfl rfl rfl rfl rfl (by kernel_rfl) Try.func5 (by kernel_rfl)
    (of_decide_eq_true (by kernel_rfl)) (by unfold Func.isWrapper; first | (rw [if_pos (by decide +kernel)]; kernel_rfl) | (rw [if_neg (by decide +kernel)]; exact ⟨rfl, rfl⟩))
    (fun os started H enc _ => holds_lifted os started H enc)
end Go.Proofs.Ytmcadilggmlbfaa
