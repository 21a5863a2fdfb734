/-
  The law's example: alive.
-/
import Derived.Test.YtmcadilggmlbfaaAudd
namespace Go.Proofs.Ytmcadilggmlbfaa
theorem EvsR.of_rd {q : HProp} {b cap : Nat} {evs : List Ev} {rest : List Value} (h : evs.length ≤ cap) (hr : RdC q b (evs.flatMap Ev.v ++ rest)) : EvsR q (.slice (some ⟨b, 0, none⟩) evs.length cap) evs :=
  ⟨_, _, rfl, h, .inr ⟨b, 0, _, rest, rfl, hr, .zero⟩⟩
theorem EvsR.bl (b t cap : Nat) (evs : List Ev) (h : evs.length ≤ cap) : EvsR (bl b t (evs.flatMap Ev.v)) (.slice (some ⟨b, 0, none⟩) evs.length cap) evs :=
  EvsR.of_rd (rest := []) h (by rw [List.append_nil]; exact RdC.bl)
def cfg0 : Cfg := ⟨2, 3, 4, 5, 6, 7⟩
def word0 : Ev := ⟨0, ⟨0, cfg0.at 16 1 0, ⟨0, 0⟩, ⟨0, 0⟩⟩, ⟨⟨0, 0⟩, true⟩⟩
def evs0 : List Ev := [⟨1, ⟨1, cfg0.at 6 1 0, ⟨0, 0⟩, ⟨1, (cfg0.at 11 1 0).toNat⟩⟩, ⟨⟨0, 0⟩, true⟩⟩, ⟨1, ⟨1, cfg0.at 5 1 0, ⟨0, 0⟩, ⟨1, 0⟩⟩, ⟨⟨0, 0⟩, true⟩⟩,
  ⟨1, ⟨2, 0, ⟨0, 6⟩, ⟨1, 7⟩⟩, ⟨⟨0, 6⟩, true⟩⟩, word0]
theorem audit0 : auditOf cfg0 evs0 = (⟨1, 1, 0⟩, 0, 0) := by kernel_rfl
theorem audit1 : auditOf cfg0 [word0] = (⟨0, 0, 0⟩, 0, 52) := by kernel_rfl
theorem alive_t : Tri Try.prog 6 #[] [] fun v L => v = .bool true ∧ L = [] := by
  have hr : cfg0.right = true := by decide +kernel
  have hc := Cfg.small hr
  have hof := of_r cfg0
  unfold Cfg.ofV at hof
  rw [hr] at hof
  have ha0 := fun b => audit_t cfg0 _ _ evs0 (EvsR.bl b 43 4 evs0 (by decide)) (by decide)
  have ha1 := fun b => audit_t cfg0 _ _ [word0] (EvsR.bl b 43 1 [word0] (by decide)) (by decide)
  rw [audit0] at ha0
  rw [audit1] at ha1
  refine Tri.of_body (vs := []) Try.func6 rfl rfl fun w0 F => ?_
  repeat' (first | (first | (apply StL.v; exact OpV.go; rfl) | (apply StL.ok; exact OpOk.gt; rfl; rintro _ _ ⟨rfl, rfl⟩) | (apply StL.ok; exact OpOk.gf; rfl; rintro _ _ ⟨b, rfl, rfl⟩) | (apply StL.ok; exact OpOk.gn; rfl; rintro _ _ ⟨g, cap, rest, rfl, hcap, rfl⟩) | (apply StL.ok; exact OpOk.ga; rfl; rintro tv _ ⟨htv, rfl⟩) | (apply StL.g_yes; rfl; rfl) | (apply StL.g_no; rfl; rfl; rfl; rfl) | (apply StL.g_undef; rfl; rfl; rfl) | (apply StL.gsplit; rfl; rfl; all_goals (intro h; (first | replace h := of_decide_eq_true h | replace h := of_decide_eq_false h | replace h := beq_iff_eq.1 h | replace h := beq_eq_false_iff_ne.1 h | replace h := bne_iff_ne.1 h | replace h := bne_eq_false_iff_eq.1 h | skip); (try (exfalso; omega)))) | apply StL.nil | apply St.region | apply St.seq | apply St.block | apply St.inBlock | apply St.skip | (apply St.exit; rfl) | (apply St.cond_t; rfl) | (apply St.cond_f; rfl) | (apply St.cond; rfl; all_goals (intro h; (first | replace h := of_decide_eq_true h | replace h := of_decide_eq_false h | replace h := beq_iff_eq.1 h | replace h := beq_eq_false_iff_ne.1 h | replace h := bne_iff_ne.1 h | replace h := bne_eq_false_iff_eq.1 h | skip); (try (exfalso; omega))))) | (first | (apply StD.v0; rfl; exact OpV.go; rfl) | (apply StD.v1; rfl; exact OpV.go; exact Ent.go; rfl) | (apply StD.ok3; rfl; exact OpOk.gt; rfl; rintro _ _ ⟨rfl, rfl⟩) | (apply StD.ok2; rfl; exact OpOk.gf; rfl; rintro _ _ ⟨b, rfl, rfl⟩; refine ⟨Ent.go, ?_⟩) | (apply StD.ok3; rfl; exact OpOk.gn; rfl; rintro _ _ ⟨g, cap, rest, rfl, hcap, rfl⟩) | (apply StD.ok3; rfl; exact OpOk.ga; rfl; rintro tv _ ⟨htv, rfl⟩) | apply StD.nil | exact StD.nope | apply StD.pick | (apply StD.claim; rfl; intro b) | (apply StD.g0; rfl; rfl; rfl; exact OpV.go; rfl) | (apply StD.g1; rfl; rfl; rfl; exact OpV.go; exact Ent.go; rfl) | (apply StD.skip0; rfl; rfl; rfl; rfl; rfl) | (apply StD.skip1; rfl; rfl; rfl; rfl; exact Ent.go; rfl) | (apply StD.skipu; rfl; rfl; rfl; rfl) | (apply StD.skipu1; rfl; rfl; rfl; exact Ent.go; rfl) | (apply StD.gsplit; rfl; rfl; rfl; all_goals (intro h; (first | replace h := of_decide_eq_true h | replace h := of_decide_eq_false h | replace h := beq_iff_eq.1 h | replace h := beq_eq_false_iff_ne.1 h | replace h := bne_iff_ne.1 h | replace h := bne_eq_false_iff_eq.1 h | skip); (try (exfalso; omega))))) | (refine St.draw (id := 6) [(0, 1), (1, 1), (2, 1), (3, 1), (4, 0), (5, 0), (6, 0), (7, 0), (8, 0), (9, 1), (10, 1), (11, 0), (12, 0), (13, 0), (14, 0), (15, 0), (16, 0), (17, 0), (18, 0), (19, 0), (20, 0), (21, 1), (22, 2), (23, 0)] [] mixed (by kernel_rfl) ?_) | (apply StL.callr; (apply OpC.func; exact Evs.go); exact hof; exact Ent.go; rfl) | (apply StD.callr; rfl; (apply OpC.func; exact Evs.go); exact hof; exact Ent.go; exact Ent.go; rfl) | (apply StD.gcallr; rfl; rfl; rfl; (apply OpC.func; exact Evs.go); exact hof; exact Ent.go; exact Ent.go; rfl) | (apply StL.callr; (apply OpC.func; exact Evs.go); exact at_r cfg0 hc _ _ _; exact Ent.go; rfl) | (apply StD.callr; rfl; (apply OpC.func; exact Evs.go); exact at_r cfg0 hc _ _ _; exact Ent.go; exact Ent.go; rfl) | (apply StD.gcallr; rfl; rfl; rfl; (apply OpC.func; exact Evs.go); exact at_r cfg0 hc _ _ _; exact Ent.go; exact Ent.go; rfl) | (apply StL.callt; (apply OpC.func; exact Evs.go); exact ha0 _; exact Ent.go; rfl; rintro _ _ ⟨rfl, rfl⟩) | (apply StD.callt; rfl; (apply OpC.func; exact Evs.go); exact ha0 _; exact Ent.go; rfl; rintro _ _ ⟨rfl, rfl⟩) | (apply StD.callt2; rfl; (apply OpC.func; exact Evs.go); exact ha0 _; exact Ent.go; rfl; rintro _ _ ⟨rfl, rfl⟩; refine ⟨Ent.go, ?_⟩) | (apply StL.callt; (apply OpC.func; exact Evs.go); exact ha1 _; exact Ent.go; rfl; rintro _ _ ⟨rfl, rfl⟩) | (apply StD.callt; rfl; (apply OpC.func; exact Evs.go); exact ha1 _; exact Ent.go; rfl; rintro _ _ ⟨rfl, rfl⟩) | (apply StD.callt2; rfl; (apply OpC.func; exact Evs.go); exact ha1 _; exact Ent.go; rfl; rintro _ _ ⟨rfl, rfl⟩; refine ⟨Ent.go, ?_⟩))
  refine St.d1 Try.func6 ?_; apply Exists.intro; apply And.intro; exact ⟨rfl, rfl⟩; exact Ent.go
end Go.Proofs.Ytmcadilggmlbfaa
