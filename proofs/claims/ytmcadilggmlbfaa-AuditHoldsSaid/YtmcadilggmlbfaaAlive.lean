/-
  The law's example: alive.
-/
import Derived.Test.YtmcadilggmlbfaaAudd
namespace Go.Proofs.Ytmcadilggmlbfaa
theorem EvsR.of_rd {q : HProp} {b cap : Nat} {evs : List Ev} {rest : List Value} (h : evs.length ≤ cap) (hr : RdC q b (evs.flatMap Ev.v ++ rest)) : EvsR q (.slice (some ⟨b, 0, none⟩) evs.length cap) evs :=
  ⟨_, _, rfl, h, .inr ⟨b, 0, _, rest, rfl, hr, .zero⟩⟩
theorem EvsR.bl (b t cap : Nat) (evs : List Ev) (h : evs.length ≤ cap) : EvsR (bl b t (evs.flatMap Ev.v)) (.slice (some ⟨b, 0, none⟩) evs.length cap) evs :=
  EvsR.of_rd (rest := []) h (by rw [List.append_nil]; exact RdC.bl)
def cfg0 : Cfg := ⟨2, 3, 4, 5, 6, 7⟩
def word0 : Ev := ⟨0, ⟨0, cfg0.at 16 1 0, ⟨0, 0⟩, ⟨0, 0⟩⟩, ⟨⟨0, 0⟩, true⟩⟩
def evs0 : List Ev := [⟨1, ⟨1, cfg0.at 6 1 0, ⟨0, 0⟩, ⟨1, (cfg0.at 11 1 0).toNat⟩⟩, ⟨⟨0, 0⟩, true⟩⟩, ⟨1, ⟨1, cfg0.at 5 1 0, ⟨0, 0⟩, ⟨1, 0⟩⟩, ⟨⟨0, 0⟩, true⟩⟩,
  ⟨1, ⟨2, 0, ⟨0, 6⟩, ⟨1, 7⟩⟩, ⟨⟨0, 6⟩, true⟩⟩, word0]
theorem audit0 : auditOf cfg0 evs0 = (⟨1, 1, 0⟩, 0, 0) := by kernel_rfl
theorem audit1 : auditOf cfg0 [word0] = (⟨0, 0, 0⟩, 0, 52) := by kernel_rfl
theorem alive_t : Tri Try.prog 6 #[] [] fun v L => v = .bool true ∧ L = [] := by
  have hr : cfg0.right = true := by decide +kernel
  have hc := Cfg.small hr
  have hof := of_r cfg0
  unfold Cfg.ofV at hof
  rw [hr] at hof
  have ha0 := fun b => audit_t cfg0 _ _ evs0 (EvsR.bl b 43 4 evs0 (by decide)) (by decide)
  have ha1 := fun b => audit_t cfg0 _ _ [word0] (EvsR.bl b 43 1 [word0] (by decide)) (by decide)
  rw [audit0] at ha0
  rw [audit1] at ha1
  refine Tri.of_body (vs := []) Try.func6 rfl rfl fun w0 F => ?_
  repeat' (first | (apply Ya; exact Oa) | (apply Yb; exact Ob) | (apply Yc; exact Oc; intro b) | (apply Ye; exact Oe; intro g cap rest hcap) | (apply Yd; exact Od; intro ad cap) | (apply Yf; exact Oj) | (apply Yg; exact Oj; exact ⟨rfl, rfl⟩) | (apply Yh; exact Oj; rfl) | (apply Yi; exact Oj; exact On; all_goals (intro h; try (exfalso; omega))) | apply StL.nil | apply St.region | apply St.seq | apply St.block | apply St.inBlock | apply St.skip | (apply St.exit; rfl) | (apply St.cond_t; rfl) | (apply St.cond_f; rfl) | (apply Ud; rfl; exact On; all_goals (intro h; try (exfalso; omega))) | (apply Za; rfl; exact Oa) | (apply Zb; rfl; exact Oa; exact Ent.go) | (apply Zc; rfl; exact Ob) | (apply Zd; rfl; exact Oc; intro b; refine ⟨Ent.go, ?_⟩) | (apply Ze; rfl; exact Oc; intro b) | (apply Zf; rfl; exact Oe; intro g cap rest hcap) | (apply Zg; rfl; exact Od; intro ad cap) | apply StD.nil | exact StD.nope | apply StD.pick | (apply StD.claim; rfl; intro b) | (apply Zi; rfl; exact Oj; exact Oa) | (apply Zj; rfl; exact Oj; exact Oa; exact Ent.go) | (apply Zk; rfl; exact Oj; exact ⟨rfl, rfl⟩) | (apply Zl; rfl; exact Oj; exact ⟨rfl, rfl⟩; exact Ent.go) | (apply Zm; rfl; exact Oj; rfl) | (apply Zn; rfl; exact Oj; exact Ent.go; rfl) | (refine St.draw (id := 6) [(0, 1), (1, 1), (2, 1), (3, 1), (4, 0), (5, 0), (6, 0), (7, 0), (8, 0), (9, 1), (10, 1), (11, 0), (12, 0), (13, 0), (14, 0), (15, 0), (16, 0), (17, 0), (18, 0), (19, 0), (20, 0), (21, 1), (22, 2), (23, 0)] [] mixed (by kernel_rfl) ?_) | (apply Ka; exact Og; exact hof; exact Oh) | (apply Kb; rfl; exact Og; exact hof; exact Oi) | (apply Kc; rfl; exact Oj; exact Og; exact hof; exact Oi) | (apply Ka; exact Og; exact at_r cfg0 hc _ _ _; exact Oh) | (apply Kb; rfl; exact Og; exact at_r cfg0 hc _ _ _; exact Oi) | (apply Kc; rfl; exact Oj; exact Og; exact at_r cfg0 hc _ _ _; exact Oi) | (apply Kd; exact Og; exact ha0 _; exact Oh; rintro _ _ ⟨rfl, rfl⟩) | (apply Ke; rfl; exact Og; exact ha0 _; exact Oh; rintro _ _ ⟨rfl, rfl⟩) | (apply Kf; rfl; exact Og; exact ha0 _; exact Oh; rintro _ _ ⟨rfl, rfl⟩; refine ⟨Ent.go, ?_⟩) | (apply Kd; exact Og; exact ha1 _; exact Oh; rintro _ _ ⟨rfl, rfl⟩) | (apply Ke; rfl; exact Og; exact ha1 _; exact Oh; rintro _ _ ⟨rfl, rfl⟩) | (apply Kf; rfl; exact Og; exact ha1 _; exact Oh; rintro _ _ ⟨rfl, rfl⟩; refine ⟨Ent.go, ?_⟩) | (apply Zo; rfl; exact Oj; exact On; all_goals (intro h; try (exfalso; omega))))
  refine St.d1 Try.func6 ?_; apply Exists.intro; apply And.intro; exact ⟨rfl, rfl⟩; exact Ent.go
end Go.Proofs.Ytmcadilggmlbfaa
