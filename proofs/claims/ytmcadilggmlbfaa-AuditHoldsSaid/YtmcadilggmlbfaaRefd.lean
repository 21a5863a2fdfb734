/-
  Packages tumblerref01 and tumblerref18: Check, Becomes, May, limbo.
-/
import Derived.Test.YtmcadilggmlbfaaRefc
import Derived.Test.YtmcadilggmlbfaaAudd
namespace Go.Proofs.Ytmcadilggmlbfaa
theorem rcheck_r (ad : Option Addr) (n cap : Nat) (tr : Value) (who : Int) (o : MOp) : RTri Try.prog 45 #[.agg ⟨[.slice ad n cap, tr]⟩, .int .i64 who, .agg ⟨o.v⟩] [] (.int .i64 (checkOf n who o)) := by
  apply RTri.of_pure
  refine Tri.of_body (vs := [_, _, _]) Try.func45 rfl rfl fun w0 F => ?_
  repeat' (first | (apply Ya; exact Oa) | (apply Yb; exact Ob) | (apply Yc; exact Oc; intro b) | (apply Ye; exact Oe; intro g cap rest hcap) | (apply Yd; exact Od; intro ad cap) | (apply Yf; exact Oj) | (apply Yg; exact Oj; exact ⟨rfl, rfl⟩) | (apply Yh; exact Oj; rfl) | (apply Yi; exact Oj; exact On; all_goals (intro h; try (exfalso; omega))) | apply StL.nil | apply St.region | apply St.seq | apply St.block | apply St.inBlock | apply St.skip | (apply St.exit; rfl) | (apply St.cond_t; rfl) | (apply St.cond_f; rfl) | (apply Ud; rfl; exact On; all_goals (intro h; try (exfalso; omega))) | (apply Za; rfl; exact Oa) | (apply Zb; rfl; exact Oa; exact Ent.go) | (apply Zc; rfl; exact Ob) | (apply Zd; rfl; exact Oc; intro b; refine ⟨Ent.go, ?_⟩) | (apply Ze; rfl; exact Oc; intro b) | (apply Zf; rfl; exact Oe; intro g cap rest hcap) | (apply Zg; rfl; exact Od; intro ad cap) | apply StD.nil | exact StD.nope | apply StD.pick | (apply StD.claim; rfl; intro b) | (apply Zi; rfl; exact Oj; exact Oa) | (apply Zj; rfl; exact Oj; exact Oa; exact Ent.go) | (apply Zk; rfl; exact Oj; exact ⟨rfl, rfl⟩) | (apply Zl; rfl; exact Oj; exact ⟨rfl, rfl⟩; exact Ent.go) | (apply Zm; rfl; exact Oj; rfl) | (apply Zn; rfl; exact Oj; exact Ent.go; rfl)   | (apply Zo; rfl; exact Oj; exact On; all_goals (intro h; try (exfalso; omega))))
  all_goals (first | refine St.dn Try.func45 ⟨?_, rfl⟩ Ent.go | refine St.fl Try.func45 ⟨?_, rfl⟩ Ent.go)
  all_goals refine congrArg (Value.int .i64) ?_
  all_goals unfold checkOf
  all_goals (repeat (first | rw [if_pos (by omega)] | rw [if_neg (by omega)]))
theorem rbecomes_r (c : Cell) (o : MOp) : RTri Try.prog 47 #[.agg ⟨c.v⟩, .agg ⟨o.v⟩] [] (.agg ⟨(becomes c o).v⟩) := by
  apply RTri.of_pure
  have e : IntKind.u64.wrap ((c.val : Int) + o.new.val) = (((c.val + o.new.val) % 18446744073709551616 : Nat) : Int) := by
    simp only [IntKind.wrap, IntKind.signed, IntKind.bits]; simp
  refine Tri.of_body (vs := [_, _]) Try.func47 rfl rfl fun w0 F => ?_
  repeat' (first | (apply Ya; exact Oa) | (apply Yb; exact Ob) | (apply Yc; exact Oc; intro b) | (apply Ye; exact Oe; intro g cap rest hcap) | (apply Yd; exact Od; intro ad cap) | (apply Yf; exact Oj) | (apply Yg; exact Oj; exact ⟨rfl, rfl⟩) | (apply Yh; exact Oj; rfl) | (apply Yi; exact Oj; exact On; all_goals (intro h; try (exfalso; omega))) | apply StL.nil | apply St.region | apply St.seq | apply St.block | apply St.inBlock | apply St.skip | (apply St.exit; rfl) | (apply St.cond_t; rfl) | (apply St.cond_f; rfl) | (apply Ud; rfl; exact On; all_goals (intro h; try (exfalso; omega))) | (apply Za; rfl; exact Oa) | (apply Zb; rfl; exact Oa; exact Ent.go) | (apply Zc; rfl; exact Ob) | (apply Zd; rfl; exact Oc; intro b; refine ⟨Ent.go, ?_⟩) | (apply Ze; rfl; exact Oc; intro b) | (apply Zf; rfl; exact Oe; intro g cap rest hcap) | (apply Zg; rfl; exact Od; intro ad cap) | apply StD.nil | exact StD.nope | apply StD.pick | (apply StD.claim; rfl; intro b) | (apply Zi; rfl; exact Oj; exact Oa) | (apply Zj; rfl; exact Oj; exact Oa; exact Ent.go) | (apply Zk; rfl; exact Oj; exact ⟨rfl, rfl⟩) | (apply Zl; rfl; exact Oj; exact ⟨rfl, rfl⟩; exact Ent.go) | (apply Zm; rfl; exact Oj; rfl) | (apply Zn; rfl; exact Oj; exact Ent.go; rfl)   | (apply Zo; rfl; exact Oj; exact On; all_goals (intro h; try (exfalso; omega))))
  all_goals (first | refine St.dn Try.func47 ⟨?_, rfl⟩ Ent.go | refine St.fl Try.func47 ⟨?_, rfl⟩ Ent.go)
  all_goals unfold becomes
  all_goals (repeat (first | rw [if_pos (by omega)] | rw [if_neg (by omega)] | rw [if_pos (show c.eqB o.old = true from ‹((c.val : Int) == o.old.val && ((c.seq : Int) == o.old.seq && true)) = true›)] | rw [if_neg (by rw [show c.eqB o.old = false from ‹((c.val : Int) == o.old.val && ((c.seq : Int) == o.old.seq && true)) = false›]; decide)]))
  all_goals first | rfl | (rw [e]; rfl)
theorem rmay_r (a b : Nat) : RTri Try.prog 61 #[.int .u64 a, .int .u64 b] [] (.bool (turnsB a b)) := by
  apply RTri.of_pure
  refine Tri.of_body (vs := [_, _]) Try.func61 rfl rfl fun w0 F => ?_
  repeat' (first | (apply Ya; exact Oa) | (apply Yb; exact Ob) | (apply Yc; exact Oc; intro b) | (apply Ye; exact Oe; intro g cap rest hcap) | (apply Yd; exact Od; intro ad cap) | (apply Yf; exact Oj) | (apply Yg; exact Oj; exact ⟨rfl, rfl⟩) | (apply Yh; exact Oj; rfl) | (apply Yi; exact Oj; exact On; all_goals (intro h; try (exfalso; omega))) | apply StL.nil | apply St.region | apply St.seq | apply St.block | apply St.inBlock | apply St.skip | (apply St.exit; rfl) | (apply St.cond_t; rfl) | (apply St.cond_f; rfl) | (apply Ud; rfl; exact On; all_goals (intro h; try (exfalso; omega))) | (apply Za; rfl; exact Oa) | (apply Zb; rfl; exact Oa; exact Ent.go) | (apply Zc; rfl; exact Ob) | (apply Zd; rfl; exact Oc; intro b; refine ⟨Ent.go, ?_⟩) | (apply Ze; rfl; exact Oc; intro b) | (apply Zf; rfl; exact Oe; intro g cap rest hcap) | (apply Zg; rfl; exact Od; intro ad cap) | apply StD.nil | exact StD.nope | apply StD.pick | (apply StD.claim; rfl; intro b) | (apply Zi; rfl; exact Oj; exact Oa) | (apply Zj; rfl; exact Oj; exact Oa; exact Ent.go) | (apply Zk; rfl; exact Oj; exact ⟨rfl, rfl⟩) | (apply Zl; rfl; exact Oj; exact ⟨rfl, rfl⟩; exact Ent.go) | (apply Zm; rfl; exact Oj; rfl) | (apply Zn; rfl; exact Oj; exact Ent.go; rfl)   | (apply Zo; rfl; exact Oj; exact On; all_goals (intro h; try (exfalso; omega))))
  all_goals (first | refine St.dn Try.func61 ⟨?_, rfl⟩ Ent.go | refine St.fl Try.func61 ⟨?_, rfl⟩ Ent.go)
  all_goals refine congrArg Value.bool ?_
  all_goals unfold turnsB
  all_goals (repeat (first | rw [if_pos (by omega)] | rw [if_neg (by omega)]))
  all_goals (rw [Bool.eq_iff_iff]; simp; omega)
theorem lifeV_len (l : List Nat) : (lifeV l).length = l.length := by simp [lifeV]
theorem rlimbo_r (lf nb lc : Nat) (life : List Nat) (hl : life.length = nb) (hnb : nb ≤ 64) (lr : List Value) : RTri Try.prog 62 #[.slice (some ⟨lf, 0, none⟩) nb lc] [bl lf 22 (lifeV life ++ lr)] (.int .i64 (limboOf life : Int)) := by
  apply RTri.of_reads
  intro q hq
  have hq := RdC.of_sat hq (ReadsC.here RdC.bl)
  refine Tri.of_body (vs := [_]) Try.func62 rfl rfl fun w0 F => ?_
  repeat' (first | (apply Ya; exact Oa) | (apply Yb; exact Ob) | (apply Yc; exact Oc; intro b) | (apply Ye; exact Oe; intro g cap rest hcap) | (apply Yd; exact Od; intro ad cap) | (apply Yf; exact Oj) | (apply Yg; exact Oj; exact ⟨rfl, rfl⟩) | (apply Yh; exact Oj; rfl) | (apply Yi; exact Oj; exact On; all_goals (intro h; try (exfalso; omega))) | apply StL.nil | apply St.region | apply St.seq | apply St.block | apply St.inBlock | apply St.skip | (apply St.exit; rfl) | (apply St.cond_t; rfl) | (apply St.cond_f; rfl) | (apply Ud; rfl; exact On; all_goals (intro h; try (exfalso; omega))) | (apply Za; rfl; exact Oa) | (apply Zb; rfl; exact Oa; exact Ent.go) | (apply Zc; rfl; exact Ob) | (apply Zd; rfl; exact Oc; intro b; refine ⟨Ent.go, ?_⟩) | (apply Ze; rfl; exact Oc; intro b) | (apply Zf; rfl; exact Oe; intro g cap rest hcap) | (apply Zg; rfl; exact Od; intro ad cap) | apply StD.nil | exact StD.nope | apply StD.pick | (apply StD.claim; rfl; intro b) | (apply Zi; rfl; exact Oj; exact Oa) | (apply Zj; rfl; exact Oj; exact Oa; exact Ent.go) | (apply Zk; rfl; exact Oj; exact ⟨rfl, rfl⟩) | (apply Zl; rfl; exact Oj; exact ⟨rfl, rfl⟩; exact Ent.go) | (apply Zm; rfl; exact Oj; rfl) | (apply Zn; rfl; exact Oj; exact Ent.go; rfl)   | (apply Zo; rfl; exact Oj; exact On; all_goals (intro h; try (exfalso; omega))))
  refine St.loop (ι := { j : Nat // j ≤ nb }) (fun j => nb - j.1)
    (fun j => [(0, .slice (some ⟨lf, 0, none⟩) nb lc), (3, .int .i64 (limboOf (life.take j.1) : Int)), (4, .int .i64 (j.1 : Int))])
    (fun j => [q] ++ F) ⟨0, Nat.zero_le _⟩ ?hE2 ?hL2 ?round2
  case hE2 => exact Sub.go
  case hL2 => exact Ent.go
  case round2 =>
    rintro ⟨j, hj⟩ IH; dsimp only
    have hle : limboOf (life.take j) ≤ j := Nat.le_trans List.countP_le_length (by rw [List.length_take]; omega)
    by_cases hlt2 : j < nb
    · have hjl : j < life.length := by omega
      have hnl : NthN ((j : Int).toNat * 1) (lifeV life ++ lr) (.int .u64 (life[j] : Int)) := (NthN.life hjl).app_left lr
      have hcount : limboOf (life.take (j + 1)) = limboOf (life.take j) + if life[j] = 2 then 1 else 0 := by
        unfold limboOf
        rw [List.take_succ_eq_append_getElem hjl, List.countP_append, List.countP_singleton]
        simp
      by_cases h2 : life[j] = 2
      · rw [if_pos h2] at hcount
        have hcount' : ((limboOf (life.take (j + 1)) : Nat) : Int) = (limboOf (life.take j) : Int) + 1 := by omega
        have h2' : ((life[j] : Nat) : Int) = 2 := by omega
        repeat' (first | (apply Ya; exact Oa) | (apply Yb; exact Ob) | (apply Yc; exact Oc; intro b) | (apply Ye; exact Oe; intro g cap rest hcap) | (apply Yd; exact Od; intro ad cap) | (apply Yf; exact Oj) | (apply Yg; exact Oj; exact ⟨rfl, rfl⟩) | (apply Yh; exact Oj; rfl) | (apply Yi; exact Oj; exact On; all_goals (intro h; try (exfalso; omega))) | apply StL.nil | apply St.region | apply St.seq | apply St.block | apply St.inBlock | apply St.skip | (apply St.exit; rfl) | (apply St.cond_t; rfl) | (apply St.cond_f; rfl) | (apply Ud; rfl; exact On; all_goals (intro h; try (exfalso; omega))) | (apply Za; rfl; exact Oa) | (apply Zb; rfl; exact Oa; exact Ent.go) | (apply Zc; rfl; exact Ob) | (apply Zd; rfl; exact Oc; intro b; refine ⟨Ent.go, ?_⟩) | (apply Ze; rfl; exact Oc; intro b) | (apply Zf; rfl; exact Oe; intro g cap rest hcap) | (apply Zg; rfl; exact Od; intro ad cap) | apply StD.nil | exact StD.nope | apply StD.pick | (apply StD.claim; rfl; intro b) | (apply Zi; rfl; exact Oj; exact Oa) | (apply Zj; rfl; exact Oj; exact Oa; exact Ent.go) | (apply Zk; rfl; exact Oj; exact ⟨rfl, rfl⟩) | (apply Zl; rfl; exact Oj; exact ⟨rfl, rfl⟩; exact Ent.go) | (apply Zm; rfl; exact Oj; rfl) | (apply Zn; rfl; exact Oj; exact Ent.go; rfl)   | (apply Zo; rfl; exact Oj; exact On; all_goals (intro h; try (exfalso; omega))))
        refine (IH ⟨j + 1, hlt2⟩ (by show _ - (j + 1) < _ - j; omega)).conv ?_ ?_
        · (focus (repeat (first | exact Sub.nil _ | (apply Sub.cons; first | rfl | (rw [hcount']; rfl)))))
        · exact Ent.go
      · rw [if_neg h2] at hcount
        have hcount' : ((limboOf (life.take (j + 1)) : Nat) : Int) = (limboOf (life.take j) : Int) := by omega
        have h2' : ¬ ((life[j] : Nat) : Int) = 2 := by omega
        repeat' (first | (apply Ya; exact Oa) | (apply Yb; exact Ob) | (apply Yc; exact Oc; intro b) | (apply Ye; exact Oe; intro g cap rest hcap) | (apply Yd; exact Od; intro ad cap) | (apply Yf; exact Oj) | (apply Yg; exact Oj; exact ⟨rfl, rfl⟩) | (apply Yh; exact Oj; rfl) | (apply Yi; exact Oj; exact On; all_goals (intro h; try (exfalso; omega))) | apply StL.nil | apply St.region | apply St.seq | apply St.block | apply St.inBlock | apply St.skip | (apply St.exit; rfl) | (apply St.cond_t; rfl) | (apply St.cond_f; rfl) | (apply Ud; rfl; exact On; all_goals (intro h; try (exfalso; omega))) | (apply Za; rfl; exact Oa) | (apply Zb; rfl; exact Oa; exact Ent.go) | (apply Zc; rfl; exact Ob) | (apply Zd; rfl; exact Oc; intro b; refine ⟨Ent.go, ?_⟩) | (apply Ze; rfl; exact Oc; intro b) | (apply Zf; rfl; exact Oe; intro g cap rest hcap) | (apply Zg; rfl; exact Od; intro ad cap) | apply StD.nil | exact StD.nope | apply StD.pick | (apply StD.claim; rfl; intro b) | (apply Zi; rfl; exact Oj; exact Oa) | (apply Zj; rfl; exact Oj; exact Oa; exact Ent.go) | (apply Zk; rfl; exact Oj; exact ⟨rfl, rfl⟩) | (apply Zl; rfl; exact Oj; exact ⟨rfl, rfl⟩; exact Ent.go) | (apply Zm; rfl; exact Oj; rfl) | (apply Zn; rfl; exact Oj; exact Ent.go; rfl)   | (apply Zo; rfl; exact Oj; exact On; all_goals (intro h; try (exfalso; omega))))
        refine (IH ⟨j + 1, hlt2⟩ (by show _ - (j + 1) < _ - j; omega)).conv ?_ ?_
        · (focus (repeat (first | exact Sub.nil _ | (apply Sub.cons; first | rfl | (rw [hcount']; rfl)))))
        · exact Ent.go
    · have ej : j = nb := by omega
      subst ej
      have etake : life.take j = life := List.take_of_length_le (by omega)
      rw [etake] at *
      clear IH
      repeat' (first | (apply Ya; exact Oa) | (apply Yb; exact Ob) | (apply Yc; exact Oc; intro b) | (apply Ye; exact Oe; intro g cap rest hcap) | (apply Yd; exact Od; intro ad cap) | (apply Yf; exact Oj) | (apply Yg; exact Oj; exact ⟨rfl, rfl⟩) | (apply Yh; exact Oj; rfl) | (apply Yi; exact Oj; exact On; all_goals (intro h; try (exfalso; omega))) | apply StL.nil | apply St.region | apply St.seq | apply St.block | apply St.inBlock | apply St.skip | (apply St.exit; rfl) | (apply St.cond_t; rfl) | (apply St.cond_f; rfl) | (apply Ud; rfl; exact On; all_goals (intro h; try (exfalso; omega))) | (apply Za; rfl; exact Oa) | (apply Zb; rfl; exact Oa; exact Ent.go) | (apply Zc; rfl; exact Ob) | (apply Zd; rfl; exact Oc; intro b; refine ⟨Ent.go, ?_⟩) | (apply Ze; rfl; exact Oc; intro b) | (apply Zf; rfl; exact Oe; intro g cap rest hcap) | (apply Zg; rfl; exact Od; intro ad cap) | apply StD.nil | exact StD.nope | apply StD.pick | (apply StD.claim; rfl; intro b) | (apply Zi; rfl; exact Oj; exact Oa) | (apply Zj; rfl; exact Oj; exact Oa; exact Ent.go) | (apply Zk; rfl; exact Oj; exact ⟨rfl, rfl⟩) | (apply Zl; rfl; exact Oj; exact ⟨rfl, rfl⟩; exact Ent.go) | (apply Zm; rfl; exact Oj; rfl) | (apply Zn; rfl; exact Oj; exact Ent.go; rfl)   | (apply Zo; rfl; exact Oj; exact On; all_goals (intro h; try (exfalso; omega))))
      (first | refine St.dn Try.func62 ⟨?_, rfl⟩ Ent.go | refine St.fl Try.func62 ⟨?_, rfl⟩ Ent.go)
      rfl
end Go.Proofs.Ytmcadilggmlbfaa
