/-
  The law AuditHolds.
-/
import Derived.Test.YtmcadilggmlbfaaHde
import Derived.Test.YtmcadilggmlbfaaAlive
namespace Go.Proofs.Ytmcadilggmlbfaa
set_option maxRecDepth 100000
theorem and_le (a : Int) (m : Nat) (hm : m < 9223372036854775808) : 0 ≤ IntKind.i64.wrap ((BitVec.ofInt IntKind.i64.bits a &&& BitVec.ofInt IntKind.i64.bits m).toNat : Int) ∧ IntKind.i64.wrap ((BitVec.ofInt IntKind.i64.bits a &&& BitVec.ofInt IntKind.i64.bits m).toNat : Int) ≤ m := by
  have h1 : (BitVec.ofInt IntKind.i64.bits a &&& BitVec.ofInt IntKind.i64.bits m).toNat ≤ m := by
    rw [BitVec.toNat_and]
    refine Nat.le_trans Nat.and_le_right ?_
    rw [BitVec.toNat_ofInt]
    have : (2 : Nat) ^ IntKind.i64.bits = 18446744073709551616 := rfl
    rw [this]
    omega
  generalize (BitVec.ofInt IntKind.i64.bits a &&& BitVec.ofInt IntKind.i64.bits m).toNat = n at h1
  have : IntKind.i64.wrap (n : Int) = n := by simp [IntKind.wrap, IntKind.bits, IntKind.signed]; omega
  rw [this]
  omega
theorem MOp.v_len (o : MOp) : o.v.length = 6 := rfl
/-- a slice of steps that can be read -/
def OpsR (q : HProp) (v : Value) (sets : List MOp) : Prop :=
  ∃ ad cap, v = .slice ad sets.length cap ∧ sets.length ≤ cap ∧ (sets.length = 0 ∨ ∃ b o l rest, ad = some ⟨b, o, none⟩ ∧ RdC q b l ∧ DropN o l (sets.flatMap MOp.v ++ rest))
theorem OpsR.at {q : HProp} {ad : Option Addr} {sets : List MOp} (h : sets.length = 0 ∨ ∃ b o l rest, ad = some ⟨b, o, none⟩ ∧ RdC q b l ∧ DropN o l (sets.flatMap MOp.v ++ rest)) (i : Nat) (hi : i < sets.length) :
    ∃ b o l l1, ad = some ⟨b, o, none⟩ ∧ RdC q b l ∧ DropN (o + (i : Int).toNat * 6) l l1 ∧ TakeN 6 l1 sets[i].v := by
  rcases h with h | ⟨b, o, l, rest, h1, h2, h3⟩
  · omega
  · refine ⟨b, o, l, sets[i].v ++ (sets.drop (i + 1)).flatMap MOp.v ++ rest, h1, h2, h3.add ((DropN.flat MOp.v_len hi).more rest), ?_⟩
    rw [List.append_assoc]; exact TakeN.app sets[i].v _
set_option maxHeartbeats 2000000 in
theorem holds_t (c : Cfg) (q : HProp) (v : Value) (sets : List MOp) (hv : OpsR q v sets) :
    Tri Try.prog 5 #[.agg ⟨c.v⟩, v] [q] fun v L => v = .bool true ∧ L = [q] := by
  obtain ⟨ad, cap, rfl, hcap, hev⟩ := hv
  replace hev := OpsR.at hev
  have hal := alive_t
  have hof := of_r c
  have hri := rright_r c
  unfold Cfg.ofV at hof
  cases hr : c.right with
  | false =>
    rw [hr] at hof hri
    refine Tri.of_body (vs := [_, _]) Try.func5 rfl rfl fun w0 F => ?_
    repeat' (first | (apply Ya; exact Oa) | (apply Yb; exact Ob) | (apply Yc; exact Oc; intro b) | (apply Ye; exact Oe; intro g cap rest hcap) | (apply Yd; exact Od; intro ad cap) | (apply Yf; exact Oj) | (apply Yg; exact Oj; exact ⟨rfl, rfl⟩) | (apply Yh; exact Oj; rfl) | (apply Yi; exact Oj; exact On; all_goals (intro h; try (exfalso; omega))) | apply StL.nil | apply St.region | apply St.seq | apply St.block | apply St.inBlock | apply St.skip | (apply St.exit; rfl) | (apply St.cond_t; rfl) | (apply St.cond_f; rfl) | (apply Ud; rfl; exact On; all_goals (intro h; try (exfalso; omega))) | (apply Za; rfl; exact Oa) | (apply Zb; rfl; exact Oa; exact Ent.go) | (apply Zc; rfl; exact Ob) | (apply Zd; rfl; exact Oc; intro b; refine ⟨Ent.go, ?_⟩) | (apply Ze; rfl; exact Oc; intro b) | (apply Zf; rfl; exact Oe; intro g cap rest hcap) | (apply Zg; rfl; exact Od; intro ad cap) | apply StD.nil | exact StD.nope | apply StD.pick | (apply StD.claim; rfl; intro b) | (apply Zi; rfl; exact Oj; exact Oa) | (apply Zj; rfl; exact Oj; exact Oa; exact Ent.go) | (apply Zk; rfl; exact Oj; exact ⟨rfl, rfl⟩) | (apply Zl; rfl; exact Oj; exact ⟨rfl, rfl⟩; exact Ent.go) | (apply Zm; rfl; exact Oj; rfl) | (apply Zn; rfl; exact Oj; exact Ent.go; rfl)  | (apply Ka; exact Og; exact hof; exact Oh) | (apply Kb; rfl; exact Og; exact hof; exact Oi) | (apply Kc; rfl; exact Oj; exact Og; exact hof; exact Oi) | (apply Ka; exact Og; exact hri; exact Oh) | (apply Kb; rfl; exact Og; exact hri; exact Oi) | (apply Kc; rfl; exact Oj; exact Og; exact hri; exact Oi) | (apply Kd; exact Og; exact hal; exact Oh; rintro _ _ ⟨rfl, rfl⟩) | (apply Ke; rfl; exact Og; exact hal; exact Oh; rintro _ _ ⟨rfl, rfl⟩) | (apply Kf; rfl; exact Og; exact hal; exact Oh; rintro _ _ ⟨rfl, rfl⟩; refine ⟨Ent.go, ?_⟩) | (apply Zo; rfl; exact Oj; exact On; all_goals (intro h; try (exfalso; omega))))
    all_goals refine St.d1 Try.func5 ⟨_, ⟨rfl, rfl⟩, Ent.go⟩
  | true =>
  rw [hr] at hof
  by_cases hbig : sets.length > 60 ∨ 3 < c.threads ∨ 8 < c.blocks ∨ 20 < c.writes
  · refine Tri.of_body (vs := [_, _]) Try.func5 rfl rfl fun w0 F => ?_
    repeat' (first | (refine St.halt 5 ?_) |(apply Ya; exact Oa) | (apply Yb; exact Ob) | (apply Yc; exact Oc; intro b) | (apply Ye; exact Oe; intro g cap rest hcap) | (apply Yd; exact Od; intro ad cap) | (apply Yf; exact Oj) | (apply Yg; exact Oj; exact ⟨rfl, rfl⟩) | (apply Yh; exact Oj; rfl) | (apply Yi; exact Oj; exact On; all_goals (intro h; try (exfalso; omega))) | apply StL.nil | apply St.region | apply St.seq | apply St.block | apply St.inBlock | apply St.skip | (apply St.exit; rfl) | (apply St.cond_t; rfl) | (apply St.cond_f; rfl) | (apply Ud; rfl; exact On; all_goals (intro h; try (exfalso; omega))) | (apply Za; rfl; exact Oa) | (apply Zb; rfl; exact Oa; exact Ent.go) | (apply Zc; rfl; exact Ob) | (apply Zd; rfl; exact Oc; intro b; refine ⟨Ent.go, ?_⟩) | (apply Ze; rfl; exact Oc; intro b) | (apply Zf; rfl; exact Oe; intro g cap rest hcap) | (apply Zg; rfl; exact Od; intro ad cap) | apply StD.nil | exact StD.nope | apply StD.pick | (apply StD.claim; rfl; intro b) | (apply Zi; rfl; exact Oj; exact Oa) | (apply Zj; rfl; exact Oj; exact Oa; exact Ent.go) | (apply Zk; rfl; exact Oj; exact ⟨rfl, rfl⟩) | (apply Zl; rfl; exact Oj; exact ⟨rfl, rfl⟩; exact Ent.go) | (apply Zm; rfl; exact Oj; rfl) | (apply Zn; rfl; exact Oj; exact Ent.go; rfl)   | (apply Kd; exact Og; exact hal; exact Oh; rintro _ _ ⟨rfl, rfl⟩) | (apply Ke; rfl; exact Og; exact hal; exact Oh; rintro _ _ ⟨rfl, rfl⟩) | (apply Kf; rfl; exact Og; exact hal; exact Oh; rintro _ _ ⟨rfl, rfl⟩; refine ⟨Ent.go, ?_⟩) | (apply Zo; rfl; exact Oj; exact On; all_goals (intro h; try (exfalso; omega))))
    all_goals first | (refine St.d1 Try.func5 ⟨_, ⟨rfl, rfl⟩, Ent.go⟩) | (exfalso; omega)
  · have hc := Cfg.small hr
    have hb0 := hc.b0
    have hsz : (c.size : Int) = c.f17 := by
      have := hc.nums.f7; have := hc.t0; have := hc.limit
      obtain ⟨hf7, hf10, hf11, hf12, hf13, hf14, hf15, hf16, hf17, hstr⟩ := c.froms
      unfold Cfg.size; omega
    have hsz0 : 0 < c.size := by
      have := hc.nums.f7; have := hc.t0; have := hc.limit
      obtain ⟨hf7, hf10, hf11, hf12, hf13, hf14, hf15, hf16, hf17, hstr⟩ := c.froms
      omega
    have hboot := boot_t c hc
    have hrboot := rboot_t c hc
    refine Tri.of_body (vs := [_, _]) Try.func5 rfl rfl fun w0 F => ?_
    repeat' (first | (apply Ya; exact Oa) | (apply Yb; exact Ob) | (apply Yc; exact Oc; intro b) | (apply Ye; exact Oe; intro g cap rest hcap) | (apply Yd; exact Od; intro ad cap) | (apply Yf; exact Oj) | (apply Yg; exact Oj; exact ⟨rfl, rfl⟩) | (apply Yh; exact Oj; rfl) | (apply Yi; exact Oj; exact On; all_goals (intro h; try (exfalso; omega))) | apply StL.nil | apply St.region | apply St.seq | apply St.block | apply St.inBlock | apply St.skip | (apply St.exit; rfl) | (apply St.cond_t; rfl) | (apply St.cond_f; rfl) | (apply Ud; rfl; exact On; all_goals (intro h; try (exfalso; omega))) | (apply Za; rfl; exact Oa) | (apply Zb; rfl; exact Oa; exact Ent.go) | (apply Zc; rfl; exact Ob) | (apply Zd; rfl; exact Oc; intro b; refine ⟨Ent.go, ?_⟩) | (apply Ze; rfl; exact Oc; intro b) | (apply Zf; rfl; exact Oe; intro g cap rest hcap) | (apply Zg; rfl; exact Od; intro ad cap) | apply StD.nil | exact StD.nope | apply StD.pick | (apply StD.claim; rfl; intro b) | (apply Zi; rfl; exact Oj; exact Oa) | (apply Zj; rfl; exact Oj; exact Oa; exact Ent.go) | (apply Zk; rfl; exact Oj; exact ⟨rfl, rfl⟩) | (apply Zl; rfl; exact Oj; exact ⟨rfl, rfl⟩; exact Ent.go) | (apply Zm; rfl; exact Oj; rfl) | (apply Zn; rfl; exact Oj; exact Ent.go; rfl)  | (apply Ka; exact Og; exact hof; exact Oh) | (apply Kb; rfl; exact Og; exact hof; exact Oi) | (apply Kc; rfl; exact Oj; exact Og; exact hof; exact Oi) | (apply Kd; exact Og; exact hal; exact Oh; rintro _ _ ⟨rfl, rfl⟩) | (apply Ke; rfl; exact Og; exact hal; exact Oh; rintro _ _ ⟨rfl, rfl⟩) | (apply Kf; rfl; exact Og; exact hal; exact Oh; rintro _ _ ⟨rfl, rfl⟩; refine ⟨Ent.go, ?_⟩) | (apply Kd; exact Og; exact hboot; exact Oh; rintro _ _ ⟨M, C, rfl, rfl⟩) | (apply Ke; rfl; exact Og; exact hboot; exact Oh; rintro _ _ ⟨M, C, rfl, rfl⟩) | (apply Kf; rfl; exact Og; exact hboot; exact Oh; rintro _ _ ⟨M, C, rfl, rfl⟩; refine ⟨Ent.go, ?_⟩) | (apply Kd; exact Og; exact hrboot; exact Oh; rintro _ _ ⟨C2, rfl, rfl⟩) | (apply Ke; rfl; exact Og; exact hrboot; exact Oh; rintro _ _ ⟨C2, rfl, rfl⟩) | (apply Kf; rfl; exact Og; exact hrboot; exact Oh; rintro _ _ ⟨C2, rfl, rfl⟩; refine ⟨Ent.go, ?_⟩) | (apply Zo; rfl; exact Oj; exact On; all_goals (intro h; try (exfalso; omega))))
    refine St.loopY (Lr := ?Lr1) (ι := { x : Nat × List Cell // x.1 ≤ sets.length ∧ x.2.length = c.size }) (fun x => sets.length - x.1.1) (fun x => [(55, .int .i64 (x.1.1 : Int))]) (fun x => [bl C2 37 (x.1.2.flatMap Cell.v), bl C 37 (x.1.2.flatMap Cell.v)]) ⟨(0, c.boot), Nat.zero_le _, c.bootN_len _⟩ ?hE ?hL ?round
    case hE => exact Sub.go
    case hL => exact Takes.go
    case round =>
      rintro ⟨⟨k, cs⟩, hk, hn⟩ IH; dsimp only at hk hn ⊢
      by_cases hlt : k < sets.length
      · obtain ⟨eb, eo, el, el1, rfl, hrd, hdr, htk⟩ := hev k hlt
        generalize sets[k] = o at htk
        have hm := and_le o.at_ 65535 (by decide)
        repeat' (first | (refine St.halt 13 ?_) |(apply Ya; exact Oa) | (apply Yb; exact Ob) | (apply Yc; exact Oc; intro b) | (apply Ye; exact Oe; intro g cap rest hcap) | (apply Yd; exact Od; intro ad cap) | (apply Yf; exact Oj) | (apply Yg; exact Oj; exact ⟨rfl, rfl⟩) | (apply Yh; exact Oj; rfl) | (apply Yi; exact Oj; exact On; all_goals (intro h; try (exfalso; omega))) | apply StL.nil | apply St.region | apply St.seq | apply St.block | apply St.inBlock | apply St.skip | (apply St.exit; rfl) | (apply St.cond_t; rfl) | (apply St.cond_f; rfl) | (apply Ud; rfl; exact On; all_goals (intro h; try (exfalso; omega))) | (apply Za; rfl; exact Oa) | (apply Zb; rfl; exact Oa; exact Ent.go) | (apply Zc; rfl; exact Ob) | (apply Zd; rfl; exact Oc; intro b; refine ⟨Ent.go, ?_⟩) | (apply Ze; rfl; exact Oc; intro b) | (apply Zf; rfl; exact Oe; intro g cap rest hcap) | (apply Zg; rfl; exact Od; intro ad cap) | apply StD.nil | exact StD.nope | apply StD.pick | (apply StD.claim; rfl; intro b) | (apply Zi; rfl; exact Oj; exact Oa) | (apply Zj; rfl; exact Oj; exact Oa; exact Ent.go) | (apply Zk; rfl; exact Oj; exact ⟨rfl, rfl⟩) | (apply Zl; rfl; exact Oj; exact ⟨rfl, rfl⟩; exact Ent.go) | (apply Zm; rfl; exact Oj; rfl) | (apply Zn; rfl; exact Oj; exact Ent.go; rfl)   | (apply Zo; rfl; exact Oj; exact On; all_goals (intro h; try (exfalso; omega))))
        apply Halt.go
        iterate 5 (first | (apply Ya; exact Oa) | (apply Yb; exact Ob) | (apply Yc; exact Oc; intro b) | (apply Ye; exact Oe; intro g cap rest hcap) | (apply Yd; exact Od; intro ad cap) | (apply Yf; exact Oj) | (apply Yg; exact Oj; exact ⟨rfl, rfl⟩) | (apply Yh; exact Oj; rfl) | (apply Yi; exact Oj; exact On; all_goals (intro h; try (exfalso; omega))) | apply StL.nil | apply St.region | apply St.seq | apply St.block | apply St.inBlock | apply St.skip | (apply St.exit; rfl) | (apply St.cond_t; rfl) | (apply St.cond_f; rfl) | (apply Ud; rfl; exact On; all_goals (intro h; try (exfalso; omega))) | (apply Za; rfl; exact Oa) | (apply Zb; rfl; exact Oa; exact Ent.go) | (apply Zc; rfl; exact Ob) | (apply Zd; rfl; exact Oc; intro b; refine ⟨Ent.go, ?_⟩) | (apply Ze; rfl; exact Oc; intro b) | (apply Zf; rfl; exact Oe; intro g cap rest hcap) | (apply Zg; rfl; exact Od; intro ad cap) | apply StD.nil | exact StD.nope | apply StD.pick | (apply StD.claim; rfl; intro b) | (apply Zi; rfl; exact Oj; exact Oa) | (apply Zj; rfl; exact Oj; exact Oa; exact Ent.go) | (apply Zk; rfl; exact Oj; exact ⟨rfl, rfl⟩) | (apply Zl; rfl; exact Oj; exact ⟨rfl, rfl⟩; exact Ent.go) | (apply Zm; rfl; exact Oj; rfl) | (apply Zn; rfl; exact Oj; exact Ent.go; rfl)   | (apply Zo; rfl; exact Oj; exact On; all_goals (intro h; try (exfalso; omega))))
        generalize IntKind.i64.wrap ((BitVec.ofInt IntKind.i64.bits o.at_ &&& BitVec.ofInt IntKind.i64.bits 65535).toNat : Int) = mk at hm ⊢
        have hm0 : 0 ≤ mk % (c.size : Int) := Int.emod_nonneg _ (by omega)
        have hm1 : mk % (c.size : Int) < c.size := Int.emod_lt_of_pos _ (by omega)
        repeat' (first | (refine St.halt 14 ?_) |(apply Ya; exact Oa) | (apply Yb; exact Ob) | (apply Yc; exact Oc; intro b) | (apply Ye; exact Oe; intro g cap rest hcap) | (apply Yd; exact Od; intro ad cap) | (apply Yf; exact Oj) | (apply Yg; exact Oj; exact ⟨rfl, rfl⟩) | (apply Yh; exact Oj; rfl) | (apply Yi; exact Oj; exact On; all_goals (intro h; try (exfalso; omega))) | apply StL.nil | apply St.region | apply St.seq | apply St.block | apply St.inBlock | apply St.skip | (apply St.exit; rfl) | (apply St.cond_t; rfl) | (apply St.cond_f; rfl) | (apply Ud; rfl; exact On; all_goals (intro h; try (exfalso; omega))) | (apply Za; rfl; exact Oa) | (apply Zb; rfl; exact Oa; exact Ent.go) | (apply Zc; rfl; exact Ob) | (apply Zd; rfl; exact Oc; intro b; refine ⟨Ent.go, ?_⟩) | (apply Ze; rfl; exact Oc; intro b) | (apply Zf; rfl; exact Oe; intro g cap rest hcap) | (apply Zg; rfl; exact Od; intro ad cap) | apply StD.nil | exact StD.nope | apply StD.pick | (apply StD.claim; rfl; intro b) | (apply Zi; rfl; exact Oj; exact Oa) | (apply Zj; rfl; exact Oj; exact Oa; exact Ent.go) | (apply Zk; rfl; exact Oj; exact ⟨rfl, rfl⟩) | (apply Zl; rfl; exact Oj; exact ⟨rfl, rfl⟩; exact Ent.go) | (apply Zm; rfl; exact Oj; rfl) | (apply Zn; rfl; exact Oj; exact Ent.go; rfl)   | (apply Zo; rfl; exact Oj; exact On; all_goals (intro h; try (exfalso; omega))))
        apply Halt.go
        generalize mk % (c.size : Int) = p at hm0 hm1 ⊢
        have hst := set_t M C c.size cs hn zeros8 (.slice none 0 0) p o.new
        have hsp : SplN o.new.v (p.toNat * 2) (cs.flatMap Cell.v) ((setOf cs p o.new).flatMap Cell.v) := by
          rw [show setOf cs p o.new = cs.set p.toNat o.new from if_pos hm0]
          exact SplN.flat Cell.v_len (by omega) o.new
        repeat' (first | (apply Ya; exact Oa) | (apply Yb; exact Ob) | (apply Yc; exact Oc; intro b) | (apply Ye; exact Oe; intro g cap rest hcap) | (apply Yd; exact Od; intro ad cap) | (apply Yf; exact Oj) | (apply Yg; exact Oj; exact ⟨rfl, rfl⟩) | (apply Yh; exact Oj; rfl) | (apply Yi; exact Oj; exact On; all_goals (intro h; try (exfalso; omega))) | apply StL.nil | apply St.region | apply St.seq | apply St.block | apply St.inBlock | apply St.skip | (apply St.exit; rfl) | (apply St.cond_t; rfl) | (apply St.cond_f; rfl) | (apply Ud; rfl; exact On; all_goals (intro h; try (exfalso; omega))) | (apply Za; rfl; exact Oa) | (apply Zb; rfl; exact Oa; exact Ent.go) | (apply Zc; rfl; exact Ob) | (apply Zd; rfl; exact Oc; intro b; refine ⟨Ent.go, ?_⟩) | (apply Ze; rfl; exact Oc; intro b) | (apply Zf; rfl; exact Oe; intro g cap rest hcap) | (apply Zg; rfl; exact Od; intro ad cap) | apply StD.nil | exact StD.nope | apply StD.pick | (apply StD.claim; rfl; intro b) | (apply Zi; rfl; exact Oj; exact Oa) | (apply Zj; rfl; exact Oj; exact Oa; exact Ent.go) | (apply Zk; rfl; exact Oj; exact ⟨rfl, rfl⟩) | (apply Zl; rfl; exact Oj; exact ⟨rfl, rfl⟩; exact Ent.go) | (apply Zm; rfl; exact Oj; rfl) | (apply Zn; rfl; exact Oj; exact Ent.go; rfl)   | (apply Kd; exact Og; exact hst; exact Oh; rintro _ _ ⟨rfl, rfl⟩) | (apply Ke; rfl; exact Og; exact hst; exact Oh; rintro _ _ ⟨rfl, rfl⟩) | (apply Kf; rfl; exact Og; exact hst; exact Oh; rintro _ _ ⟨rfl, rfl⟩; refine ⟨Ent.go, ?_⟩) | (apply Zo; rfl; exact Oj; exact On; all_goals (intro h; try (exfalso; omega))))
        refine IH ⟨(k + 1, setOf cs p o.new), hlt, by rw [setOf_len]; exact hn⟩ (by show sets.length - (k + 1) < sets.length - k; omega) ?_ ?_
        · exact Sub.go
        · exact Ent.go
      · obtain rfl : k = sets.length := by omega
        clear IH
        have eR := rootsBy_congr hc (g := gOf (held c cs)) (g' := valOf cs (logOf c cs)) (fun q h7 h17 => held_val hc hn h7 h17)
        have eB := boxesBy_congr hc (g := gOf (held c cs)) (g' := valOf cs (logOf c cs)) (fun q h7 h17 => held_val hc hn h7 h17) (n := c.blocks.toNat) (by omega)
        have hh := hold_t c hr M C cs hn
        rw [eR, eB] at hh
        have hnil := hold_nil c
        have hrh := rhold_t c hr C2 c.size cs [] hn (Nat.le_refl _) _ rfl
        unfold rholdQ at hrh
        simp only [List.append_nil] at hrh
        have hsame := fun S mb m hm bad bcap => same_t c (valOf cs (logOf c cs)) c.blocks.toNat (by omega) S mb m hm bad bcap
        generalize valOf cs (logOf c cs) = g at *
        have hand : AndIs .i64 c.blocks 7 ((c.blocks.toNat % 8 : Nat) : Int) := AndIs.mask (p := 3) (.inl rfl) (by omega) (by decide) (by omega)
        generalize hb7 : c.blocks.toNat % 8 = b7 at hand
        have hor : (Cfg.mk c.threads ((b7 : Int) + 1) c.writes c.fuel c.first c.last).right = true := by
          have h := of_decide_eq_true hr
          exact decide_eq_true ⟨h.1, h.2.1, by show 1 ≤ (b7 : Int) + 1; omega, by show (b7 : Int) + 1 ≤ 64; omega, h.2.2.2.2⟩
        have hne : (c.size : Int) ≠ (Cfg.mk c.threads ((b7 : Int) + 1) c.writes c.fuel c.first c.last).f17 := by
          obtain ⟨hf7, hf10, hf11, hf12, hf13, hf14, hf15, hf16, hf17, hstr⟩ := c.froms
          obtain ⟨gf7, gf10, gf11, gf12, gf13, gf14, gf15, gf16, gf17, gstr⟩ := (Cfg.mk c.threads ((b7 : Int) + 1) c.writes c.fuel c.first c.last).froms
          have e7 : (Cfg.mk c.threads ((b7 : Int) + 1) c.writes c.fuel c.first c.last).f7 = c.f7 := rfl
          have el : (Cfg.mk c.threads ((b7 : Int) + 1) c.writes c.fuel c.first c.last).limit = c.limit := rfl
          have et : (Cfg.mk c.threads ((b7 : Int) + 1) c.writes c.fuel c.first c.last).threads = c.threads := rfl
          have eb : (Cfg.mk c.threads ((b7 : Int) + 1) c.writes c.fuel c.first c.last).blocks = (b7 : Int) + 1 := rfl
          rw [hsz]
          omega
        have hbad := hold_bad _ hor M C c.size zeros8 (.slice none 0 0) hne
        unfold Cfg.v at hbad
        dsimp only at hbad
        have hbn : ¬ (b7 : Int) + 1 = c.blocks := by omega
        repeat' (first | (apply Ya; exact Oa) | (apply Yb; exact Ob) | (apply Yc; exact Oc; intro b) | (apply Ye; exact Oe; intro g cap rest hcap) | (apply Yd; exact Od; intro ad cap) | (apply Yf; exact Oj) | (apply Yg; exact Oj; exact ⟨rfl, rfl⟩) | (apply Yh; exact Oj; rfl) | (apply Yi; exact Oj; exact On; all_goals (intro h; try (exfalso; omega))) | apply StL.nil | apply St.region | apply St.seq | apply St.block | apply St.inBlock | apply St.skip | (apply St.exit; rfl) | (apply St.cond_t; rfl) | (apply St.cond_f; rfl) | (apply Ud; rfl; exact On; all_goals (intro h; try (exfalso; omega))) | (apply Za; rfl; exact Oa) | (apply Zb; rfl; exact Oa; exact Ent.go) | (apply Zc; rfl; exact Ob) | (apply Zd; rfl; exact Oc; intro b; refine ⟨Ent.go, ?_⟩) | (apply Ze; rfl; exact Oc; intro b) | (apply Zf; rfl; exact Oe; intro g cap rest hcap) | (apply Zg; rfl; exact Od; intro ad cap) | apply StD.nil | exact StD.nope | apply StD.pick | (apply StD.claim; rfl; intro b) | (apply Zi; rfl; exact Oj; exact Oa) | (apply Zj; rfl; exact Oj; exact Oa; exact Ent.go) | (apply Zk; rfl; exact Oj; exact ⟨rfl, rfl⟩) | (apply Zl; rfl; exact Oj; exact ⟨rfl, rfl⟩; exact Ent.go) | (apply Zm; rfl; exact Oj; rfl) | (apply Zn; rfl; exact Oj; exact Ent.go; rfl)   | (apply Kd; exact Og; exact hh; exact Oh; rintro _ _ ⟨S, mb, m, rfl, hm, rfl⟩) | (apply Ke; rfl; exact Og; exact hh; exact Oh; rintro _ _ ⟨S, mb, m, rfl, hm, rfl⟩) | (apply Kf; rfl; exact Og; exact hh; exact Oh; rintro _ _ ⟨S, mb, m, rfl, hm, rfl⟩; refine ⟨Ent.go, ?_⟩) | (apply Kd; exact Og; exact hnil; exact Oh; rintro _ _ ⟨rfl, rfl⟩) | (apply Ke; rfl; exact Og; exact hnil; exact Oh; rintro _ _ ⟨rfl, rfl⟩) | (apply Kf; rfl; exact Og; exact hnil; exact Oh; rintro _ _ ⟨rfl, rfl⟩; refine ⟨Ent.go, ?_⟩) | (apply Kd; exact Og; exact hbad; exact Oh; rintro _ _ ⟨rfl, rfl⟩) | (apply Ke; rfl; exact Og; exact hbad; exact Oh; rintro _ _ ⟨rfl, rfl⟩) | (apply Kf; rfl; exact Og; exact hbad; exact Oh; rintro _ _ ⟨rfl, rfl⟩; refine ⟨Ent.go, ?_⟩) | (apply Kd; exact Og; exact hrh; exact Oh; rintro _ _ ⟨bad, bcap, rfl, rfl⟩) | (apply Ke; rfl; exact Og; exact hrh; exact Oh; rintro _ _ ⟨bad, bcap, rfl, rfl⟩) | (apply Kf; rfl; exact Og; exact hrh; exact Oh; rintro _ _ ⟨bad, bcap, rfl, rfl⟩; refine ⟨Ent.go, ?_⟩) | (apply Kd; exact Og; exact hsame S mb m hm bad bcap; exact Oh; rintro _ _ ⟨rfl, rfl⟩) | (apply Ke; rfl; exact Og; exact hsame S mb m hm bad bcap; exact Oh; rintro _ _ ⟨rfl, rfl⟩) | (apply Kf; rfl; exact Og; exact hsame S mb m hm bad bcap; exact Oh; rintro _ _ ⟨rfl, rfl⟩; refine ⟨Ent.go, ?_⟩) | (apply Zo; rfl; exact Oj; exact On; all_goals (intro h; try (exfalso; omega))))
        refine St.d1 Try.func5 ⟨_, ⟨?_, rfl⟩, Ent.go⟩
        simp [resV, hbn]
end Go.Proofs.Ytmcadilggmlbfaa
