/-
  Package tumblerref18: val, Hold.
-/
import Derived.Test.YtmcadilggmlbfaaHdc
namespace Go.Proofs.Ytmcadilggmlbfaa
set_option maxRecDepth 100000
theorem sat_row {ad : Option Addr} {n cap e sz : Nat} {xs : List Value} {L L1 : List HProp} {h : Hp} (hs : Sat L h) (t : Take (Row (.slice ad n cap) e sz n xs) L L1) : n = 0 ∨ ∃ g rest, ad = some ⟨g, 0, none⟩ ∧ n ≤ cap ∧ h g = some (.cells ⟨xs ++ rest⟩ e (0, 0)) := by
  have h1 := t.sat hs
  obtain ⟨h1, h2, hd, hu, hR, _⟩ := sat_cons.1 h1
  unfold Row at hR
  obtain ⟨_, ⟨_, h0⟩ | ⟨g, cap', cur, hv, hc, _, _, htk, hp⟩⟩ := hR
  · exact .inl h0
  · injection hv with e1 e2 e3
    subst e1 e3
    refine .inr ⟨g, cur.toList.drop (n * sz), rfl, hc, ?_⟩
    rw [hu g, hp g, if_pos rfl, ← htk, List.take_append_drop]; rfl
theorem valOf_nil (cs : List Cell) (p : Int) : valOf cs [] p = (peekOf cs p).val := rfl
theorem valOf_snoc (cs l : List Cell) (e : Cell) (p : Int) : valOf cs (l ++ [e]) p = if (e.seq : Int) = p then e.val else valOf cs l p := by
  unfold valOf
  rw [List.reverse_append, List.reverse_singleton, List.singleton_append, List.find?_cons]
  by_cases h : (e.seq : Int) = p
  · rw [if_pos h, h]; simp
  · rw [if_neg h, show (((e.seq : Int) == p)) = false by simpa using h]
theorem Cell.at_nth {cs : List Cell} {j : Nat} (hj : j < cs.length) (rest : List Value) : NthN (j * 2 + 0) (cs.flatMap Cell.v ++ rest) (.int .u64 (cs[j].val : Int)) ∧ NthN (j * 2 + 1) (cs.flatMap Cell.v ++ rest) (.int .u64 (cs[j].seq : Int)) :=
  ⟨(NthN.flat Cell.v_len hj .zero).app_left rest, (NthN.flat Cell.v_len hj (.succ .zero)).app_left rest⟩
theorem val_r (C n cc : Nat) (cs : List Cell) (rest : List Value) (hn : cs.length = n) (hcc : n ≤ cc) (log : List Cell) (ad : Option Addr) (m cap : Nat) (hm : log.length = m) (hm1 : m ≤ 1000000) (p : Int) (h0 : 0 ≤ p) (h1 : p < n) (hn1 : n ≤ 1000000) :
    RTri Try.prog 38 #[.slice (some ⟨C, 0, none⟩) n cc, .slice ad m cap, .int .i64 p] [bl C 37 (cs.flatMap Cell.v ++ rest), Row (.slice ad m cap) 37 2 m (log.flatMap Cell.v)] (.int .u64 (valOf cs log p : Int)) := by
  refine RTri.of_exact fun W hs => ?_
  have hC : RdC (exact' W) C (cs.flatMap Cell.v ++ rest) := RdC.exact hs (ReadsC.here RdC.bl)
  have hrow := sat_row hs (.there .here)
  have hp := peek_nth (cs := cs) h0 (by omega) rest
  refine Tri.of_body (vs := [_, _, _]) Try.func38 rfl rfl fun w0 F => ?_
  repeat' (first | (apply Ya; exact Oa) | (apply Yb; exact Ob) | (apply Yc; exact Oc; intro b) | (apply Ye; exact Oe; intro g cap rest hcap) | (apply Yd; exact Od; intro ad cap) | (apply Yf; exact Oj) | (apply Yg; exact Oj; exact ⟨rfl, rfl⟩) | (apply Yh; exact Oj; rfl) | (apply Yi; exact Oj; exact On; all_goals (intro h; try (exfalso; omega))) | apply StL.nil | apply St.region | apply St.seq | apply St.block | apply St.inBlock | apply St.skip | (apply St.exit; rfl) | (apply St.cond_t; rfl) | (apply St.cond_f; rfl) | (apply Ud; rfl; exact On; all_goals (intro h; try (exfalso; omega))) | (apply Za; rfl; exact Oa) | (apply Zb; rfl; exact Oa; exact Ent.go) | (apply Zc; rfl; exact Ob) | (apply Zd; rfl; exact Oc; intro b; refine ⟨Ent.go, ?_⟩) | (apply Ze; rfl; exact Oc; intro b) | (apply Zf; rfl; exact Oe; intro g cap rest hcap) | (apply Zg; rfl; exact Od; intro ad cap) | apply StD.nil | exact StD.nope | apply StD.pick | (apply StD.claim; rfl; intro b) | (apply Zi; rfl; exact Oj; exact Oa) | (apply Zj; rfl; exact Oj; exact Oa; exact Ent.go) | (apply Zk; rfl; exact Oj; exact ⟨rfl, rfl⟩) | (apply Zl; rfl; exact Oj; exact ⟨rfl, rfl⟩; exact Ent.go) | (apply Zm; rfl; exact Oj; rfl) | (apply Zn; rfl; exact Oj; exact Ent.go; rfl)   | (apply Zo; rfl; exact Oj; exact On; all_goals (intro h; try (exfalso; omega))))
  refine St.loopY (Lr := ?Lr) (ι := { j : Nat // j ≤ m ∧ valOf cs log p = valOf cs (log.take j) p }) (fun x => x.1) (fun x => [(7, .int .i64 ((x.1 : Int) - 1))]) (fun _ => []) ⟨m, Nat.le_refl _, by rw [← hm, List.take_length]⟩ ?hE ?hL ?round
  case hE => exact Sub.go
  case hL => exact Takes.go
  case round =>
    rintro ⟨j, hj, hval⟩ IH; dsimp only at hj hval ⊢
    by_cases hj0 : j = 0
    · subst hj0
      clear IH
      repeat' (first | (apply Ya; exact Oa) | (apply Yb; exact Ob) | (apply Yc; exact Oc; intro b) | (apply Ye; exact Oe; intro g cap rest hcap) | (apply Yd; exact Od; intro ad cap) | (apply Yf; exact Oj) | (apply Yg; exact Oj; exact ⟨rfl, rfl⟩) | (apply Yh; exact Oj; rfl) | (apply Yi; exact Oj; exact On; all_goals (intro h; try (exfalso; omega))) | apply StL.nil | apply St.region | apply St.seq | apply St.block | apply St.inBlock | apply St.skip | (apply St.exit; rfl) | (apply St.cond_t; rfl) | (apply St.cond_f; rfl) | (apply Ud; rfl; exact On; all_goals (intro h; try (exfalso; omega))) | (apply Za; rfl; exact Oa) | (apply Zb; rfl; exact Oa; exact Ent.go) | (apply Zc; rfl; exact Ob) | (apply Zd; rfl; exact Oc; intro b; refine ⟨Ent.go, ?_⟩) | (apply Ze; rfl; exact Oc; intro b) | (apply Zf; rfl; exact Oe; intro g cap rest hcap) | (apply Zg; rfl; exact Od; intro ad cap) | apply StD.nil | exact StD.nope | apply StD.pick | (apply StD.claim; rfl; intro b) | (apply Zi; rfl; exact Oj; exact Oa) | (apply Zj; rfl; exact Oj; exact Oa; exact Ent.go) | (apply Zk; rfl; exact Oj; exact ⟨rfl, rfl⟩) | (apply Zl; rfl; exact Oj; exact ⟨rfl, rfl⟩; exact Ent.go) | (apply Zm; rfl; exact Oj; rfl) | (apply Zn; rfl; exact Oj; exact Ent.go; rfl)   | (apply Zo; rfl; exact Oj; exact On; all_goals (intro h; try (exfalso; omega))))
      (first | refine St.dn Try.func38 ⟨?_, rfl⟩ Ent.go | refine St.fl Try.func38 ⟨?_, rfl⟩ Ent.go)
      rw [hval]; rfl
    · obtain ⟨g, lrest, rfl, hcap, hg⟩ := hrow.resolve_left (by omega)
      have hG : RdC (exact' W) g (log.flatMap Cell.v ++ lrest) := ⟨_, _, fun h e => by rw [show h = hpOf W from e]; exact hg⟩
      have hlt : j - 1 < log.length := by omega
      have hnth := Cell.at_nth hlt lrest
      have hsn : valOf cs log p = if (log[j - 1].seq : Int) = p then log[j - 1].val else valOf cs (log.take (j - 1)) p := by
        rw [hval, ← valOf_snoc]
        congr 1
        rw [← List.take_succ_eq_append_getElem hlt, show j - 1 + 1 = j by omega]
      have ej : ((j : Int) - 1).toNat = j - 1 := by omega
      have hn1 : NthN (((j : Int) - 1).toNat * 2 + 1) (log.flatMap Cell.v ++ lrest) (.int .u64 (log[j - 1].seq : Int)) := by rw [ej]; exact hnth.2
      have hn0 : NthN (((j : Int) - 1).toNat * 2 + 0) (log.flatMap Cell.v ++ lrest) (.int .u64 (log[j - 1].val : Int)) := by rw [ej]; exact hnth.1
      generalize log[j - 1] = e at hsn hn1 hn0
      by_cases he : (e.seq : Int) = p
      · rw [if_pos he] at hsn
        clear IH
        repeat' (first | (apply Ya; exact Oa) | (apply Yb; exact Ob) | (apply Yc; exact Oc; intro b) | (apply Ye; exact Oe; intro g cap rest hcap) | (apply Yd; exact Od; intro ad cap) | (apply Yf; exact Oj) | (apply Yg; exact Oj; exact ⟨rfl, rfl⟩) | (apply Yh; exact Oj; rfl) | (apply Yi; exact Oj; exact On; all_goals (intro h; try (exfalso; omega))) | apply StL.nil | apply St.region | apply St.seq | apply St.block | apply St.inBlock | apply St.skip | (apply St.exit; rfl) | (apply St.cond_t; rfl) | (apply St.cond_f; rfl) | (apply Ud; rfl; exact On; all_goals (intro h; try (exfalso; omega))) | (apply Za; rfl; exact Oa) | (apply Zb; rfl; exact Oa; exact Ent.go) | (apply Zc; rfl; exact Ob) | (apply Zd; rfl; exact Oc; intro b; refine ⟨Ent.go, ?_⟩) | (apply Ze; rfl; exact Oc; intro b) | (apply Zf; rfl; exact Oe; intro g cap rest hcap) | (apply Zg; rfl; exact Od; intro ad cap) | apply StD.nil | exact StD.nope | apply StD.pick | (apply StD.claim; rfl; intro b) | (apply Zi; rfl; exact Oj; exact Oa) | (apply Zj; rfl; exact Oj; exact Oa; exact Ent.go) | (apply Zk; rfl; exact Oj; exact ⟨rfl, rfl⟩) | (apply Zl; rfl; exact Oj; exact ⟨rfl, rfl⟩; exact Ent.go) | (apply Zm; rfl; exact Oj; rfl) | (apply Zn; rfl; exact Oj; exact Ent.go; rfl)   | (apply Zo; rfl; exact Oj; exact On; all_goals (intro h; try (exfalso; omega))))
        (first | refine St.dn Try.func38 ⟨?_, rfl⟩ Ent.go | refine St.fl Try.func38 ⟨?_, rfl⟩ Ent.go)
        rw [hsn]; rfl
      · rw [if_neg he] at hsn
        repeat' (first | (apply Ya; exact Oa) | (apply Yb; exact Ob) | (apply Yc; exact Oc; intro b) | (apply Ye; exact Oe; intro g cap rest hcap) | (apply Yd; exact Od; intro ad cap) | (apply Yf; exact Oj) | (apply Yg; exact Oj; exact ⟨rfl, rfl⟩) | (apply Yh; exact Oj; rfl) | (apply Yi; exact Oj; exact On; all_goals (intro h; try (exfalso; omega))) | apply StL.nil | apply St.region | apply St.seq | apply St.block | apply St.inBlock | apply St.skip | (apply St.exit; rfl) | (apply St.cond_t; rfl) | (apply St.cond_f; rfl) | (apply Ud; rfl; exact On; all_goals (intro h; try (exfalso; omega))) | (apply Za; rfl; exact Oa) | (apply Zb; rfl; exact Oa; exact Ent.go) | (apply Zc; rfl; exact Ob) | (apply Zd; rfl; exact Oc; intro b; refine ⟨Ent.go, ?_⟩) | (apply Ze; rfl; exact Oc; intro b) | (apply Zf; rfl; exact Oe; intro g cap rest hcap) | (apply Zg; rfl; exact Od; intro ad cap) | apply StD.nil | exact StD.nope | apply StD.pick | (apply StD.claim; rfl; intro b) | (apply Zi; rfl; exact Oj; exact Oa) | (apply Zj; rfl; exact Oj; exact Oa; exact Ent.go) | (apply Zk; rfl; exact Oj; exact ⟨rfl, rfl⟩) | (apply Zl; rfl; exact Oj; exact ⟨rfl, rfl⟩; exact Ent.go) | (apply Zm; rfl; exact Oj; rfl) | (apply Zn; rfl; exact Oj; exact Ent.go; rfl)   | (apply Zo; rfl; exact Oj; exact On; all_goals (intro h; try (exfalso; omega))))
        refine IH ⟨j - 1, by omega, hsn⟩ (by show j - 1 < j; omega) ?_ ?_
        · dsimp only; rw [show ((j - 1 : Nat) : Int) = (j : Int) - 1 by omega]; exact Sub.go
        · exact Ent.go
def boxV (p : Int × List Nat) : List Value := .int .u64 p.1 :: p.2.map nat64
/-- what Hold returns -/
def stateV (roots : List Nat) (v : Value) : Value := .agg ⟨roots.map nat64 ++ [v]⟩
theorem cell_one (cs : List Cell) : (cs.flatMap Cell.v).all one = true := by
  induction cs with
  | nil => rfl
  | cons x l ih => rw [List.flatMap_cons, List.all_append, ih]; rfl
theorem OverN.all {α : Type} : ∀ (vs l : List α), l.length = vs.length → OverN vs l vs
  | [], [], _ => .nil
  | _ :: vs, _ :: l, h => .cons (OverN.all vs l (by simpa using h))
theorem Cfg.at_size {c : Cfg} (hc : Small c) : (∀ k : Int, 0 ≤ k → k < 16 → 0 ≤ c.at 10 k 0 ∧ c.at 10 k 0 < c.size) ∧ (∀ b : Int, 0 ≤ b → b < c.blocks → 0 ≤ c.at 11 b 0 ∧ c.at 11 b 0 < c.size ∧ ∀ k : Int, 0 ≤ k → k < 8 → 0 ≤ c.at 16 b k ∧ c.at 16 b k < c.size) := by
  have hn7 := hc.nums.f7; have hn17 := hc.nums.f17
  have := hc.b0; have := hc.b1; have := hc.t0; have := hc.t1; have := hc.limit
  obtain ⟨hf7, hf10, hf11, hf12, hf13, hf14, hf15, hf16, hf17, hstr⟩ := c.froms
  have hszn : (c.size : Int) = c.f17 := by unfold Cfg.size; omega
  refine ⟨fun k h0 h1 => ?_, fun b h0 h1 => ⟨?_, ?_, fun k h2 h3 => ?_⟩⟩
  · rw [Cfg.at10 h0 h1]; omega
  · rw [Cfg.at11 h0 h1]; omega
  · rw [Cfg.at11 h0 h1]; omega
  · rw [Cfg.at16 h0 h1 h2 h3]; omega
set_option maxHeartbeats 2000000 in
theorem rhold_tail (c : Cfg) (hc : Small c) (C cc : Nat) (cs : List Cell) (rest : List Value) (hn : cs.length = c.size) (hcc : c.size ≤ cc) (log : List Cell) (m : Nat) (hm : log.length = m) (hm1 : m ≤ 1000000) (lad : Option Addr) (lcap bc br : Nat)
    (Q : Value → List HProp → Prop) (w0 : World) (F : List HProp) (g : Int → Nat) (hg : g = valOf cs log)
    (hQ : ∀ bad bcap, Q (stateV (rootsBy c g) (.slice bad (boxesBy c g c.blocks.toNat).length bcap)) [bl C 37 (cs.flatMap Cell.v ++ rest), Row (.slice bad (boxesBy c g c.blocks.toNat).length bcap) 95 9 (boxesBy c g c.blocks.toNat).length ((boxesBy c g c.blocks.toNat).flatMap boxV)]) :
    St Try.prog ⟨16, Try.f16, w0, Q, F, []⟩ [.code (codeAt Try.f16 11)]
      [(1, .slice (some ⟨C, 0, none⟩) c.size cc), (2, .pointer (some ⟨bc, 0, none⟩)), (4, .pointer (some ⟨br, 0, none⟩)), (7, .slice lad m lcap)]
      (bl bc 24 c.v :: bl br 64 (fillN 16 0 (fun _ => 0) ++ [.slice none 0 0]) :: bl C 37 (cs.flatMap Cell.v ++ rest) :: Row (.slice lad m lcap) 37 2 m (log.flatMap Cell.v) :: F) := by
  have hn17 := hc.nums.f17
  have := hc.b0; have := hc.b1
  have hsz : c.size ≤ 1000000 := by unfold Cfg.size; omega
  have hat := fun k i j => rat_r c hc k i j
  have hval := fun p h0 h1 => val_r C c.size cc cs rest hn hcc log lad m lcap hm hm1 p h0 h1 hsz
  rw [← hg] at hval
  have hin := Cfg.at_size hc
  repeat' (first | (apply Ya; exact Oa) | (apply Yb; exact Ob) | (apply Yc; exact Oc; intro b) | (apply Ye; exact Oe; intro g cap rest hcap) | (apply Yd; exact Od; intro ad cap) | (apply Yf; exact Oj) | (apply Yg; exact Oj; exact ⟨rfl, rfl⟩) | (apply Yh; exact Oj; rfl) | (apply Yi; exact Oj; exact On; all_goals (intro h; try (exfalso; omega))) | apply StL.nil | apply St.region | apply St.seq | apply St.block | apply St.inBlock | apply St.skip | (apply St.exit; rfl) | (apply St.cond_t; rfl) | (apply St.cond_f; rfl) | (apply Ud; rfl; exact On; all_goals (intro h; try (exfalso; omega))) | (apply Za; rfl; exact Oa) | (apply Zb; rfl; exact Oa; exact Ent.go) | (apply Zc; rfl; exact Ob) | (apply Zd; rfl; exact Oc; intro b; refine ⟨Ent.go, ?_⟩) | (apply Ze; rfl; exact Oc; intro b) | (apply Zf; rfl; exact Oe; intro g cap rest hcap) | (apply Zg; rfl; exact Od; intro ad cap) | apply StD.nil | exact StD.nope | apply StD.pick | (apply StD.claim; rfl; intro b) | (apply Zi; rfl; exact Oj; exact Oa) | (apply Zj; rfl; exact Oj; exact Oa; exact Ent.go) | (apply Zk; rfl; exact Oj; exact ⟨rfl, rfl⟩) | (apply Zl; rfl; exact Oj; exact ⟨rfl, rfl⟩; exact Ent.go) | (apply Zm; rfl; exact Oj; rfl) | (apply Zn; rfl; exact Oj; exact Ent.go; rfl)   | (apply Zo; rfl; exact Oj; exact On; all_goals (intro h; try (exfalso; omega))))
  refine St.loopY (Lr := ?Lr1) (ι := { k : Nat // k ≤ 16 }) (fun x => 16 - x.1) (fun x => [(12, .int .i64 (x.1 : Int))]) (fun x => [bl b 64 (fillN 16 x.1 (fun k => g (c.at 10 k 0)) ++ [.slice none 0 0])]) ⟨0, Nat.zero_le _⟩ ?hE ?hL ?round
  case hE => exact Sub.go
  case hL => exact Takes.go
  case round =>
    rintro ⟨k, hk⟩ IH; dsimp only at hk ⊢
    by_cases hlt : k < 16
    · have ha := hat 10 k 0
      have hi := hin.1 k (by omega) (by omega)
      have hv := hval _ hi.1 hi.2
      have hset : SetN (.int .u64 (g (c.at 10 (k : Int) 0) : Int)) (0 + 0 + (k : Int).toNat * 1) (fillN 16 k (fun k => g (c.at 10 k 0)) ++ [.slice none 0 0]) (fillN 16 (k + 1) (fun k => g (c.at 10 k 0)) ++ [.slice none 0 0]) := by
        rw [show 0 + 0 + (k : Int).toNat * 1 = k by omega]; exact (fillN_set (fun k => g (c.at 10 k 0)) hlt).app_left _
      generalize c.at 10 (k : Int) 0 = a at ha hi hv hset
      repeat' (first | (apply Ya; exact Oa) | (apply Yb; exact Ob) | (apply Yc; exact Oc; intro b) | (apply Ye; exact Oe; intro g cap rest hcap) | (apply Yd; exact Od; intro ad cap) | (apply Yf; exact Oj) | (apply Yg; exact Oj; exact ⟨rfl, rfl⟩) | (apply Yh; exact Oj; rfl) | (apply Yi; exact Oj; exact On; all_goals (intro h; try (exfalso; omega))) | apply StL.nil | apply St.region | apply St.seq | apply St.block | apply St.inBlock | apply St.skip | (apply St.exit; rfl) | (apply St.cond_t; rfl) | (apply St.cond_f; rfl) | (apply Ud; rfl; exact On; all_goals (intro h; try (exfalso; omega))) | (apply Za; rfl; exact Oa) | (apply Zb; rfl; exact Oa; exact Ent.go) | (apply Zc; rfl; exact Ob) | (apply Zd; rfl; exact Oc; intro b; refine ⟨Ent.go, ?_⟩) | (apply Ze; rfl; exact Oc; intro b) | (apply Zf; rfl; exact Oe; intro g cap rest hcap) | (apply Zg; rfl; exact Od; intro ad cap) | apply StD.nil | exact StD.nope | apply StD.pick | (apply StD.claim; rfl; intro b) | (apply Zi; rfl; exact Oj; exact Oa) | (apply Zj; rfl; exact Oj; exact Oa; exact Ent.go) | (apply Zk; rfl; exact Oj; exact ⟨rfl, rfl⟩) | (apply Zl; rfl; exact Oj; exact ⟨rfl, rfl⟩; exact Ent.go) | (apply Zm; rfl; exact Oj; rfl) | (apply Zn; rfl; exact Oj; exact Ent.go; rfl)  | (apply Ka; exact Og; exact ha; exact Oh) | (apply Kb; rfl; exact Og; exact ha; exact Oi) | (apply Kc; rfl; exact Oj; exact Og; exact ha; exact Oi) | (apply Ka; exact Og; exact hv; exact Oh) | (apply Kb; rfl; exact Og; exact hv; exact Oi) | (apply Kc; rfl; exact Oj; exact Og; exact hv; exact Oi) | (apply Zo; rfl; exact Oj; exact On; all_goals (intro h; try (exfalso; omega))))
      refine IH ⟨k + 1, hlt⟩ (by show 16 - (k + 1) < 16 - k; omega) ?_ ?_
      · exact Sub.go
      · exact Ent.go
    · obtain rfl : k = 16 := by omega
      clear IH
      revert b
      intro bs
      rw [show fillN 16 16 (fun k => g (c.at 10 k 0)) = (rootsBy c g).map nat64 from fillN_full 16 _]
      have hl16 : ((rootsBy c g).map nat64).length = 16 := by simp [rootsBy]
      generalize hR : (rootsBy c g).map nat64 = R at hl16
      have hnR : ∀ v : Value, NthN (0 + 16) (R ++ [v]) v := fun v => by
        have h1 : NthN (R.length + 0) (R ++ [v]) v := NthN.zero.app_right _
        rwa [hl16] at h1
      have hsR : ∀ v v' : Value, SetN v' (0 + 16) (R ++ [v]) (R ++ [v']) := fun v v' => by
        have h1 : SetN v' (R.length + 0) (R ++ [v]) (R ++ [v']) := SetN.zero.app_right _
        rwa [hl16] at h1
      have hlR : ∀ v : Value, (R ++ [v]).length = 17 := fun v => by simp [hl16]
      repeat' (first | (apply Ya; exact Oa) | (apply Yb; exact Ob) | (apply Yc; exact Oc; intro b) | (apply Ye; exact Oe; intro g cap rest hcap) | (apply Yd; exact Od; intro ad cap) | (apply Yf; exact Oj) | (apply Yg; exact Oj; exact ⟨rfl, rfl⟩) | (apply Yh; exact Oj; rfl) | (apply Yi; exact Oj; exact On; all_goals (intro h; try (exfalso; omega))) | apply StL.nil | apply St.region | apply St.seq | apply St.block | apply St.inBlock | apply St.skip | (apply St.exit; rfl) | (apply St.cond_t; rfl) | (apply St.cond_f; rfl) | (apply Ud; rfl; exact On; all_goals (intro h; try (exfalso; omega))) | (apply Za; rfl; exact Oa) | (apply Zb; rfl; exact Oa; exact Ent.go) | (apply Zc; rfl; exact Ob) | (apply Zd; rfl; exact Oc; intro b; refine ⟨Ent.go, ?_⟩) | (apply Ze; rfl; exact Oc; intro b) | (apply Zf; rfl; exact Oe; intro g cap rest hcap) | (apply Zg; rfl; exact Od; intro ad cap) | apply StD.nil | exact StD.nope | apply StD.pick | (apply StD.claim; rfl; intro b) | (apply Zi; rfl; exact Oj; exact Oa) | (apply Zj; rfl; exact Oj; exact Oa; exact Ent.go) | (apply Zk; rfl; exact Oj; exact ⟨rfl, rfl⟩) | (apply Zl; rfl; exact Oj; exact ⟨rfl, rfl⟩; exact Ent.go) | (apply Zm; rfl; exact Oj; rfl) | (apply Zn; rfl; exact Oj; exact Ent.go; rfl)   | (apply Zo; rfl; exact Oj; exact On; all_goals (intro h; try (exfalso; omega))))
      refine St.conv ?_ (Sub.refl _) (Ent.row_nil 95 9)
      refine St.loopY (Lr := ?Lr2) (ι := { x : Nat × Option Addr × Nat // (x.1 : Int) ≤ c.blocks }) (fun x => (c.blocks - (x.1.1 : Int)).toNat) (fun x => [(13, .int .i64 (x.1.1 : Int))]) (fun x => [Row (.slice x.1.2.1 (boxesBy c g x.1.1).length x.1.2.2) 95 9 (boxesBy c g x.1.1).length ((boxesBy c g x.1.1).flatMap boxV), bl bs 64 (R ++ [.slice x.1.2.1 (boxesBy c g x.1.1).length x.1.2.2])]) ⟨(0, none, 0), by omega⟩ ?hE ?hL ?round
      case hE => exact Sub.go
      case hL => exact Takes.go
      case round =>
        rintro ⟨⟨i, bad, bcap⟩, hi⟩ IH; dsimp only at hi ⊢
        have hnb := boxesBy_len c g i
        by_cases hib : (i : Int) < c.blocks
        · have ha := hat 11 i 0
          have hi2 := hin.2 i (by omega) hib
          have hv := hval _ hi2.1 hi2.2.1
          have hbs := boxesBy_succ c g i
          generalize c.at 11 (i : Int) 0 = a at ha hi2 hv hbs
          by_cases hl1 : g a = 1
          · rw [if_pos hl1] at hbs
            rw [hl1] at hv
            have hn9 := hnR (.slice bad (boxesBy c g i).length bcap)
            repeat' (first | (apply Ya; exact Oa) | (apply Yb; exact Ob) | (apply Yc; exact Oc; intro b) | (apply Ye; exact Oe; intro g cap rest hcap) | (apply Yd; exact Od; intro ad cap) | (apply Yf; exact Oj) | (apply Yg; exact Oj; exact ⟨rfl, rfl⟩) | (apply Yh; exact Oj; rfl) | (apply Yi; exact Oj; exact On; all_goals (intro h; try (exfalso; omega))) | apply StL.nil | apply St.region | apply St.seq | apply St.block | apply St.inBlock | apply St.skip | (apply St.exit; rfl) | (apply St.cond_t; rfl) | (apply St.cond_f; rfl) | (apply Ud; rfl; exact On; all_goals (intro h; try (exfalso; omega))) | (apply Za; rfl; exact Oa) | (apply Zb; rfl; exact Oa; exact Ent.go) | (apply Zc; rfl; exact Ob) | (apply Zd; rfl; exact Oc; intro b; refine ⟨Ent.go, ?_⟩) | (apply Ze; rfl; exact Oc; intro b) | (apply Zf; rfl; exact Oe; intro g cap rest hcap) | (apply Zg; rfl; exact Od; intro ad cap) | apply StD.nil | exact StD.nope | apply StD.pick | (apply StD.claim; rfl; intro b) | (apply Zi; rfl; exact Oj; exact Oa) | (apply Zj; rfl; exact Oj; exact Oa; exact Ent.go) | (apply Zk; rfl; exact Oj; exact ⟨rfl, rfl⟩) | (apply Zl; rfl; exact Oj; exact ⟨rfl, rfl⟩; exact Ent.go) | (apply Zm; rfl; exact Oj; rfl) | (apply Zn; rfl; exact Oj; exact Ent.go; rfl)  | (apply Ka; exact Og; exact ha; exact Oh) | (apply Kb; rfl; exact Og; exact ha; exact Oi) | (apply Kc; rfl; exact Oj; exact Og; exact ha; exact Oi) | (apply Ka; exact Og; exact hv; exact Oh) | (apply Kb; rfl; exact Og; exact hv; exact Oi) | (apply Kc; rfl; exact Oj; exact Og; exact hv; exact Oi) | (apply Zo; rfl; exact Oj; exact On; all_goals (intro h; try (exfalso; omega))))
            revert b
            intro bw
            refine St.loopY (Lr := ?Lr3) (ι := { k : Nat // k ≤ 8 }) (fun x => 8 - x.1) (fun x => [(15, .int .i64 (x.1 : Int))]) (fun x => [bl bw 95 (.int .u64 ((i : Int) + 1) :: fillN 8 x.1 (fun k => g (c.at 16 i k)))]) ⟨0, Nat.zero_le _⟩ ?hE ?hL ?round
            case hE => exact Sub.go
            case hL => exact Takes.go
            case round =>
              rintro ⟨k, hk⟩ IH2; dsimp only at hk ⊢
              by_cases hlt : k < 8
              · have ha16 := hat 16 i k
                have hi3 := hi2.2.2 k (by omega) (by omega)
                have hv16 := hval _ hi3.1 hi3.2
                have hset2 : SetN (.int .u64 (g (c.at 16 (i : Int) (k : Int)) : Int)) (0 + 1 + (k : Int).toNat * 1) (Value.int .u64 ((i : Int) + 1) :: fillN 8 k (fun k => g (c.at 16 i k))) (Value.int .u64 ((i : Int) + 1) :: fillN 8 (k + 1) (fun k => g (c.at 16 i k))) := by
                  rw [show 0 + 1 + (k : Int).toNat * 1 = k + 1 by omega]; exact .succ (fillN_set (fun k => g (c.at 16 i k)) hlt)
                generalize c.at 16 (i : Int) (k : Int) = a16 at ha16 hi3 hv16 hset2
                repeat' (first | (apply Ya; exact Oa) | (apply Yb; exact Ob) | (apply Yc; exact Oc; intro b) | (apply Ye; exact Oe; intro g cap rest hcap) | (apply Yd; exact Od; intro ad cap) | (apply Yf; exact Oj) | (apply Yg; exact Oj; exact ⟨rfl, rfl⟩) | (apply Yh; exact Oj; rfl) | (apply Yi; exact Oj; exact On; all_goals (intro h; try (exfalso; omega))) | apply StL.nil | apply St.region | apply St.seq | apply St.block | apply St.inBlock | apply St.skip | (apply St.exit; rfl) | (apply St.cond_t; rfl) | (apply St.cond_f; rfl) | (apply Ud; rfl; exact On; all_goals (intro h; try (exfalso; omega))) | (apply Za; rfl; exact Oa) | (apply Zb; rfl; exact Oa; exact Ent.go) | (apply Zc; rfl; exact Ob) | (apply Zd; rfl; exact Oc; intro b; refine ⟨Ent.go, ?_⟩) | (apply Ze; rfl; exact Oc; intro b) | (apply Zf; rfl; exact Oe; intro g cap rest hcap) | (apply Zg; rfl; exact Od; intro ad cap) | apply StD.nil | exact StD.nope | apply StD.pick | (apply StD.claim; rfl; intro b) | (apply Zi; rfl; exact Oj; exact Oa) | (apply Zj; rfl; exact Oj; exact Oa; exact Ent.go) | (apply Zk; rfl; exact Oj; exact ⟨rfl, rfl⟩) | (apply Zl; rfl; exact Oj; exact ⟨rfl, rfl⟩; exact Ent.go) | (apply Zm; rfl; exact Oj; rfl) | (apply Zn; rfl; exact Oj; exact Ent.go; rfl)  | (apply Ka; exact Og; exact ha16; exact Oh) | (apply Kb; rfl; exact Og; exact ha16; exact Oi) | (apply Kc; rfl; exact Oj; exact Og; exact ha16; exact Oi) | (apply Ka; exact Og; exact hv16; exact Oh) | (apply Kb; rfl; exact Og; exact hv16; exact Oi) | (apply Kc; rfl; exact Oj; exact Og; exact hv16; exact Oi) | (apply Zo; rfl; exact Oj; exact On; all_goals (intro h; try (exfalso; omega))))
                refine IH2 ⟨k + 1, hlt⟩ (by show 8 - (k + 1) < 8 - k; omega) ?_ ?_
                · exact Sub.go
                · exact Ent.go
              · obtain rfl : k = 8 := by omega
                clear IH2
                rw [show (Value.int .u64 ((i : Int) + 1) :: fillN 8 8 (fun k => g (c.at 16 i k))) = boxV ((i : Int) + 1, wordsBy c g i) from congrArg (List.cons _) (fillN_full 8 _)]
                obtain ⟨y0, y1, y2, y3, y4, y5, y6, y7, hw⟩ := eight_of (l := wordsBy c g i) (by simp [wordsBy])
                rw [hw] at hbs
                have hfl : (boxesBy c g (i + 1)).flatMap boxV = (boxesBy c g i).flatMap boxV ++ [.int .u64 ((i : Int) + 1), .int .u64 y0, .int .u64 y1, .int .u64 y2, .int .u64 y3, .int .u64 y4, .int .u64 y5, .int .u64 y6, .int .u64 y7] := by
                  rw [hbs, List.flatMap_append]; rfl
                have hln : (boxesBy c g (i + 1)).length = (boxesBy c g i).length + 1 := by rw [hbs, List.length_append]; rfl
                rw [show boxV ((i : Int) + 1, wordsBy c g i) = [.int .u64 ((i : Int) + 1), .int .u64 y0, .int .u64 y1, .int .u64 y2, .int .u64 y3, .int .u64 y4, .int .u64 y5, .int .u64 y6, .int .u64 y7] by rw [hw]; rfl]
                have hsr := hsR (.slice bad (boxesBy c g i).length bcap)
                repeat' (first | (apply Ya; exact Oa) | (apply Yb; exact Ob) | (apply Yc; exact Oc; intro b) | (apply Ye; exact Oe; intro g cap rest hcap) | (apply Yd; exact Od; intro ad cap) | (apply Yf; exact Oj) | (apply Yg; exact Oj; exact ⟨rfl, rfl⟩) | (apply Yh; exact Oj; rfl) | (apply Yi; exact Oj; exact On; all_goals (intro h; try (exfalso; omega))) | apply StL.nil | apply St.region | apply St.seq | apply St.block | apply St.inBlock | apply St.skip | (apply St.exit; rfl) | (apply St.cond_t; rfl) | (apply St.cond_f; rfl) | (apply Ud; rfl; exact On; all_goals (intro h; try (exfalso; omega))) | (apply Za; rfl; exact Oa) | (apply Zb; rfl; exact Oa; exact Ent.go) | (apply Zc; rfl; exact Ob) | (apply Zd; rfl; exact Oc; intro b; refine ⟨Ent.go, ?_⟩) | (apply Ze; rfl; exact Oc; intro b) | (apply Zf; rfl; exact Oe; intro g cap rest hcap) | (apply Zg; rfl; exact Od; intro ad cap) | apply StD.nil | exact StD.nope | apply StD.pick | (apply StD.claim; rfl; intro b) | (apply Zi; rfl; exact Oj; exact Oa) | (apply Zj; rfl; exact Oj; exact Oa; exact Ent.go) | (apply Zk; rfl; exact Oj; exact ⟨rfl, rfl⟩) | (apply Zl; rfl; exact Oj; exact ⟨rfl, rfl⟩; exact Ent.go) | (apply Zm; rfl; exact Oj; rfl) | (apply Zn; rfl; exact Oj; exact Ent.go; rfl)   | (apply Zo; rfl; exact Oj; exact On; all_goals (intro h; try (exfalso; omega))))
                (have hsr2 := hsr (.slice ad ((boxesBy c g i).length + 1) cap); repeat' (first | (apply Ya; exact Oa) | (apply Yb; exact Ob) | (apply Yc; exact Oc; intro b) | (apply Ye; exact Oe; intro g cap rest hcap) | (apply Yd; exact Od; intro ad cap) | (apply Yf; exact Oj) | (apply Yg; exact Oj; exact ⟨rfl, rfl⟩) | (apply Yh; exact Oj; rfl) | (apply Yi; exact Oj; exact On; all_goals (intro h; try (exfalso; omega))) | apply StL.nil | apply St.region | apply St.seq | apply St.block | apply St.inBlock | apply St.skip | (apply St.exit; rfl) | (apply St.cond_t; rfl) | (apply St.cond_f; rfl) | (apply Ud; rfl; exact On; all_goals (intro h; try (exfalso; omega))) | (apply Za; rfl; exact Oa) | (apply Zb; rfl; exact Oa; exact Ent.go) | (apply Zc; rfl; exact Ob) | (apply Zd; rfl; exact Oc; intro b; refine ⟨Ent.go, ?_⟩) | (apply Ze; rfl; exact Oc; intro b) | (apply Zf; rfl; exact Oe; intro g cap rest hcap) | (apply Zg; rfl; exact Od; intro ad cap) | apply StD.nil | exact StD.nope | apply StD.pick | (apply StD.claim; rfl; intro b) | (apply Zi; rfl; exact Oj; exact Oa) | (apply Zj; rfl; exact Oj; exact Oa; exact Ent.go) | (apply Zk; rfl; exact Oj; exact ⟨rfl, rfl⟩) | (apply Zl; rfl; exact Oj; exact ⟨rfl, rfl⟩; exact Ent.go) | (apply Zm; rfl; exact Oj; rfl) | (apply Zn; rfl; exact Oj; exact Ent.go; rfl)   | (apply Zo; rfl; exact Oj; exact On; all_goals (intro h; try (exfalso; omega)))))
                refine IH ⟨(i + 1, ad, cap), by omega⟩ (by show (c.blocks - ((i + 1 : Nat) : Int)).toNat < (c.blocks - (i : Int)).toNat; omega) ?_ ?_
                · exact Sub.go
                · dsimp only; rw [hfl, hln]; exact Ent.go
          · rw [if_neg hl1, List.append_nil] at hbs
            repeat' (first | (apply Ya; exact Oa) | (apply Yb; exact Ob) | (apply Yc; exact Oc; intro b) | (apply Ye; exact Oe; intro g cap rest hcap) | (apply Yd; exact Od; intro ad cap) | (apply Yf; exact Oj) | (apply Yg; exact Oj; exact ⟨rfl, rfl⟩) | (apply Yh; exact Oj; rfl) | (apply Yi; exact Oj; exact On; all_goals (intro h; try (exfalso; omega))) | apply StL.nil | apply St.region | apply St.seq | apply St.block | apply St.inBlock | apply St.skip | (apply St.exit; rfl) | (apply St.cond_t; rfl) | (apply St.cond_f; rfl) | (apply Ud; rfl; exact On; all_goals (intro h; try (exfalso; omega))) | (apply Za; rfl; exact Oa) | (apply Zb; rfl; exact Oa; exact Ent.go) | (apply Zc; rfl; exact Ob) | (apply Zd; rfl; exact Oc; intro b; refine ⟨Ent.go, ?_⟩) | (apply Ze; rfl; exact Oc; intro b) | (apply Zf; rfl; exact Oe; intro g cap rest hcap) | (apply Zg; rfl; exact Od; intro ad cap) | apply StD.nil | exact StD.nope | apply StD.pick | (apply StD.claim; rfl; intro b) | (apply Zi; rfl; exact Oj; exact Oa) | (apply Zj; rfl; exact Oj; exact Oa; exact Ent.go) | (apply Zk; rfl; exact Oj; exact ⟨rfl, rfl⟩) | (apply Zl; rfl; exact Oj; exact ⟨rfl, rfl⟩; exact Ent.go) | (apply Zm; rfl; exact Oj; rfl) | (apply Zn; rfl; exact Oj; exact Ent.go; rfl)  | (apply Ka; exact Og; exact ha; exact Oh) | (apply Kb; rfl; exact Og; exact ha; exact Oi) | (apply Kc; rfl; exact Oj; exact Og; exact ha; exact Oi) | (apply Ka; exact Og; exact hv; exact Oh) | (apply Kb; rfl; exact Og; exact hv; exact Oi) | (apply Kc; rfl; exact Oj; exact Og; exact hv; exact Oi) | (apply Zo; rfl; exact Oj; exact On; all_goals (intro h; try (exfalso; omega))))
            refine IH ⟨(i + 1, bad, bcap), by omega⟩ (by show (c.blocks - ((i + 1 : Nat) : Int)).toNat < (c.blocks - (i : Int)).toNat; omega) ?_ ?_
            · exact Sub.go
            · dsimp only; rw [hbs]; exact Ent.go
        · obtain rfl : i = c.blocks.toNat := by omega
          clear IH
          have hQ' := hQ
          simp only [stateV, hR] at hQ'
          have hlR2 := hlR (.slice bad (boxesBy c g c.blocks.toNat).length bcap)
          have hone : (R ++ [Value.slice bad (boxesBy c g c.blocks.toNat).length bcap]).all one = true := by
            rw [← hR]; simp [nat64, one]; exact ⟨fun _ _ => rfl, rfl⟩
          have hspl : SplN (R ++ [Value.slice bad (boxesBy c g c.blocks.toNat).length bcap]) 0 (fillN 16 0 (fun _ => 0) ++ [Value.slice none 0 0]) (R ++ [Value.slice bad (boxesBy c g c.blocks.toNat).length bcap]) := by
            exact .zero (OverN.all _ _ (by rw [hlR2]; simp [fillN_len]))
          repeat' (first | (apply Ya; exact Oa) | (apply Yb; exact Ob) | (apply Yc; exact Oc; intro b) | (apply Ye; exact Oe; intro g cap rest hcap) | (apply Yd; exact Od; intro ad cap) | (apply Yf; exact Oj) | (apply Yg; exact Oj; exact ⟨rfl, rfl⟩) | (apply Yh; exact Oj; rfl) | (apply Yi; exact Oj; exact On; all_goals (intro h; try (exfalso; omega))) | apply StL.nil | apply St.region | apply St.seq | apply St.block | apply St.inBlock | apply St.skip | (apply St.exit; rfl) | (apply St.cond_t; rfl) | (apply St.cond_f; rfl) | (apply Ud; rfl; exact On; all_goals (intro h; try (exfalso; omega))) | (apply Za; rfl; exact Oa) | (apply Zb; rfl; exact Oa; exact Ent.go) | (apply Zc; rfl; exact Ob) | (apply Zd; rfl; exact Oc; intro b; refine ⟨Ent.go, ?_⟩) | (apply Ze; rfl; exact Oc; intro b) | (apply Zf; rfl; exact Oe; intro g cap rest hcap) | (apply Zg; rfl; exact Od; intro ad cap) | apply StD.nil | exact StD.nope | apply StD.pick | (apply StD.claim; rfl; intro b) | (apply Zi; rfl; exact Oj; exact Oa) | (apply Zj; rfl; exact Oj; exact Oa; exact Ent.go) | (apply Zk; rfl; exact Oj; exact ⟨rfl, rfl⟩) | (apply Zl; rfl; exact Oj; exact ⟨rfl, rfl⟩; exact Ent.go) | (apply Zm; rfl; exact Oj; rfl) | (apply Zn; rfl; exact Oj; exact Ent.go; rfl)   | (apply Zo; rfl; exact Oj; exact On; all_goals (intro h; try (exfalso; omega))))
          (apply StL.ok; (apply OpOk.storeA; rfl; rfl; exact hlR2; exact hone; (focus (repeat first | exact ReadsC.here RdC.bl | exact ReadsC.here (by assumption) | apply ReadsC.there)); exact hspl; (focus (repeat first | exact TurnC.here | apply TurnC.there))); rfl; rintro _ _ ⟨rfl, rfl⟩)
          repeat' (first | (apply Ya; exact Oa) | (apply Yb; exact Ob) | (apply Yc; exact Oc; intro b) | (apply Ye; exact Oe; intro g cap rest hcap) | (apply Yd; exact Od; intro ad cap) | (apply Yf; exact Oj) | (apply Yg; exact Oj; exact ⟨rfl, rfl⟩) | (apply Yh; exact Oj; rfl) | (apply Yi; exact Oj; exact On; all_goals (intro h; try (exfalso; omega))) | apply StL.nil | apply St.region | apply St.seq | apply St.block | apply St.inBlock | apply St.skip | (apply St.exit; rfl) | (apply St.cond_t; rfl) | (apply St.cond_f; rfl) | (apply Ud; rfl; exact On; all_goals (intro h; try (exfalso; omega))) | (apply Za; rfl; exact Oa) | (apply Zb; rfl; exact Oa; exact Ent.go) | (apply Zc; rfl; exact Ob) | (apply Zd; rfl; exact Oc; intro b; refine ⟨Ent.go, ?_⟩) | (apply Ze; rfl; exact Oc; intro b) | (apply Zf; rfl; exact Oe; intro g cap rest hcap) | (apply Zg; rfl; exact Od; intro ad cap) | apply StD.nil | exact StD.nope | apply StD.pick | (apply StD.claim; rfl; intro b) | (apply Zi; rfl; exact Oj; exact Oa) | (apply Zj; rfl; exact Oj; exact Oa; exact Ent.go) | (apply Zk; rfl; exact Oj; exact ⟨rfl, rfl⟩) | (apply Zl; rfl; exact Oj; exact ⟨rfl, rfl⟩; exact Ent.go) | (apply Zm; rfl; exact Oj; rfl) | (apply Zn; rfl; exact Oj; exact Ent.go; rfl)   | (apply Zo; rfl; exact Oj; exact On; all_goals (intro h; try (exfalso; omega))))
          (refine St.d1 Try.func16 ?_; apply Exists.intro; apply And.intro; exact hQ' bad bcap; exact Ent.go)
def rholdQ (c : Cfg) (C : Nat) (cs : List Cell) (rest : List Value) (g : Int → Nat) (r : Value) (L : List HProp) : Prop := ∃ bad bcap, r = stateV (rootsBy c g) (.slice bad (boxesBy c g c.blocks.toNat).length bcap) ∧
        L = [bl C 37 (cs.flatMap Cell.v ++ rest), Row (.slice bad (boxesBy c g c.blocks.toNat).length bcap) 95 9 (boxesBy c g c.blocks.toNat).length ((boxesBy c g c.blocks.toNat).flatMap boxV)]
set_option maxHeartbeats 2000000 in
theorem rhold_t (c : Cfg) (hr : c.right = true) (C cc : Nat) (cs : List Cell) (rest : List Value) (hn : cs.length = c.size) (hcc : c.size ≤ cc) (g : Int → Nat) (hg : g = valOf cs (logOf c cs)) :
    Tri Try.prog 16 #[.agg ⟨c.v⟩, .slice (some ⟨C, 0, none⟩) c.size cc] [bl C 37 (cs.flatMap Cell.v ++ rest)]
      (rholdQ c C cs rest g) := by
  have hc := Cfg.small hr
  have hn7 := hc.nums.f7; have hn17 := hc.nums.f17
  have hcap := hc.cap
  have := hc.b0; have := hc.b1; have := hc.t0; have := hc.t1; have := hc.limit
  obtain ⟨hf7, hf10, hf11, hf12, hf13, hf14, hf15, hf16, hf17, hstr⟩ := c.froms
  have hszn : (c.size : Int) = c.f17 := by unfold Cfg.size; omega
  have hat := fun k i j => rat_r c hc k i j
  have hcp := rcap_r c hc
  have ho := ownerOf_in hc cs
  have how : ((peekOf cs 0).val : Int) % c.threads = ownerOf c cs := rfl
  have ho' : 0 ≤ ((peekOf cs 0).val : Int) % c.threads ∧ ((peekOf cs 0).val : Int) % c.threads < c.threads := ho
  have hd := fun (p : Int) (h0 : 0 ≤ p) (h1 : p < c.size) => peek_drop (cs := cs) h0 (by omega) rest
  have htk := fun (p : Int) => TakeN.app (peekOf cs p).v ((cs.drop (p.toNat + 1)).flatMap Cell.v ++ rest)
  have hd0 : DropN ((0 : Int).toNat * 2) (cs.flatMap Cell.v ++ rest) _ := hd 0 (by omega) (by omega)
  have ht0 : TakeN 2 _ _ := htk 0
  have h4 := hat 4 (ownerOf c cs) 0
  have ha4 := Cfg.at4 hc ho.1 ho.2
  have hd4 := hd _ ha4.1 (by omega)
  have ht4 : TakeN 2 _ _ := htk (c.at 4 (ownerOf c cs) 0)
  have hob : openB c cs = (((peekOf cs (c.at 4 (ownerOf c cs) 0)).val : Int) == 1 && (((peekOf cs (c.at 4 (ownerOf c cs) 0)).seq : Int) == ((peekOf cs 0).seq : Int) && true)) := rfl
  have hlg : logOf c cs = if openB c cs = true then (List.range (c.logLen cs (ownerOf c cs))).map (logEnt c cs) else [] := rfl
  have hle : ∀ k : Nat, logEnt c cs k = peekOf cs (c.at 6 (ownerOf c cs) k) := fun k => rfl
  have h5 := hat 5 (ownerOf c cs) 0
  have ha5 := c.at5 hc ho.1 ho.2
  have hp5 := peek_nth (cs := cs) ha5.1 (by omega) rest
  have hlog : c.logLen cs (ownerOf c cs) = min (peekOf cs (c.at 5 (ownerOf c cs) 0)).val c.cap.toNat := rfl
  have ha6 := fun (k : Int) => c.at6 hc ho.1 ho.2 (k := k)
  have h6 := fun k => hat 6 (ownerOf c cs) k
  refine Tri.of_body (vs := [_, _]) Try.func16 rfl rfl fun w0 F => ?_
  repeat' (first | (refine St.halt 4 ?_) |(apply Ya; exact Oa) | (apply Yb; exact Ob) | (apply Yc; exact Oc; intro b) | (apply Ye; exact Oe; intro g cap rest hcap) | (apply Yd; exact Od; intro ad cap) | (apply Yf; exact Oj) | (apply Yg; exact Oj; exact ⟨rfl, rfl⟩) | (apply Yh; exact Oj; rfl) | (apply Yi; exact Oj; exact On; all_goals (intro h; try (exfalso; omega))) | apply StL.nil | apply St.region | apply St.seq | apply St.block | apply St.inBlock | apply St.skip | (apply St.exit; rfl) | (apply St.cond_t; rfl) | (apply St.cond_f; rfl) | (apply Ud; rfl; exact On; all_goals (intro h; try (exfalso; omega))) | (apply Za; rfl; exact Oa) | (apply Zb; rfl; exact Oa; exact Ent.go) | (apply Zc; rfl; exact Ob) | (apply Zd; rfl; exact Oc; intro b; refine ⟨Ent.go, ?_⟩) | (apply Ze; rfl; exact Oc; intro b) | (apply Zf; rfl; exact Oe; intro g cap rest hcap) | (apply Zg; rfl; exact Od; intro ad cap) | apply StD.nil | exact StD.nope | apply StD.pick | (apply StD.claim; rfl; intro b) | (apply Zi; rfl; exact Oj; exact Oa) | (apply Zj; rfl; exact Oj; exact Oa; exact Ent.go) | (apply Zk; rfl; exact Oj; exact ⟨rfl, rfl⟩) | (apply Zl; rfl; exact Oj; exact ⟨rfl, rfl⟩; exact Ent.go) | (apply Zm; rfl; exact Oj; rfl) | (apply Zn; rfl; exact Oj; exact Ent.go; rfl)   | (apply Zo; rfl; exact Oj; exact On; all_goals (intro h; try (exfalso; omega))))
  apply Halt.go
  rename_i bc br bn
  revert b
  intro b7
  have tl := fun log m hm hm1 lad lcap hx => rhold_tail c hc C cc cs rest hn hcc log m hm hm1 lad lcap bc br (rholdQ c C cs rest g) w0 F g hx (fun bad bcap => ⟨bad, bcap, rfl, rfl⟩)
  rw [how]
  generalize ownerOf c cs = ow at *
  generalize c.at 4 ow 0 = a4 at *
  generalize c.at 5 ow 0 = a5 at *
  generalize peekOf cs a4 = e4 at *
  repeat' (first | (refine St.halt 11 ?_) | (refine St.halt 6 ?_) |(apply Ya; exact Oa) | (apply Yb; exact Ob) | (apply Yc; exact Oc; intro b) | (apply Ye; exact Oe; intro g cap rest hcap) | (apply Yd; exact Od; intro ad cap) | (apply Yf; exact Oj) | (apply Yg; exact Oj; exact ⟨rfl, rfl⟩) | (apply Yh; exact Oj; rfl) | (apply Yi; exact Oj; exact On; all_goals (intro h; try (exfalso; omega))) | apply StL.nil | apply St.region | apply St.seq | apply St.block | apply St.inBlock | apply St.skip | (apply St.exit; rfl) | (apply St.cond_t; rfl) | (apply St.cond_f; rfl) | (apply Ud; rfl; exact On; all_goals (intro h; try (exfalso; omega))) | (apply Za; rfl; exact Oa) | (apply Zb; rfl; exact Oa; exact Ent.go) | (apply Zc; rfl; exact Ob) | (apply Zd; rfl; exact Oc; intro b; refine ⟨Ent.go, ?_⟩) | (apply Ze; rfl; exact Oc; intro b) | (apply Zf; rfl; exact Oe; intro g cap rest hcap) | (apply Zg; rfl; exact Od; intro ad cap) | apply StD.nil | exact StD.nope | apply StD.pick | (apply StD.claim; rfl; intro b) | (apply Zi; rfl; exact Oj; exact Oa) | (apply Zj; rfl; exact Oj; exact Oa; exact Ent.go) | (apply Zk; rfl; exact Oj; exact ⟨rfl, rfl⟩) | (apply Zl; rfl; exact Oj; exact ⟨rfl, rfl⟩; exact Ent.go) | (apply Zm; rfl; exact Oj; rfl) | (apply Zn; rfl; exact Oj; exact Ent.go; rfl)  | (apply Ka; exact Og; exact h4; exact Oh) | (apply Kb; rfl; exact Og; exact h4; exact Oi) | (apply Kc; rfl; exact Oj; exact Og; exact h4; exact Oi) | (apply Zo; rfl; exact Oj; exact On; all_goals (intro h; try (exfalso; omega))))
  rotate_left
  · have ho : openB c cs = false := by rw [hob, show ((e4.seq : Int) == ((peekOf cs 0).seq : Int)) = false by simpa using h]; simp
    rw [ho, if_neg (by decide)] at hlg
    have tl0 := tl [] 0 rfl (by decide) (some ⟨b7, 0, none⟩) 0 (by rw [hg, hlg])
    exact Halt.go (St.conv tl0 Sub.go (Ent.trans (Ent.of_take (p := bl b7 37 []) Take.go) (Ent.trans (Ent.row_bl (sz := 2) (n := 0) rfl (by decide)) Ent.go)))
  · have ho : openB c cs = false := by rw [hob, show ((e4.val : Int) == 1) = false by simpa using h]; simp
    rw [ho, if_neg (by decide)] at hlg
    have tl0 := tl [] 0 rfl (by decide) (some ⟨b7, 0, none⟩) 0 (by rw [hg, hlg])
    exact Halt.go (St.conv tl0 Sub.go (Ent.trans (Ent.of_take (p := bl b7 37 []) Take.go) (Ent.trans (Ent.row_bl (sz := 2) (n := 0) rfl (by decide)) Ent.go)))
  · apply Halt.go
    have ho : openB c cs = true := by rw [hob]; simp [*]
    rw [ho, if_pos rfl] at hlg
    repeat' (first | (apply Ya; exact Oa) | (apply Yb; exact Ob) | (apply Yc; exact Oc; intro b) | (apply Ye; exact Oe; intro g cap rest hcap) | (apply Yd; exact Od; intro ad cap) | (apply Yf; exact Oj) | (apply Yg; exact Oj; exact ⟨rfl, rfl⟩) | (apply Yh; exact Oj; rfl) | (apply Yi; exact Oj; exact On; all_goals (intro h; try (exfalso; omega))) | apply StL.nil | apply St.region | apply St.seq | apply St.block | apply St.inBlock | apply St.skip | (apply St.exit; rfl) | (apply St.cond_t; rfl) | (apply St.cond_f; rfl) | (apply Ud; rfl; exact On; all_goals (intro h; try (exfalso; omega))) | (apply Za; rfl; exact Oa) | (apply Zb; rfl; exact Oa; exact Ent.go) | (apply Zc; rfl; exact Ob) | (apply Zd; rfl; exact Oc; intro b; refine ⟨Ent.go, ?_⟩) | (apply Ze; rfl; exact Oc; intro b) | (apply Zf; rfl; exact Oe; intro g cap rest hcap) | (apply Zg; rfl; exact Od; intro ad cap) | apply StD.nil | exact StD.nope | apply StD.pick | (apply StD.claim; rfl; intro b) | (apply Zi; rfl; exact Oj; exact Oa) | (apply Zj; rfl; exact Oj; exact Oa; exact Ent.go) | (apply Zk; rfl; exact Oj; exact ⟨rfl, rfl⟩) | (apply Zl; rfl; exact Oj; exact ⟨rfl, rfl⟩; exact Ent.go) | (apply Zm; rfl; exact Oj; rfl) | (apply Zn; rfl; exact Oj; exact Ent.go; rfl)  | (apply Ka; exact Og; exact h5; exact Oh) | (apply Kb; rfl; exact Og; exact h5; exact Oi) | (apply Kc; rfl; exact Oj; exact Og; exact h5; exact Oi) | (apply Zo; rfl; exact Oj; exact On; all_goals (intro h; try (exfalso; omega))))
    refine St.conv ?_ (Sub.refl _) (Ent.trans (Ent.of_take (p := bl b7 37 []) Take.go) (Ent.row_bl (sz := 2) (n := 0) rfl (by decide)))
    have hsucc : ∀ k : Nat, ((List.range (k + 1)).map (logEnt c cs)).flatMap Cell.v = ((List.range k).map (logEnt c cs)).flatMap Cell.v ++ (peekOf cs (c.at 6 ow k)).v := fun k => by
      rw [List.range_succ, List.map_append, List.flatMap_append, ← hle k]; simp
    have hll : ∀ k : Nat, ((List.range k).map (logEnt c cs)).length = k := fun k => by simp
    generalize c.logLen cs ow = N at *
    refine St.loopY (Lr := ?Lr1) (ι := { x : Nat × Option Addr × Nat // x.1 ≤ N }) (fun x => N - x.1.1) (fun x => [(7, .slice x.1.2.1 x.1.1 x.1.2.2), (10, .int .i64 (x.1.1 : Int))]) (fun x => [Row (.slice x.1.2.1 x.1.1 x.1.2.2) 37 2 x.1.1 (((List.range x.1.1).map (logEnt c cs)).flatMap Cell.v)]) ⟨(0, some ⟨b7, 0, none⟩, 0), Nat.zero_le _⟩ ?hE ?hL ?round
    case hE => exact Sub.go
    case hL => exact Takes.go
    case round =>
      rintro ⟨⟨k, lad, lcap⟩, hk⟩ IH; dsimp only at hk ⊢
      by_cases hlt : k < N
      · have hk1 : (k : Int) < c.cap := by omega
        have hk2 : (k : Int) < ((peekOf cs a5).val : Int) := by omega
        have hi6 := ha6 k (by omega) hk1
        have hc6 := h6 k
        have hd6 := hd _ hi6.1 hi6.2
        have ht6 : TakeN 2 _ _ := htk (c.at 6 ow (k : Int))
        have hs6 := hsucc k
        generalize c.at 6 ow (k : Int) = a6 at *
        generalize peekOf cs a6 = e6 at *
        repeat' (first | (apply Ya; exact Oa) | (apply Yb; exact Ob) | (apply Yc; exact Oc; intro b) | (apply Ye; exact Oe; intro g cap rest hcap) | (apply Yd; exact Od; intro ad cap) | (apply Yf; exact Oj) | (apply Yg; exact Oj; exact ⟨rfl, rfl⟩) | (apply Yh; exact Oj; rfl) | (apply Yi; exact Oj; exact On; all_goals (intro h; try (exfalso; omega))) | apply StL.nil | apply St.region | apply St.seq | apply St.block | apply St.inBlock | apply St.skip | (apply St.exit; rfl) | (apply St.cond_t; rfl) | (apply St.cond_f; rfl) | (apply Ud; rfl; exact On; all_goals (intro h; try (exfalso; omega))) | (apply Za; rfl; exact Oa) | (apply Zb; rfl; exact Oa; exact Ent.go) | (apply Zc; rfl; exact Ob) | (apply Zd; rfl; exact Oc; intro b; refine ⟨Ent.go, ?_⟩) | (apply Ze; rfl; exact Oc; intro b) | (apply Zf; rfl; exact Oe; intro g cap rest hcap) | (apply Zg; rfl; exact Od; intro ad cap) | apply StD.nil | exact StD.nope | apply StD.pick | (apply StD.claim; rfl; intro b) | (apply Zi; rfl; exact Oj; exact Oa) | (apply Zj; rfl; exact Oj; exact Oa; exact Ent.go) | (apply Zk; rfl; exact Oj; exact ⟨rfl, rfl⟩) | (apply Zl; rfl; exact Oj; exact ⟨rfl, rfl⟩; exact Ent.go) | (apply Zm; rfl; exact Oj; rfl) | (apply Zn; rfl; exact Oj; exact Ent.go; rfl)  | (apply Ka; exact Og; exact hcp; exact Oh) | (apply Kb; rfl; exact Og; exact hcp; exact Oi) | (apply Kc; rfl; exact Oj; exact Og; exact hcp; exact Oi) | (apply Ka; exact Og; exact hc6; exact Oh) | (apply Kb; rfl; exact Og; exact hc6; exact Oi) | (apply Kc; rfl; exact Oj; exact Og; exact hc6; exact Oi) | (apply Zo; rfl; exact Oj; exact On; all_goals (intro h; try (exfalso; omega))))
        refine IH ⟨(k + 1, ad, cap), hlt⟩ (by show N - (k + 1) < N - k; omega) ?_ ?_
        · exact Sub.go
        · dsimp only; rw [hs6]; exact Ent.go
      · obtain rfl : k = N := by omega
        clear IH
        have tl0 := tl _ k (hll k) (by omega) lad lcap (by rw [hg, hlg])
        by_cases hk1 : (k : Int) < c.cap
        · have hk2 : ¬ (k : Int) < ((peekOf cs a5).val : Int) := by omega
          repeat' (first | (refine St.halt 11 ?_) |(apply Ya; exact Oa) | (apply Yb; exact Ob) | (apply Yc; exact Oc; intro b) | (apply Ye; exact Oe; intro g cap rest hcap) | (apply Yd; exact Od; intro ad cap) | (apply Yf; exact Oj) | (apply Yg; exact Oj; exact ⟨rfl, rfl⟩) | (apply Yh; exact Oj; rfl) | (apply Yi; exact Oj; exact On; all_goals (intro h; try (exfalso; omega))) | apply StL.nil | apply St.region | apply St.seq | apply St.block | apply St.inBlock | apply St.skip | (apply St.exit; rfl) | (apply St.cond_t; rfl) | (apply St.cond_f; rfl) | (apply Ud; rfl; exact On; all_goals (intro h; try (exfalso; omega))) | (apply Za; rfl; exact Oa) | (apply Zb; rfl; exact Oa; exact Ent.go) | (apply Zc; rfl; exact Ob) | (apply Zd; rfl; exact Oc; intro b; refine ⟨Ent.go, ?_⟩) | (apply Ze; rfl; exact Oc; intro b) | (apply Zf; rfl; exact Oe; intro g cap rest hcap) | (apply Zg; rfl; exact Od; intro ad cap) | apply StD.nil | exact StD.nope | apply StD.pick | (apply StD.claim; rfl; intro b) | (apply Zi; rfl; exact Oj; exact Oa) | (apply Zj; rfl; exact Oj; exact Oa; exact Ent.go) | (apply Zk; rfl; exact Oj; exact ⟨rfl, rfl⟩) | (apply Zl; rfl; exact Oj; exact ⟨rfl, rfl⟩; exact Ent.go) | (apply Zm; rfl; exact Oj; rfl) | (apply Zn; rfl; exact Oj; exact Ent.go; rfl)  | (apply Ka; exact Og; exact hcp; exact Oh) | (apply Kb; rfl; exact Og; exact hcp; exact Oi) | (apply Kc; rfl; exact Oj; exact Og; exact hcp; exact Oi) | (apply Zo; rfl; exact Oj; exact On; all_goals (intro h; try (exfalso; omega))))
          exact Halt.go (St.conv tl0 Sub.go Ent.go)
        · repeat' (first | (refine St.halt 11 ?_) |(apply Ya; exact Oa) | (apply Yb; exact Ob) | (apply Yc; exact Oc; intro b) | (apply Ye; exact Oe; intro g cap rest hcap) | (apply Yd; exact Od; intro ad cap) | (apply Yf; exact Oj) | (apply Yg; exact Oj; exact ⟨rfl, rfl⟩) | (apply Yh; exact Oj; rfl) | (apply Yi; exact Oj; exact On; all_goals (intro h; try (exfalso; omega))) | apply StL.nil | apply St.region | apply St.seq | apply St.block | apply St.inBlock | apply St.skip | (apply St.exit; rfl) | (apply St.cond_t; rfl) | (apply St.cond_f; rfl) | (apply Ud; rfl; exact On; all_goals (intro h; try (exfalso; omega))) | (apply Za; rfl; exact Oa) | (apply Zb; rfl; exact Oa; exact Ent.go) | (apply Zc; rfl; exact Ob) | (apply Zd; rfl; exact Oc; intro b; refine ⟨Ent.go, ?_⟩) | (apply Ze; rfl; exact Oc; intro b) | (apply Zf; rfl; exact Oe; intro g cap rest hcap) | (apply Zg; rfl; exact Od; intro ad cap) | apply StD.nil | exact StD.nope | apply StD.pick | (apply StD.claim; rfl; intro b) | (apply Zi; rfl; exact Oj; exact Oa) | (apply Zj; rfl; exact Oj; exact Oa; exact Ent.go) | (apply Zk; rfl; exact Oj; exact ⟨rfl, rfl⟩) | (apply Zl; rfl; exact Oj; exact ⟨rfl, rfl⟩; exact Ent.go) | (apply Zm; rfl; exact Oj; rfl) | (apply Zn; rfl; exact Oj; exact Ent.go; rfl)  | (apply Ka; exact Og; exact hcp; exact Oh) | (apply Kb; rfl; exact Og; exact hcp; exact Oi) | (apply Kc; rfl; exact Oj; exact Og; exact hcp; exact Oi) | (apply Zo; rfl; exact Oj; exact On; all_goals (intro h; try (exfalso; omega))))
          exact Halt.go (St.conv tl0 Sub.go Ent.go)
end Go.Proofs.Ytmcadilggmlbfaa
