/-
  Package tumblerlaw21: ChainDoes.
-/
import Derived.Test.YtalgmlhcbilicaaDoorDf
import Derived.Test.YtalgmlhcbilicaaDoorCq
import Derived.Test.YtalgmlhcbilicaaDoorCh
namespace Go.Proofs.YtalgmlhcbilicaaDoor
set_option maxRecDepth 100000
/-- as St.drawT; what is looked at and made lies in L0 -/
theorem St.drawT0 {P : Program} {C : Cx} {k : List Item} {E : Env} {L L0 : List HProp} {id : Nat} {l : List Oper} (acts : List (Nat × Nat)) (T : Then) (bs : List Nat) (hm : P.follows .mixedOrders = true)
    (hok : (Region.noSelect l.toArray && okA l.toArray bs (okT l.toArray bs T true) acts l.toArray.size (Array.replicate l.toArray.size false)) = true)
    (h : StD P C l.toArray L0 T acts k E L) : St P C (.code (.region id l.toArray true) :: k) E L := by
  unfold St
  unfold StD at h
  intro a w ha hs ho
  simp only [Bool.and_eq_true] at hok
  refine fin_of_wp (wp_region_any hm (wpAny_of_anyP (bs := bs) (S := fun w => Sat L0 (hpOf w)) _ _ _ _ ?_))
  exact anyP_of_runK (P := P) (w0 := C.w0) (S := fun w => Sat L0 (hpOf w)) qk_noOut hok.1 (fun w w' hg hs => hg.sat hs) (fun n l a h w hb hd hk ho hr => (anyP_of_runT (w0 := C.w0) qk_noOut hok.1 (fun w w' hg hs => hg.sat hs) T).1 n l a h w hb hd hk ho hr) acts _ _ a (hpOf w) { w with drawn := w.drawn + 1 } hok.2 (Dn.none _) (fun _ _ h => h) ⟨ho.os, ho.tape, ho.output⟩ (h a (hpOf w) ha hs)
structure Opp where
  name : Int
  arg : Nat
def oppV (o : Opp) : List Value := [.int .i64 o.name, .int .u64 (o.arg : Int)]
theorem nameM_nm (n : Int) : ∃ k, k ≤ 7 ∧ nameM n = nmB k := by
  unfold nameM
  split
  · exact ⟨7, by decide, rfl⟩
  · exact ⟨n.toNat, by omega, rfl⟩
theorem XuR.cells {q : HProp} {v : Value} {x : Option Qu} (h : XuR q v x) : ∃ (p : Bool) (n : Nat) (ad : Option Addr) (m cap : Nat), v = .agg ⟨[.bool p, .int .u64 (n : Int), .slice ad m cap]⟩ := by
  cases x with
  | none => exact ⟨false, 0, none, 0, 0, h⟩
  | some x =>
    obtain ⟨lv, rfl, hsl⟩ := h
    obtain ⟨ad, cap, rfl⟩ := hsl.val
    exact ⟨true, _, _, _, _, rfl⟩
def rdoesV (H : HProp) (m : Option Qu × Int × Nat) (v : Value) (L : List HProp) : Prop :=
  ∃ (p : Bool) (n : Nat) (ad : Option Addr) (l cap : Nat) (H' : HProp), v = .tuple ⟨[.agg ⟨[.bool p, .int .u64 (n : Int), .slice ad l cap]⟩, .agg ⟨[.int .i64 m.2.1, .int .u64 (m.2.2 : Int)]⟩]⟩ ∧ XuR H' (.agg ⟨[.bool p, .int .u64 (n : Int), .slice ad l cap]⟩) m.1 ∧ (∀ b l, RdC H b l → RdC H' b l) ∧ L = [H']
theorem rdoesQ.v {H : HProp} {m : Option Qu × Int × Nat} {v : Value} {L : List HProp} (h : rdoesQ H m v L) : rdoesV H m v L := by
  obtain ⟨xv', H', rfl, h2, h3, rfl⟩ := h
  obtain ⟨p, n, ad, l, cap, rfl⟩ := h2.cells
  exact ⟨p, n, ad, l, cap, H', rfl, h2, h3, rfl⟩
def qLen (q : Option Qu) : Nat := match q with
  | none => 0
  | some x => x.list.length
theorem insL_len2 (a : Nat) (l : List Nat) : (insL a l).length = l.length + 1 := by
  have := loL_le a l
  rw [insL_at, List.length_append, List.length_cons, List.length_take, List.length_drop]
  omega
theorem doesM_len (k : Nat) (q : Option Qu) (arg : Nat) : qLen (doesM k q arg).1 ≤ qLen q + 1 := by
  have h1 := insL_len2 arg
  have h2 : ∀ l, (delL arg l).length ≤ l.length := fun l => List.length_filter_le _ _
  unfold doesM
  repeat' split
  all_goals (unfold qLen; simp_all)
  all_goals first | omega | (apply Nat.le_succ_of_le; apply h2)
theorem mem_insL2 {v x : Nat} : ∀ {ks : List Nat}, x ∈ insL v ks → x = v ∨ x ∈ ks
  | [], h => by
    have : x ∈ [v] := h
    exact .inl (by simpa using this)
  | y :: ks, h => by
    by_cases hy : y < v
    · rw [insL_lt hy] at h
      rcases List.mem_cons.mp h with h | h
      · exact .inr (by rw [h]; simp)
      · rcases mem_insL2 h with h | h
        · exact .inl h
        · exact .inr (List.mem_cons_of_mem _ h)
    · rw [insL_stop hy] at h
      rcases List.mem_cons.mp h with h | h
      · exact .inl h
      · exact .inr h
theorem insL_rising {k : Nat} : ∀ {xs : List Nat}, xs.Pairwise (· < ·) → k ∉ xs → (insL k xs).Pairwise (· < ·)
  | [], _, _ => List.pairwise_singleton _ _
  | x :: xs, hp, hm => by
    obtain ⟨h1, h2⟩ := List.pairwise_cons.mp hp
    by_cases hx : x < k
    · rw [insL_lt hx]
      refine List.pairwise_cons.mpr ⟨fun y hy => ?_, insL_rising h2 fun h => hm (List.mem_cons_of_mem _ h)⟩
      rcases mem_insL2 hy with rfl | hy
      · exact hx
      · exact h1 y hy
    · have hne : x ≠ k := fun e => hm (by rw [e]; simp)
      rw [insL_stop hx]
      refine List.pairwise_cons.mpr ⟨fun y hy => ?_, hp⟩
      rcases List.mem_cons.mp hy with rfl | hy
      · omega
      · have := h1 y hy; omega
def upQ (q : Option Qu) : Prop := ∀ x, q = some x → x.list.Pairwise (· < ·)
theorem doesM_up (k : Nat) {q : Option Qu} (arg : Nat) (h : upQ q) : upQ (doesM k q arg).1 := by
  intro y hy
  cases q with
  | none =>
    unfold doesM at hy
    repeat' split at hy
    all_goals first | (cases hy; done) | (injection hy with hy; rw [← hy]; exact .nil) | skip
    all_goals simp_all
  | some x =>
    have hx := h x rfl
    by_cases h1 : k = 1
    · subst h1
      have e : doesM 1 (some x) arg = if arg ∈ x.list then (some x, 0, 0) else if x.cap ≤ x.list.length then (some x, 40, 2) else (some ⟨x.cap, insL arg x.list⟩, 0, 1) := rfl
      rw [e] at hy
      split at hy
      · injection hy with hy; rw [← hy]; exact hx
      · next hm =>
        split at hy
        · injection hy with hy; rw [← hy]; exact hx
        · injection hy with hy; rw [← hy]; exact insL_rising hx hm
    · by_cases h2 : k = 2
      · subst h2
        have e : doesM 2 (some x) arg = if arg ∈ x.list then (some ⟨x.cap, delL arg x.list⟩, 0, 1) else (some x, 0, 0) := rfl
        rw [e] at hy
        split at hy
        · injection hy with hy; rw [← hy]; exact hx.sublist List.filter_sublist
        · injection hy with hy; rw [← hy]; exact hx
      · unfold doesM at hy
        repeat' split at hy
        all_goals first | (exact absurd rfl h1) | (exact absurd rfl h2) | (injection hy with hy; rw [← hy]; exact hx) | skip
        all_goals first | (cases hy; done) | simp_all
set_option maxHeartbeats 2000000 in
theorem qdoes_t (q : HProp) (qv : Value) (ops : List Opp) (hv : ListR oppV q qv ops) : Tri Tryd.prog 3 #[qv] [q] fun v L => v = .bool true ∧ L = [q] := by
  obtain ⟨oad, ocap, rfl, _, hv⟩ := hv
  by_cases h60 : 60 < ops.length
  · refine Tri.of_body (vs := [_]) Tryd.func3 rfl rfl fun w0 F => ?_
    repeat' (first | refine Ga ?_ | (refine Gb ?_; intro b) | (refine Gd ?_; intro g cap rest hcap) | (refine Gc ?_; intro ad cap) | (refine St.drawa (id := 10) [(0, 0), (1, 0), (2, 1), (3, 1), (4, 0), (5, 1), (6, 3), (7, 0), (8, 0), (9, 0)] [(11, 0), (12, 3)] [6, 12] 10 mixed rfl (by intro w; rfl) (by kernel_rfl) ?_) | (refine St.drawT (id := 11) [(0, 1), (1, 0), (2, 1), (3, 1), (4, 0), (5, 1)] (.pick [(6, 3), (7, 0), (8, 0), (9, 0)] (.pick [(10, 2), (11, 2), (12, 3), (13, 3)] .done (.pick [(11, 2), (10, 2), (12, 3), (13, 3)] .done .nope)) (.pick [(10, 2)] (.pick [(6, 3), (7, 0), (8, 0), (9, 0), (11, 2), (12, 3), (13, 3)] .done (.pick [(11, 2), (6, 3), (7, 0), (8, 0), (9, 0), (12, 3), (13, 3)] .done .nope)) (.pick [(11, 2)] (.pick [(6, 3), (7, 0), (8, 0), (9, 0), (10, 2), (12, 3), (13, 3)] .done (.pick [(10, 2), (6, 3), (7, 0), (8, 0), (9, 0), (12, 3), (13, 3)] .done .nope)) .nope))) [6, 12, 13] mixed (by kernel_rfl) ?_) | (refine St.draw (id := 14) [(0, 0), (1, 1), (2, 0), (3, 3)] [3] mixed (by kernel_rfl) ?_) | apply StD.pick | exact StD.nope  | (refine Gt alive_t ?_; rintro _ _ ⟨rfl, rfl⟩) | (refine Ge ?_ ?_ <;> (intro h; try (exfalso; omega))) | fail)
    all_goals first | (exfalso; omega) | skip
    refine St.d1 Tryd.func3 ⟨_, ⟨rfl, rfl⟩, Ent.go⟩
  · refine Tri.of_body (vs := [_]) Tryd.func3 rfl rfl fun w0 F => ?_
    repeat' (first | refine Ga ?_ | (refine Gb ?_; intro b) | (refine Gd ?_; intro g cap rest hcap) | (refine Gc ?_; intro ad cap) | (refine St.drawa (id := 10) [(0, 0), (1, 0), (2, 1), (3, 1), (4, 0), (5, 1), (6, 3), (7, 0), (8, 0), (9, 0)] [(11, 0), (12, 3)] [6, 12] 10 mixed rfl (by intro w; rfl) (by kernel_rfl) ?_) | (refine St.drawT (id := 11) [(0, 1), (1, 0), (2, 1), (3, 1), (4, 0), (5, 1)] (.pick [(6, 3), (7, 0), (8, 0), (9, 0)] (.pick [(10, 2), (11, 2), (12, 3), (13, 3)] .done (.pick [(11, 2), (10, 2), (12, 3), (13, 3)] .done .nope)) (.pick [(10, 2)] (.pick [(6, 3), (7, 0), (8, 0), (9, 0), (11, 2), (12, 3), (13, 3)] .done (.pick [(11, 2), (6, 3), (7, 0), (8, 0), (9, 0), (12, 3), (13, 3)] .done .nope)) (.pick [(11, 2)] (.pick [(6, 3), (7, 0), (8, 0), (9, 0), (10, 2), (12, 3), (13, 3)] .done (.pick [(10, 2), (6, 3), (7, 0), (8, 0), (9, 0), (12, 3), (13, 3)] .done .nope)) .nope))) [6, 12, 13] mixed (by kernel_rfl) ?_) | (refine St.draw (id := 14) [(0, 0), (1, 1), (2, 0), (3, 3)] [3] mixed (by kernel_rfl) ?_) | apply StD.pick | exact StD.nope  | (refine Gt alive_t ?_; rintro _ _ ⟨rfl, rfl⟩) | (refine Ge ?_ ?_ <;> (intro h; try (exfalso; omega))) | fail)
    all_goals first | (exfalso; omega) | skip
    revert b; intro B
    refine St.conv ?_ (Sub.refl _) (Ent.star_in [])
    refine St.loopY (Lr := ?Lr1) (ι := { x : Nat × Option Qu × HProp × Value × Bool × Nat × Option Addr × Nat × Nat // x.1 ≤ ops.length ∧ (qLen x.2.1 ≤ x.1 ∧ upQ x.2.1) ∧ QuR x.2.2.1 x.2.2.2.1 x.2.1 ∧ XuR x.2.2.1 (.agg ⟨[.bool x.2.2.2.2.1, .int .u64 (x.2.2.2.2.2.1 : Int), .slice x.2.2.2.2.2.2.1 x.2.2.2.2.2.2.2.1 x.2.2.2.2.2.2.2.2]⟩) x.2.1 }) (fun x => ops.length - x.1.1)
      (fun x => [(19, .int .i64 (x.1.1 : Int)), (3, x.1.2.2.2.1)]) (fun x => [x.1.2.2.1, bl B 28 [.bool x.1.2.2.2.2.1, .int .u64 (x.1.2.2.2.2.2.1 : Int), .slice x.1.2.2.2.2.2.2.1 x.1.2.2.2.2.2.2.2.1 x.1.2.2.2.2.2.2.2.2]]) ⟨(0, none, star [], .pointer none, false, 0, none, 0, 0), Nat.zero_le _, ⟨Nat.le_refl _, fun _ h => (by cases h)⟩, rfl, rfl⟩ ?hE1 ?hL1 ?round1
    case hE1 => exact Sub.go
    case hL1 => exact Takes.go
    case round1 =>
      rintro ⟨⟨k, qu, H, pv, xp, xn, xad, xm, xcap⟩, hk, ⟨hql, hup⟩, hqu, hxu⟩ IH; dsimp only at hk hql hup hqu hxu IH ⊢
      by_cases hlt : k < ops.length
      · obtain ⟨bf, o, l, l1, rfl, hrd, hdr, htk⟩ := ListR.at (f := oppV) (sz := 2) (fun _ => rfl) hv k hlt
        generalize ops[k] = op at htk
        obtain ⟨nm, arg⟩ := op
        unfold oppV at htk
        dsimp only at htk
        have hnm := qname_r nm
        obtain ⟨j, hj, e⟩ := nameM_nm nm
        rw [e] at hnm
        have hl1 : ∀ x, qu = some x → x.list.length ≤ 1000 := fun x hx => by subst hx; have : x.list.length ≤ k := hql; omega
        have hdo := does_t j hj H pv qu arg hqu (fun x hx => ⟨hl1 x hx, hup x hx⟩)
        have hup2 := doesM_up j arg hup
        have hlen := doesM_len j qu arg
        have hrd0 := fun H' hx => rdoes_t j hj H' (.agg ⟨[.bool xp, .int .u64 (xn : Int), .slice xad xm xcap]⟩) qu arg hx hl1
        have hrd0 := fun H' hx => (hrd0 H' hx).mono (Q' := rdoesV H' (doesM j qu arg)) (fun _ _ h => h.v)
        generalize doesM j qu arg = r at hdo hlen hrd0 hup2
        obtain ⟨qu2, rc, rv⟩ := r
        unfold doesQ at hdo
        unfold rdoesV at hrd0
        dsimp only at hdo hlen hrd0 hup2
        repeat' (first | refine St.halt 11 ?_ |refine Ga ?_ | (refine Gb ?_; intro b) | (refine Gd ?_; intro g cap rest hcap) | (refine Gc ?_; intro ad cap) | (refine St.drawa (id := 10) [(0, 0), (1, 0), (2, 1), (3, 1), (4, 0), (5, 1), (6, 3), (7, 0), (8, 0), (9, 0)] [(11, 0), (12, 3)] [6, 12] 10 mixed rfl (by intro w; rfl) (by kernel_rfl) ?_) | (refine St.drawT (id := 11) [(0, 1), (1, 0), (2, 1), (3, 1), (4, 0), (5, 1)] (.pick [(6, 3), (7, 0), (8, 0), (9, 0)] (.pick [(10, 2), (11, 2), (12, 3), (13, 3)] .done (.pick [(11, 2), (10, 2), (12, 3), (13, 3)] .done .nope)) (.pick [(10, 2)] (.pick [(6, 3), (7, 0), (8, 0), (9, 0), (11, 2), (12, 3), (13, 3)] .done (.pick [(11, 2), (6, 3), (7, 0), (8, 0), (9, 0), (12, 3), (13, 3)] .done .nope)) (.pick [(11, 2)] (.pick [(6, 3), (7, 0), (8, 0), (9, 0), (10, 2), (12, 3), (13, 3)] .done (.pick [(10, 2), (6, 3), (7, 0), (8, 0), (9, 0), (12, 3), (13, 3)] .done .nope)) .nope))) [6, 12, 13] mixed (by kernel_rfl) ?_) | (refine St.draw (id := 14) [(0, 0), (1, 1), (2, 0), (3, 3)] [3] mixed (by kernel_rfl) ?_) | apply StD.pick | exact StD.nope | refine Gl hnm ?_ | (refine Gt hdo ?_; rintro _ _ ⟨pv2, H2, rfl, hqu2, hmo, rfl⟩) | (refine Ge ?_ ?_ <;> (intro h; try (exfalso; omega))) | fail)
        apply Halt.go
        have hxu2 := hxu.weak hmo
        have hrd := hrd0 H2 hxu2
        revert b; intro Br
        revert b; intro Bo
        apply St.seq
        refine St.drawT0 (L0 := [bl Br 33 [.int .i64 rc, .int .u64 (rv : Int)], bl Bo 30 [.int .i64 nm, .int .u64 (arg : Int)], bl B 28 [.bool xp, .int .u64 (xn : Int), .slice xad xm xcap]]) (id := 11) [(0, 1), (1, 0), (2, 1), (3, 1), (4, 0), (5, 1)] (.pick [(6, 3), (7, 0), (8, 0), (9, 0)] (.pick [(10, 2), (11, 2), (12, 3), (13, 3)] .done (.pick [(11, 2), (10, 2), (12, 3), (13, 3)] .done .nope)) (.pick [(10, 2)] (.pick [(6, 3), (7, 0), (8, 0), (9, 0), (11, 2), (12, 3), (13, 3)] .done (.pick [(11, 2), (6, 3), (7, 0), (8, 0), (9, 0), (12, 3), (13, 3)] .done .nope)) (.pick [(11, 2)] (.pick [(6, 3), (7, 0), (8, 0), (9, 0), (10, 2), (12, 3), (13, 3)] .done (.pick [(10, 2), (6, 3), (7, 0), (8, 0), (9, 0), (12, 3), (13, 3)] .done .nope)) .nope))) [6, 12, 13] mixed (by kernel_rfl) ?_
        repeat' (first | refine St.halt 12 ?_ |refine Ga ?_ | (refine Gb ?_; intro b) | (refine Gd ?_; intro g cap rest hcap) | (refine Gc ?_; intro ad cap) | (refine St.drawa (id := 10) [(0, 0), (1, 0), (2, 1), (3, 1), (4, 0), (5, 1), (6, 3), (7, 0), (8, 0), (9, 0)] [(11, 0), (12, 3)] [6, 12] 10 mixed rfl (by intro w; rfl) (by kernel_rfl) ?_) | (refine St.drawT (id := 11) [(0, 1), (1, 0), (2, 1), (3, 1), (4, 0), (5, 1)] (.pick [(6, 3), (7, 0), (8, 0), (9, 0)] (.pick [(10, 2), (11, 2), (12, 3), (13, 3)] .done (.pick [(11, 2), (10, 2), (12, 3), (13, 3)] .done .nope)) (.pick [(10, 2)] (.pick [(6, 3), (7, 0), (8, 0), (9, 0), (11, 2), (12, 3), (13, 3)] .done (.pick [(11, 2), (6, 3), (7, 0), (8, 0), (9, 0), (12, 3), (13, 3)] .done .nope)) (.pick [(11, 2)] (.pick [(6, 3), (7, 0), (8, 0), (9, 0), (10, 2), (12, 3), (13, 3)] .done (.pick [(10, 2), (6, 3), (7, 0), (8, 0), (9, 0), (12, 3), (13, 3)] .done .nope)) .nope))) [6, 12, 13] mixed (by kernel_rfl) ?_) | (refine St.draw (id := 14) [(0, 0), (1, 1), (2, 0), (3, 3)] [3] mixed (by kernel_rfl) ?_) | apply StD.pick | exact StD.nope | refine Gl hnm ?_ | (refine Gt hrd ?_; rintro _ _ ⟨yp, yn, yad, ym, ycap, H3, rfl, hxu3, hmo3, rfl⟩) | (refine Ge ?_ ?_ <;> (intro h; try (exfalso; omega))) | fail)
        all_goals (
          apply Halt.go
          have hqu3 := hqu2.weak hmo3
          have hqo := (hqu.weak hmo).weak hmo3
          have hxo := hxu2.weak hmo3
          have hs1 := lsame_r H3 pv2 _ qu2 qu2 hqu3 hxu3 (fun y hy => by subst hy; have : y.list.length ≤ _ := hlen; omega)
          have hs2 := lsame_r H3 pv _ qu qu hqo hxo (fun y hy => by have := hl1 y hy; omega)
          rw [qEq_refl] at hs1 hs2
          have hne : ¬((!(rc == rc && ((rv : Int) == (rv : Int) && true))) = true) := by simp
          repeat' (first | refine Ga ?_ | (refine Gb ?_; intro b) | (refine Gd ?_; intro g cap rest hcap) | (refine Gc ?_; intro ad cap) | (refine St.drawa (id := 10) [(0, 0), (1, 0), (2, 1), (3, 1), (4, 0), (5, 1), (6, 3), (7, 0), (8, 0), (9, 0)] [(11, 0), (12, 3)] [6, 12] 10 mixed rfl (by intro w; rfl) (by kernel_rfl) ?_) | (refine St.drawT (id := 11) [(0, 1), (1, 0), (2, 1), (3, 1), (4, 0), (5, 1)] (.pick [(6, 3), (7, 0), (8, 0), (9, 0)] (.pick [(10, 2), (11, 2), (12, 3), (13, 3)] .done (.pick [(11, 2), (10, 2), (12, 3), (13, 3)] .done .nope)) (.pick [(10, 2)] (.pick [(6, 3), (7, 0), (8, 0), (9, 0), (11, 2), (12, 3), (13, 3)] .done (.pick [(11, 2), (6, 3), (7, 0), (8, 0), (9, 0), (12, 3), (13, 3)] .done .nope)) (.pick [(11, 2)] (.pick [(6, 3), (7, 0), (8, 0), (9, 0), (10, 2), (12, 3), (13, 3)] .done (.pick [(10, 2), (6, 3), (7, 0), (8, 0), (9, 0), (12, 3), (13, 3)] .done .nope)) .nope))) [6, 12, 13] mixed (by kernel_rfl) ?_) | (refine St.draw (id := 14) [(0, 0), (1, 1), (2, 0), (3, 3)] [3] mixed (by kernel_rfl) ?_) | apply StD.pick | exact StD.nope | refine Gl hs1 ?_ | refine Gl hs2 ?_ | (refine Ge ?_ ?_ <;> (intro h; try (exfalso; first | omega | contradiction))) | fail)
          all_goals first | (exfalso; simp_all; done) | skip
          refine IH ⟨(k + 1, qu2, H3, pv2, yp, yn, yad, ym, ycap), hlt, ⟨by dsimp only; omega, hup2⟩, hqu3, hxu3⟩ (by show ops.length - (k + 1) < ops.length - k; omega) ?_ ?_
          · exact Sub.go
          · exact Ent.go)
      · obtain rfl : k = ops.length := by omega
        clear IH
        repeat' (first | refine Ga ?_ | (refine Gb ?_; intro b) | (refine Gd ?_; intro g cap rest hcap) | (refine Gc ?_; intro ad cap) | (refine St.drawa (id := 10) [(0, 0), (1, 0), (2, 1), (3, 1), (4, 0), (5, 1), (6, 3), (7, 0), (8, 0), (9, 0)] [(11, 0), (12, 3)] [6, 12] 10 mixed rfl (by intro w; rfl) (by kernel_rfl) ?_) | (refine St.drawT (id := 11) [(0, 1), (1, 0), (2, 1), (3, 1), (4, 0), (5, 1)] (.pick [(6, 3), (7, 0), (8, 0), (9, 0)] (.pick [(10, 2), (11, 2), (12, 3), (13, 3)] .done (.pick [(11, 2), (10, 2), (12, 3), (13, 3)] .done .nope)) (.pick [(10, 2)] (.pick [(6, 3), (7, 0), (8, 0), (9, 0), (11, 2), (12, 3), (13, 3)] .done (.pick [(11, 2), (6, 3), (7, 0), (8, 0), (9, 0), (12, 3), (13, 3)] .done .nope)) (.pick [(11, 2)] (.pick [(6, 3), (7, 0), (8, 0), (9, 0), (10, 2), (12, 3), (13, 3)] .done (.pick [(10, 2), (6, 3), (7, 0), (8, 0), (9, 0), (12, 3), (13, 3)] .done .nope)) .nope))) [6, 12, 13] mixed (by kernel_rfl) ?_) | (refine St.draw (id := 14) [(0, 0), (1, 1), (2, 0), (3, 3)] [3] mixed (by kernel_rfl) ?_) | apply StD.pick | exact StD.nope  | (refine Ge ?_ ?_ <;> (intro h; try (exfalso; omega))) | fail)
        refine St.d1 Tryd.func3 ⟨_, ⟨rfl, rfl⟩, Ent.go⟩
end Go.Proofs.YtalgmlhcbilicaaDoor
