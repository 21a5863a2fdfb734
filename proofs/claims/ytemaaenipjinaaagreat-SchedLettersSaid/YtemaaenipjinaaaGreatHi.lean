/-
  Package scribe: New, Done, Ask, Tell; Help, Scribe sealed.
-/
import Derived.Test.YtemaaenipjinaaaGreatHh
namespace Go.Proofs.YtemaaenipjinaaaGreat
set_option maxRecDepth 100000
theorem St.rowLe {P : Program} {C : Cx} {k : List Item} {E : Env} {ad : Option Addr} {cap e sz n : Nat} {xs : List Value} {L : List HProp} (h : n ≤ cap → St P C k E (Row (.slice ad n cap) e sz n xs :: L)) : St P C k E (Row (.slice ad n cap) e sz n xs :: L) := by
  unfold St at *
  intro a w ha hs ho
  have hs0 := hs
  obtain ⟨h1, h2, hd, hor, hrow, hL⟩ := sat_cons.1 hs
  unfold Row at hrow
  obtain ⟨hl, hr⟩ := hrow
  refine h ?_ a w ha hs0 ho
  rcases hr with ⟨hv, hn⟩ | ⟨g, cap', cur, hv, hc, _⟩
  · omega
  · injection hv with _ _ hv3
    omega
theorem take_ents (l : List (Int × Nat)) (k : Nat) : (l.flatMap entV).take (k * 2) = (l.take k).flatMap entV := by
  induction l generalizing k with
  | nil => simp
  | cons x l ih =>
    cases k with
    | zero => simp
    | succ k =>
      rw [List.take_succ_cons, List.flatMap_cons, List.flatMap_cons, ← ih k, show (k + 1) * 2 = k * 2 + 2 by omega]
      rfl
theorem u64_nn (x : Int) : 0 ≤ IntKind.u64.wrap x := by
  simp only [IntKind.wrap, IntKind.bits, IntKind.signed]
  simp
  omega
theorem clone_pre (ad : Option Addr) (cap n k : Nat) (l : List (Int × Nat)) (hl : l.length = n) (hk : k ≤ n) (hn : n ≤ 1000000000) : Tri Tryz.prog 217 #[.slice ad k cap] [Row (.slice ad n cap) 314 2 n (l.flatMap entV)]
    fun r L => ∃ ad' cap', r = .slice ad' k cap' ∧ L = [Row (.slice ad n cap) 314 2 n (l.flatMap entV), Row (.slice ad' k cap') 314 2 k ((l.take k).flatMap entV)] := by
  have hone := entV_one (l.take k)
  refine Tri.of_body (vs := [_]) Tryz.func217 rfl rfl fun w0 F => ?_
  refine St.rowC (fun hv h0 hx => ?_) (fun g lcp rest hv hrf => ?_)
  · injection hv with hv1 hv2 hv3
    subst hv1 hv3
    obtain rfl : k = 0 := by omega
    subst h0
    rw [hx]
    repeat' (first | refine Ga ?_ | (refine Gb ?_; intro b) | (refine Gd ?_; intro g cap rest hcap) | (refine Gc ?_; intro ad cap)  | (refine Ge ?_ ?_ <;> (intro h; try (exfalso; omega))) | fail)
    refine St.d1 Tryz.func217 ⟨_, ⟨none, 0, rfl, rfl⟩, ?_⟩
    exact Ent.trans (Ent.row_nil 314 2) (Ent.trans (Ent.row_nil 314 2) Ent.go)
  · injection hv with hv1 hv2 hv3
    subst hv1 hv3
    have hlen := hrf.len
    have htk : TakeN (k * 2) (l.flatMap entV ++ rest) ((l.take k).flatMap entV) := by
      rw [← take_ents, ← List.take_append_of_le_length (l₂ := rest) (by omega)]
      exact TakeN.of (by rw [List.length_append]; omega)
    repeat' (first | refine Ga ?_ | (refine Gb ?_; intro b) | (refine Gd ?_; intro g cap rest hcap) | (refine Gc ?_; intro ad cap)  | (refine Ge ?_ ?_ <;> (intro h; try (exfalso; omega))) | fail)
    refine St.d1 Tryz.func217 ⟨_, ⟨_, _, rfl, rfl⟩, ?_⟩
    refine Ent.trans (Ent.of_take (p := bl g 314 (l.flatMap entV ++ rest)) Take.go) (Ent.trans (Ent.rowF hrf) Ent.go)
/-- a Scribe's own cells -/
def scV (c : Cfg) (lv : Value) (s : Sm) : List Value := c.m ++ [.int .i64 s.who, .int .u64 (s.seq : Int), lv, .int .i64 (s.done : Int)]
theorem take_s (c : Cfg) (lv : Value) (s : Sm) : TakeN 24 (scV c lv s) c.m := TakeN.app c.m _
def scL (S : Nat) (c : Cfg) (s : Sm) (a : Option Addr × Nat) : List HProp := [bl S 321 (scV c (.slice a.1 s.list.length a.2) s), Row (.slice a.1 s.list.length a.2) 314 2 s.list.length (s.list.flatMap entV)]
def ScE (S : Nat) (c : Cfg) (s : Sm) : HProp := ex (scL S c s)
theorem Ent.sc {S : Nat} {c : Cfg} {s : Sm} {ad : Option Addr} {cap : Nat} {L : List HProp} : Ent (bl S 321 (scV c (.slice ad s.list.length cap) s) :: Row (.slice ad s.list.length cap) 314 2 s.list.length (s.list.flatMap entV) :: L) (ScE S c s :: L) := Ent.ex_in (Ls := scL S c s) (ad, cap)
set_option maxHeartbeats 1000000 in
theorem snew_t (c : Cfg) (hc : Small c) (who : Int) (seq : Nat) (list : List (Int × Nat)) (hl : list.length ≤ 1000000) (ad : Option Addr) (cap : Nat) : Tri Tryz.prog 189 #[.agg ⟨c.m⟩, .int .i64 who, .int .u64 (seq : Int), .slice ad list.length cap] [Row (.slice ad list.length cap) 314 2 list.length (list.flatMap entV)]
    fun r L => ∃ S, r = .pointer (some ⟨S, 0, none⟩) ∧ L = [ScE S c (Sm.new c who seq list)] := by
  have hcp := cap_r c hc c.fr rfl
  have hcap := hc.cap
  generalize hk : min list.length c.cap.toNat = k
  have hkl : (list.take k).length = k := by rw [List.length_take]; omega
  have e0 : Sm.new c who seq list = ⟨who, seq, list.take k, 0⟩ := by unfold Sm.new; rw [hk]
  rw [e0]
  have hcl := clone_pre ad cap list.length k list rfl (by omega) (by omega)
  have shut : ∀ {S : Nat} {ad : Option Addr} {cap : Nat} {L : List HProp}, Ent (bl S 321 (scV c (.slice ad k cap) ⟨who, seq, list.take k, 0⟩) :: Row (.slice ad k cap) 314 2 k ((list.take k).flatMap entV) :: L) (ScE S c ⟨who, seq, list.take k, 0⟩ :: L) := fun {S ad cap L} => by
    have := Ent.sc (S := S) (c := c) (s := ⟨who, seq, list.take k, 0⟩) (ad := ad) (cap := cap) (L := L)
    dsimp only at this
    rw [hkl] at this
    exact this
  have ek : (if c.cap < (list.length : Int) then c.cap else (list.length : Int)).toNat = k := by split <;> omega
  rw [← ek] at hcl shut ⊢
  refine Tri.of_body (vs := [_, _, _, _]) Tryz.func189 rfl rfl fun w0 F => ?_
  refine St.rowLe fun hle => ?_
  repeat' (first | refine Ga ?_ | (refine Gb ?_; intro b) | (refine Gd ?_; intro g cap rest hcap) | (refine Gc ?_; intro ad cap) | (refine St.draw (id := 1) [(0, 1), (1, 0), (2, 0), (3, 0), (4, 0), (5, 0), (6, 1), (7, 1), (8, 0), (9, 0), (10, 2), (11, 0), (12, 2), (13, 0)] [] mixed (by kernel_rfl) ?_)| refine Gl hcp ?_ | (refine Gt hcl ?_; rintro _ _ ⟨ad2, cap2, rfl, rfl⟩) | (refine Gu hcl ?_; rintro _ _ ⟨ad2, cap2, rfl, rfl⟩; refine ⟨Ent.go, ?_⟩) | (refine Ge ?_ ?_ <;> (intro h; try (exfalso; omega))) | fail)
  refine St.d1 Tryz.func189 ⟨_, ⟨_, rfl, rfl⟩, ?_⟩
  refine Ent.trans ?_ (shut (ad := ad2) (cap := cap2))
  exact Ent.go
/-- it is written -/
theorem sdone_r (S : Nat) (c : Cfg) (s : Sm) (hl : s.list.length ≤ 1000000) (_hd : s.done ≤ 1000010) : RTri Tryz.prog 140 #[.pointer (some ⟨S, 0, none⟩)] [ScE S c s] (.bool s.over) := by
  refine RTri.of_exact fun W0 hs => ?_
  obtain ⟨⟨lad, lcap⟩, hs⟩ := sat_ex hs
  have hH := RdC.exact hs (ReadsC.here RdC.bl)
  refine Tri.of_body (vs := [_]) Tryz.func140 rfl rfl fun w0 F => ?_
  repeat' (first | refine Ga ?_ | (refine Gb ?_; intro b) | (refine Gd ?_; intro g cap rest hcap) | (refine Gc ?_; intro ad cap) | (refine St.draw (id := 1) [(0, 0), (1, 0), (2, 0), (3, 1), (4, 0), (5, 0), (6, 0), (7, 1), (8, 0), (9, 0), (10, 0), (11, 0)] [] mixed (by kernel_rfl) ?_) | (refine Ge ?_ ?_ <;> (intro h; try (exfalso; omega))) | fail)
  (first | refine St.dn Tryz.func140 ⟨?_, rfl⟩ Ent.go | refine St.fl Tryz.func140 ⟨?_, rfl⟩ Ent.go)
  refine congrArg Value.bool ?_
  unfold Sm.over
  rw [decide_eq_decide]
  omega
set_option maxHeartbeats 1000000 in
theorem sask_r (S : Nat) (c : Cfg) (hc : Small c) (s : Sm) (hl : s.list.length ≤ 1000000) (hd : s.done ≤ 1000010) : RTri Tryz.prog 329 #[.pointer (some ⟨S, 0, none⟩)] [ScE S c s] (.tuple ⟨[.agg ⟨(s.ask c).1.v⟩, .bool (s.ask c).2]⟩) := by
  have hdo := sdone_r S c s hl hd
  refine RTri.of_exact fun W0 hs => ?_
  have hdo := hdo.of_read (p := exact' W0) (fun k hk => by rw [show k = hpOf W0 from hk]; exact hs)
  obtain ⟨⟨lad, lcap⟩, hs⟩ := sat_ex hs
  have hH := RdC.exact hs (ReadsC.here RdC.bl)
  have htk := take_s c (.slice lad s.list.length lcap) s
  unfold Sm.over at hdo
  unfold Sm.ask
  by_cases h1 : s.list.length + 1 < s.done
  · rw [if_pos h1]
    rw [decide_eq_true h1] at hdo
    unfold mop MOp.v
    refine Tri.of_body (vs := [_]) Tryz.func329 rfl rfl fun w0 F => ?_
    repeat' (first | refine Ga ?_ | (refine Gb ?_; intro b) | (refine Gd ?_; intro g cap rest hcap) | (refine Gc ?_; intro ad cap) | (refine St.draw (id := 5) [(0, 0), (1, 0), (2, 0), (3, 1), (4, 0), (5, 0), (6, 0), (7, 1), (8, 0), (9, 0), (10, 0)] [] mixed (by kernel_rfl) ?_) | (refine St.draw (id := 6) [(0, 0), (1, 0), (2, 0), (3, 1), (4, 0), (5, 0), (6, 0), (7, 1), (8, 0), (9, 1), (10, 2), (11, 3)] [11] mixed (by kernel_rfl) ?_) | (refine St.drawT (id := 7) [(0, 0), (1, 0), (2, 0), (3, 1), (4, 0), (5, 0), (6, 0), (7, 1), (8, 0), (9, 0), (10, 0), (11, 1), (12, 1), (13, 0), (15, 0), (19, 0)] (.pick [(14, 2)] (.pick [(16, 2), (17, 0), (18, 0), (20, 3), (21, 0), (22, 3)] .done (.pick [(20, 3), (16, 2), (17, 0), (18, 0), (21, 0), (22, 3)] .done .nope)) (.pick [(16, 2), (17, 0)] (.pick [(14, 2), (18, 0), (20, 3), (21, 0), (22, 3)] .done (.pick [(20, 3), (14, 2), (18, 0), (21, 0), (22, 3)] .done .nope)) (.pick [(20, 3)] (.pick [(14, 2), (16, 2), (17, 0), (18, 0), (21, 0), (22, 3)] .done (.pick [(16, 2), (17, 0), (14, 2), (18, 0), (21, 0), (22, 3)] .done .nope)) .nope))) [20, 22] mixed (by kernel_rfl) ?_) | (refine St.draw (id := 8) [(0, 0), (1, 0), (2, 0), (3, 1), (4, 0), (5, 0), (6, 0), (7, 1), (8, 0), (9, 0), (10, 0)] [] mixed (by kernel_rfl) ?_) | (refine St.drawT (id := 9) [(0, 0), (1, 0), (2, 0), (3, 1), (4, 0), (5, 0), (6, 0), (7, 1), (8, 1), (9, 0), (10, 0), (11, 0), (16, 0)] (.pick [(12, 2), (13, 0), (14, 0), (15, 0), (17, 3), (18, 0), (19, 3)] .done (.pick [(17, 3), (12, 2), (13, 0), (14, 0), (15, 0), (18, 0), (19, 3)] .done .nope)) [17, 19] mixed (by kernel_rfl) ?_) | (refine St.drawT (id := 2) [(0, 0), (1, 0), (2, 0), (3, 1), (4, 0), (5, 0), (6, 0), (7, 1), (8, 1), (9, 0), (10, 0), (11, 0), (14, 0)] (.pick [(12, 2), (13, 0), (15, 3), (16, 0), (17, 3)] .done (.pick [(15, 3), (12, 2), (13, 0), (16, 0), (17, 3)] .done .nope)) [15, 17] mixed (by kernel_rfl) ?_) | apply StD.pick | exact StD.nope | refine Gl hdo ?_ | (apply Zq; rfl; exact Ob; exact Ent.go) | (refine Ge ?_ ?_ <;> (intro h; try (exfalso; omega))) | fail)
    all_goals refine St.d1 Tryz.func329 ⟨_, ⟨rfl, rfl⟩, Ent.go⟩
  rw [if_neg h1]
  rw [decide_eq_false h1] at hdo
  by_cases h2 : s.done < s.list.length
  · rw [if_pos h2]
    have hsw := hs.swap
    obtain ⟨g, cap, rest, hv, hs2⟩ := sat_rowF (by omega) hsw
    injection hv with hv1 hv2 hv3
    subst hv1 hv3
    have hG := RdC.exact hs2 (ReadsC.here RdC.bl)
    have ha := at_r c hc 6 s.who s.done
    have e0 : s.list.getD s.done (0, 0) = s.list[s.done] := by rw [List.getD_eq_getElem?_getD, List.getElem?_eq_getElem h2]; rfl
    have hd2 : DropN ((s.done : Int).toNat * 2) (s.list.flatMap entV ++ rest) (entV s.list[s.done] ++ ((s.list.drop (s.done + 1)).flatMap entV ++ rest)) := by
      rw [← List.append_assoc, Int.toNat_natCast]; exact (DropN.flat entV_len h2).more rest
    rw [e0]
    have htke : TakeN 2 (entV s.list[s.done] ++ ((s.list.drop (s.done + 1)).flatMap entV ++ rest)) (entV s.list[s.done]) := TakeN.app (entV s.list[s.done]) _
    generalize s.list[s.done] = e at hd2 htke ⊢
    obtain ⟨ek, ev⟩ := e
    have e1 : ((IntKind.u64.wrap ek).toNat : Int) = IntKind.u64.wrap ek := Int.toNat_of_nonneg (u64_nn ek)
    unfold MOp.v
    dsimp only
    rw [e1]
    refine Tri.of_body (vs := [_]) Tryz.func329 rfl rfl fun w0 F => ?_
    repeat' (first | refine Ga ?_ | (refine Gb ?_; intro b) | (refine Gd ?_; intro g cap rest hcap) | (refine Gc ?_; intro ad cap) | (refine St.draw (id := 5) [(0, 0), (1, 0), (2, 0), (3, 1), (4, 0), (5, 0), (6, 0), (7, 1), (8, 0), (9, 0), (10, 0)] [] mixed (by kernel_rfl) ?_) | (refine St.draw (id := 6) [(0, 0), (1, 0), (2, 0), (3, 1), (4, 0), (5, 0), (6, 0), (7, 1), (8, 0), (9, 1), (10, 2), (11, 3)] [11] mixed (by kernel_rfl) ?_) | (refine St.drawT (id := 7) [(0, 0), (1, 0), (2, 0), (3, 1), (4, 0), (5, 0), (6, 0), (7, 1), (8, 0), (9, 0), (10, 0), (11, 1), (12, 1), (13, 0), (15, 0), (19, 0)] (.pick [(14, 2)] (.pick [(16, 2), (17, 0), (18, 0), (20, 3), (21, 0), (22, 3)] .done (.pick [(20, 3), (16, 2), (17, 0), (18, 0), (21, 0), (22, 3)] .done .nope)) (.pick [(16, 2), (17, 0)] (.pick [(14, 2), (18, 0), (20, 3), (21, 0), (22, 3)] .done (.pick [(20, 3), (14, 2), (18, 0), (21, 0), (22, 3)] .done .nope)) (.pick [(20, 3)] (.pick [(14, 2), (16, 2), (17, 0), (18, 0), (21, 0), (22, 3)] .done (.pick [(16, 2), (17, 0), (14, 2), (18, 0), (21, 0), (22, 3)] .done .nope)) .nope))) [20, 22] mixed (by kernel_rfl) ?_) | (refine St.draw (id := 8) [(0, 0), (1, 0), (2, 0), (3, 1), (4, 0), (5, 0), (6, 0), (7, 1), (8, 0), (9, 0), (10, 0)] [] mixed (by kernel_rfl) ?_) | (refine St.drawT (id := 9) [(0, 0), (1, 0), (2, 0), (3, 1), (4, 0), (5, 0), (6, 0), (7, 1), (8, 1), (9, 0), (10, 0), (11, 0), (16, 0)] (.pick [(12, 2), (13, 0), (14, 0), (15, 0), (17, 3), (18, 0), (19, 3)] .done (.pick [(17, 3), (12, 2), (13, 0), (14, 0), (15, 0), (18, 0), (19, 3)] .done .nope)) [17, 19] mixed (by kernel_rfl) ?_) | (refine St.drawT (id := 2) [(0, 0), (1, 0), (2, 0), (3, 1), (4, 0), (5, 0), (6, 0), (7, 1), (8, 1), (9, 0), (10, 0), (11, 0), (14, 0)] (.pick [(12, 2), (13, 0), (15, 3), (16, 0), (17, 3)] .done (.pick [(15, 3), (12, 2), (13, 0), (16, 0), (17, 3)] .done .nope)) [15, 17] mixed (by kernel_rfl) ?_) | apply StD.pick | exact StD.nope | refine Gl hdo ?_ | refine Gl ha ?_ | (apply Zq; rfl; exact Ob; exact Ent.go) | (refine Ge ?_ ?_ <;> (intro h; try (exfalso; omega))) | fail)
    all_goals refine St.d1 Tryz.func329 ⟨_, ⟨rfl, rfl⟩, Ent.go⟩
  rw [if_neg h2]
  by_cases h3 : s.done = s.list.length
  · rw [if_pos h3]
    have ha := at_r c hc 5 s.who 0
    unfold MOp.v
    refine Tri.of_body (vs := [_]) Tryz.func329 rfl rfl fun w0 F => ?_
    repeat' (first | refine Ga ?_ | (refine Gb ?_; intro b) | (refine Gd ?_; intro g cap rest hcap) | (refine Gc ?_; intro ad cap) | (refine St.draw (id := 5) [(0, 0), (1, 0), (2, 0), (3, 1), (4, 0), (5, 0), (6, 0), (7, 1), (8, 0), (9, 0), (10, 0)] [] mixed (by kernel_rfl) ?_) | (refine St.draw (id := 6) [(0, 0), (1, 0), (2, 0), (3, 1), (4, 0), (5, 0), (6, 0), (7, 1), (8, 0), (9, 1), (10, 2), (11, 3)] [11] mixed (by kernel_rfl) ?_) | (refine St.drawT (id := 7) [(0, 0), (1, 0), (2, 0), (3, 1), (4, 0), (5, 0), (6, 0), (7, 1), (8, 0), (9, 0), (10, 0), (11, 1), (12, 1), (13, 0), (15, 0), (19, 0)] (.pick [(14, 2)] (.pick [(16, 2), (17, 0), (18, 0), (20, 3), (21, 0), (22, 3)] .done (.pick [(20, 3), (16, 2), (17, 0), (18, 0), (21, 0), (22, 3)] .done .nope)) (.pick [(16, 2), (17, 0)] (.pick [(14, 2), (18, 0), (20, 3), (21, 0), (22, 3)] .done (.pick [(20, 3), (14, 2), (18, 0), (21, 0), (22, 3)] .done .nope)) (.pick [(20, 3)] (.pick [(14, 2), (16, 2), (17, 0), (18, 0), (21, 0), (22, 3)] .done (.pick [(16, 2), (17, 0), (14, 2), (18, 0), (21, 0), (22, 3)] .done .nope)) .nope))) [20, 22] mixed (by kernel_rfl) ?_) | (refine St.draw (id := 8) [(0, 0), (1, 0), (2, 0), (3, 1), (4, 0), (5, 0), (6, 0), (7, 1), (8, 0), (9, 0), (10, 0)] [] mixed (by kernel_rfl) ?_) | (refine St.drawT (id := 9) [(0, 0), (1, 0), (2, 0), (3, 1), (4, 0), (5, 0), (6, 0), (7, 1), (8, 1), (9, 0), (10, 0), (11, 0), (16, 0)] (.pick [(12, 2), (13, 0), (14, 0), (15, 0), (17, 3), (18, 0), (19, 3)] .done (.pick [(17, 3), (12, 2), (13, 0), (14, 0), (15, 0), (18, 0), (19, 3)] .done .nope)) [17, 19] mixed (by kernel_rfl) ?_) | (refine St.drawT (id := 2) [(0, 0), (1, 0), (2, 0), (3, 1), (4, 0), (5, 0), (6, 0), (7, 1), (8, 1), (9, 0), (10, 0), (11, 0), (14, 0)] (.pick [(12, 2), (13, 0), (15, 3), (16, 0), (17, 3)] .done (.pick [(15, 3), (12, 2), (13, 0), (16, 0), (17, 3)] .done .nope)) [15, 17] mixed (by kernel_rfl) ?_) | apply StD.pick | exact StD.nope | refine Gl hdo ?_ | refine Gl ha ?_ | (apply Zq; rfl; exact Ob; exact Ent.go) | (refine Ge ?_ ?_ <;> (intro h; try (exfalso; omega))) | fail)
    all_goals first | (exfalso; omega) | skip
    all_goals refine St.d1 Tryz.func329 ⟨_, ⟨rfl, rfl⟩, Ent.go⟩
  · rw [if_neg h3]
    have ha := at_r c hc 4 s.who 0
    unfold MOp.v
    refine Tri.of_body (vs := [_]) Tryz.func329 rfl rfl fun w0 F => ?_
    repeat' (first | refine Ga ?_ | (refine Gb ?_; intro b) | (refine Gd ?_; intro g cap rest hcap) | (refine Gc ?_; intro ad cap) | (refine St.draw (id := 5) [(0, 0), (1, 0), (2, 0), (3, 1), (4, 0), (5, 0), (6, 0), (7, 1), (8, 0), (9, 0), (10, 0)] [] mixed (by kernel_rfl) ?_) | (refine St.draw (id := 6) [(0, 0), (1, 0), (2, 0), (3, 1), (4, 0), (5, 0), (6, 0), (7, 1), (8, 0), (9, 1), (10, 2), (11, 3)] [11] mixed (by kernel_rfl) ?_) | (refine St.drawT (id := 7) [(0, 0), (1, 0), (2, 0), (3, 1), (4, 0), (5, 0), (6, 0), (7, 1), (8, 0), (9, 0), (10, 0), (11, 1), (12, 1), (13, 0), (15, 0), (19, 0)] (.pick [(14, 2)] (.pick [(16, 2), (17, 0), (18, 0), (20, 3), (21, 0), (22, 3)] .done (.pick [(20, 3), (16, 2), (17, 0), (18, 0), (21, 0), (22, 3)] .done .nope)) (.pick [(16, 2), (17, 0)] (.pick [(14, 2), (18, 0), (20, 3), (21, 0), (22, 3)] .done (.pick [(20, 3), (14, 2), (18, 0), (21, 0), (22, 3)] .done .nope)) (.pick [(20, 3)] (.pick [(14, 2), (16, 2), (17, 0), (18, 0), (21, 0), (22, 3)] .done (.pick [(16, 2), (17, 0), (14, 2), (18, 0), (21, 0), (22, 3)] .done .nope)) .nope))) [20, 22] mixed (by kernel_rfl) ?_) | (refine St.draw (id := 8) [(0, 0), (1, 0), (2, 0), (3, 1), (4, 0), (5, 0), (6, 0), (7, 1), (8, 0), (9, 0), (10, 0)] [] mixed (by kernel_rfl) ?_) | (refine St.drawT (id := 9) [(0, 0), (1, 0), (2, 0), (3, 1), (4, 0), (5, 0), (6, 0), (7, 1), (8, 1), (9, 0), (10, 0), (11, 0), (16, 0)] (.pick [(12, 2), (13, 0), (14, 0), (15, 0), (17, 3), (18, 0), (19, 3)] .done (.pick [(17, 3), (12, 2), (13, 0), (14, 0), (15, 0), (18, 0), (19, 3)] .done .nope)) [17, 19] mixed (by kernel_rfl) ?_) | (refine St.drawT (id := 2) [(0, 0), (1, 0), (2, 0), (3, 1), (4, 0), (5, 0), (6, 0), (7, 1), (8, 1), (9, 0), (10, 0), (11, 0), (14, 0)] (.pick [(12, 2), (13, 0), (15, 3), (16, 0), (17, 3)] .done (.pick [(15, 3), (12, 2), (13, 0), (16, 0), (17, 3)] .done .nope)) [15, 17] mixed (by kernel_rfl) ?_) | apply StD.pick | exact StD.nope | refine Gl hdo ?_ | refine Gl ha ?_ | (apply Zq; rfl; exact Ob; exact Ent.go) | (refine Ge ?_ ?_ <;> (intro h; try (exfalso; omega))) | fail)
    all_goals first | (exfalso; omega) | skip
    all_goals refine St.d1 Tryz.func329 ⟨_, ⟨rfl, rfl⟩, Ent.go⟩
theorem stell_t (S : Nat) (c : Cfg) (s : Sm) (hl : s.list.length ≤ 1000000) (hd : s.done ≤ 1000010) (o : Out) : Tri Tryz.prog 330 #[.pointer (some ⟨S, 0, none⟩), .agg ⟨o.v⟩] [ScE S c s] fun r L => r = .tuple ⟨[]⟩ ∧ L = [ScE S c s.tell] := by
  have hdo := sdone_r S c s hl hd
  refine Tri.ex_out ?_
  rintro ⟨lad, lcap⟩
  have hdo := hdo.ent (M := scL S c s (lad, lcap)) Ent.sc
  unfold scL at hdo ⊢
  unfold Sm.over at hdo
  unfold Sm.tell
  dsimp only at hdo ⊢
  by_cases h1 : s.list.length + 1 < s.done
  · rw [if_pos h1]
    rw [decide_eq_true h1] at hdo
    refine Tri.of_body (vs := [_, _]) Tryz.func330 rfl rfl fun w0 F => ?_
    repeat' (first | refine Ga ?_ | (refine Gb ?_; intro b) | (refine Gd ?_; intro g cap rest hcap) | (refine Gc ?_; intro ad cap) | refine Gl hdo ?_ | (refine Ge ?_ ?_ <;> (intro h; try (exfalso; omega))) | fail)
    refine St.f1 Tryz.func330 ⟨_, ⟨rfl, rfl⟩, ?_⟩
    exact Ent.trans Ent.go (Ent.sc (ad := lad) (cap := lcap) (s := s))
  · rw [if_neg h1]
    rw [decide_eq_false h1] at hdo
    refine Tri.of_body (vs := [_, _]) Tryz.func330 rfl rfl fun w0 F => ?_
    repeat' (first | refine Ga ?_ | (refine Gb ?_; intro b) | (refine Gd ?_; intro g cap rest hcap) | (refine Gc ?_; intro ad cap) | refine Gl hdo ?_ | (refine Ge ?_ ?_ <;> (intro h; try (exfalso; omega))) | fail)
    refine St.f1 Tryz.func330 ⟨_, ⟨rfl, rfl⟩, ?_⟩
    exact Ent.trans Ent.go (Ent.sc (ad := lad) (cap := lcap) (s := { s with done := s.done + 1 }))
end Go.Proofs.YtemaaenipjinaaaGreat
