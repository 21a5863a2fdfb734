/-
  Packages tumblerlaw16, tumblerref16: few, as, Same. Package tumblerlaw16: alive's numbers.
-/
import Derived.Test.YtemaaenipjinaaaGreatSl
section
namespace Go.Proofs.YtemaaenipjinaaaGreat
set_option maxRecDepth 100000
def short16 (calls : List (List Jb)) : Bool := calls.all fun l => decide (l.length ≤ 4)
def few16B (c : Cfg) (progs : Progs) (calls : List (List Jb)) (n : Nat) : Bool := short14 progs && (short16 calls && (decide (c.fuel ≤ 100) && (decide (progs.length ≤ 8) && (decide (calls.length ≤ 8) && decide (n ≤ 600)))))
theorem CallsG.of {p q : HProp} {v : Value} {calls : List (List Jb)} (h : CallsG q v calls) (hq : ∀ {b : Nat} {l : List Value}, RdC q b l → RdC p b l) : CallsG p v calls := by
  obtain ⟨pad, pcap, h1, h2, h3⟩ := h
  refine ⟨pad, pcap, h1, h2, fun i hi => ?_⟩
  obtain ⟨b, o, l, ad, cap, h4, h5, h6, h7⟩ := h3 i hi
  refine ⟨b, o, l, ad, cap, h4, hq h5, h6, ?_⟩
  rcases h7 with h7 | ⟨b, o, l, rest, e1, e2, e3⟩
  · exact .inl h7
  · exact .inr ⟨b, o, l, rest, e1, hq e2, e3⟩
set_option maxHeartbeats 1000000 in
theorem few16_r (c : Cfg) (q : HProp) (v cv : Value) (progs : Progs) (calls : List (List Jb)) (hv : ProgsG q v progs) (hcv : CallsG q cv calls) (pad : Option Addr) (n pcap : Nat) : RTri Tryz.prog 43 #[.agg ⟨c.v⟩, v, cv, .slice pad n pcap] [q] (.bool (few16B c progs calls n)) := by
  apply RTri.of_reads
  intro p hp
  obtain ⟨ad, cap, rfl, hn, hr⟩ := hv.of (p := p) fun h => RdC.of_sat hp (ReadsC.here h)
  obtain ⟨cad, ccap, rfl, hcn, hcr⟩ := hcv.of (p := p) fun h => RdC.of_sat hp (ReadsC.here h)
  refine Tri.of_body (vs := [_, _, _, _]) Tryz.func43 rfl rfl fun w0 F => ?_
  repeat' (first | refine Ga ?_ | (refine Gb ?_; intro b) | (refine Gd ?_; intro g cap rest hcap) | (refine Gc ?_; intro ad cap)  | (refine Ge ?_ ?_ <;> (intro h; try (exfalso; omega))) | fail)
  revert b; intro cb
  refine St.loopY (Lr := ?Lr1) (ι := { k : Nat // k ≤ progs.length ∧ short14 progs = short14 (progs.drop k) }) (fun k => progs.length - k.1)
    (fun k => [(15, .int .i64 (k.1 : Int))]) (fun k => []) ⟨0, Nat.zero_le _, rfl⟩ ?hE1 ?hL1 ?round1
  case hE1 => exact Sub.go
  case hL1 => exact Takes.go
  case round1 =>
    rintro ⟨k, hk, hgo⟩ IH; dsimp only at hk hgo ⊢
    by_cases hlt : k < progs.length
    · obtain ⟨bj, o, l, cv, rfl, hrd, hnth, hins⟩ := hr k hlt
      rw [List.drop_eq_getElem_cons hlt] at hgo
      generalize progs[k] = pk at hgo hins
      obtain ⟨iad, icap, rfl, _⟩ := hins
      by_cases he : pk.length ≤ 40
      · repeat' (first | refine Ga ?_ | (refine Gb ?_; intro b) | (refine Gd ?_; intro g cap rest hcap) | (refine Gc ?_; intro ad cap)  | (refine Ge ?_ ?_ <;> (intro h; try (exfalso; omega))) | fail)
        all_goals first | (exfalso; omega) | skip
        refine IH ⟨k + 1, hlt, ?_⟩ (by show _ - (k + 1) < _ - k; omega) ?_ ?_
        · rw [hgo]; unfold short14; rw [List.all_cons, decide_eq_true he, Bool.true_and]
        · exact Sub.go
        · exact Ent.go
      · have e : few16B c progs calls n = false := by
          unfold few16B
          rw [hgo]; unfold short14; rw [List.all_cons, decide_eq_false he]; rfl
        rw [e]
        repeat' (first | refine Ga ?_ | (refine Gb ?_; intro b) | (refine Gd ?_; intro g cap rest hcap) | (refine Gc ?_; intro ad cap)  | (refine Ge ?_ ?_ <;> (intro h; try (exfalso; omega))) | fail)
        all_goals first | (exfalso; omega) | skip
        (first | refine St.dn Tryz.func43 ⟨?_, rfl⟩ Ent.go | refine St.fl Tryz.func43 ⟨?_, rfl⟩ Ent.go)
        rfl
    · have e : few16B c progs calls n = (short16 calls && (decide (c.fuel ≤ 100) && (decide (progs.length ≤ 8) && (decide (calls.length ≤ 8) && decide (n ≤ 600))))) := by
        unfold few16B
        rw [hgo, List.drop_eq_nil_of_le (by omega)]; rfl
      rw [e]
      clear IH
      obtain rfl : k = progs.length := by omega
      repeat' (first | refine Ga ?_ | (refine Gb ?_; intro b) | (refine Gd ?_; intro g cap rest hcap) | (refine Gc ?_; intro ad cap)  | (refine Ge ?_ ?_ <;> (intro h; try (exfalso; omega))) | fail)
      all_goals first | (exfalso; omega) | skip
      refine St.loopY (Lr := ?Lr2) (ι := { k : Nat // k ≤ calls.length ∧ short16 calls = short16 (calls.drop k) }) (fun k => calls.length - k.1)
        (fun k => [(25, .int .i64 (k.1 : Int))]) (fun k => []) ⟨0, Nat.zero_le _, rfl⟩ ?hE2 ?hL2 ?round2
      case hE2 => exact Sub.go
      case hL2 => exact Takes.go
      case round2 =>
        rintro ⟨k, hk, hgo⟩ IH; dsimp only at hk hgo ⊢
        by_cases hlt : k < calls.length
        · obtain ⟨bj, o, l, iad, icap, rfl, hrd, hnth, _⟩ := hcr k hlt
          rw [List.drop_eq_getElem_cons hlt] at hgo
          generalize calls[k] = pk at hgo hnth
          by_cases he : pk.length ≤ 4
          · repeat' (first | refine Ga ?_ | (refine Gb ?_; intro b) | (refine Gd ?_; intro g cap rest hcap) | (refine Gc ?_; intro ad cap)  | (refine Ge ?_ ?_ <;> (intro h; try (exfalso; omega))) | fail)
            all_goals first | (exfalso; omega) | skip
            refine IH ⟨k + 1, hlt, ?_⟩ (by show _ - (k + 1) < _ - k; omega) ?_ ?_
            · rw [hgo]; unfold short16; rw [List.all_cons, decide_eq_true he, Bool.true_and]
            · exact Sub.go
            · exact Ent.go
          · have e : short16 calls = false := by
              rw [hgo]; unfold short16; rw [List.all_cons, decide_eq_false he]; rfl
            rw [e, Bool.false_and]
            repeat' (first | refine Ga ?_ | (refine Gb ?_; intro b) | (refine Gd ?_; intro g cap rest hcap) | (refine Gc ?_; intro ad cap)  | (refine Ge ?_ ?_ <;> (intro h; try (exfalso; omega))) | fail)
            all_goals first | (exfalso; omega) | skip
            (first | refine St.dn Tryz.func43 ⟨?_, rfl⟩ Ent.go | refine St.fl Tryz.func43 ⟨?_, rfl⟩ Ent.go)
            rfl
        · have e : short16 calls = true := by
            rw [hgo, List.drop_eq_nil_of_le (by omega)]; rfl
          rw [e, Bool.true_and]
          clear IH
          obtain rfl : k = calls.length := by omega
          by_cases h1 : c.fuel ≤ 100
          · by_cases h2 : progs.length ≤ 8
            · by_cases h3 : calls.length ≤ 8
              · rw [decide_eq_true h1, decide_eq_true h2, decide_eq_true h3]
                repeat' (first | refine Ga ?_ | (refine Gb ?_; intro b) | (refine Gd ?_; intro g cap rest hcap) | (refine Gc ?_; intro ad cap)  | (refine Ge ?_ ?_ <;> (intro h; try (exfalso; omega))) | fail)
                all_goals first | (exfalso; omega) | skip
                (first | refine St.dn Tryz.func43 ⟨?_, rfl⟩ Ent.go | refine St.fl Tryz.func43 ⟨?_, rfl⟩ Ent.go)
                refine congrArg Value.bool ?_
                rw [Bool.true_and, Bool.true_and, Bool.true_and, decide_eq_decide]
                omega
              · rw [decide_eq_true h1, decide_eq_true h2, decide_eq_false h3]
                repeat' (first | refine Ga ?_ | (refine Gb ?_; intro b) | (refine Gd ?_; intro g cap rest hcap) | (refine Gc ?_; intro ad cap)  | (refine Ge ?_ ?_ <;> (intro h; try (exfalso; omega))) | fail)
                all_goals first | (exfalso; omega) | skip
                (first | refine St.dn Tryz.func43 ⟨?_, rfl⟩ Ent.go | refine St.fl Tryz.func43 ⟨?_, rfl⟩ Ent.go)
                rfl
            · rw [decide_eq_true h1, decide_eq_false h2]
              repeat' (first | refine Ga ?_ | (refine Gb ?_; intro b) | (refine Gd ?_; intro g cap rest hcap) | (refine Gc ?_; intro ad cap)  | (refine Ge ?_ ?_ <;> (intro h; try (exfalso; omega))) | fail)
              all_goals first | (exfalso; omega) | skip
              (first | refine St.dn Tryz.func43 ⟨?_, rfl⟩ Ent.go | refine St.fl Tryz.func43 ⟨?_, rfl⟩ Ent.go)
              rfl
          · rw [decide_eq_false h1]
            repeat' (first | refine Ga ?_ | (refine Gb ?_; intro b) | (refine Gd ?_; intro g cap rest hcap) | (refine Gc ?_; intro ad cap)  | (refine Ge ?_ ?_ <;> (intro h; try (exfalso; omega))) | fail)
            all_goals first | (exfalso; omega) | skip
            (first | refine St.dn Tryz.func43 ⟨?_, rfl⟩ Ent.go | refine St.fl Tryz.func43 ⟨?_, rfl⟩ Ent.go)
            rfl
theorem few16_e {c : Cfg} {progs : Progs} {calls : List (List Jb)} {n : Nat} (h : few16B c progs calls n = true) : (∀ p ∈ progs, p.length ≤ 40) ∧ (∀ l ∈ calls, l.length ≤ 4) ∧ c.fuel ≤ 100 ∧ progs.length ≤ 8 ∧ calls.length ≤ 8 ∧ n ≤ 600 := by
  unfold few16B short14 short16 at h
  simpa only [Bool.and_eq_true, decide_eq_true_eq, List.all_eq_true] using h
/-- as the document's -/
theorem as16_t (v : Value) (rs : List SRowH) (hn : rs.length ≤ 100000) : Tri Tryz.prog 49 #[v] [Row v 120 6 rs.length (rs.flatMap srV)]
    fun r L => ∃ ad cap, r = .slice ad rs.length cap ∧ L = [Row (.slice ad rs.length cap) 195 6 rs.length (rs.flatMap srV)] := by
  refine Tri.rowL rfl (fun R hR => ?_)
  obtain ⟨vad, vcap, rfl, _, hr⟩ := hR
  refine Tri.of_body (vs := [_]) Tryz.func49 rfl rfl fun w0 F => ?_
  repeat' (first | refine Ga ?_ | (refine Gb ?_; intro b) | (refine Gd ?_; intro g cap rest hcap) | (refine Gc ?_; intro ad cap)  | (refine Ge ?_ ?_ <;> (intro h; try (exfalso; omega))) | fail)
  refine St.conv ?_ (Sub.refl _) (Ent.row_bl (sz := 6) (n := 0) (l := []) (by simp) (Nat.zero_le _))
  refine St.loopY (Lr := ?Lr1) (ι := { x : Nat × Option Addr × Nat // x.1 ≤ rs.length }) (fun x => rs.length - x.1.1) (fun x => [(9, .int .i64 (x.1.1 : Int)), (3, .slice x.1.2.1 x.1.1 x.1.2.2)]) (fun x => [Row (.slice x.1.2.1 x.1.1 x.1.2.2) 195 6 x.1.1 ((rs.take x.1.1).flatMap srV)]) ⟨(0, some ⟨b, 0, none⟩, 0), Nat.zero_le _⟩ ?hE1 ?hL1 ?round1
  case hE1 => exact Sub.go
  case hL1 => exact Takes.go
  case round1 =>
    rintro ⟨⟨k, ad1, cap1⟩, hk⟩ IH; dsimp only at hk IH ⊢
    by_cases hlt : k < rs.length
    · obtain ⟨bf, fo, lc, l1, rfl, hrd, hdr, htk⟩ := ListR.at (f := srV) (sz := 6) srV_len hr k hlt
      have hnx : rs.take (k + 1) = rs.take k ++ [rs[k]] := List.take_succ_eq_append_getElem hlt
      have hfl : ((rs.take k).flatMap srV).length = k * 6 := by rw [flat_len srV_len, List.length_take, Nat.min_eq_left hk]
      generalize rs[k] = y at htk hnx
      unfold srV at htk
      repeat' (first | refine Ga ?_ | (refine Gb ?_; intro b) | (refine Gd ?_; intro g cap rest hcap) | (refine Gc ?_; intro ad cap)  | (refine Ge ?_ ?_ <;> (intro h; try (exfalso; omega))) | fail)
      all_goals first | (exfalso; omega) | skip
      refine IH ⟨(k + 1, ad, cap), hlt⟩ (by show _ - (k + 1) < _ - k; omega) ?_ ?_
      · exact Sub.go
      · dsimp only; rw [hnx, List.flatMap_append]; exact Ent.go
    · obtain rfl : k = rs.length := by omega
      clear IH
      rw [List.take_length]
      repeat' (first | refine Ga ?_ | (refine Gb ?_; intro b) | (refine Gd ?_; intro g cap rest hcap) | (refine Gc ?_; intro ad cap)  | (refine Ge ?_ ?_ <;> (intro h; try (exfalso; omega))) | fail)
      refine St.d1 Tryz.func49 ⟨_, ⟨ad1, cap1, rfl, rfl⟩, Ent.go⟩
theorem TakeN.split {α : Type} {n : Nat} {l vs : List α} (h : TakeN n l vs) : ∃ r, l = vs ++ r := by
  obtain ⟨h1, _⟩ := h.eq
  exact ⟨l.drop n, by rw [← h1, List.take_append_drop]⟩
theorem u64s_flat (l : List Nat) : u64s l = l.flatMap fun (x : Nat) => [Value.int .u64 (x : Int)] := by
  unfold u64s
  induction l with
  | nil => rfl
  | cons x l ih => rw [List.map_cons, ih]; rfl
/-- handles of a row can be read -/
theorem news_frz {rs : List SRowH} {L : List HProp} {H : Hp} (hs : Sat L H) (hp : star (rs.map srP) ∈ L) {r : SRowH} (hr : r ∈ rs) : ListR (fun x : Nat => [Value.int .u64 (x : Int)]) (frz H) (.slice r.2.1 r.1.news.length r.2.2) r.1.news := by
  obtain ⟨M, hs⟩ := sat_mem hs hp
  have h2 : Ent (star (rs.map srP) :: M) (rs.map srP ++ M) := Ent.star_out
  unfold Ent at h2
  have hs := h2 _ hs
  refine ListR.frz (e := 22) (sz := 1) rfl hs (List.mem_append_left _ (List.mem_map.2 ⟨r, hr, ?_⟩))
  unfold srP
  rw [u64s_flat]
set_option maxHeartbeats 2000000 in
/-- the same rows are the same -/
theorem same16_r (va vb : Value) (rs rs' : List SRowH) (he : rs.map (·.1) = rs'.map (·.1)) (hn : rs.length ≤ 100000) (hnw : ∀ r ∈ rs, r.1.news.length ≤ 1000) : RTri Tryz.prog 48 #[va, vb] [Row va 195 6 rs.length (rs.flatMap srV), star (rs.map srP), Row vb 195 6 rs'.length (rs'.flatMap srV), star (rs'.map srP)] (.bool true) := by
  refine RTri.of_exact fun W0 hs => ?_
  have hel : rs'.length = rs.length := by have := congrArg List.length he; rw [List.length_map, List.length_map] at this; omega
  have ha : ListR srV (exact' W0) va rs := ListR.frz rfl hs (.head _)
  have hb : ListR srV (exact' W0) vb rs' := ListR.frz rfl hs (.tail _ (.tail _ (.head _)))
  have hna : ∀ r ∈ rs, ListR (fun x : Nat => [Value.int .u64 (x : Int)]) (exact' W0) (.slice r.2.1 r.1.news.length r.2.2) r.1.news := fun r hr => news_frz hs (.tail _ (.head _)) hr
  have hnb : ∀ r ∈ rs', ListR (fun x : Nat => [Value.int .u64 (x : Int)]) (exact' W0) (.slice r.2.1 r.1.news.length r.2.2) r.1.news := fun r hr => news_frz hs (.tail _ (.tail _ (.tail _ (.head _)))) hr
  clear hs
  obtain ⟨aad, acap, rfl, _, har⟩ := ha
  obtain ⟨bad, bcap, rfl, _, hbr⟩ := hb
  rw [hel]
  refine Tri.of_body (vs := [_, _]) Tryz.func48 rfl rfl fun w0 F => ?_
  repeat' (first | refine Ga ?_ | (refine Gb ?_; intro b) | (refine Gd ?_; intro g cap rest hcap) | (refine Gc ?_; intro ad cap) | (refine St.draw (id := 6) [(0, 0), (1, 0), (2, 0), (3, 0), (4, 1), (5, 0), (6, 0), (7, 0), (8, 0), (9, 1), (10, 0), (11, 0), (12, 0), (13, 0), (14, 0), (15, 0), (16, 1), (17, 0), (18, 0), (19, 0), (20, 0), (21, 1), (22, 0), (23, 0), (24, 0), (25, 0), (26, 0), (27, 0), (28, 0), (29, 1), (30, 0), (31, 0), (32, 0), (33, 0), (34, 1), (35, 0), (36, 0), (37, 0), (38, 0), (39, 0), (40, 0), (41, 0), (42, 1), (43, 0), (44, 0), (45, 0), (46, 0), (47, 1), (48, 0), (49, 0), (50, 0), (51, 0), (52, 0), (53, 0), (54, 0), (55, 1), (56, 0), (57, 0), (58, 0), (59, 0), (60, 0), (61, 1), (62, 0), (63, 0), (64, 0)] [] mixed (by kernel_rfl) ?_) | (refine St.draw (id := 11) [(0, 0), (1, 0), (2, 0), (3, 0), (4, 1), (5, 0), (6, 0), (7, 1), (8, 0), (9, 0), (10, 0), (11, 0), (12, 1), (13, 0), (14, 0), (15, 1), (16, 0)] [] mixed (by kernel_rfl) ?_) | (refine Ge ?_ ?_ <;> (intro h; try (exfalso; omega))) | fail)
  all_goals first | (exfalso; omega) | skip
  refine St.loopY (Lr := ?Lr1) (ι := { k : Nat // k ≤ rs.length }) (fun x => rs.length - x.1) (fun x => [(5, .int .i64 (x.1 : Int))]) (fun x => []) ⟨0, Nat.zero_le _⟩ ?hE1 ?hL1 ?round1
  case hE1 => exact Sub.go
  case hL1 => exact Takes.go
  case round1 =>
    rintro ⟨k, hk⟩ IH; dsimp only at hk IH ⊢
    by_cases hlt : k < rs.length
    · obtain ⟨ab, ao, al, al1, rfl, hard, hadr, hatk⟩ := ListR.at (f := srV) (sz := 6) srV_len har k hlt
      obtain ⟨bb, bo, bl2, bl1, rfl, hbrd, hbdr, hbtk⟩ := ListR.at (f := srV) (sz := 6) srV_len hbr k (by omega)
      have hka := hna rs[k] (List.getElem_mem hlt)
      have hkb := hnb (rs'[k]'(by omega)) (List.getElem_mem _)
      have hlen := hnw rs[k] (List.getElem_mem hlt)
      have hee : rs[k].1 = (rs'[k]'(by omega)).1 := by
        have h := congrArg (fun l => l[k]?) he
        simp only [List.getElem?_map, List.getElem?_eq_getElem hlt, List.getElem?_eq_getElem (show k < rs'.length by omega), Option.map_some, Option.some.injEq] at h
        exact h
      generalize rs[k] = x at hatk hka hee hlen
      generalize (rs'[k]'(by omega)) = y at hbtk hkb hee
      obtain ⟨⟨xa, xw, xt, xc, xv, xn⟩, xad, xcap⟩ := x
      obtain ⟨y, yad, ycap⟩ := y
      dsimp only at hee
      subst hee
      unfold srV at hatk hbtk
      dsimp only at hatk hbtk hka hkb hlen
      obtain ⟨ar, rfl⟩ := hatk.split
      obtain ⟨br, rfl⟩ := hbtk.split
      have a3 : DropN (ao + (k : Int).toNat * 6 + 3) al _ := hadr.add (m := 3) (.succ (.succ (.succ .zero)))
      have b3 : DropN (bo + (k : Int).toNat * 6 + 3) bl2 _ := hbdr.add (m := 3) (.succ (.succ (.succ .zero)))
      have a0 : NthN (ao + (k : Int).toNat * 6 + 0) al _ := NthN.part hadr hatk (j := 0) .zero
      have a1 : NthN (ao + (k : Int).toNat * 6 + 1) al _ := NthN.part hadr hatk (j := 1) (.succ .zero)
      have a2 : NthN (ao + (k : Int).toNat * 6 + 2) al _ := NthN.part hadr hatk (j := 2) (.succ (.succ .zero))
      have a5 : NthN (ao + (k : Int).toNat * 6 + 5) al _ := NthN.part hadr hatk (j := 5) (.succ (.succ (.succ (.succ (.succ .zero)))))
      have b0 : NthN (bo + (k : Int).toNat * 6 + 0) bl2 _ := NthN.part hbdr hbtk (j := 0) .zero
      have b1 : NthN (bo + (k : Int).toNat * 6 + 1) bl2 _ := NthN.part hbdr hbtk (j := 1) (.succ .zero)
      have b2 : NthN (bo + (k : Int).toNat * 6 + 2) bl2 _ := NthN.part hbdr hbtk (j := 2) (.succ (.succ .zero))
      have b5 : NthN (bo + (k : Int).toNat * 6 + 5) bl2 _ := NthN.part hbdr hbtk (j := 5) (.succ (.succ (.succ (.succ (.succ .zero)))))
      repeat' (first | refine Ga ?_ | (refine Gb ?_; intro b) | (refine Gd ?_; intro g cap rest hcap) | (refine Gc ?_; intro ad cap) | (refine St.draw (id := 6) [(0, 0), (1, 0), (2, 0), (3, 0), (4, 1), (5, 0), (6, 0), (7, 0), (8, 0), (9, 1), (10, 0), (11, 0), (12, 0), (13, 0), (14, 0), (15, 0), (16, 1), (17, 0), (18, 0), (19, 0), (20, 0), (21, 1), (22, 0), (23, 0), (24, 0), (25, 0), (26, 0), (27, 0), (28, 0), (29, 1), (30, 0), (31, 0), (32, 0), (33, 0), (34, 1), (35, 0), (36, 0), (37, 0), (38, 0), (39, 0), (40, 0), (41, 0), (42, 1), (43, 0), (44, 0), (45, 0), (46, 0), (47, 1), (48, 0), (49, 0), (50, 0), (51, 0), (52, 0), (53, 0), (54, 0), (55, 1), (56, 0), (57, 0), (58, 0), (59, 0), (60, 0), (61, 1), (62, 0), (63, 0), (64, 0)] [] mixed (by kernel_rfl) ?_) | (refine St.draw (id := 11) [(0, 0), (1, 0), (2, 0), (3, 0), (4, 1), (5, 0), (6, 0), (7, 1), (8, 0), (9, 0), (10, 0), (11, 0), (12, 1), (13, 0), (14, 0), (15, 1), (16, 0)] [] mixed (by kernel_rfl) ?_) | (refine Ge ?_ ?_ <;> (intro h; try (exfalso; omega))) | fail)
      all_goals first | (exfalso; omega) | (exfalso; simp at h; done) | skip
      refine St.loopY (Lr := ?Lr2) (ι := { i : Nat // i ≤ xn.length }) (fun x => xn.length - x.1) (fun x => [(6, .int .i64 (x.1 : Int))]) (fun x => []) ⟨0, Nat.zero_le _⟩ ?hE2 ?hL2 ?round2
      case hE2 => exact Sub.go
      case hL2 => exact Takes.go
      case round2 =>
        rintro ⟨i, hi⟩ IH2; dsimp only at hi IH2 ⊢
        by_cases hil : i < xn.length
        · obtain ⟨cb, co, cl, cl1, rfl, hcrd, hcdr, hctk⟩ := hka.at' (sz := 1) (fun _ => rfl) i hil
          obtain ⟨eb, eo, el, el1, rfl, herd, hedr, hetk⟩ := hkb.at' (sz := 1) (fun _ => rfl) i hil
          generalize xn[i] = z at hctk hetk
          have c0 : NthN (co + (i : Int).toNat * 1) cl _ := NthN.part hcdr hctk (j := 0) .zero
          have e0 : NthN (eo + (i : Int).toNat * 1) el _ := NthN.part hedr hetk (j := 0) .zero
          repeat' (first | refine Ga ?_ | (refine Gb ?_; intro b) | (refine Gd ?_; intro g cap rest hcap) | (refine Gc ?_; intro ad cap) | (refine St.draw (id := 6) [(0, 0), (1, 0), (2, 0), (3, 0), (4, 1), (5, 0), (6, 0), (7, 0), (8, 0), (9, 1), (10, 0), (11, 0), (12, 0), (13, 0), (14, 0), (15, 0), (16, 1), (17, 0), (18, 0), (19, 0), (20, 0), (21, 1), (22, 0), (23, 0), (24, 0), (25, 0), (26, 0), (27, 0), (28, 0), (29, 1), (30, 0), (31, 0), (32, 0), (33, 0), (34, 1), (35, 0), (36, 0), (37, 0), (38, 0), (39, 0), (40, 0), (41, 0), (42, 1), (43, 0), (44, 0), (45, 0), (46, 0), (47, 1), (48, 0), (49, 0), (50, 0), (51, 0), (52, 0), (53, 0), (54, 0), (55, 1), (56, 0), (57, 0), (58, 0), (59, 0), (60, 0), (61, 1), (62, 0), (63, 0), (64, 0)] [] mixed (by kernel_rfl) ?_) | (refine St.draw (id := 11) [(0, 0), (1, 0), (2, 0), (3, 0), (4, 1), (5, 0), (6, 0), (7, 1), (8, 0), (9, 0), (10, 0), (11, 0), (12, 1), (13, 0), (14, 0), (15, 1), (16, 0)] [] mixed (by kernel_rfl) ?_) | (refine Ge ?_ ?_ <;> (intro h; try (exfalso; omega))) | fail)
          all_goals first | (exfalso; omega) | (exfalso; simp at h; done) | skip
          refine IH2 ⟨i + 1, hil⟩ (by show _ - (i + 1) < _ - i; omega) ?_ ?_
          · exact Sub.go
          · exact Ent.go
        · clear IH2
          repeat' (first | refine Ga ?_ | (refine Gb ?_; intro b) | (refine Gd ?_; intro g cap rest hcap) | (refine Gc ?_; intro ad cap) | (refine St.draw (id := 6) [(0, 0), (1, 0), (2, 0), (3, 0), (4, 1), (5, 0), (6, 0), (7, 0), (8, 0), (9, 1), (10, 0), (11, 0), (12, 0), (13, 0), (14, 0), (15, 0), (16, 1), (17, 0), (18, 0), (19, 0), (20, 0), (21, 1), (22, 0), (23, 0), (24, 0), (25, 0), (26, 0), (27, 0), (28, 0), (29, 1), (30, 0), (31, 0), (32, 0), (33, 0), (34, 1), (35, 0), (36, 0), (37, 0), (38, 0), (39, 0), (40, 0), (41, 0), (42, 1), (43, 0), (44, 0), (45, 0), (46, 0), (47, 1), (48, 0), (49, 0), (50, 0), (51, 0), (52, 0), (53, 0), (54, 0), (55, 1), (56, 0), (57, 0), (58, 0), (59, 0), (60, 0), (61, 1), (62, 0), (63, 0), (64, 0)] [] mixed (by kernel_rfl) ?_) | (refine St.draw (id := 11) [(0, 0), (1, 0), (2, 0), (3, 0), (4, 1), (5, 0), (6, 0), (7, 1), (8, 0), (9, 0), (10, 0), (11, 0), (12, 1), (13, 0), (14, 0), (15, 1), (16, 0)] [] mixed (by kernel_rfl) ?_) | (refine Ge ?_ ?_ <;> (intro h; try (exfalso; omega))) | fail)
          all_goals first | (exfalso; omega) | (exfalso; simp at h; done) | skip
          refine IH ⟨k + 1, hlt⟩ (by show _ - (k + 1) < _ - k; omega) ?_ ?_
          · exact Sub.go
          · exact Ent.go
    · obtain rfl : k = rs.length := by omega
      clear IH
      repeat' (first | refine Ga ?_ | (refine Gb ?_; intro b) | (refine Gd ?_; intro g cap rest hcap) | (refine Gc ?_; intro ad cap) | (refine St.draw (id := 6) [(0, 0), (1, 0), (2, 0), (3, 0), (4, 1), (5, 0), (6, 0), (7, 0), (8, 0), (9, 1), (10, 0), (11, 0), (12, 0), (13, 0), (14, 0), (15, 0), (16, 1), (17, 0), (18, 0), (19, 0), (20, 0), (21, 1), (22, 0), (23, 0), (24, 0), (25, 0), (26, 0), (27, 0), (28, 0), (29, 1), (30, 0), (31, 0), (32, 0), (33, 0), (34, 1), (35, 0), (36, 0), (37, 0), (38, 0), (39, 0), (40, 0), (41, 0), (42, 1), (43, 0), (44, 0), (45, 0), (46, 0), (47, 1), (48, 0), (49, 0), (50, 0), (51, 0), (52, 0), (53, 0), (54, 0), (55, 1), (56, 0), (57, 0), (58, 0), (59, 0), (60, 0), (61, 1), (62, 0), (63, 0), (64, 0)] [] mixed (by kernel_rfl) ?_) | (refine St.draw (id := 11) [(0, 0), (1, 0), (2, 0), (3, 0), (4, 1), (5, 0), (6, 0), (7, 1), (8, 0), (9, 0), (10, 0), (11, 0), (12, 1), (13, 0), (14, 0), (15, 1), (16, 0)] [] mixed (by kernel_rfl) ?_) | (refine Ge ?_ ?_ <;> (intro h; try (exfalso; omega))) | fail)
      all_goals first | (exfalso; omega) | skip
      (first | refine St.dn Tryz.func48 ⟨?_, rfl⟩ Ent.go | refine St.fl Tryz.func48 ⟨?_, rfl⟩ Ent.go)
      rfl
end Go.Proofs.YtemaaenipjinaaaGreat
end
section
namespace Go.Proofs.YtemaaenipjinaaaGreat
set_option maxRecDepth 100000
def c16 : Cfg := ⟨2, 3, 20, 50, 5, 99⟩
def progs16 : Progs := [ca15]
def calls16 : List (List Jb) := [[⟨0, [7, 0, 0, 0]⟩], [⟨0, [8, 0, 0, 0]⟩]]
def txt16 : ByteArray := ⟨#[97, 98, 63, 97, 98, 226, 134, 144]⟩
def pickN (c : Cfg) (progs : Progs) (t : Int) : Nat → Sd → Sd
  | 0, m => m
  | k + 1, m => ((pickN c progs t k m).pick c progs t).1
def m16a : Sd := (playM c16 progs16 txt16 (Sd.new c16 calls16)).1
def m16b : Sd := pickN c16 progs16 0 100 m16a
def m16c : Sd := pickN c16 progs16 1 100 m16b
theorem m16_n : (playM c16 progs16 txt16 (Sd.new c16 calls16)).2 = 4 := by decide +kernel
theorem m16_b : m16b.recs.map (fun r => r.done) = [true, false] := by decide +kernel
theorem m16_c : m16c.recs.map (fun r => (r.done, r.rv)) = [(true, 7), (true, 8)] := by decide +kernel
theorem m16_r : m16c.rows.map (fun r => (r.at_, r.who)) = [(28, 0), (62, 1)] := by decide +kernel
theorem m16_p : m16c.picks = 71 ∧ m16c.mem.tr.length = 71 ∧ m16c.idle 0 = true := by decide +kernel
theorem m16_i : (Sd.new c16 calls16).idle 0 = false ∧ (Sd.new c16 calls16).idle 2 = true := by decide +kernel
theorem m16_d : boundN c16 = 10555 := by decide +kernel
theorem small16 : Small c16 := Cfg.small (by decide +kernel)
theorem playGo_inv {c : Cfg} (hc : Small c) (hf : 0 ≤ c.fuel ∧ c.fuel ≤ 1000) {progs : Progs} {s : ByteArray} : ∀ (k pos : Nat) (x : Sd × Nat), SdI c progs x.1 → SdI c progs (playGo c progs s k pos x).1
  | 0, _, _, h => h
  | k + 1, pos, x, h => by
    rw [playGo]
    split
    · exact h
    · exact playGo_inv hc hf k _ _ (playR_inv hc hf h _)
theorem pickN_inv {c : Cfg} (hc : Small c) (hf : 0 ≤ c.fuel ∧ c.fuel ≤ 1000) {progs : Progs} {m : Sd} (h : SdI c progs m) (t : Int) : ∀ k, SdI c progs (pickN c progs t k m)
  | 0 => h
  | k + 1 => (pickN_inv hc hf h t k).pick hc hf t
theorem i16a : SdI c16 progs16 m16a := playGo_inv small16 (by decide) _ _ _ (SdI.new small16 rfl (by decide))
theorem i16b : SdI c16 progs16 m16b := pickN_inv small16 (by decide) i16a 0 100
theorem i16c : SdI c16 progs16 m16c := pickN_inv small16 (by decide) i16b 1 100
/-- New, over what lies there -/
theorem sdnew_s (c : Cfg) (L : List HProp) (pv cv : Value) (progs : Progs) (calls : List (List Jb)) (h : ∀ H, Sat L H → ProgsG (frz H) pv progs ∧ CallsG (frz H) cv calls) (hp8 : progs.length ≤ 8) (hpl : ∀ p ∈ progs, p.length ≤ 40) (hcl : ∀ l ∈ calls, l.length ≤ 4) (hok : c.right = true) (hn : (calls.length : Int) = c.threads) :
    Tri Tryz.prog 44 #[.agg ⟨c.v⟩, pv, cv] L
      fun r L' => ∃ (Sb : Nat) (pv' : Value) (H : Hp), ProgsR (frz H) pv' progs ∧ r = .tuple ⟨[.pointer (some ⟨Sb, 0, none⟩), .int .i64 0]⟩ ∧ L' = SdE Sb c pv' (frz H) progs (Sd.new c calls) :: L := by
  refine Tri.ent (M := [star L]) ?_ (by have := Ent.star_in L (M := []); rw [List.append_nil] at this; exact this)
  refine Tri.frz (fun H hH => ?_)
  have hs := star_sat hH
  obtain ⟨h1, h2⟩ := h H hs
  refine Tri.wk (sdnew_t c (frz H) pv progs h1 cv calls h2 hp8 hpl hcl hok hn) ?_
  rintro v L' ⟨Sb, pv', H', e1, e2, rfl⟩
  refine ⟨_, ⟨Sb, pv', H', e1, e2, rfl⟩, Ent.cons ?_⟩
  have h3 : Ent [frz H] [star L] := Ent.head (fun k hk => by rw [show k = H from hk]; exact hH)
  have h4 := Ent.star_out (L := L) (M := [])
  rw [List.append_nil] at h4
  exact Ent.trans h3 h4
end Go.Proofs.YtemaaenipjinaaaGreat
end
