/-
  Package tumblerref14: Same, of rows that are the same. Package tumblerlaw14: rows, as. Package build: Rows, Entries, as what can be read of them. BuildPlays, in plain terms: a transaction that is asked and told, and what the document says of it. What a transaction of the document's writes stands at cells that there are. Packages tumblerref12, tumblerref13: open, block, Write.
-/
import Derived.Test.YthmbgodcpgkkeaaGreatLw
import Derived.Test.YthmbgodcpgkkeaaGreatBk
import Derived.Test.YthmbgodcpgkkeaaGreatLb
import Derived.Test.YthmbgodcpgkkeaaGreatLo
import Derived.Test.YthmbgodcpgkkeaaGreatMd
import Derived.Test.YthmbgodcpgkkeaaGreatNr
import Derived.Test.YthmbgodcpgkkeaaGreatLk
section
namespace Go.Proofs.YthmbgodcpgkkeaaGreat
set_option maxRecDepth 100000
theorem map_fst_at {xs ys : List RowH} (h : xs.map (·.1) = ys.map (·.1)) {k : Nat} (hx : k < xs.length) (hy : k < ys.length) : ys[k].1 = xs[k].1 := by
  have h1 : (xs.map (·.1))[k]? = (ys.map (·.1))[k]? := by rw [h]
  rw [List.getElem?_map, List.getElem?_map, List.getElem?_eq_getElem hx, List.getElem?_eq_getElem hy] at h1
  exact (Option.some.inj h1).symm
set_option maxHeartbeats 4000000 in
theorem same14_p {p : HProp} {va vb : Value} {xs ys : List RowH} (ha : ListR rowV p va xs) (hb : ListR rowV p vb ys) (hxy : xs.map (·.1) = ys.map (·.1)) (hna : ∀ x ∈ xs, ListR u1V p (.slice x.2.1 x.1.news.length x.2.2) x.1.news) (hnb : ∀ x ∈ ys, ListR u1V p (.slice x.2.1 x.1.news.length x.2.2) x.1.news) (hn : xs.length ≤ 1000000) (hnn : ∀ x ∈ xs, x.1.news.length ≤ 1000000) : Tri Tryz.prog 42 #[va, vb] [p] fun v' L' => v' = .bool true ∧ L' = [p] := by
  have hl : ys.length = xs.length := by
    have := congrArg List.length hxy
    rw [List.length_map, List.length_map] at this
    exact this.symm
  obtain ⟨aad, acp, rfl, _⟩ := id ha
  obtain ⟨bad, bcp, rfl, _⟩ := id hb
  rw [hl] at hb ⊢
  refine Tri.of_body (vs := [_, _]) Tryz.func42 rfl rfl fun w0 F => ?_
  repeat' (first | refine Ga ?_ | (refine Gb ?_; intro b) | (refine Gd ?_; intro g cap rest hcap) | (refine Gc ?_; intro ad cap) | (refine Ge ?_ ?_ <;> (intro h; try (exfalso; omega))) | fail)
  all_goals first | (exfalso; omega) | skip
  refine St.loopY (Lr := ?Lr1) (ι := { x : Nat // x ≤ xs.length }) (fun x => xs.length - x.1) (fun x => [(5, .int .i64 (x.1 : Int))]) (fun _ => []) ⟨0, Nat.zero_le _⟩ ?hE1 ?hL1 ?round1
  case hE1 => exact Sub.go
  case hL1 => exact Takes.go
  case round1 =>
    rintro ⟨k, hk⟩ IH; dsimp only at hk IH ⊢
    by_cases hlt : k < xs.length
    · obtain ⟨ab, ao, al, al1, rfl, hra, hda, hta⟩ := ha.at' rowV_len k hlt
      obtain ⟨bb, bo, bl9, bl1, rfl, hrb, hdb, htb⟩ := hb.at' rowV_len k (by omega)
      have he := map_fst_at hxy hlt (by omega)
      have hna := hna xs[k] (List.getElem_mem hlt)
      have hnb := hnb ys[k] (List.getElem_mem (by omega))
      have hnn := hnn xs[k] (List.getElem_mem hlt)
      generalize xs[k] = x at hta he hna hnn
      generalize ys[k] = y at htb he hnb
      obtain ⟨⟨who, tag, rc, rv, news⟩, nad, ncp⟩ := x
      obtain ⟨y1, mad, mcp⟩ := y
      dsimp only at he
      subst he
      unfold rowV at hta htb
      dsimp only at hta htb hna hnb hnn
      have a0 : NthN (ao + (k : Int).toNat * 5) al (.int .i64 who) := NthN.part (j := 0) hda hta (NthN.of rfl)
      have a1 : NthN (ao + (k : Int).toNat * 5 + 1) al (.int .u64 (tag : Int)) := NthN.part (j := 1) hda hta (NthN.of rfl)
      have a2 : NthN (ao + (k : Int).toNat * 5 + 2) al (.int .i64 rc) := NthN.part (j := 2) hda hta (NthN.of rfl)
      have a3 : NthN (ao + (k : Int).toNat * 5 + 3) al (.int .u64 (rv : Int)) := NthN.part (j := 3) hda hta (NthN.of rfl)
      have a4 : NthN (ao + (k : Int).toNat * 5 + 4) al (.slice nad news.length ncp) := NthN.part (j := 4) hda hta (NthN.of rfl)
      have b0 : NthN (bo + (k : Int).toNat * 5) bl9 (.int .i64 who) := NthN.part (j := 0) hdb htb (NthN.of rfl)
      have b1 : NthN (bo + (k : Int).toNat * 5 + 1) bl9 (.int .u64 (tag : Int)) := NthN.part (j := 1) hdb htb (NthN.of rfl)
      have b2 : NthN (bo + (k : Int).toNat * 5 + 2) bl9 (.int .i64 rc) := NthN.part (j := 2) hdb htb (NthN.of rfl)
      have b3 : NthN (bo + (k : Int).toNat * 5 + 3) bl9 (.int .u64 (rv : Int)) := NthN.part (j := 3) hdb htb (NthN.of rfl)
      have b4 : NthN (bo + (k : Int).toNat * 5 + 4) bl9 (.slice mad news.length mcp) := NthN.part (j := 4) hdb htb (NthN.of rfl)
      repeat' (first | refine Ga ?_ | (refine Gb ?_; intro b) | (refine Gd ?_; intro g cap rest hcap) | (refine Gc ?_; intro ad cap) | (refine St.draw (id := 6) [(0, 0), (1, 0), (2, 0), (3, 0), (4, 1), (5, 0), (6, 0), (7, 0), (8, 0), (9, 1), (10, 0), (11, 0), (12, 0), (13, 0), (14, 0), (15, 0), (16, 1), (17, 0), (18, 0), (19, 0), (20, 0), (21, 1), (22, 0), (23, 0), (24, 0), (25, 0), (26, 0), (27, 0), (28, 0), (29, 1), (30, 0), (31, 0), (32, 0), (33, 0), (34, 1), (35, 0), (36, 0), (37, 0), (38, 0), (39, 0), (40, 0), (41, 0), (42, 1), (43, 0), (44, 0), (45, 0), (46, 0), (47, 1), (48, 0), (49, 0), (50, 0), (51, 0), (52, 0), (53, 0), (54, 0), (55, 1), (56, 0), (57, 0), (58, 0), (59, 0), (60, 0), (61, 1), (62, 0), (63, 0), (64, 0)] [] mixed (by kernel_rfl) ?_) | (refine Ge ?_ ?_ <;> (intro h; try (exfalso; omega))) | fail)
      all_goals first | (exfalso; omega) | skip
      all_goals first | (exfalso; simp at h; done) | skip
      refine St.loopY (Lr := ?Lr2) (ι := { x : Nat // x ≤ news.length }) (fun x => news.length - x.1) (fun x => [(6, .int .i64 (x.1 : Int))]) (fun _ => []) ⟨0, Nat.zero_le _⟩ ?hE2 ?hL2 ?round2
      case hE2 => exact Sub.go
      case hL2 => exact Takes.go
      case round2 =>
        rintro ⟨i, hi⟩ IH2; dsimp only at hi IH2 ⊢
        by_cases hlt2 : i < news.length
        · obtain ⟨cb, co, cl9, cl1, rfl, hrc, hdc, htc⟩ := hna.at' u1V_len i hlt2
          obtain ⟨db, do9, dl9, dl1, rfl, hrd, hdd, htd⟩ := hnb.at' u1V_len i hlt2
          have hnc : NthN (co + (i : Int).toNat * 1) cl9 (.int .u64 (news[i] : Int)) := NthN.part (j := 0) hdc htc (NthN.of rfl)
          have hnd : NthN (do9 + (i : Int).toNat * 1) dl9 (.int .u64 (news[i] : Int)) := NthN.part (j := 0) hdd htd (NthN.of rfl)
          generalize news[i] = w at hnc hnd
          repeat' (first | refine Ga ?_ | (refine Gb ?_; intro b) | (refine Gd ?_; intro g cap rest hcap) | (refine Gc ?_; intro ad cap) | (refine St.draw (id := 11) [(0, 0), (1, 0), (2, 0), (3, 0), (4, 1), (5, 0), (6, 0), (7, 1), (8, 0), (9, 0), (10, 0), (11, 0), (12, 1), (13, 0), (14, 0), (15, 1), (16, 0)] [] mixed (by kernel_rfl) ?_) | (refine Ge ?_ ?_ <;> (intro h; try (exfalso; omega))) | fail)
          all_goals first | (exfalso; omega) | skip
          all_goals first | (exfalso; simp at h; done) | skip
          refine IH2 ⟨i + 1, hlt2⟩ (by show news.length - (i + 1) < news.length - i; omega) ?_ ?_
          · exact Sub.go
          · exact Ent.go
        · obtain rfl : i = news.length := by omega
          clear IH2
          repeat' (first | refine Ga ?_ | (refine Gb ?_; intro b) | (refine Gd ?_; intro g cap rest hcap) | (refine Gc ?_; intro ad cap) | (refine Ge ?_ ?_ <;> (intro h; try (exfalso; omega))) | fail)
          all_goals first | (exfalso; omega) | skip
          refine IH ⟨k + 1, hlt⟩ (by show xs.length - (k + 1) < xs.length - k; omega) ?_ ?_
          · exact Sub.go
          · exact Ent.go
    · obtain rfl : k = xs.length := by omega
      clear IH
      repeat' (first | refine Ga ?_ | (refine Gb ?_; intro b) | (refine Gd ?_; intro g cap rest hcap) | (refine Gc ?_; intro ad cap) | (refine Ge ?_ ?_ <;> (intro h; try (exfalso; omega))) | fail)
      all_goals first | (exfalso; omega) | skip
      exact St.d1 Tryz.func42 ⟨_, ⟨rfl, rfl⟩, Ent.go⟩
theorem same14_r {qa qn qb : HProp} {va vb : Value} {xs ys : List RowH} (ha : ListR rowV qa va xs) (hb : ListR rowV qb vb ys) (hxy : xs.map (·.1) = ys.map (·.1)) (hna : ∀ x ∈ xs, ListR u1V qn (.slice x.2.1 x.1.news.length x.2.2) x.1.news) (hnb : ∀ x ∈ ys, ListR u1V qb (.slice x.2.1 x.1.news.length x.2.2) x.1.news) (hn : xs.length ≤ 1000000) (hnn : ∀ x ∈ xs, x.1.news.length ≤ 1000000) : RTri Tryz.prog 42 #[va, vb] [qa, qn, qb] (.bool true) := by
  refine RTri.of_reads fun p hp => ?_
  have ga : ∀ b l, RdC qa b l → RdC p b l := fun b l h => RdC.of_sat hp (ReadsC.here h)
  have gn : ∀ b l, RdC qn b l → RdC p b l := fun b l h => RdC.of_sat hp (ReadsC.there (ReadsC.here h))
  have gb : ∀ b l, RdC qb b l → RdC p b l := fun b l h => RdC.of_sat hp (ReadsC.there (ReadsC.there (ReadsC.here h)))
  exact same14_p (ha.weak ga) (hb.weak gb) hxy (fun x hx => (hna x hx).weak gn) (fun x hx => (hnb x hx).weak gb) hn hnn
end Go.Proofs.YthmbgodcpgkkeaaGreat
end
section
namespace Go.Proofs.YthmbgodcpgkkeaaGreat
set_option maxRecDepth 100000
set_option maxHeartbeats 2000000 in
theorem rows_t {q : HProp} {ad : Option Addr} {n cap : Nat} {xs : List RowH} (hx : ListR rowV q (.slice ad n cap) xs) (hn : xs.length ≤ 1000000) : Tri Tryz.prog 43 #[.slice ad n cap] [q]
    fun r L => ∃ R oa oc, ListR rowV R (.slice oa xs.length oc) xs ∧ r = .slice oa xs.length oc ∧ L = [R, q] := by
  obtain rfl : n = xs.length := hx.len
  refine Tri.of_body (vs := [_]) Tryz.func43 rfl rfl fun w0 F => ?_
  repeat' (first | refine Ga ?_ | (refine Gb ?_; intro b) | (refine Gd ?_; intro g cap rest hcap) | (refine Gc ?_; intro ad cap)  | (refine Ge ?_ ?_ <;> (intro h; try (exfalso; omega))) | fail)
  all_goals first | (exfalso; omega) | skip
  refine St.conv ?_ (Sub.refl _) (Ent.trans (Ent.of_take (p := bl b 233 []) Take.go) (Ent.row_bl (n := 0) (sz := 5) rfl (Nat.zero_le _)))
  refine St.loopY (Lr := ?Lr1) (ι := { x : Nat × Option Addr × Nat // x.1 ≤ xs.length }) (fun x => xs.length - x.1.1) (fun x => [(9, .int .i64 (x.1.1 : Int)), (3, .slice x.1.2.1 x.1.1 x.1.2.2)]) (fun x => [Row (.slice x.1.2.1 x.1.1 x.1.2.2) 233 5 x.1.1 ((xs.take x.1.1).flatMap rowV)]) ⟨(0, some ⟨b, 0, none⟩, 0), Nat.zero_le _⟩ ?hE1 ?hL1 ?round1
  case hE1 => exact Sub.go
  case hL1 => exact Takes.go
  case round1 =>
    rintro ⟨⟨k, wad, wcap⟩, hk⟩ IH; dsimp only at hk IH ⊢
    by_cases hlt : k < xs.length
    · obtain ⟨ab, ao, al, al1, rfl, hra9, hda, hta⟩ := hx.at' rowV_len k hlt
      have e3 : (xs.take (k + 1)).flatMap rowV = (xs.take k).flatMap rowV ++ rowV xs[k] := by
        rw [List.take_succ_eq_append_getElem hlt, List.flatMap_append, List.flatMap_cons, List.flatMap_nil, List.append_nil]
      generalize xs[k] = x at hta e3
      obtain ⟨⟨who, tag, rc, rv, news⟩, nad, ncp⟩ := x
      unfold rowV at hta
      dsimp only at hta
      repeat' (first | refine Ga ?_ | (refine Gb ?_; intro b) | (refine Gd ?_; intro g cap rest hcap) | (refine Gc ?_; intro ad cap)  | (refine Ge ?_ ?_ <;> (intro h; try (exfalso; omega))) | fail)
      all_goals first | (exfalso; omega) | skip
      refine IH ⟨(k + 1, ad, cap), hlt⟩ (by show xs.length - (k + 1) < xs.length - k; omega) ?_ ?_
      · exact Sub.go
      · dsimp only
        rw [e3]
        exact Ent.go
    · obtain rfl : k = xs.length := by omega
      clear IH
      rw [List.take_length]
      repeat' (first | refine Ga ?_ | (refine Gb ?_; intro b) | (refine Gd ?_; intro g cap rest hcap) | (refine Gc ?_; intro ad cap)  | (refine Ge ?_ ?_ <;> (intro h; try (exfalso; omega))) | fail)
      all_goals first | (exfalso; omega) | skip
      refine St.conv ?_ (Sub.refl _) (Ent.of_take (p := Row (.slice wad xs.length wcap) 233 5 xs.length (xs.flatMap rowV)) Take.go)
      refine St.rowL rfl fun R2 hR2 => ?_
      exact St.d1 Tryz.func43 ⟨_, ⟨R2, wad, wcap, hR2, rfl, rfl⟩, Ent.go⟩
set_option maxHeartbeats 2000000 in
theorem as14_t {q : HProp} {ad : Option Addr} {n cap : Nat} {xs : List (Int × Nat)} (hx : ListR entV q (.slice ad n cap) xs) (hn : xs.length ≤ 1000000) : Tri Tryz.prog 46 #[.slice ad n cap] [q]
    fun r L => ∃ R oa oc, ListR entV R (.slice oa xs.length oc) xs ∧ r = .slice oa xs.length oc ∧ L = [R, q] := by
  obtain rfl : n = xs.length := hx.len
  refine Tri.of_body (vs := [_]) Tryz.func46 rfl rfl fun w0 F => ?_
  repeat' (first | refine Ga ?_ | (refine Gb ?_; intro b) | (refine Gd ?_; intro g cap rest hcap) | (refine Gc ?_; intro ad cap)  | (refine Ge ?_ ?_ <;> (intro h; try (exfalso; omega))) | fail)
  all_goals first | (exfalso; omega) | skip
  refine St.conv ?_ (Sub.refl _) (Ent.trans (Ent.of_take (p := bl b 225 []) Take.go) (Ent.row_bl (n := 0) (sz := 2) rfl (Nat.zero_le _)))
  refine St.loopY (Lr := ?Lr1) (ι := { x : Nat × Option Addr × Nat // x.1 ≤ xs.length }) (fun x => xs.length - x.1.1) (fun x => [(9, .int .i64 (x.1.1 : Int)), (3, .slice x.1.2.1 x.1.1 x.1.2.2)]) (fun x => [Row (.slice x.1.2.1 x.1.1 x.1.2.2) 225 2 x.1.1 ((xs.take x.1.1).flatMap entV)]) ⟨(0, some ⟨b, 0, none⟩, 0), Nat.zero_le _⟩ ?hE1 ?hL1 ?round1
  case hE1 => exact Sub.go
  case hL1 => exact Takes.go
  case round1 =>
    rintro ⟨⟨k, wad, wcap⟩, hk⟩ IH; dsimp only at hk IH ⊢
    by_cases hlt : k < xs.length
    · obtain ⟨ab, ao, al, al1, rfl, hra9, hda, hta⟩ := hx.at' entV_len k hlt
      have e3 : (xs.take (k + 1)).flatMap entV = (xs.take k).flatMap entV ++ entV xs[k] := by
        rw [List.take_succ_eq_append_getElem hlt, List.flatMap_append, List.flatMap_cons, List.flatMap_nil, List.append_nil]
      generalize xs[k] = x at hta e3
      obtain ⟨x1, x2⟩ := x
      unfold entV at hta
      repeat' (first | refine Ga ?_ | (refine Gb ?_; intro b) | (refine Gd ?_; intro g cap rest hcap) | (refine Gc ?_; intro ad cap)  | (refine Ge ?_ ?_ <;> (intro h; try (exfalso; omega))) | fail)
      all_goals first | (exfalso; omega) | skip
      refine IH ⟨(k + 1, ad, cap), hlt⟩ (by show xs.length - (k + 1) < xs.length - k; omega) ?_ ?_
      · exact Sub.go
      · dsimp only
        rw [e3]
        exact Ent.go
    · obtain rfl : k = xs.length := by omega
      clear IH
      rw [List.take_length]
      repeat' (first | refine Ga ?_ | (refine Gb ?_; intro b) | (refine Gd ?_; intro g cap rest hcap) | (refine Gc ?_; intro ad cap)  | (refine Ge ?_ ?_ <;> (intro h; try (exfalso; omega))) | fail)
      all_goals first | (exfalso; omega) | skip
      refine St.conv ?_ (Sub.refl _) (Ent.of_take (p := Row (.slice wad xs.length wcap) 225 2 xs.length (xs.flatMap entV)) Take.go)
      refine St.rowL rfl fun R2 hR2 => ?_
      exact St.d1 Tryz.func46 ⟨_, ⟨R2, wad, wcap, hR2, rfl, rfl⟩, Ent.go⟩
end Go.Proofs.YthmbgodcpgkkeaaGreat
end
section
namespace Go.Proofs.YthmbgodcpgkkeaaGreat
set_option maxRecDepth 100000
theorem Tri.frz_out {P : Program} {f : FuncId} {args : Array Value} {L : List HProp} {Φ Q : Value → List HProp → Prop} (h : Tri P f args L Φ)
    (hq : ∀ v L', Φ v L' → ∃ A M, Ent L' (A :: M) ∧ ∀ H, Sat M H → Q v [A, Go.Proofs.YthmbgodcpgkkeaaGreat.frz H]) : Tri P f args L Q := by
  unfold Tri at *
  intro w F hs
  refine (h w F hs).mono ?_
  rintro e' w' ⟨v, L', he, hv, hs', ho⟩
  obtain ⟨A, M, hE, hQ⟩ := hq v L' hv
  have h1 : Ent (L' ++ F) (A :: (M ++ F)) := Ent.app hE
  have h2 : Ent (A :: (M ++ F)) (A :: star M :: F) := Ent.cons (Ent.star_in M)
  have h3 := h1.trans h2
  unfold Ent at h3
  have hs2 : Sat (A :: star M :: F) (hpOf w') := h3 _ hs'
  obtain ⟨H, hM, hs3⟩ := sat_frz hs2.swap
  exact ⟨v, _, he, hQ H (star_sat hM), hs3.swap, ho⟩
theorem u64s_flat14 (l : List Nat) : u64s l = l.flatMap u1V := by
  induction l with
  | nil => rfl
  | cons x l ih => rw [List.flatMap_cons, ← ih]; rfl
theorem brows_z (B : Nat) (c : Cfg) (hc : Small c) (pv : Value) (q : HProp) (progs : Progs) (m : Bm) (hi : Binv c progs m) : Tri Tryz.prog 44 #[.pointer (some ⟨B, 0, none⟩)] [Bd B c pv q progs m]
    fun r L => ∃ R ad cap rs, rs.map (·.1) = m.rows ∧ ListR rowV R (.slice ad rs.length cap) rs ∧ (∀ x ∈ rs, ListR u1V R (.slice x.2.1 x.1.news.length x.2.2) x.1.news) ∧ r = .slice ad rs.length cap ∧ L = [Bd B c pv q progs m, R] := by
  refine Tri.frz_out (brows_t B c hc pv q progs m hi) ?_
  rintro v L' ⟨ad, cap, rs, hrs, rfl, rfl⟩
  have hl : rs.length = m.rows.length := by rw [← hrs, List.length_map]
  refine ⟨_, Row (.slice ad m.rows.length cap) 128 5 m.rows.length (rs.flatMap rowV) :: (rs.map rowP ++ []), Ent.cons (Ent.cons Ent.star_out), fun H hH => ?_⟩
  refine ⟨_, ad, cap, rs, hrs, ?_, fun x hx => ?_, by rw [hl], rfl⟩
  · rw [hl]
    exact ListR.frz hl hH (List.mem_cons_self ..)
  · refine ListR.frz (e := 22) (sz := 1) (n := x.1.news.length) rfl hH (List.mem_cons_of_mem _ (List.mem_append_left _ ?_))
    rw [← u64s_flat14]
    exact List.mem_map_of_mem hx
theorem bentries_z (B : Nat) (c : Cfg) (hc : Small c) (pv : Value) (q : HProp) (progs : Progs) (m : Bm) (hi : Binv c progs m) : Tri Tryz.prog 47 #[.pointer (some ⟨B, 0, none⟩)] [Bd B c pv q progs m]
    fun r L => ∃ R ad cap, ListR entV R (.slice ad (entriesOf c m.e.puts).length cap) (entriesOf c m.e.puts) ∧ r = .slice ad (entriesOf c m.e.puts).length cap ∧ L = [Bd B c pv q progs m, R] := by
  refine Tri.frz_out (bentries_t B c hc pv q progs m hi) ?_
  rintro v L' ⟨ad, cap, rfl, rfl⟩
  exact ⟨_, _, Ent.refl _, fun H hH => ⟨_, ad, cap, ListR.frz rfl hH (List.mem_cons_self ..), rfl, rfl⟩⟩
theorem rentries_z {q : HProp} {lv : Value} {puts : List (Int × Nat)} {c : Cfg} (hc : Small c) (hl : ListR entV q lv puts) (hll : puts.length ≤ 1000000) (hk : ∀ p ∈ allP puts, -1 ≤ p.1 ∧ p.1 < c.f17) (room : Int) : Tri Tryz.prog 48 #[.agg ⟨c.v⟩, .agg ⟨[.int .i64 room, lv]⟩] [q]
    fun r L => ∃ R ad cap, ListR entV R (.slice ad (entriesOf c puts).length cap) (entriesOf c puts) ∧ r = .slice ad (entriesOf c puts).length cap ∧ L = [q, R] := by
  refine Tri.frz_out (rentries_t hc hl hll hk room) ?_
  rintro v L' ⟨ad, cap, rfl, rfl⟩
  exact ⟨_, _, by unfold Ent; exact fun h hs => hs.swap, fun H hH => ⟨_, ad, cap, ListR.frz rfl hH (List.mem_cons_self ..), rfl, rfl⟩⟩
/-- a guarded call that only looks, also at what the region made -/
theorem StD.gcallr2 {P : Program} {C : Cx} {k : List Item} {E : Env} {L L0 : List HProp} {T : Then} {ops : Array Oper} {r : List (Nat × Nat)} {i : Nat} {op : Op} {ty : TypeId} {ps : String} {af : Array Edge} {d : Tmp} {j t : Nat} {b : Bool} {g : FuncId} {vs : Array Value} {M : List HProp} {v : Value} (hi : ops[i]? = some ⟨some d, op, ty, ps, af, some (j, b)⟩) (hj : (ops[j]?).bind (·.dst) = some t) (hb : get E t = some (.bool b)) (hop : OpC P C.nt op ty E g vs) (ht : RTri P g vs M v) (qL : Ent L M ∧ inF C.nt (some d) = true)
    (h : StD P C ops L0 T r k ((d, v) :: E) L) : StD P C ops L0 T ((i, 2) :: r) k E L := by
  have hL := qL.1
  unfold StD at *
  unfold OpC at hop
  unfold RTri at ht
  unfold Ent at hL
  intro a hp ha hs
  have hy : yielded ops a.tmps j = some b := by
    simp only [yielded, hj, Option.bind_some]
    rw [ha.at_ t _ hb]
  simp only [runA, hi]
  intro w hk _
  simp only [wpOp, hi]
  rw [if_pos (by simp [Region.wanted, hy])]
  refine .inl ?_
  unfold Oper.wp
  rw [hop _ _ _ _ a w ha, Oper.upon_enter]
  refine (ht w ((hL _ hs).known hk)).mono fun e w' ⟨he, hg⟩ => ?_
  subst he
  exact ⟨hp, ⟨hk.grow hg, hg.old, fun b o hw hn => ⟨hg.heap b o hw, hn⟩⟩, fun h0 => hg.sat h0, h _ hp (ha.put qL.2 v) hs⟩
/-- left out, since its guard was -/
theorem StD.skipu2 {P : Program} {C : Cx} {k : List Item} {E : Env} {L L0 : List HProp} {T : Then} {ops : Array Oper} {r : List (Nat × Nat)} {i : Nat} {op : Op} {ty : TypeId} {ps : String} {af : Array Edge} {d : Tmp} {j t : Nat} {want : Bool} (hi : ops[i]? = some ⟨some d, op, ty, ps, af, some (j, want)⟩) (hj : (ops[j]?).bind (·.dst) = some t) (hb : get E t = some undef) (hd : inF C.nt (some d) = true)
    (h : StD P C ops L0 T r k ((d, undef) :: E) L) : StD P C ops L0 T ((i, 2) :: r) k E L := by
  unfold StD at *
  intro a hp ha hs
  have hy : yielded ops a.tmps j = none := by
    simp only [yielded, hj, Option.bind_some]
    rw [ha.at_ t _ hb]
    rfl
  simp only [runA, hi]
  intro w hk _
  simp only [wpOp, hi]
  rw [if_neg (by simp [Region.wanted, hy])]
  exact ⟨hp, ⟨hk, Old.refl w, fun _ _ hw hn => ⟨hw, hn⟩⟩, id, h _ hp (ha.put hd undef) hs⟩
end Go.Proofs.YthmbgodcpgkkeaaGreat
end
section
namespace Go.Proofs.YthmbgodcpgkkeaaGreat
set_option maxRecDepth 100000
theorem Bm.ask_stop {c : Cfg} {m : Bm} (h : m.b.s ≠ 0) : m.ask c = (op0, false) := by
  unfold Bm.ask
  rw [if_pos h]
  rfl
theorem rmake_at {c : Cfg} {os : List Out} {progs : Progs} (hc : Small c) (hf : 0 ≤ c.fuel ∧ c.fuel ≤ 1000) (who : Int) (seq : Nat)
    (hall : ∀ i, i < os.length → ((fedM (XB c progs) os (Bm.new who seq) i).ask c).2 = true) {m : Bm} (hm : m = fedM (XB c progs) os (Bm.new who seq) os.length) :
    ((rmake c os who seq progs (.live 0)).1 = .live os.length ∧ m.ask c = (op0, false) ∧ BE (rmake c os who seq progs (.live 0)).2 m) ∨
    ((m.ask c).2 = true ∧ m.b.s = 0 ∧ (rmake c os who seq progs (.live 0)).1 = ⟨os.length, (m.ask c).1, true⟩ ∧ (rmake c os who seq progs (.live 0)).2.2.2 = 0) := by
  obtain ⟨m', k, hf1, h⟩ := rmake_sim (os := os) (progs := progs) hc hf who seq (Nat.zero_le _)
  obtain ⟨rfl, hask⟩ := fed_at hf1 (Bm.new who seq) rfl
  have hkl := hf1.len (Nat.zero_le _)
  rcases h with ⟨h1, h2, _⟩ | ⟨rfl, h2, h3, h4⟩
  · have hs := h2.s
    have hs2 := h2.s2
    have hno : (fedM (XB c progs) os (Bm.new who seq) k).ask c = (op0, false) := Bm.ask_stop (by omega)
    have hk : k = os.length := by
      rcases Nat.lt_or_ge k os.length with hlt | hge
      · have := hall k hlt
        rw [hno] at this; cases this
      · omega
    subst hk
    subst hm
    exact .inl ⟨h1, hno, h2⟩
  · subst hm
    rw [XB_ask] at h2 h3
    refine .inr ⟨h2, ?_, h3, h4⟩
    refine Decidable.byContradiction fun hs => ?_
    rw [Bm.ask_stop hs] at h2
    cases h2
end Go.Proofs.YthmbgodcpgkkeaaGreat
end
section
namespace Go.Proofs.YthmbgodcpgkkeaaGreat
set_option maxRecDepth 100000
theorem Cfg.at_lt17 {c : Cfg} (hc : Small c) {kind : Int} (hk : 7 ≤ kind ∧ kind ≤ 16) (i k : Int) : -1 ≤ c.at kind i k ∧ c.at kind i k < c.f17 := by
  have hn := hc.nums.f7; have := hc.t0; have := hc.b0; have := hc.limit
  obtain ⟨hf7, hf10, hf11, hf12, hf13, hf14, hf15, hf16, hf17, hstr⟩ := c.froms
  have key : ∀ {n m b s : Int}, c.cnt kind = (n, m) → c.base kind = b → c.stp kind = s → (0 ≤ i → i < n → 0 ≤ k → k < m → -1 ≤ b + i * s + k ∧ b + i * s + k < c.f17) → -1 ≤ c.at kind i k ∧ c.at kind i k < c.f17 := fun {n m b s} h1 h2 h3 h => by
    unfold Cfg.at
    rw [h1, h2, h3]
    dsimp only
    split
    · rename_i g
      exact h g.1 g.2.1 g.2.2.1 g.2.2.2
    · omega
  clear hc
  have h : kind = 7 ∨ kind = 8 ∨ kind = 9 ∨ kind = 10 ∨ kind = 11 ∨ kind = 12 ∨ kind = 13 ∨ kind = 14 ∨ kind = 15 ∨ kind = 16 := by omega
  rcases h with rfl | rfl | rfl | rfl | rfl | rfl | rfl | rfl | rfl | rfl
  · exact key (n := c.threads) (m := 1) (b := c.f7 + (7 - 7)) (s := 3) rfl rfl rfl (by intros; omega)
  · exact key (n := c.threads) (m := 1) (b := c.f7 + (8 - 7)) (s := 3) rfl rfl rfl (by intros; omega)
  · exact key (n := c.threads) (m := 1) (b := c.f7 + (9 - 7)) (s := 3) rfl rfl rfl (by intros; omega)
  · exact key (n := 16) (m := 1) (b := c.f10) (s := 1) rfl rfl rfl (by intros; omega)
  · exact key (n := c.blocks) (m := 1) (b := c.f11) (s := 1) rfl rfl rfl (by intros; omega)
  · exact key (n := 1) (m := 1) (b := c.f12) (s := 1) rfl rfl rfl (by intros; omega)
  · exact key (n := c.blocks) (m := 1) (b := c.f13) (s := 1) rfl rfl rfl (by intros; omega)
  · exact key (n := 1) (m := 1) (b := c.f14) (s := 1) rfl rfl rfl (by intros; omega)
  · exact key (n := c.limit) (m := 1) (b := c.f15) (s := 1) rfl rfl rfl (by intros; omega)
  · exact key (n := c.blocks) (m := 8) (b := c.f16) (s := 8) rfl rfl rfl (by intros; omega)
/-- cells that there are -/
def Kq (c : Cfg) (P : List (Int × Nat)) : Prop := ∀ p ∈ P, -1 ≤ p.1 ∧ p.1 < c.f17
theorem Kq.nil {c : Cfg} : Kq c [] := fun _ h => by cases h
section
variable {c : Cfg} {P : List (Int × Nat)} {room : Nat}
theorem Kq.put (hc : Small c) (h : Kq c P) {kind : Int} (hk : 7 ≤ kind ∧ kind ≤ 16) (i k : Int) (v : Nat) : Kq c (putP room P (c.at kind i k) v) := by
  unfold putP
  split
  · exact h
  · intro p hp
    rcases List.mem_append.1 hp with hp | hp
    · exact h p hp
    · rw [List.mem_singleton] at hp; subst hp; exact Cfg.at_lt17 hc hk i k
theorem Kq.all (h : Kq c P) : Kq c (allP P) := fun p hp => by
  obtain ⟨x, hx, e⟩ := keysP_mem (P := P) (List.mem_map_of_mem (f := (·.1)) hp)
  have := h x hx
  omega
theorem Kq.takeN (hc : Small c) (h : Kq c P) (b : Nat) : ∀ k, Kq c (takeN c room P b k)
  | 0 => h.put hc (by decide) _ _ _
  | k + 1 => (h.takeN hc b k).put hc (by decide) _ _ _
theorem Kq.takeP (hc : Small c) (h : Kq c P) (nt : Int) (b : Nat) : Kq c (takeP c room nt P b).2 := by
  have h8 := h.takeN (room := room) hc b 8
  unfold Go.Proofs.YthmbgodcpgkkeaaGreat.takeP
  generalize Go.Proofs.YthmbgodcpgkkeaaGreat.takeN c room P b 8 = T at h8 ⊢
  split
  · exact h
  · exact h8
theorem Kq.giveP (hc : Small c) (h : Kq c P) (nl : Int) (b : Nat) : Kq c (giveP c room nl P b).2 := by
  unfold Go.Proofs.YthmbgodcpgkkeaaGreat.giveP
  split
  · exact h
  · exact (h.put hc (by decide) _ _ _).put hc (by decide) _ _ _
theorem Kq.relP (hc : Small c) (h : Kq c P) (nt : Int) (b : Nat) : Kq c (relP c room nt P b).2 := by
  unfold Go.Proofs.YthmbgodcpgkkeaaGreat.relP
  split
  · exact (h.put hc (by decide) _ _ _).put hc (by decide) _ _ _
  · exact h.put hc (by decide) _ _ _
theorem Kq.endP (hc : Small c) (h : Kq c P) (p : Po) : Kq c (endP c room p P) := by
  have h1 : Kq c (if p.nt = p.wt then P else putP room P (c.at 12 0 0) p.nt.toNat) := by
    split
    · exact h
    · exact h.put hc (by decide) _ _ _
  unfold Go.Proofs.YthmbgodcpgkkeaaGreat.endP
  split
  · exact h1
  · exact h1.put hc (by decide) _ _ _
theorem kq_setGo (hc : Small c) (names : List Nat) : ∀ (l : List Nat) (k : Nat) {s : SetS}, Kq c s.puts → Kq c (setGo c room names k l s).puts
  | [], _, _, h => h
  | b :: l, k, s, h => by
    refine kq_setGo hc names l (k + 1) (s := setStep c room names k b s) ?_
    unfold setStep
    split
    · exact h
    split
    · exact h.relP hc _ _
    · dsimp only
      split
      · exact h.put hc (by decide) _ _ _
      · exact h
theorem Kq.rput3 (hc : Small c) (h : Kq c P) (r : BRow) : Kq c (rput3 c room P r) := by
  unfold Go.Proofs.YthmbgodcpgkkeaaGreat.rput3
  exact ((h.put hc (by decide) _ _ _).put hc (by decide) _ _ _).put hc (by decide) _ _ _
end
section
variable {c : Cfg} {room : Nat} {r : Rr}
theorem kq_goOn (hc : Small c) (h : Kq c r.puts) (i : Ins) (x : Nat) : Kq c (r.goOn c room i x).puts := by
  have hp : Kq c (r.pay c i.op).1.puts := by rw [(pay_nt c r i.op).2.2.1]; exact h
  unfold Rr.goOn
  split
  · exact h
  split
  · unfold Rr.taken
    split
    · exact h
    · exact h.takeP hc _ _
  split
  · split
    · exact hp.put hc (by decide) _ _ _
    · exact hp
  split
  · split
    · exact hp.giveP hc _ _
    · exact hp
  · exact h
theorem kq_ends (h : Kq c r.puts) (s : Int) : Kq c (r.ends s).puts := by
  unfold Rr.ends
  split <;> exact h
theorem kq_after (hc : Small c) (h : Kq c r.puts) (i : Ins) (x : Rv × Nat × Int) : Kq c (r.after c room i x).puts := by
  unfold Rr.after
  split
  · exact kq_goOn (r := { r with v := x.1 }) hc h i _
  · exact kq_ends (r := { r with v := x.1 }) h _
theorem kq_fetch (hc : Small c) (h : Kq c r.puts) (os : List Out) (i : Ins) (a : Int) (t : Tp) : Kq c (rfetch c os room i r a t).2.puts := by
  unfold rfetch
  split
  · exact kq_goOn hc h i _
  · exact kq_after hc h i _
theorem kq_does (hc : Small c) (h : Kq c r.puts) (os : List Out) (args : List Nat) (i : Ins) (t : Tp) : Kq c (rdoes c os room args i r t).2.puts := by
  have hp : Kq c (r.pay c i.op).1.puts := by rw [(pay_nt c r i.op).2.2.1]; exact h
  unfold rdoes
  split
  · exact h
  split
  · dsimp only; split <;> exact h
  split
  · exact h
  split
  · exact h
  split
  · unfold rroot
    split
    · exact h
    split
    · dsimp only
      split
      · exact hp.put hc (by decide) _ _ _
      · exact hp
    · exact kq_fetch hc h os i _ _
  split
  · unfold rtouch
    split
    · exact h
    split
    · split
      · exact kq_goOn hc h i _
      · exact kq_after hc h i _
    split
    · exact kq_goOn hc h i _
    · exact kq_after hc h i _
  split
  · unfold rfresh
    split
    · split
      · exact hp
      · exact kq_fetch hc hp os i _ _
    · exact hp
  · exact h
theorem kq_step (hc : Small c) (h : Kq c r.puts) (os : List Out) (code : List Ins) (args : List Nat) (t : Tp) : Kq c (rstep c os room code args r t).2.puts := by
  unfold rstep
  split
  · exact h
  · exact kq_does (r := { r with steps := r.steps + 1, pc := r.pc + 1 }) hc h os args _ t
end
theorem kq_go {c : Cfg} {room : Nat} (hc : Small c) (os : List Out) (code : List Ins) (args : List Nat) : ∀ (k : Nat) {r : Rr} {t : Tp}, Kq c r.puts → Kq c (rgo c os room code args k r t).2.puts
  | 0, _, _, h => h
  | k + 1, r, t, h => by
    unfold rgo
    split
    · exact kq_go hc os code args k (kq_step hc h os code args t)
    · exact h
theorem kq_play {c : Cfg} {room : Nat} (hc : Small c) (os : List Out) (code : List Ins) (args : List Nat) (v : Rv) (nt nl : Int) {puts : List (Int × Nat)} (h : Kq c puts) (t : Tp) : Kq c (rplay c os room code args v nt nl puts t).2.puts := by
  unfold rplay
  split
  · have hg := kq_go (room := room) hc os code args (c.fuel.toNat + 1) (r := Rr.init v nt nl puts) (t := t) h
    dsimp only
    generalize (rgo c os room code args (c.fuel.toNat + 1) (Rr.init v nt nl puts) t).2 = r at hg ⊢
    unfold Rr.undo
    split
    · exact h
    · exact hg
  · exact h
theorem kq_rmk {c : Cfg} {room : Nat} (hc : Small c) (os : List Out) (progs : Progs) (p : Rp) : ∀ (k u : Nat) (b : Rb) (t : Tp), Kq c b.puts → Kq c (rmk c os room progs p k u b t).2.1
  | 0, _, _, _, h => h.endP hc _
  | k + 1, u, b, t, h => by
    rw [rmk_succ]
    unfold rmkC
    split
    · exact Kq.nil
    split
    · exact Kq.nil
    split
    · exact kq_rmk hc os progs p k (u + 1) _ _ h
    · unfold rmkP
      split
      · exact Kq.nil
      · exact kq_rmk hc os progs p k (u + 1) _ _ ((kq_play hc os _ _ _ _ _ h _).rput3 hc _)
/-- the cells that a transaction writes -/
theorem kq_rmake {c : Cfg} (hc : Small c) (os : List Out) (who : Int) (seq : Nat) (progs : Progs) (t : Tp) : Kq c (rmake c os who seq progs t).2.1 := by
  unfold rmake
  split
  · exact Kq.nil
  · exact kq_rmk hc os progs _ _ _ _ _ (kq_setGo hc _ _ _ Kq.nil)
end Go.Proofs.YthmbgodcpgkkeaaGreat
end
section
namespace Go.Proofs.YthmbgodcpgkkeaaGreat
set_option maxRecDepth 100000
theorem ListR.take {α : Type} {f : α → List Value} {q : HProp} {ad : Option Addr} {cap : Nat} {l : List α} (h : ListR f q (.slice ad l.length cap) l) (k : Nat) (hk : k ≤ l.length) : ListR f q (.slice ad (l.take k).length cap) (l.take k) := by
  obtain ⟨ad', cap', e, hc, h⟩ := h
  injection e with e1 _ e2
  subst e1 e2
  refine ⟨ad, cap, rfl, by rw [List.length_take]; omega, ?_⟩
  rcases h with h | ⟨b, o, c, rest, h1, h2, h3⟩
  · exact .inl (by rw [List.length_take]; omega)
  · refine .inr ⟨b, o, c, (l.drop k).flatMap f ++ rest, h1, h2, ?_⟩
    rw [← List.append_assoc, ← List.flatMap_append, List.take_append_drop]
    exact h3
section
end
end Go.Proofs.YthmbgodcpgkkeaaGreat
end
