/-
  Package tumblerlaw16: alive.
-/
import Derived.Test.YtemaaenipjinaaaGreatSn
namespace Go.Proofs.YtemaaenipjinaaaGreat
set_option maxRecDepth 100000
theorem sdmem_r (Sb Mb : Nat) (c : Cfg) (pv : Value) (Tb n cap picks : Nat) (rv wv : Value) : RTri Tryz.prog 52 #[.pointer (some ⟨Sb, 0, none⟩)] [bl Sb 188 (sdV c Mb pv Tb n cap picks rv wv)] (.pointer (some ⟨Mb, 0, none⟩)) := by
  refine RTri.of_exact fun W0 hs => ?_
  have hS := RdC.exact hs (ReadsC.here RdC.bl)
  refine Tri.of_body (vs := [_]) Tryz.func52 rfl rfl fun w0 F => ?_
  repeat' (first | refine Ga ?_ | (refine Gb ?_; intro b) | (refine Gd ?_; intro g cap rest hcap) | (refine Gc ?_; intro ad cap)  | (refine Ge ?_ ?_ <;> (intro h; try (exfalso; omega))) | fail)
  (first | refine St.dn Tryz.func52 ⟨?_, rfl⟩ Ent.go | refine St.fl Tryz.func52 ⟨?_, rfl⟩ Ent.go)
  rfl
theorem two_of {α : Type} {l : List α} (h : l.length = 2) : ∃ a b, l = [a, b] := by
  rcases l with _ | ⟨a, _ | ⟨b, _ | ⟨c, t⟩⟩⟩
  · cases h
  · cases h
  · exact ⟨a, b, rfl⟩
  · simp at h
theorem recs16b : ∃ r0 r1, m16b.recs = [r0, r1] ∧ r0.done = true ∧ r1.done = false := by
  have h := m16_b
  obtain ⟨r0, r1, e⟩ := two_of (l := m16b.recs) (by have := congrArg List.length h; rwa [List.length_map] at this)
  rw [e] at h
  injection h with h1 h2
  injection h2 with h2 _
  exact ⟨r0, r1, e, h1, h2⟩
theorem recs16c : ∃ r0 r1, m16c.recs = [r0, r1] ∧ r1.done = true ∧ r1.rv = 8 := by
  have h := m16_c
  obtain ⟨r0, r1, e⟩ := two_of (l := m16c.recs) (by have := congrArg List.length h; rwa [List.length_map] at this)
  rw [e] at h
  injection h with h1 h2
  injection h2 with h2 _
  injection h2 with h2 h3
  exact ⟨r0, r1, e, h2, h3⟩
theorem rows16c {rs : List SRowH} (hrs : rs.map (·.1) = m16c.rows) : m16c.rows.length = 2 ∧ ∃ x0 x1, sortS rs = [x0, x1] ∧ x0.1.who = 0 ∧ x0.1.at_ = 28 ∧ x1.1.at_ = 62 := by
  have h := m16_r
  rw [← hrs, List.map_map] at h
  rw [← hrs, List.length_map]
  obtain ⟨x0, x1, rfl⟩ := two_of (l := rs) (by have := congrArg List.length h; rwa [List.length_map] at this)
  · injection h with h1 h2
    injection h2 with h2 _
    injection h1 with h1 h3
    injection h2 with h2 _
    refine ⟨rfl, x0, x1, ?_, h3, h1, h2⟩
    have h1 : x0.1.at_ = 28 := h1
    have h2 : x1.1.at_ = 62 := h2
    have hlt : ltA [x0, x1] 1 0 = false := by
      unfold ltA
      show decide (x1.1.at_ < x0.1.at_) = false
      rw [h1, h2]; rfl
    show staGo 2 2 20 (blkGo 2 2 0 [x0, x1]) = [x0, x1]
    have e : blkGo 2 2 0 [x0, x1] = [x0, x1] := by
      show insS 0 2 [x0, x1] = [x0, x1]
      show insOut 0 0 2 (insIn 0 1 [x0, x1]) = [x0, x1]
      show insIn 0 1 [x0, x1] = [x0, x1]
      rw [insIn, if_neg (by rw [hlt]; simp)]
    rw [e]; rfl
set_option maxHeartbeats 4000000 in
theorem alive16_t : Tri Tryz.prog 42 #[] [] fun v L => v = .bool true ∧ L = [] := by
  have hbd := bound_r c16
  rw [m16_d] at hbd
  have hmn := mnew_t
  refine Tri.of_body (vs := []) Tryz.func42 rfl rfl fun w0 F => ?_
  repeat' (first | refine St.halt 3 ?_ |refine Ga ?_ | (refine Gb ?_; intro b) | (refine Gd ?_; intro g cap rest hcap) | (refine Gc ?_; intro ad cap) | (refine St.draw (id := 18) [(0, 0), (1, 0), (2, 0), (3, 0), (4, 0), (5, 0), (6, 0), (7, 0), (8, 0), (9, 0), (10, 0), (11, 1), (12, 0), (13, 0), (14, 0), (15, 0), (16, 0), (17, 1), (18, 0), (19, 0), (20, 0), (21, 0), (22, 0), (23, 0), (24, 0), (25, 0), (26, 0), (27, 0), (28, 0), (29, 1), (30, 0), (31, 0), (32, 0), (33, 0), (34, 0), (35, 0), (36, 1), (37, 0), (38, 0), (39, 0), (40, 0), (41, 0), (42, 0), (43, 0), (44, 0), (45, 0), (46, 0), (47, 0), (48, 1), (49, 0), (50, 0), (51, 0), (52, 0), (53, 0), (54, 0), (55, 1), (56, 0), (57, 0), (58, 0), (59, 1), (60, 0), (61, 0), (62, 0), (63, 0), (64, 1), (65, 0), (66, 0), (67, 0), (68, 1), (69, 0), (70, 1), (71, 1), (72, 0), (73, 0), (74, 0), (75, 1), (76, 1), (77, 0), (78, 0), (79, 0)] [] mixed (by kernel_rfl) ?_) | (refine Ge ?_ ?_ <;> (intro h; try (exfalso; omega))) | fail)
  apply Halt.go
  revert b; intro bo
  revert b; intro bi
  revert b; intro cb
  iterate 4 (first | refine Ga ?_ | (refine Gb ?_; intro b) | (refine Gd ?_; intro g cap rest hcap) | (refine Gc ?_; intro ad cap) | (refine St.draw (id := 18) [(0, 0), (1, 0), (2, 0), (3, 0), (4, 0), (5, 0), (6, 0), (7, 0), (8, 0), (9, 0), (10, 0), (11, 1), (12, 0), (13, 0), (14, 0), (15, 0), (16, 0), (17, 1), (18, 0), (19, 0), (20, 0), (21, 0), (22, 0), (23, 0), (24, 0), (25, 0), (26, 0), (27, 0), (28, 0), (29, 1), (30, 0), (31, 0), (32, 0), (33, 0), (34, 0), (35, 0), (36, 1), (37, 0), (38, 0), (39, 0), (40, 0), (41, 0), (42, 0), (43, 0), (44, 0), (45, 0), (46, 0), (47, 0), (48, 1), (49, 0), (50, 0), (51, 0), (52, 0), (53, 0), (54, 0), (55, 1), (56, 0), (57, 0), (58, 0), (59, 1), (60, 0), (61, 0), (62, 0), (63, 0), (64, 1), (65, 0), (66, 0), (67, 0), (68, 1), (69, 0), (70, 1), (71, 1), (72, 0), (73, 0), (74, 0), (75, 1), (76, 1), (77, 0), (78, 0), (79, 0)] [] mixed (by kernel_rfl) ?_) | (refine Ge ?_ ?_ <;> (intro h; try (exfalso; omega))) | fail)
  (apply StL.v; (apply OpV.buildA; (focus (repeat (first | rfl | constructor))); (focus (repeat (first | exact Fill.nil | (apply Fill.cons; exact ⟨rfl, rfl⟩; rfl; (focus (first | assumption | (repeat constructor)))))))); rfl)
  iterate 2 (first | refine Ga ?_ | (refine Gb ?_; intro b) | (refine Gd ?_; intro g cap rest hcap) | (refine Gc ?_; intro ad cap) | (refine St.draw (id := 18) [(0, 0), (1, 0), (2, 0), (3, 0), (4, 0), (5, 0), (6, 0), (7, 0), (8, 0), (9, 0), (10, 0), (11, 1), (12, 0), (13, 0), (14, 0), (15, 0), (16, 0), (17, 1), (18, 0), (19, 0), (20, 0), (21, 0), (22, 0), (23, 0), (24, 0), (25, 0), (26, 0), (27, 0), (28, 0), (29, 1), (30, 0), (31, 0), (32, 0), (33, 0), (34, 0), (35, 0), (36, 1), (37, 0), (38, 0), (39, 0), (40, 0), (41, 0), (42, 0), (43, 0), (44, 0), (45, 0), (46, 0), (47, 0), (48, 1), (49, 0), (50, 0), (51, 0), (52, 0), (53, 0), (54, 0), (55, 1), (56, 0), (57, 0), (58, 0), (59, 1), (60, 0), (61, 0), (62, 0), (63, 0), (64, 1), (65, 0), (66, 0), (67, 0), (68, 1), (69, 0), (70, 1), (71, 1), (72, 0), (73, 0), (74, 0), (75, 1), (76, 1), (77, 0), (78, 0), (79, 0)] [] mixed (by kernel_rfl) ?_) | (refine Ge ?_ ?_ <;> (intro h; try (exfalso; omega))) | fail)
  (apply StL.v; (apply OpV.buildA; (focus (repeat (first | rfl | constructor))); (focus (repeat (first | exact Fill.nil | (apply Fill.cons; exact ⟨rfl, rfl⟩; rfl; (focus (first | assumption | (repeat constructor)))))))); rfl)
  iterate 3 (first | refine Ga ?_ | (refine Gb ?_; intro b) | (refine Gd ?_; intro g cap rest hcap) | (refine Gc ?_; intro ad cap) | (refine St.draw (id := 18) [(0, 0), (1, 0), (2, 0), (3, 0), (4, 0), (5, 0), (6, 0), (7, 0), (8, 0), (9, 0), (10, 0), (11, 1), (12, 0), (13, 0), (14, 0), (15, 0), (16, 0), (17, 1), (18, 0), (19, 0), (20, 0), (21, 0), (22, 0), (23, 0), (24, 0), (25, 0), (26, 0), (27, 0), (28, 0), (29, 1), (30, 0), (31, 0), (32, 0), (33, 0), (34, 0), (35, 0), (36, 1), (37, 0), (38, 0), (39, 0), (40, 0), (41, 0), (42, 0), (43, 0), (44, 0), (45, 0), (46, 0), (47, 0), (48, 1), (49, 0), (50, 0), (51, 0), (52, 0), (53, 0), (54, 0), (55, 1), (56, 0), (57, 0), (58, 0), (59, 1), (60, 0), (61, 0), (62, 0), (63, 0), (64, 1), (65, 0), (66, 0), (67, 0), (68, 1), (69, 0), (70, 1), (71, 1), (72, 0), (73, 0), (74, 0), (75, 1), (76, 1), (77, 0), (78, 0), (79, 0)] [] mixed (by kernel_rfl) ?_) | (refine Ge ?_ ?_ <;> (intro h; try (exfalso; omega))) | fail)
  revert b; intro b2
  revert b; intro b1
  revert b; intro b0
  have hnw := sdnew_s c16 [bl bi 140 (ca15.flatMap Ins.v), bl bo 78 [.slice (some ⟨bi, 0, none⟩) 3 3], bl b0 28 [.int .i64 0, .int .u64 7, .int .u64 0, .int .u64 0, .int .u64 0], bl b1 28 [.int .i64 0, .int .u64 8, .int .u64 0, .int .u64 0, .int .u64 0], bl b2 95 [.slice (some ⟨b0, 0, none⟩) 1 1, .slice (some ⟨b1, 0, none⟩) 1 1]]
    (.slice (some ⟨bo, 0, none⟩) 1 1) (.slice (some ⟨b2, 0, none⟩) 2 2) progs16 calls16 (fun H hs => by
      constructor
      · refine ⟨_, _, rfl, by decide, fun i hi => ?_⟩
        obtain rfl : i = 0 := by simp only [progs16, List.length_cons, List.length_nil] at hi; omega
        refine ⟨bo, 0, _, _, rfl, RdC.frz hs (.there (.here .bl)), .zero, some ⟨bi, 0, none⟩, 3, rfl, .inr ⟨bi, 0, _, [], rfl, RdC.frz hs (.here .bl), ?_⟩⟩
        rw [List.append_nil]; exact .zero
      · refine ⟨_, _, rfl, by decide, fun i hi => ?_⟩
        have h0 : i = 0 ∨ i = 1 := by simp only [calls16, List.length_cons, List.length_nil] at hi; omega
        rcases h0 with rfl | rfl
        · refine ⟨b2, 0, _, some ⟨b0, 0, none⟩, 1, rfl, RdC.frz hs (.there (.there (.there (.there (.here .bl))))), .zero, .inr ⟨b0, 0, _, [], rfl, RdC.frz hs (.there (.there (.here .bl))), ?_⟩⟩
          rw [List.append_nil]; exact .zero
        · refine ⟨b2, 0, _, some ⟨b1, 0, none⟩, 1, rfl, RdC.frz hs (.there (.there (.there (.there (.here .bl))))), .succ .zero, .inr ⟨b1, 0, _, [], rfl, RdC.frz hs (.there (.there (.there (.here .bl)))), ?_⟩⟩
          rw [List.append_nil]; exact .zero) (by decide) (by decide) (by decide) (by decide +kernel) rfl
  have hnb := sdnew_bad c16 (some ⟨bo, 0, none⟩) 1 1 none 0 0 (by decide +kernel)
  repeat' (first | refine St.halt 5 ?_ |refine Ga ?_ | (refine Gb ?_; intro b) | (refine Gd ?_; intro g cap rest hcap) | (refine Gc ?_; intro ad cap) | (refine St.draw (id := 18) [(0, 0), (1, 0), (2, 0), (3, 0), (4, 0), (5, 0), (6, 0), (7, 0), (8, 0), (9, 0), (10, 0), (11, 1), (12, 0), (13, 0), (14, 0), (15, 0), (16, 0), (17, 1), (18, 0), (19, 0), (20, 0), (21, 0), (22, 0), (23, 0), (24, 0), (25, 0), (26, 0), (27, 0), (28, 0), (29, 1), (30, 0), (31, 0), (32, 0), (33, 0), (34, 0), (35, 0), (36, 1), (37, 0), (38, 0), (39, 0), (40, 0), (41, 0), (42, 0), (43, 0), (44, 0), (45, 0), (46, 0), (47, 0), (48, 1), (49, 0), (50, 0), (51, 0), (52, 0), (53, 0), (54, 0), (55, 1), (56, 0), (57, 0), (58, 0), (59, 1), (60, 0), (61, 0), (62, 0), (63, 0), (64, 1), (65, 0), (66, 0), (67, 0), (68, 1), (69, 0), (70, 1), (71, 1), (72, 0), (73, 0), (74, 0), (75, 1), (76, 1), (77, 0), (78, 0), (79, 0)] [] mixed (by kernel_rfl) ?_) | (refine Gt hnw ?_; rintro _ _ ⟨Sb, pv, H, hpr, rfl, rfl⟩) | (refine Gt hnb ?_; rintro _ _ ⟨rfl, rfl⟩) | (refine Ge ?_ ?_ <;> (intro h; try (exfalso; omega))) | fail)
  apply Halt.go
  have hid0 := idle_r (Sb := Sb) (c := c16) (pv := pv) (q := frz H) (progs := progs16) (m := Sd.new c16 calls16) 0
  have hid2 := idle_r (Sb := Sb) (c := c16) (pv := pv) (q := frz H) (progs := progs16) (m := Sd.new c16 calls16) 2
  rw [m16_i.1] at hid0
  rw [m16_i.2] at hid2
  have hpl := play_t (Sb := Sb) small16 (by decide) (by decide) hpr (m := Sd.new c16 calls16) (SdI.new small16 rfl (by decide)) txt16 (by decide)
  rw [m16_n, show (playM c16 progs16 txt16 (Sd.new c16 calls16)).1 = m16a from rfl] at hpl
  unfold txt16 at hpl
  have hpk0 := fun k => pick_t (Sb := Sb) small16 (by decide) (by decide) hpr (pickN_inv small16 (by decide) i16a 0 k) 0
  have hpk1 := fun k => pick_t (Sb := Sb) small16 (by decide) (by decide) hpr (pickN_inv small16 (by decide) i16b 1 k) 1
  have hrc1 := records_t (Sb := Sb) (pv := pv) (q := frz H) i16b
  have hrc2 := records_t (Sb := Sb) (pv := pv) (q := frz H) i16c
  have hrw := rows_t (Sb := Sb) (pv := pv) (q := frz H) i16c (by have := congrArg List.length m16_r; rw [List.length_map] at this; rw [this]; decide)
  repeat' (first | refine Ga ?_ | (refine Gb ?_; intro b) | (refine Gd ?_; intro g cap rest hcap) | (refine Gc ?_; intro ad cap) | (refine St.draw (id := 18) [(0, 0), (1, 0), (2, 0), (3, 0), (4, 0), (5, 0), (6, 0), (7, 0), (8, 0), (9, 0), (10, 0), (11, 1), (12, 0), (13, 0), (14, 0), (15, 0), (16, 0), (17, 1), (18, 0), (19, 0), (20, 0), (21, 0), (22, 0), (23, 0), (24, 0), (25, 0), (26, 0), (27, 0), (28, 0), (29, 1), (30, 0), (31, 0), (32, 0), (33, 0), (34, 0), (35, 0), (36, 1), (37, 0), (38, 0), (39, 0), (40, 0), (41, 0), (42, 0), (43, 0), (44, 0), (45, 0), (46, 0), (47, 0), (48, 1), (49, 0), (50, 0), (51, 0), (52, 0), (53, 0), (54, 0), (55, 1), (56, 0), (57, 0), (58, 0), (59, 1), (60, 0), (61, 0), (62, 0), (63, 0), (64, 1), (65, 0), (66, 0), (67, 0), (68, 1), (69, 0), (70, 1), (71, 1), (72, 0), (73, 0), (74, 0), (75, 1), (76, 1), (77, 0), (78, 0), (79, 0)] [] mixed (by kernel_rfl) ?_)| refine Gl hid0 ?_ | refine Gl hid2 ?_ | (refine Gt hmn ?_; rintro _ _ ⟨⟨S, rfl⟩, rfl⟩) | (refine Gt hpl ?_; rintro _ _ ⟨rfl, rfl⟩) | (refine Ge ?_ ?_ <;> (intro h; try (exfalso; omega))) | fail)
  all_goals first | (exfalso; omega) | skip
  refine St.loopY (Lr := ?Lr1) (ι := { k : Nat // k ≤ 100 }) (fun x => 100 - x.1) (fun x => [(61, .int .i64 (x.1 : Int))]) (fun x => [SdE Sb c16 pv (frz H) progs16 (pickN c16 progs16 0 x.1 m16a)]) ⟨0, Nat.zero_le _⟩ ?hE1 ?hL1 ?round1
  case hE1 => exact Sub.go
  case hL1 => show Takes [SdE Sb c16 pv (frz H) progs16 m16a] _ _; exact Takes.go
  case round1 =>
    rintro ⟨k, hk⟩ IH; dsimp only at hk IH ⊢
    by_cases hlt : k < 100
    · have hp := hpk0 k
      rw [show ((pickN c16 progs16 0 k m16a).pick c16 progs16 0).1 = pickN c16 progs16 0 (k + 1) m16a from rfl] at hp
      repeat' (first | refine Ga ?_ | (refine Gb ?_; intro b) | (refine Gd ?_; intro g cap rest hcap) | (refine Gc ?_; intro ad cap) | (refine St.draw (id := 18) [(0, 0), (1, 0), (2, 0), (3, 0), (4, 0), (5, 0), (6, 0), (7, 0), (8, 0), (9, 0), (10, 0), (11, 1), (12, 0), (13, 0), (14, 0), (15, 0), (16, 0), (17, 1), (18, 0), (19, 0), (20, 0), (21, 0), (22, 0), (23, 0), (24, 0), (25, 0), (26, 0), (27, 0), (28, 0), (29, 1), (30, 0), (31, 0), (32, 0), (33, 0), (34, 0), (35, 0), (36, 1), (37, 0), (38, 0), (39, 0), (40, 0), (41, 0), (42, 0), (43, 0), (44, 0), (45, 0), (46, 0), (47, 0), (48, 1), (49, 0), (50, 0), (51, 0), (52, 0), (53, 0), (54, 0), (55, 1), (56, 0), (57, 0), (58, 0), (59, 1), (60, 0), (61, 0), (62, 0), (63, 0), (64, 1), (65, 0), (66, 0), (67, 0), (68, 1), (69, 0), (70, 1), (71, 1), (72, 0), (73, 0), (74, 0), (75, 1), (76, 1), (77, 0), (78, 0), (79, 0)] [] mixed (by kernel_rfl) ?_) | (refine Gt hp ?_; rintro _ _ ⟨rfl, rfl⟩) | (refine Ge ?_ ?_ <;> (intro h; try (exfalso; omega))) | fail)
      all_goals first | (exfalso; omega) | skip
      refine IH ⟨k + 1, hlt⟩ (by show 100 - (k + 1) < 100 - k; omega) ?_ ?_
      · exact Sub.go
      · exact Ent.go
    · obtain rfl : k = 100 := by omega
      clear IH
      rw [show pickN c16 progs16 0 100 m16a = m16b from rfl]
      repeat' (first | refine Ga ?_ | (refine Gb ?_; intro b) | (refine Gd ?_; intro g cap rest hcap) | (refine Gc ?_; intro ad cap) | (refine St.draw (id := 18) [(0, 0), (1, 0), (2, 0), (3, 0), (4, 0), (5, 0), (6, 0), (7, 0), (8, 0), (9, 0), (10, 0), (11, 1), (12, 0), (13, 0), (14, 0), (15, 0), (16, 0), (17, 1), (18, 0), (19, 0), (20, 0), (21, 0), (22, 0), (23, 0), (24, 0), (25, 0), (26, 0), (27, 0), (28, 0), (29, 1), (30, 0), (31, 0), (32, 0), (33, 0), (34, 0), (35, 0), (36, 1), (37, 0), (38, 0), (39, 0), (40, 0), (41, 0), (42, 0), (43, 0), (44, 0), (45, 0), (46, 0), (47, 0), (48, 1), (49, 0), (50, 0), (51, 0), (52, 0), (53, 0), (54, 0), (55, 1), (56, 0), (57, 0), (58, 0), (59, 1), (60, 0), (61, 0), (62, 0), (63, 0), (64, 1), (65, 0), (66, 0), (67, 0), (68, 1), (69, 0), (70, 1), (71, 1), (72, 0), (73, 0), (74, 0), (75, 1), (76, 1), (77, 0), (78, 0), (79, 0)] [] mixed (by kernel_rfl) ?_) | (refine Gt hrc1 ?_; rintro _ _ ⟨ra, rc, rfl, rfl⟩) | (refine Ge ?_ ?_ <;> (intro h; try (exfalso; omega))) | fail)
      all_goals first | (exfalso; omega) | skip
      refine St.loopY (Lr := ?Lr2) (ι := { k : Nat // k ≤ 100 }) (fun x => 100 - x.1) (fun x => [(68, .int .i64 (x.1 : Int))]) (fun x => [SdE Sb c16 pv (frz H) progs16 (pickN c16 progs16 1 x.1 m16b)]) ⟨0, Nat.zero_le _⟩ ?hE2 ?hL2 ?round2
      case hE2 => exact Sub.go
      case hL2 => show Takes [SdE Sb c16 pv (frz H) progs16 m16b] _ _; exact Takes.go
      case round2 =>
        rintro ⟨k, hk⟩ IH; dsimp only at hk IH ⊢
        by_cases hlt : k < 100
        · have hp := hpk1 k
          rw [show ((pickN c16 progs16 1 k m16b).pick c16 progs16 1).1 = pickN c16 progs16 1 (k + 1) m16b from rfl] at hp
          repeat' (first | refine Ga ?_ | (refine Gb ?_; intro b) | (refine Gd ?_; intro g cap rest hcap) | (refine Gc ?_; intro ad cap) | (refine St.draw (id := 18) [(0, 0), (1, 0), (2, 0), (3, 0), (4, 0), (5, 0), (6, 0), (7, 0), (8, 0), (9, 0), (10, 0), (11, 1), (12, 0), (13, 0), (14, 0), (15, 0), (16, 0), (17, 1), (18, 0), (19, 0), (20, 0), (21, 0), (22, 0), (23, 0), (24, 0), (25, 0), (26, 0), (27, 0), (28, 0), (29, 1), (30, 0), (31, 0), (32, 0), (33, 0), (34, 0), (35, 0), (36, 1), (37, 0), (38, 0), (39, 0), (40, 0), (41, 0), (42, 0), (43, 0), (44, 0), (45, 0), (46, 0), (47, 0), (48, 1), (49, 0), (50, 0), (51, 0), (52, 0), (53, 0), (54, 0), (55, 1), (56, 0), (57, 0), (58, 0), (59, 1), (60, 0), (61, 0), (62, 0), (63, 0), (64, 1), (65, 0), (66, 0), (67, 0), (68, 1), (69, 0), (70, 1), (71, 1), (72, 0), (73, 0), (74, 0), (75, 1), (76, 1), (77, 0), (78, 0), (79, 0)] [] mixed (by kernel_rfl) ?_) | (refine Gt hp ?_; rintro _ _ ⟨rfl, rfl⟩) | (refine Ge ?_ ?_ <;> (intro h; try (exfalso; omega))) | fail)
          all_goals first | (exfalso; omega) | skip
          refine IH ⟨k + 1, hlt⟩ (by show 100 - (k + 1) < 100 - k; omega) ?_ ?_
          · exact Sub.go
          · exact Ent.go
        · obtain rfl : k = 100 := by omega
          clear IH
          rw [show pickN c16 progs16 1 100 m16b = m16c from rfl]
          repeat' (first | refine St.halt 18 ?_ |refine Ga ?_ | (refine Gb ?_; intro b) | (refine Gd ?_; intro g cap rest hcap) | (refine Gc ?_; intro ad cap) | (refine St.draw (id := 18) [(0, 0), (1, 0), (2, 0), (3, 0), (4, 0), (5, 0), (6, 0), (7, 0), (8, 0), (9, 0), (10, 0), (11, 1), (12, 0), (13, 0), (14, 0), (15, 0), (16, 0), (17, 1), (18, 0), (19, 0), (20, 0), (21, 0), (22, 0), (23, 0), (24, 0), (25, 0), (26, 0), (27, 0), (28, 0), (29, 1), (30, 0), (31, 0), (32, 0), (33, 0), (34, 0), (35, 0), (36, 1), (37, 0), (38, 0), (39, 0), (40, 0), (41, 0), (42, 0), (43, 0), (44, 0), (45, 0), (46, 0), (47, 0), (48, 1), (49, 0), (50, 0), (51, 0), (52, 0), (53, 0), (54, 0), (55, 1), (56, 0), (57, 0), (58, 0), (59, 1), (60, 0), (61, 0), (62, 0), (63, 0), (64, 1), (65, 0), (66, 0), (67, 0), (68, 1), (69, 0), (70, 1), (71, 1), (72, 0), (73, 0), (74, 0), (75, 1), (76, 1), (77, 0), (78, 0), (79, 0)] [] mixed (by kernel_rfl) ?_) | (refine Gt hrc2 ?_; rintro _ _ ⟨sa, sc, rfl, rfl⟩) | (refine Gt hrw ?_; rintro _ _ ⟨wa, wc, rs, hrs, rfl, rfl⟩) | (refine Ge ?_ ?_ <;> (intro h; try (exfalso; omega))) | fail)
          obtain ⟨r0, r1, eb, d0, d1⟩ := recs16b
          obtain ⟨s0, s1, ec, d2, d3⟩ := recs16c
          obtain ⟨ew, x0, x1, es, d4, d5, d6⟩ := rows16c hrs
          have lb : m16b.recs.length = 2 := by rw [eb]; rfl
          have lc : m16c.recs.length = 2 := by rw [ec]; rfl
          have f2 : ∀ (a b : Rec), [a, b].flatMap recV = recV a ++ recV b := fun a b => by rw [List.flatMap_cons, List.flatMap_cons, List.flatMap_nil, List.append_nil]
          have f3 : ∀ (a b : SRowH), [a, b].flatMap srV = srV a ++ srV b := fun a b => by rw [List.flatMap_cons, List.flatMap_cons, List.flatMap_nil, List.append_nil]
          rw [lb, lc, ew, eb, ec, es, f2, f2, f3]
          obtain ⟨⟨xa, xw, xt, xc, xv, xn⟩, xad, xcap⟩ := x0
          obtain ⟨⟨ya, yw, yt, yc, yv, yn⟩, yad, ycap⟩ := x1
          obtain ⟨p1, p2, ⟨p3, p4⟩, p5, p6, p7, p8, p9, p10⟩ := r0
          obtain ⟨q1, q2, ⟨q3, q4⟩, q5, q6, q7, q8, q9, q10⟩ := r1
          obtain ⟨u1, u2, ⟨u3, u4⟩, u5, u6, u7, u8, u9, u10⟩ := s0
          obtain ⟨v1, v2, ⟨v3, v4⟩, v5, v6, v7, v8, v9, v10⟩ := s1
          dsimp only at d0 d1 d2 d3 d4 d5 d6
          subst d0 d1 d2 d3 d4 d5 d6
          refine Halt.go (St.conv ?_ (Sub.refl _) (Ent.of_take (p := Row (.slice ra 2 rc) 116 13 2 (recV ⟨p1, p2, ⟨p3, p4⟩, p5, p6, p7, true, p9, p10⟩ ++ recV ⟨q1, q2, ⟨q3, q4⟩, q5, q6, q7, false, q9, q10⟩)) Take.go))
          refine St.rowF (by decide) (fun g1 cap1 rest1 hv hrf1 => ?_)
          injection hv with hv1 _ hv2
          subst hv1 hv2
          refine St.conv ?_ (Sub.refl _) (Ent.of_take (p := Row (.slice sa 2 sc) 116 13 2 (recV ⟨u1, u2, ⟨u3, u4⟩, u5, u6, u7, u8, u9, u10⟩ ++ recV ⟨v1, v2, ⟨v3, v4⟩, v5, v6, v7, true, v9, 8⟩)) Take.go)
          refine St.rowF (by decide) (fun g2 cap2 rest2 hv hrf2 => ?_)
          injection hv with hv1 _ hv2
          subst hv1 hv2
          refine St.conv ?_ (Sub.refl _) (Ent.of_take (p := Row (.slice wa 2 wc) 120 6 2 (srV (⟨28, 0, xt, xc, xv, xn⟩, xad, xcap) ++ srV (⟨62, yw, yt, yc, yv, yn⟩, yad, ycap))) Take.go)
          refine St.rowF (by decide) (fun g3 cap3 rest3 hv hrf3 => ?_)
          injection hv with hv1 _ hv2
          subst hv1 hv2
          have hl1 := hrf1.le; have hl2 := hrf2.le; have hl3 := hrf3.le
          refine St.conv ?_ (Sub.refl _) (Ent.of_take (p := SdE Sb c16 pv (frz H) progs16 m16c) Take.go)
          refine St.ex_out (fun x => ?_)
          have hid3 := (idle_r (Sb := Sb) (c := c16) (pv := pv) (q := frz H) (progs := progs16) (m := m16c) 0).ent (M := sdL Sb c16 pv (frz H) progs16 m16c x ++ []) (Ent.ex_in (Ls := sdL Sb c16 pv (frz H) progs16 m16c) x)
          have hpi := (picks_r (Sb := Sb) (c := c16) (pv := pv) (q := frz H) (progs := progs16) (m := m16c)).ent (M := sdL Sb c16 pv (frz H) progs16 m16c x ++ []) (Ent.ex_in (Ls := sdL Sb c16 pv (frz H) progs16 m16c) x)
          rw [m16_p.2.2] at hid3
          rw [m16_p.1] at hpi
          have hme := sdmem_r Sb x.Mb c16 pv x.Tb x.xs.length x.cap m16c.picks (.slice x.rad m16c.recs.length x.rcap) (.slice x.wad x.rs.length x.wcap)
          have hto := mtotal_r x.Mb x.C m16c.mem i16c.st
          rw [m16_p.2.1] at hto
          have hbd : RTri Tryz.prog 28 #[.agg ⟨[.int .i64 2, .int .i64 3, .int .i64 20, .int .i64 50, .int .u64 5, .int .u64 99]⟩] [] (.int .i64 10555) := hbd
          unfold sdL at hid3 hpi ⊢
          dsimp only [List.cons_append, List.nil_append] at hid3 hpi ⊢
          repeat' (first | refine Ga ?_ | (refine Gb ?_; intro b) | (refine Gd ?_; intro g cap rest hcap) | (refine Gc ?_; intro ad cap) | (refine St.draw (id := 18) [(0, 0), (1, 0), (2, 0), (3, 0), (4, 0), (5, 0), (6, 0), (7, 0), (8, 0), (9, 0), (10, 0), (11, 1), (12, 0), (13, 0), (14, 0), (15, 0), (16, 0), (17, 1), (18, 0), (19, 0), (20, 0), (21, 0), (22, 0), (23, 0), (24, 0), (25, 0), (26, 0), (27, 0), (28, 0), (29, 1), (30, 0), (31, 0), (32, 0), (33, 0), (34, 0), (35, 0), (36, 1), (37, 0), (38, 0), (39, 0), (40, 0), (41, 0), (42, 0), (43, 0), (44, 0), (45, 0), (46, 0), (47, 0), (48, 1), (49, 0), (50, 0), (51, 0), (52, 0), (53, 0), (54, 0), (55, 1), (56, 0), (57, 0), (58, 0), (59, 1), (60, 0), (61, 0), (62, 0), (63, 0), (64, 1), (65, 0), (66, 0), (67, 0), (68, 1), (69, 0), (70, 1), (71, 1), (72, 0), (73, 0), (74, 0), (75, 1), (76, 1), (77, 0), (78, 0), (79, 0)] [] mixed (by kernel_rfl) ?_)| refine Gl hid3 ?_ | refine Gl hpi ?_ | refine Gl hme ?_ | refine Gl hto ?_ | refine Gl hbd ?_ | (refine Ge ?_ ?_ <;> (intro h; try (exfalso; omega))) | fail)
          all_goals first | (exfalso; omega) | skip
          (first | refine St.dn Tryz.func42 ⟨?_, rfl⟩ Ent.go | refine St.fl Tryz.func42 ⟨?_, rfl⟩ Ent.go)
          rfl
end Go.Proofs.YtemaaenipjinaaaGreat
