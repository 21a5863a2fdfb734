/-
  Package build: ran.
-/
import Derived.Test.YtemaaenipjinaaaGreatBd
namespace Go.Proofs.YtemaaenipjinaaaGreat
set_option maxRecDepth 100000
theorem Bm.told_e (c : Cfg) (room : Nat) (m : Bm) : (m.told c room).b = m.b ∧ (m.told c room).e.v = m.e.v ∧ (m.told c room).e.p = m.e.p ∧ (m.told c room).e.x = m.e.x ∧ (m.told c room).e.news = m.e.news := ⟨rfl, rfl, rfl, rfl, rfl⟩
theorem rowV_len (r : RowH) : (rowV r).length = 5 := rfl
/-- behind ran: the rows may have moved -/
def ranQ (B V Pb W X room : Nat) (c : Cfg) (cv pv xv : Value) (m m' : Bm) (r : Value) (L : List HProp) : Prop := ∃ (rs : List RowH) (rad : Option Addr) (rcap : Nat), rs.map (·.1) = m'.rows ∧ r = .tuple ⟨[]⟩ ∧
  L = [bl B 254 (bdV c pv V Pb W xv (.slice rad m'.rows.length rcap) m'.b), Pl Pb c m'.e.p, Ws W room m'.e.puts, Xe X c cv V Pb W m.e.x m.e.news, Row (.slice rad m'.rows.length rcap) 83 5 m'.rows.length (rs.flatMap rowV), star (rs.map rowP)]
set_option maxHeartbeats 1000000 in
theorem bran_t (B V Pb W X room : Nat) (c : Cfg) (hc : Small c) (cv pv : Value) (m : Bm) (hn : Bn m) (rs : List RowH) (hrs : rs.map (·.1) = m.rows) (rad : Option Addr) (rcap : Nat) (hl8 : m.e.puts.length ≤ 800000000) (hrl : m.rows.length ≤ 1000) (hnews : m.e.news.length ≤ 1000) (hrc : 0 ≤ m.e.x.rc ∧ m.e.x.rc ≤ 1000) :
    Tri Tryz.prog 315 #[.pointer (some ⟨B, 0, none⟩)] [bl B 254 (bdV c pv V Pb W (.pointer (some ⟨X, 0, none⟩)) (.slice rad m.rows.length rcap) m.b), Pl Pb c m.e.p, Ws W room m.e.puts, Xe X c cv V Pb W m.e.x m.e.news, Row (.slice rad m.rows.length rcap) 83 5 m.rows.length (rs.flatMap rowV), star (rs.map rowP)]
      (ranQ B V Pb W X room c cv pv (.pointer (some ⟨X, 0, none⟩)) m (m.ran c room)) := by
  have hst := xstatus_s X V Pb W c cv m.e
  unfold Bm.ran
  by_cases h2 : m.e.x.s = 2
  · rw [if_pos h2]
    rw [h2] at hst
    refine Tri.of_body (vs := [_]) Tryz.func315 rfl rfl fun w0 F => ?_
    repeat' (first | refine Ga ?_ | (refine Gb ?_; intro b) | (refine Gd ?_; intro g cap rest hcap) | (refine Gc ?_; intro ad cap) | (refine St.draw (id := 5) [(0, 0), (1, 0), (2, 0), (3, 0), (4, 1), (5, 0), (6, 0), (7, 0), (8, 1), (9, 0), (10, 0), (11, 0), (12, 0), (13, 1), (14, 1), (15, 0), (16, 0), (17, 2), (18, 3), (19, 0), (20, 0), (21, 3)] [18, 21] mixed (by kernel_rfl) ?_) | (refine St.draw (id := 6) [(0, 0), (1, 0), (2, 0), (3, 1), (4, 0), (5, 0), (6, 0), (7, 1), (8, 0), (9, 0), (10, 0), (11, 1), (12, 1), (13, 0), (14, 1), (15, 0), (16, 3)] [16] mixed (by kernel_rfl) ?_) | (refine St.draw (id := 7) [(0, 0), (1, 0), (2, 0), (3, 1), (4, 0), (5, 0), (6, 0), (7, 1), (8, 0), (9, 0), (10, 0), (11, 1), (12, 1), (13, 0), (14, 1), (15, 3)] [15] mixed (by kernel_rfl) ?_) | (refine St.draw (id := 8) [(0, 0), (1, 0), (2, 0), (3, 1), (4, 0), (5, 0), (6, 0), (7, 1), (8, 0), (9, 0), (10, 0), (11, 1), (12, 1), (13, 0), (14, 0), (15, 0), (16, 0), (17, 1), (18, 3)] [18] mixed (by kernel_rfl) ?_)| refine Gl hst ?_ | (refine Ge ?_ ?_ <;> (intro h; try (exfalso; omega))) | fail)
    refine St.f1 Tryz.func315 ⟨_, ⟨rs, rad, rcap, hrs, rfl, rfl⟩, Ent.go⟩
  · rw [if_neg h2]
    by_cases h1 : m.e.x.s = 1
    · rw [if_pos h1]
      rw [h1] at hst
      have hlen := hn.len
      have hres := xresult_s X V Pb W c cv m.e (by omega)
      have hat := fun k => at_r c hc k m.b.u 0
      have hp1 := wput_t W room m.e.puts (c.at 8 m.b.u 0) m.e.x.rc.toNat (by omega)
      rw [show ((m.e.x.rc.toNat : Nat) : Int) = m.e.x.rc by omega] at hp1
      have hl1 := putP_len room m.e.puts (c.at 8 m.b.u 0) m.e.x.rc.toNat
      have hp2 := wput_t W room _ (c.at 9 m.b.u 0) m.e.x.rv (show (putP room m.e.puts (c.at 8 m.b.u 0) m.e.x.rc.toNat).length ≤ 1000000000 by omega)
      have hl2 := putP_len room (putP room m.e.puts (c.at 8 m.b.u 0) m.e.x.rc.toNat) (c.at 9 m.b.u 0) m.e.x.rv
      have hp3 := wput_t W room _ (c.at 7 m.b.u 0) m.b.ann.seq (show (putP room (putP room m.e.puts (c.at 8 m.b.u 0) m.e.x.rc.toNat) (c.at 9 m.b.u 0) m.e.x.rv).length ≤ 1000000000 by omega)
      have hl3 := putP_len room (putP room (putP room m.e.puts (c.at 8 m.b.u 0) m.e.x.rc.toNat) (c.at 9 m.b.u 0) m.e.x.rv) (c.at 7 m.b.u 0) m.b.ann.seq
      have hps := fun rv => bpass_t B V Pb W room c hc pv (.pointer (some ⟨X, 0, none⟩)) rv (m.told c room) ⟨hn.u, hn.nt, hn.nl, by show (putP room (putP room (putP room _ _ _) _ _) _ _).length ≤ _; omega⟩
      have htk := fun rv b => take_b c pv V Pb W (.pointer (some ⟨X, 0, none⟩)) rv b
      obtain ⟨e1, e2, e3, e4, e5⟩ := (m.told c room).pass_e c room
      refine Tri.of_body (vs := [_]) Tryz.func315 rfl rfl fun w0 F => ?_
      repeat' (first | refine St.halt 6 ?_ |refine Ga ?_ | (refine Gb ?_; intro b) | (refine Gd ?_; intro g cap rest hcap) | (refine Gc ?_; intro ad cap) | (refine St.draw (id := 5) [(0, 0), (1, 0), (2, 0), (3, 0), (4, 1), (5, 0), (6, 0), (7, 0), (8, 1), (9, 0), (10, 0), (11, 0), (12, 0), (13, 1), (14, 1), (15, 0), (16, 0), (17, 2), (18, 3), (19, 0), (20, 0), (21, 3)] [18, 21] mixed (by kernel_rfl) ?_) | (refine St.draw (id := 6) [(0, 0), (1, 0), (2, 0), (3, 1), (4, 0), (5, 0), (6, 0), (7, 1), (8, 0), (9, 0), (10, 0), (11, 1), (12, 1), (13, 0), (14, 1), (15, 0), (16, 3)] [16] mixed (by kernel_rfl) ?_) | (refine St.draw (id := 7) [(0, 0), (1, 0), (2, 0), (3, 1), (4, 0), (5, 0), (6, 0), (7, 1), (8, 0), (9, 0), (10, 0), (11, 1), (12, 1), (13, 0), (14, 1), (15, 3)] [15] mixed (by kernel_rfl) ?_) | (refine St.draw (id := 8) [(0, 0), (1, 0), (2, 0), (3, 1), (4, 0), (5, 0), (6, 0), (7, 1), (8, 0), (9, 0), (10, 0), (11, 1), (12, 1), (13, 0), (14, 0), (15, 0), (16, 0), (17, 1), (18, 3)] [18] mixed (by kernel_rfl) ?_)| refine Gl hst ?_ | (refine Gt hres ?_; rintro _ _ ⟨nad, ncap, rfl, rfl⟩) | (refine Ge ?_ ?_ <;> (intro h; try (exfalso; omega))) | fail)
      apply Halt.go
      have hps2 := hps (.slice ad (m.rows.length + 1) cap)
      repeat' (first | refine Ga ?_ | (refine Gb ?_; intro b) | (refine Gd ?_; intro g cap rest hcap) | (refine Gc ?_; intro ad cap) | (refine St.draw (id := 5) [(0, 0), (1, 0), (2, 0), (3, 0), (4, 1), (5, 0), (6, 0), (7, 0), (8, 1), (9, 0), (10, 0), (11, 0), (12, 0), (13, 1), (14, 1), (15, 0), (16, 0), (17, 2), (18, 3), (19, 0), (20, 0), (21, 3)] [18, 21] mixed (by kernel_rfl) ?_) | (refine St.draw (id := 6) [(0, 0), (1, 0), (2, 0), (3, 1), (4, 0), (5, 0), (6, 0), (7, 1), (8, 0), (9, 0), (10, 0), (11, 1), (12, 1), (13, 0), (14, 1), (15, 0), (16, 3)] [16] mixed (by kernel_rfl) ?_) | (refine St.draw (id := 7) [(0, 0), (1, 0), (2, 0), (3, 1), (4, 0), (5, 0), (6, 0), (7, 1), (8, 0), (9, 0), (10, 0), (11, 1), (12, 1), (13, 0), (14, 1), (15, 3)] [15] mixed (by kernel_rfl) ?_) | (refine St.draw (id := 8) [(0, 0), (1, 0), (2, 0), (3, 1), (4, 0), (5, 0), (6, 0), (7, 1), (8, 0), (9, 0), (10, 0), (11, 1), (12, 1), (13, 0), (14, 0), (15, 0), (16, 0), (17, 1), (18, 3)] [18] mixed (by kernel_rfl) ?_)| refine Gl (hat _) ?_ | (refine Gt hp1 ?_; rintro _ _ ⟨rfl, rfl⟩) | (refine Gt hp2 ?_; rintro _ _ ⟨rfl, rfl⟩) | (refine Gt hp3 ?_; rintro _ _ ⟨rfl, rfl⟩) | (refine Gt hps2 ?_; rintro _ _ ⟨rfl, rfl⟩) | (refine Ge ?_ ?_ <;> (intro h; try (exfalso; omega))) | fail)
      have hl : ((m.told c room).pass c room).rows.length = m.rows.length + 1 := by rw [e5]; show (m.rows ++ [_]).length = _; rw [List.length_append]; rfl
      refine St.f1 Tryz.func315 ⟨_, ⟨rs ++ [(⟨m.b.u, m.b.ann.seq, m.e.x.rc, m.e.x.rv, m.e.news⟩, nad, ncap)], ad, cap, ?_, rfl, rfl⟩, ?_⟩
      · rw [e5, List.map_append, hrs]; rfl
      · rw [hl, e2, List.map_append, List.flatMap_append]
        refine Ent.trans (Ent.of_take (p := star (rs.map rowP)) Take.go) ?_
        refine Ent.trans (Ent.of_take (p := Row (.slice nad m.e.news.length ncap) 22 1 m.e.news.length (u64s m.e.news)) Take.go) ?_
        exact Ent.trans (Ent.star_snoc _ _) Ent.go
    · rw [if_neg h1]
      refine Tri.of_body (vs := [_]) Tryz.func315 rfl rfl fun w0 F => ?_
      repeat' (first | refine Ga ?_ | (refine Gb ?_; intro b) | (refine Gd ?_; intro g cap rest hcap) | (refine Gc ?_; intro ad cap) | (refine St.draw (id := 5) [(0, 0), (1, 0), (2, 0), (3, 0), (4, 1), (5, 0), (6, 0), (7, 0), (8, 1), (9, 0), (10, 0), (11, 0), (12, 0), (13, 1), (14, 1), (15, 0), (16, 0), (17, 2), (18, 3), (19, 0), (20, 0), (21, 3)] [18, 21] mixed (by kernel_rfl) ?_) | (refine St.draw (id := 6) [(0, 0), (1, 0), (2, 0), (3, 1), (4, 0), (5, 0), (6, 0), (7, 1), (8, 0), (9, 0), (10, 0), (11, 1), (12, 1), (13, 0), (14, 1), (15, 0), (16, 3)] [16] mixed (by kernel_rfl) ?_) | (refine St.draw (id := 7) [(0, 0), (1, 0), (2, 0), (3, 1), (4, 0), (5, 0), (6, 0), (7, 1), (8, 0), (9, 0), (10, 0), (11, 1), (12, 1), (13, 0), (14, 1), (15, 3)] [15] mixed (by kernel_rfl) ?_) | (refine St.draw (id := 8) [(0, 0), (1, 0), (2, 0), (3, 1), (4, 0), (5, 0), (6, 0), (7, 1), (8, 0), (9, 0), (10, 0), (11, 1), (12, 1), (13, 0), (14, 0), (15, 0), (16, 0), (17, 1), (18, 3)] [18] mixed (by kernel_rfl) ?_)| refine Gl hst ?_ | (refine Ge ?_ ?_ <;> (intro h; try (exfalso; omega))) | fail)
      refine St.f1 Tryz.func315 ⟨_, ⟨rs, rad, rcap, hrs, rfl, rfl⟩, Ent.go⟩
end Go.Proofs.YtemaaenipjinaaaGreat
