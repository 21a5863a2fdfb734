/-
  Package build: begin.
-/
import Derived.Test.YtemaaenipjinaaaGreatBe
import Derived.Test.YtemaaenipjinaaaGreatBf
namespace Go.Proofs.YtemaaenipjinaaaGreat
set_option maxRecDepth 100000
/-- programs that can be read -/
def ProgsR (q : HProp) (pv : Value) (progs : Progs) : Prop :=
  ∃ pad pcap, pv = .slice pad progs.length pcap ∧ progs.length ≤ 1000 ∧ ∀ (i : Nat) (h : i < progs.length), ∃ b o l cv, pad = some ⟨b, o, none⟩ ∧ RdC q b l ∧ NthN (o + (i : Int).toNat * 1) l cv ∧ InsR q cv progs[i]
theorem Bm.ran_e (c : Cfg) (room : Nat) (m : Bm) : (m.ran c room).e.v = m.e.v ∧ (m.ran c room).e.p = m.e.p ∧ (m.ran c room).e.x = m.e.x ∧ (m.ran c room).e.news = m.e.news ∧ (m.ran c room).b.ann = m.b.ann := by
  have hp := fun m : Bm => Bm.pass_e c room m
  have ha : ∀ m : Bm, (m.pass c room).b.ann = m.b.ann := fun m => by unfold Bm.pass; split <;> rfl
  unfold Bm.ran
  split
  · exact ⟨rfl, rfl, rfl, rfl, rfl⟩
  split
  · obtain ⟨h1, h2, h3, h4, _⟩ := hp (m.told c room)
    exact ⟨h1, h2, h3, h4, ha _⟩
  · exact ⟨rfl, rfl, rfl, rfl, rfl⟩
def begQ (B V Pb W room : Nat) (c : Cfg) (pv : Value) (q : HProp) (code : List Ins) (m' : Bm) (r : Value) (L : List HProp) : Prop := ∃ (X : Nat) (cv : Value) (rs : List RowH) (rad : Option Addr) (rcap : Nat), rs.map (·.1) = m'.rows ∧ InsR q cv code ∧ r = .tuple ⟨[]⟩ ∧
  L = bdO B V Pb W room c pv (.pointer (some ⟨X, 0, none⟩)) (.slice rad m'.rows.length rcap) m' ++ [Xe X c cv V Pb W m'.e.x m'.e.news, Row (.slice rad m'.rows.length rcap) 83 5 m'.rows.length (rs.flatMap rowV), star (rs.map rowP), q]
theorem InsR.nil (q : HProp) : InsR q (.slice none 0 0) [] := ⟨none, 0, rfl, .inl rfl⟩
set_option maxHeartbeats 1000000 in
theorem bbegin_t (B V Pb W : Nat) (c : Cfg) (hc : Small c) (hf : 0 ≤ c.fuel ∧ c.fuel ≤ 1000) (pv xv : Value) (q : HProp) (progs : Progs) (hpv : ProgsR q pv progs) (m : Bm) (g : Bgen c m) (hu : m.b.u < c.threads) (hq : Bq c m.b.u m.rows m.e.puts)
    (rs : List RowH) (hrs : rs.map (·.1) = m.rows) (rad : Option Addr) (rcap : Nat) :
    Tri Tryz.prog 313 #[.pointer (some ⟨B, 0, none⟩)] (bdO B V Pb W c.cap.toNat c pv xv (.slice rad m.rows.length rcap) m ++ [Row (.slice rad m.rows.length rcap) 83 5 m.rows.length (rs.flatMap rowV), star (rs.map rowP), q])
      (begQ B V Pb W c.cap.toNat c pv q (progOf progs m.b.ann.val) (m.begin c c.cap.toNat progs)) := by
  obtain ⟨pad, pcap, rfl, hpl, hpr⟩ := hpv
  have hS : Start c m.e.puts m.e.p.nt m.e.p.nl := ⟨hc, hf.2, by have := hq.short hc g.u (by omega); omega, g.nt, g.nl⟩
  have hpu := hq.short hc g.u (by omega)
  have ht1 := hc.t1
  have htk := take_b c (.slice pad progs.length pcap) V Pb W xv (.slice rad m.rows.length rcap) m.b
  have hX := Xr.start (code := progOf progs m.b.ann.val) hS hf.1 c.cap.toNat m.e.v m.e.p rfl rfl m.b.args g.args g.vb g.vgo
  obtain ⟨hrc, hnt, hnl, hvb, hvg, hnw, hpa, hsx, hri⟩ := hX.num hS
  have hpl2 : (Xm.start c c.cap.toNat (progOf progs m.b.ann.val) m.e.v m.e.p m.e.puts m.b.args).puts.length ≤ 3000 := by
    have := hc.w1; have := hc.w0
    obtain ⟨l, e, hl, _⟩ := hpa
    rw [e, List.length_append]; omega
  have hru := g.rows; have hu0 := g.u
  have hran := fun X cv => bran_t B V Pb W X c.cap.toNat c hc cv (.slice pad progs.length pcap) { m with b := { m.b with next := 4 }, e := Xm.start c c.cap.toNat (progOf progs m.b.ann.val) m.e.v m.e.p m.e.puts m.b.args } ⟨by dsimp only; omega, by dsimp only; omega, by dsimp only; omega, by dsimp only; omega⟩ rs hrs rad rcap (by dsimp only; omega) (by dsimp only; omega) (by dsimp only; omega) (by dsimp only; omega)
  have hnew := fun cv hcv => xnew_s V Pb W c.cap.toNat c hc cv q (progOf progs m.b.ann.val) hcv m.e.v m.e.p m.e.puts m.b.args (by omega) (Xi c (progOf progs m.b.ann.val) m.e.puts m.e.p.nt m.e.p.nl 0) (fun hr => xi_run hS c.cap.toNat hr 0) (fun hr => ⟨Xinv.init hr hS hf.1 m.e.v m.e.p rfl rfl m.b.args g.args g.vb, Xw.init m.e.v m.e.p m.b.args g.vgo⟩)
  obtain ⟨d1, d2, d3, d4, d5⟩ := Bm.ran_e c c.cap.toNat { m with b := { m.b with next := 4 }, e := Xm.start c c.cap.toNat (progOf progs m.b.ann.val) m.e.v m.e.p m.e.puts m.b.args }
  unfold Bm.begin
  by_cases hlt : m.b.ann.val < progs.length
  · obtain ⟨pb, po, pl, cv, rfl, hrd, hnth, hins⟩ := hpr m.b.ann.val hlt
    have hcode : progOf progs m.b.ann.val = progs[m.b.ann.val] := by unfold progOf; rw [List.getD_eq_getElem?_getD, List.getElem?_eq_getElem hlt]; rfl
    rw [← hcode] at hins
    have hins0 := hins
    obtain ⟨cad, ccap, rfl, _⟩ := hins0
    have hnew1 := hnew _ hins
    have hran1 := fun X => hran X (.slice cad (progOf progs m.b.ann.val).length ccap)
    unfold bdO
    refine Tri.of_body (vs := [_]) Tryz.func313 rfl rfl fun w0 F => ?_
    repeat' (first | refine Ga ?_ | (refine Gb ?_; intro b) | (refine Gd ?_; intro g cap rest hcap) | (refine Gc ?_; intro ad cap) | (refine St.draw (id := 1) [(0, 0), (1, 0), (2, 0), (3, 0), (4, 1), (5, 0), (6, 0), (7, 0), (8, 1), (9, 0), (10, 0), (11, 0)] [] mixed (by kernel_rfl) ?_) | (refine St.draw (id := 2) [(0, 0), (1, 0), (2, 0), (3, 1), (4, 0), (5, 0), (6, 0), (7, 0), (8, 1), (9, 0), (10, 1), (11, 0)] [] mixed (by kernel_rfl) ?_) | (refine St.draw (id := 3) [(0, 0), (1, 0), (2, 0), (3, 0), (4, 1), (5, 0), (6, 0), (7, 0), (8, 0), (9, 1), (10, 0), (11, 0), (12, 0), (13, 1), (14, 0), (15, 0), (16, 0), (17, 1), (18, 0), (19, 0), (20, 0), (21, 1), (22, 3), (23, 0), (24, 0), (25, 3)] [22, 25] mixed (by kernel_rfl) ?_) | (refine Gt hnew1 ?_; rintro _ _ ⟨X, rfl, rfl⟩) | (refine Ge ?_ ?_ <;> (intro h; try (exfalso; omega))) | fail)
    have hr2 := hran1 X
    repeat' (first | refine Ga ?_ | (refine Gb ?_; intro b) | (refine Gd ?_; intro g cap rest hcap) | (refine Gc ?_; intro ad cap) | (refine St.draw (id := 1) [(0, 0), (1, 0), (2, 0), (3, 0), (4, 1), (5, 0), (6, 0), (7, 0), (8, 1), (9, 0), (10, 0), (11, 0)] [] mixed (by kernel_rfl) ?_) | (refine St.draw (id := 2) [(0, 0), (1, 0), (2, 0), (3, 1), (4, 0), (5, 0), (6, 0), (7, 0), (8, 1), (9, 0), (10, 1), (11, 0)] [] mixed (by kernel_rfl) ?_) | (refine St.draw (id := 3) [(0, 0), (1, 0), (2, 0), (3, 0), (4, 1), (5, 0), (6, 0), (7, 0), (8, 0), (9, 1), (10, 0), (11, 0), (12, 0), (13, 1), (14, 0), (15, 0), (16, 0), (17, 1), (18, 0), (19, 0), (20, 0), (21, 1), (22, 3), (23, 0), (24, 0), (25, 3)] [22, 25] mixed (by kernel_rfl) ?_) | (refine Gt hr2 ?_; rintro _ _ ⟨rs', rad', rcap', hrs', rfl, rfl⟩) | (refine Ge ?_ ?_ <;> (intro h; try (exfalso; omega))) | fail)
    refine St.f1 Tryz.func313 ⟨_, ⟨X, _, rs', rad', rcap', hrs', hins, rfl, rfl⟩, ?_⟩
    unfold bdO
    rw [d1, d3, d4]
    exact Ent.go
  · have hcode : progOf progs m.b.ann.val = [] := by unfold progOf; rw [List.getD_eq_getElem?_getD, List.getElem?_eq_none (by omega)]; rfl
    have hnew1 := hnew (.slice none 0 0) (by rw [hcode]; exact InsR.nil q)
    have hran1 := fun X => hran X (.slice none 0 0)
    unfold bdO
    refine Tri.of_body (vs := [_]) Tryz.func313 rfl rfl fun w0 F => ?_
    repeat' (first | refine Ga ?_ | (refine Gb ?_; intro b) | (refine Gd ?_; intro g cap rest hcap) | (refine Gc ?_; intro ad cap) | (refine St.draw (id := 1) [(0, 0), (1, 0), (2, 0), (3, 0), (4, 1), (5, 0), (6, 0), (7, 0), (8, 1), (9, 0), (10, 0), (11, 0)] [] mixed (by kernel_rfl) ?_) | (refine St.draw (id := 2) [(0, 0), (1, 0), (2, 0), (3, 1), (4, 0), (5, 0), (6, 0), (7, 0), (8, 1), (9, 0), (10, 1), (11, 0)] [] mixed (by kernel_rfl) ?_) | (refine St.draw (id := 3) [(0, 0), (1, 0), (2, 0), (3, 0), (4, 1), (5, 0), (6, 0), (7, 0), (8, 0), (9, 1), (10, 0), (11, 0), (12, 0), (13, 1), (14, 0), (15, 0), (16, 0), (17, 1), (18, 0), (19, 0), (20, 0), (21, 1), (22, 3), (23, 0), (24, 0), (25, 3)] [22, 25] mixed (by kernel_rfl) ?_) | (refine Gt hnew1 ?_; rintro _ _ ⟨X, rfl, rfl⟩) | (refine Ge ?_ ?_ <;> (intro h; try (exfalso; omega))) | fail)
    have hr2 := hran1 X
    repeat' (first | refine Ga ?_ | (refine Gb ?_; intro b) | (refine Gd ?_; intro g cap rest hcap) | (refine Gc ?_; intro ad cap) | (refine St.draw (id := 1) [(0, 0), (1, 0), (2, 0), (3, 0), (4, 1), (5, 0), (6, 0), (7, 0), (8, 1), (9, 0), (10, 0), (11, 0)] [] mixed (by kernel_rfl) ?_) | (refine St.draw (id := 2) [(0, 0), (1, 0), (2, 0), (3, 1), (4, 0), (5, 0), (6, 0), (7, 0), (8, 1), (9, 0), (10, 1), (11, 0)] [] mixed (by kernel_rfl) ?_) | (refine St.draw (id := 3) [(0, 0), (1, 0), (2, 0), (3, 0), (4, 1), (5, 0), (6, 0), (7, 0), (8, 0), (9, 1), (10, 0), (11, 0), (12, 0), (13, 1), (14, 0), (15, 0), (16, 0), (17, 1), (18, 0), (19, 0), (20, 0), (21, 1), (22, 3), (23, 0), (24, 0), (25, 3)] [22, 25] mixed (by kernel_rfl) ?_) | (refine Gt hr2 ?_; rintro _ _ ⟨rs', rad', rcap', hrs', rfl, rfl⟩) | (refine Ge ?_ ?_ <;> (intro h; try (exfalso; omega))) | fail)
    refine St.f1 Tryz.func313 ⟨_, ⟨X, _, rs', rad', rcap', hrs', by rw [hcode]; exact InsR.nil q, rfl, rfl⟩, ?_⟩
    unfold bdO
    rw [d1, d3, d4]
    exact Ent.go
end Go.Proofs.YtemaaenipjinaaaGreat
