/-
  Package build: Tell.
-/
import Derived.Test.YtemaaenipjinaaaGreatBg
namespace Go.Proofs.YtemaaenipjinaaaGreat
set_option maxRecDepth 100000
structure BdH (q : HProp) (progs : Progs) (m : Bm) where
  V : Nat
  Pb : Nat
  W : Nat
  X : Nat
  xv : Value
  cv : Value
  rs : List RowH
  rad : Option Addr
  rcap : Nat
  hrs : rs.map (·.1) = m.rows
  hx : m.b.s = 0 → m.b.next = 4 → xv = .pointer (some ⟨X, 0, none⟩) ∧ InsR q cv (progOf progs m.b.ann.val)
/-- the program that runs, if one does -/
def xpP (X V Pb W : Nat) (c : Cfg) (cv : Value) (m : Bm) : HProp := if m.b.s = 0 ∧ m.b.next = 4 then Xe X c cv V Pb W m.e.x m.e.news else star []
def bdL (B room : Nat) (c : Cfg) (pv : Value) (q : HProp) (progs : Progs) (m : Bm) (h : BdH q progs m) : List HProp :=
  bdO B h.V h.Pb h.W room c pv h.xv (.slice h.rad m.rows.length h.rcap) m ++ [Row (.slice h.rad m.rows.length h.rcap) 83 5 m.rows.length (h.rs.flatMap rowV), star (h.rs.map rowP), xpP h.X h.V h.Pb h.W c h.cv m]
def BdE (B room : Nat) (c : Cfg) (pv : Value) (q : HProp) (progs : Progs) (m : Bm) : HProp := ex (bdL B room c pv q progs m)
theorem Ent.xp_none {X V Pb W : Nat} {c : Cfg} {cv : Value} {m : Bm} (h : ¬ (m.b.s = 0 ∧ m.b.next = 4)) {L : List HProp} : Ent L (xpP X V Pb W c cv m :: L) := by
  unfold xpP; rw [if_neg h]; exact Ent.star_in []
theorem Ent.xp_some {X V Pb W : Nat} {c : Cfg} {cv : Value} {m : Bm} {L : List HProp} : Ent (Xe X c cv V Pb W m.e.x m.e.news :: L) (xpP X V Pb W c cv m :: L) := by
  by_cases h : m.b.s = 0 ∧ m.b.next = 4
  · unfold xpP; rw [if_pos h]; exact Ent.refl _
  · exact Ent.trans (Ent.drop (Ent.refl _)) (Ent.xp_none h)
/-- shut again -/
theorem BdE.shut {B V Pb W X room : Nat} {c : Cfg} {pv xv cv : Value} {q : HProp} {progs : Progs} {m : Bm} {rs : List RowH} {rad : Option Addr} {rcap : Nat} (hrs : rs.map (·.1) = m.rows) (hx : m.b.s = 0 → m.b.next = 4 → xv = .pointer (some ⟨X, 0, none⟩) ∧ InsR q cv (progOf progs m.b.ann.val)) {L M : List HProp}
    (h : Ent L (xpP X V Pb W c cv m :: bl B 254 (bdV c pv V Pb W xv (.slice rad m.rows.length rcap) m.b) :: bl V 347 (viewV c m.e.v) :: Pl Pb c m.e.p :: Ws W room m.e.puts :: Row (.slice rad m.rows.length rcap) 83 5 m.rows.length (rs.flatMap rowV) :: star (rs.map rowP) :: M)) : Ent L (BdE B room c pv q progs m :: M) := by
  refine Ent.trans h (Ent.trans ?_ (Ent.ex_in (Ls := bdL B room c pv q progs m) ⟨V, Pb, W, X, xv, cv, rs, rad, rcap, hrs, hx⟩))
  unfold bdL bdO
  exact Ent.go
theorem BdE.shut0 {B V Pb W room : Nat} {c : Cfg} {pv xv : Value} {q : HProp} {progs : Progs} {m : Bm} {rs : List RowH} {rad : Option Addr} {rcap : Nat} (hrs : rs.map (·.1) = m.rows) (hno : ¬ (m.b.s = 0 ∧ m.b.next = 4)) {L M : List HProp}
    (h : Ent L (bl B 254 (bdV c pv V Pb W xv (.slice rad m.rows.length rcap) m.b) :: bl V 347 (viewV c m.e.v) :: Pl Pb c m.e.p :: Ws W room m.e.puts :: Row (.slice rad m.rows.length rcap) 83 5 m.rows.length (rs.flatMap rowV) :: star (rs.map rowP) :: M)) : Ent L (BdE B room c pv q progs m :: M) :=
  BdE.shut (X := 0) (cv := pv) hrs (fun e1 e2 => absurd ⟨e1, e2⟩ hno) (Ent.trans h (Ent.xp_none hno))
theorem BdE.shut1 {B V Pb W X room : Nat} {c : Cfg} {pv cv : Value} {q : HProp} {progs : Progs} {m : Bm} {rs : List RowH} {rad : Option Addr} {rcap : Nat} (hrs : rs.map (·.1) = m.rows) (hins : InsR q cv (progOf progs m.b.ann.val)) {L M : List HProp}
    (h : Ent L (Xe X c cv V Pb W m.e.x m.e.news :: bl B 254 (bdV c pv V Pb W (.pointer (some ⟨X, 0, none⟩)) (.slice rad m.rows.length rcap) m.b) :: bl V 347 (viewV c m.e.v) :: Pl Pb c m.e.p :: Ws W room m.e.puts :: Row (.slice rad m.rows.length rcap) 83 5 m.rows.length (rs.flatMap rowV) :: star (rs.map rowP) :: M)) : Ent L (BdE B room c pv q progs m :: M) :=
  BdE.shut (X := X) (cv := cv) hrs (fun _ _ => ⟨rfl, hins⟩) (Ent.trans h Ent.xp_some)
theorem bd_setarg (c : Cfg) (pv : Value) (V Pb W : Nat) (xv rv : Value) (b : Bs) (hl : b.args.length = 4) {a : Int} (h0 : 0 ≤ a) (h1 : a < 4) (n : Nat) : SetN (.int .u64 (n : Int)) (0 + 33 + a.toNat * 1) (bdV c pv V Pb W xv rv b) (bdV c pv V Pb W xv rv { b with args := b.args.set a.toNat n }) := by
  have h : a = 0 ∨ a = 1 ∨ a = 2 ∨ a = 3 := by omega
  obtain ⟨next, u, ann, args, given, s⟩ := b
  obtain ⟨a0, a1, a2, a3, rfl⟩ := len4 hl
  have key : ∀ (k : Nat) (l l' : List Value), k < l.length → l.set k (.int .u64 (n : Int)) = l' → SetN (.int .u64 (n : Int)) k l l' := fun k l l' hk e => e ▸ SetN.of hk
  rcases h with rfl | rfl | rfl | rfl <;> exact key _ _ _ (by simp [bdV, Cfg.m, Cfg.v, Cfg.fr, g4]) rfl
theorem Bm.pass_r (c : Cfg) (room : Nat) (m : Bm) : (m.pass c room).b.next = 1 := by unfold Bm.pass; split <;> rfl
theorem Bm.announce_r (c : Cfg) (room : Nat) (m : Bm) : (m.announce c room).rows = m.rows ∧ (m.announce c room).b.next ≠ 4 := by
  unfold Bm.announce; split
  · exact ⟨(m.pass_e c room).2.2.2.2, by rw [Bm.pass_r]; decide⟩
  · exact ⟨rfl, by dsimp only; decide⟩
theorem Bm.tag_r (c : Cfg) (room : Nat) (m : Bm) : (m.tag c room).rows = m.rows ∧ ((m.tag c room).b.s = 0 → (m.tag c room).b.next ≠ 4) := by
  unfold Bm.tag; split
  · exact ⟨rfl, fun e => (by cases e)⟩
  split
  · exact ⟨(m.pass_e c room).2.2.2.2, fun _ => by rw [Bm.pass_r]; decide⟩
  · exact ⟨rfl, fun _ => by dsimp only; decide⟩
theorem Bm.pooled_r (c : Cfg) (room : Nat) (m : Bm) (h : m.b.next ≠ 4) : (m.pooled c room).rows = m.rows ∧ (m.pooled c room).b.next ≠ 4 := by
  unfold Bm.pooled; split
  · exact ⟨rfl, h⟩
  split
  · exact ⟨rfl, by dsimp only; decide⟩
  · exact ⟨rfl, h⟩
theorem Bm.begin_ann (c : Cfg) (room : Nat) (progs : Progs) (m : Bm) : (m.begin c room progs).b.ann = m.b.ann := (Bm.ran_e c room _).2.2.2.2
set_option maxHeartbeats 2000000 in
theorem btell_tE (B : Nat) (c : Cfg) (hc : Small c) (hf : 0 ≤ c.fuel ∧ c.fuel ≤ 1000) (pv : Value) (q : HProp) (progs : Progs) (hpv : ProgsR q pv progs) (m : Bm) (hi : Binv c progs m) (o : Out) :
    Tri Tryz.prog 304 #[.pointer (some ⟨B, 0, none⟩), .agg ⟨o.v⟩] [BdE B c.cap.toNat c pv q progs m, q]
      fun r L => r = .tuple ⟨[]⟩ ∧ L = [BdE B c.cap.toNat c pv q progs (m.tell c c.cap.toNat progs o), q] := by
  refine Tri.ex_out ?_
  rintro ⟨V, Pb, W, X, xv, cv, rs, rad, rcap, hrs, hx⟩
  have g := hi.gen
  have hu := hi.u; have hlen := hi.len; have ht1 := hc.t1; have hu0 := g.u; have hnt := g.nt; have hnl := g.nl; have hnx := hi.nx
  have hbn : Bn m := ⟨by omega, by omega, by omega, by omega⟩
  unfold bdL bdO
  dsimp only
  unfold Bm.tell
  by_cases hs : m.b.s ≠ 0
  · rw [if_pos hs]
    refine Tri.of_body (vs := [_, _]) Tryz.func304 rfl rfl fun w0 F => ?_
    repeat' (first | refine Ga ?_ | (refine Gb ?_; intro b) | (refine Gd ?_; intro g cap rest hcap) | (refine Gc ?_; intro ad cap) | (refine St.draw (id := 6) [(0, 0), (1, 0), (2, 0), (3, 1), (4, 1), (5, 3)] [5] mixed (by kernel_rfl) ?_) | (refine St.draw (id := 12) [(0, 0), (1, 0), (2, 0), (3, 1), (4, 1), (5, 3)] [5] mixed (by kernel_rfl) ?_) | (refine St.draw (id := 15) [(0, 0), (1, 0), (2, 0), (3, 0), (4, 1), (5, 0), (6, 0), (7, 1), (8, 0), (9, 0), (10, 0), (11, 3)] [11] mixed (by kernel_rfl) ?_) | (refine St.draw (id := 3) [(0, 0), (1, 0), (2, 0), (3, 1), (4, 1), (5, 3)] [5] mixed (by kernel_rfl) ?_) | (refine Ge ?_ ?_ <;> (intro h; try (exfalso; omega))) | fail)
    refine St.d1 Tryz.func304 ⟨_, ⟨rfl, rfl⟩, BdE.shut hrs hx Ent.go⟩
  · rw [if_neg hs]
    have hs0 : m.b.s = 0 := by omega
    by_cases h0 : m.b.next = 0
    · rw [if_pos h0]
      have hp := (hi.pool hs0 h0).1
      have hp' := hp.tell hc o
      have hn := hp.next; have hna := hp.names; have hli := hp.limbo; have hlm := hc.limit; have hli' := hp'.limbo; have hnt' := hp'.nt; have hnl' := hp'.nl
      have ht := ptell_t Pb c hc m.e.p o (by omega) (by omega) (by omega)
      have hpo := bpooled_t B V Pb W c.cap.toNat c hc pv xv (.slice rad m.rows.length rcap) { m with e := { m.e with p := m.e.p.tell c o } } ⟨by dsimp only; omega, by dsimp only; omega, by dsimp only; omega, by dsimp only; omega⟩ (by dsimp only; omega)
      unfold bdO at hpo
      obtain ⟨r1, r2⟩ := Bm.pooled_r c c.cap.toNat { m with e := { m.e with p := m.e.p.tell c o } } (by dsimp only; omega)
      refine Tri.of_body (vs := [_, _]) Tryz.func304 rfl rfl fun w0 F => ?_
      repeat' (first | refine Ga ?_ | (refine Gb ?_; intro b) | (refine Gd ?_; intro g cap rest hcap) | (refine Gc ?_; intro ad cap) | (refine St.draw (id := 6) [(0, 0), (1, 0), (2, 0), (3, 1), (4, 1), (5, 3)] [5] mixed (by kernel_rfl) ?_) | (refine St.draw (id := 12) [(0, 0), (1, 0), (2, 0), (3, 1), (4, 1), (5, 3)] [5] mixed (by kernel_rfl) ?_) | (refine St.draw (id := 15) [(0, 0), (1, 0), (2, 0), (3, 0), (4, 1), (5, 0), (6, 0), (7, 1), (8, 0), (9, 0), (10, 0), (11, 3)] [11] mixed (by kernel_rfl) ?_) | (refine St.draw (id := 3) [(0, 0), (1, 0), (2, 0), (3, 1), (4, 1), (5, 3)] [5] mixed (by kernel_rfl) ?_) | (refine Gt ht ?_; rintro _ _ ⟨rfl, rfl⟩) | (refine Gt hpo ?_; rintro _ _ ⟨rfl, rfl⟩) | (refine Ge ?_ ?_ <;> (intro h; try (exfalso; omega))) | fail)
      refine St.f1 Tryz.func304 ⟨_, ⟨rfl, rfl⟩, BdE.shut0 (V := V) (Pb := Pb) (W := W) (xv := xv) (rad := rad) (rcap := rcap) (by rw [r1]; exact hrs) (fun e => r2 e.2) ?_⟩
      rw [r1]; exact Ent.go
    · rw [if_neg h0]
      by_cases h1 : m.b.next = 1
      · rw [if_pos h1]
        have han := bannounce_t B V Pb W c.cap.toNat c hc pv xv (.slice rad m.rows.length rcap) { m with b := { m.b with ann := o.was } } ⟨by dsimp only; omega, by dsimp only; omega, by dsimp only; omega, by dsimp only; omega⟩
        unfold bdO at han
        obtain ⟨r1, r2⟩ := Bm.announce_r c c.cap.toNat { m with b := { m.b with ann := o.was } }
        refine Tri.of_body (vs := [_, _]) Tryz.func304 rfl rfl fun w0 F => ?_
        repeat' (first | refine Ga ?_ | (refine Gb ?_; intro b) | (refine Gd ?_; intro g cap rest hcap) | (refine Gc ?_; intro ad cap) | (refine St.draw (id := 6) [(0, 0), (1, 0), (2, 0), (3, 1), (4, 1), (5, 3)] [5] mixed (by kernel_rfl) ?_) | (refine St.draw (id := 12) [(0, 0), (1, 0), (2, 0), (3, 1), (4, 1), (5, 3)] [5] mixed (by kernel_rfl) ?_) | (refine St.draw (id := 15) [(0, 0), (1, 0), (2, 0), (3, 0), (4, 1), (5, 0), (6, 0), (7, 1), (8, 0), (9, 0), (10, 0), (11, 3)] [11] mixed (by kernel_rfl) ?_) | (refine St.draw (id := 3) [(0, 0), (1, 0), (2, 0), (3, 1), (4, 1), (5, 3)] [5] mixed (by kernel_rfl) ?_) | (refine Gt han ?_; rintro _ _ ⟨rfl, rfl⟩) | (refine Ge ?_ ?_ <;> (intro h; try (exfalso; omega))) | fail)
        refine St.f1 Tryz.func304 ⟨_, ⟨rfl, rfl⟩, BdE.shut0 (V := V) (Pb := Pb) (W := W) (xv := xv) (rad := rad) (rcap := rcap) (by rw [r1]; exact hrs) (fun e => r2 e.2) ?_⟩
        rw [r1]; exact Ent.go
      · rw [if_neg h1]
        by_cases h2 : m.b.next = 2
        · rw [if_pos h2]
          have hv := vtell_t c V m.e.v o
          have hta := btag_t B V Pb W c.cap.toNat c hc pv xv (.slice rad m.rows.length rcap) { m with e := { m.e with v := m.e.v.tell o } } ⟨by dsimp only; omega, by dsimp only; omega, by dsimp only; omega, by dsimp only; omega⟩
          unfold bdO at hta
          obtain ⟨r1, r2⟩ := Bm.tag_r c c.cap.toNat { m with e := { m.e with v := m.e.v.tell o } }
          refine Tri.of_body (vs := [_, _]) Tryz.func304 rfl rfl fun w0 F => ?_
          repeat' (first | refine Ga ?_ | (refine Gb ?_; intro b) | (refine Gd ?_; intro g cap rest hcap) | (refine Gc ?_; intro ad cap) | (refine St.draw (id := 6) [(0, 0), (1, 0), (2, 0), (3, 1), (4, 1), (5, 3)] [5] mixed (by kernel_rfl) ?_) | (refine St.draw (id := 12) [(0, 0), (1, 0), (2, 0), (3, 1), (4, 1), (5, 3)] [5] mixed (by kernel_rfl) ?_) | (refine St.draw (id := 15) [(0, 0), (1, 0), (2, 0), (3, 0), (4, 1), (5, 0), (6, 0), (7, 1), (8, 0), (9, 0), (10, 0), (11, 3)] [11] mixed (by kernel_rfl) ?_) | (refine St.draw (id := 3) [(0, 0), (1, 0), (2, 0), (3, 1), (4, 1), (5, 3)] [5] mixed (by kernel_rfl) ?_) | (refine Gt hv ?_; rintro _ _ ⟨rfl, rfl⟩) | (refine Gt hta ?_; rintro _ _ ⟨rfl, rfl⟩) | (refine Ge ?_ ?_ <;> (intro h; try (exfalso; omega))) | fail)
          refine St.f1 Tryz.func304 ⟨_, ⟨rfl, rfl⟩, BdE.shut0 (V := V) (Pb := Pb) (W := W) (xv := xv) (rad := rad) (rcap := rcap) (by rw [r1]; exact hrs) (fun e => r2 e.1 e.2) ?_⟩
          rw [r1]; exact Ent.go
        · rw [if_neg h2]
          by_cases h3 : m.b.next = 3
          · rw [if_pos h3]
            have hg := hi.given h3
            obtain ⟨hult, hq⟩ := hi.mid hs0 (by omega) (by omega)
            have hset := bd_setarg c pv V Pb W xv (.slice rad m.rows.length rcap) m.b g.args hg.1 (by omega) o.was.val
            unfold bdV at hset
            dsimp only at hset
            by_cases h4 : m.b.given + 1 = 4
            · rw [if_pos h4]
              have hbe := bbegin_t B V Pb W c hc hf pv xv q progs hpv { m with b := { m.b with args := m.b.args.set m.b.given.toNat o.was.val, given := m.b.given + 1 } } ⟨g.u, by dsimp only; rw [List.length_set]; exact g.args, g.rows, g.news, g.vb, g.vgo, g.nt, g.nl⟩ hult hq rs hrs rad rcap
              unfold bdO begQ bdO at hbe
              refine Tri.of_body (vs := [_, _]) Tryz.func304 rfl rfl fun w0 F => ?_
              repeat' (first | refine Ga ?_ | (refine Gb ?_; intro b) | (refine Gd ?_; intro g cap rest hcap) | (refine Gc ?_; intro ad cap) | (refine St.draw (id := 6) [(0, 0), (1, 0), (2, 0), (3, 1), (4, 1), (5, 3)] [5] mixed (by kernel_rfl) ?_) | (refine St.draw (id := 12) [(0, 0), (1, 0), (2, 0), (3, 1), (4, 1), (5, 3)] [5] mixed (by kernel_rfl) ?_) | (refine St.draw (id := 15) [(0, 0), (1, 0), (2, 0), (3, 0), (4, 1), (5, 0), (6, 0), (7, 1), (8, 0), (9, 0), (10, 0), (11, 3)] [11] mixed (by kernel_rfl) ?_) | (refine St.draw (id := 3) [(0, 0), (1, 0), (2, 0), (3, 1), (4, 1), (5, 3)] [5] mixed (by kernel_rfl) ?_) | (refine Gt hbe ?_; rintro _ _ ⟨X', cv', rs', rad', rcap', hrs', hins', rfl, rfl⟩) | (refine Ge ?_ ?_ <;> (intro h; try (exfalso; omega))) | fail)
              refine St.f1 Tryz.func304 ⟨_, ⟨rfl, rfl⟩, BdE.shut1 (V := V) (Pb := Pb) (W := W) (X := X') (rad := rad') (rcap := rcap') (cv := cv') hrs' (by rw [Bm.begin_ann]; exact hins') ?_⟩
              exact Ent.go
            · rw [if_neg h4]
              refine Tri.of_body (vs := [_, _]) Tryz.func304 rfl rfl fun w0 F => ?_
              repeat' (first | refine Ga ?_ | (refine Gb ?_; intro b) | (refine Gd ?_; intro g cap rest hcap) | (refine Gc ?_; intro ad cap) | (refine St.draw (id := 6) [(0, 0), (1, 0), (2, 0), (3, 1), (4, 1), (5, 3)] [5] mixed (by kernel_rfl) ?_) | (refine St.draw (id := 12) [(0, 0), (1, 0), (2, 0), (3, 1), (4, 1), (5, 3)] [5] mixed (by kernel_rfl) ?_) | (refine St.draw (id := 15) [(0, 0), (1, 0), (2, 0), (3, 0), (4, 1), (5, 0), (6, 0), (7, 1), (8, 0), (9, 0), (10, 0), (11, 3)] [11] mixed (by kernel_rfl) ?_) | (refine St.draw (id := 3) [(0, 0), (1, 0), (2, 0), (3, 1), (4, 1), (5, 3)] [5] mixed (by kernel_rfl) ?_) | (refine Ge ?_ ?_ <;> (intro h; try (exfalso; omega))) | fail)
              refine St.f1 Tryz.func304 ⟨_, ⟨rfl, rfl⟩, BdE.shut0 (m := { m with b := { m.b with args := m.b.args.set m.b.given.toNat o.was.val, given := m.b.given + 1 } }) (V := V) (Pb := Pb) (W := W) (xv := xv) (rad := rad) (rcap := rcap) hrs (show ¬ (m.b.s = 0 ∧ m.b.next = 4) by omega) ?_⟩
              exact Ent.go
          · rw [if_neg h3]
            have hx4 : m.b.next = 4 := by omega
            obtain ⟨hult, hxs, P0, n, nt0, nl0, hS, hq, hX⟩ := hi.run hs0 hx4
            obtain ⟨rfl, hins⟩ := hx hs0 hx4
            obtain ⟨hr, hxi, hX'⟩ := hX.tell hS c.cap.toNat hxs o
            obtain ⟨hrc, hnt2, hnl2, hvb, hvg, hnw, hpa, hsx, hri⟩ := hX'.num hS
            have hpl2 : (m.e.tell c c.cap.toNat (progOf progs m.b.ann.val) o).puts.length ≤ 3000 := by
              have := hq.short hc g.u (by omega); have := hc.w1; have := hc.w0
              obtain ⟨l, e, hl, _⟩ := hpa
              rw [e, List.length_append]; omega
            have hro := hi.rows
            have htl := xtell_s X V Pb W c.cap.toNat c hc cv q (progOf progs m.b.ann.val) hr hins (Xi c (progOf progs m.b.ann.val) P0 nt0 nl0 (n + 1)) (xi_run hS c.cap.toNat hr (n + 1)) m.e o (fun _ => hxi)
            unfold xsL at htl
            have hran := bran_t B V Pb W X c.cap.toNat c hc cv pv { m with e := m.e.tell c c.cap.toNat (progOf progs m.b.ann.val) o } ⟨by dsimp only; omega, by dsimp only; omega, by dsimp only; omega, by dsimp only; omega⟩ rs hrs rad rcap (by dsimp only; omega) (by dsimp only; omega) (by dsimp only; omega) (by dsimp only; omega)
            unfold ranQ at hran
            obtain ⟨d1, d2, d3, d4, d5⟩ := Bm.ran_e c c.cap.toNat { m with e := m.e.tell c c.cap.toNat (progOf progs m.b.ann.val) o }
            unfold xpP
            rw [if_pos ⟨hs0, hx4⟩]
            refine Tri.of_body (vs := [_, _]) Tryz.func304 rfl rfl fun w0 F => ?_
            repeat' (first | refine Ga ?_ | (refine Gb ?_; intro b) | (refine Gd ?_; intro g cap rest hcap) | (refine Gc ?_; intro ad cap) | (refine St.draw (id := 6) [(0, 0), (1, 0), (2, 0), (3, 1), (4, 1), (5, 3)] [5] mixed (by kernel_rfl) ?_) | (refine St.draw (id := 12) [(0, 0), (1, 0), (2, 0), (3, 1), (4, 1), (5, 3)] [5] mixed (by kernel_rfl) ?_) | (refine St.draw (id := 15) [(0, 0), (1, 0), (2, 0), (3, 0), (4, 1), (5, 0), (6, 0), (7, 1), (8, 0), (9, 0), (10, 0), (11, 3)] [11] mixed (by kernel_rfl) ?_) | (refine St.draw (id := 3) [(0, 0), (1, 0), (2, 0), (3, 1), (4, 1), (5, 3)] [5] mixed (by kernel_rfl) ?_) | (refine Gt htl ?_; rintro _ _ ⟨rfl, rfl⟩) | (refine Gt hran ?_; rintro _ _ ⟨rs', rad', rcap', hrs', rfl, rfl⟩) | (refine Ge ?_ ?_ <;> (intro h; try (exfalso; omega))) | fail)
            refine St.f1 Tryz.func304 ⟨_, ⟨rfl, rfl⟩, BdE.shut1 (V := V) (Pb := Pb) (W := W) (X := X) (rad := rad') (rcap := rcap') hrs' (by rw [d5]; exact hins) ?_⟩
            rw [d1, d3, d4]
            exact Ent.go
end Go.Proofs.YtemaaenipjinaaaGreat
