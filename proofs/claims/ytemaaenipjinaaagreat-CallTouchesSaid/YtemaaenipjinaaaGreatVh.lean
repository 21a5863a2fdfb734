/-
  Package call: Rows, New.
-/
import Derived.Test.YtemaaenipjinaaaGreatVg
namespace Go.Proofs.YtemaaenipjinaaaGreat
set_option maxRecDepth 100000
/-- rows of a transaction, as they lie -/
structure RwH (v : Value) (rows : List BRow) where
  ad : Option Addr
  cap : Nat
  rs : List RowH
  h : rs.map (·.1) = rows
  e : v = .slice ad rows.length cap
def RwE (v : Value) (rows : List BRow) : HProp := ex (ι := RwH v rows) fun x => [Row v 83 5 rows.length (x.rs.flatMap rowV), star (x.rs.map rowP)]
theorem Ent.rw {L : List HProp} {ad : Option Addr} {cap : Nat} {rows : List BRow} (rs : List RowH) (h : rs.map (·.1) = rows) : Ent (Row (.slice ad rows.length cap) 83 5 rows.length (rs.flatMap rowV) :: star (rs.map rowP) :: L) (RwE (.slice ad rows.length cap) rows :: L) := Ent.ex_in (Ls := fun x : RwH (.slice ad rows.length cap) rows => [Row (.slice ad rows.length cap) 83 5 rows.length (x.rs.flatMap rowV), star (x.rs.map rowP)]) ⟨ad, cap, rs, h, rfl⟩
theorem Ent.rw0 {L : List HProp} : Ent L (RwE (.slice none 0 0) [] :: L) := by
  refine Ent.trans (Ent.row_nil 83 5) (Ent.trans ?_ (Ent.rw (ad := none) (cap := 0) (rows := []) [] rfl))
  exact Ent.cons (Ent.star_in [])
section
variable (Cb : Nat) (c : Cfg) (hc : Small c) (pv : Value) (p : Cp) (q : HProp) (progs : Progs) (hpv : ProgsR q pv progs)
include hc hpv in
theorem crows_t (m : Cm) (hi : Cinv c p progs m) : Tri Tryz.prog 24 #[.pointer (some ⟨Cb, 0, none⟩)] [ClE Cb c pv p q progs m]
    fun r L => ∃ ad cap, r = .slice ad m.rows.length cap ∧ L = [ClE Cb c pv p q progs m, RwE (.slice ad m.rows.length cap) m.rows] := by
  obtain ⟨s, work, b0⟩ := m
  refine Tri.ex_out ?_
  rintro ⟨wv, bv⟩
  have hdid := hi.did
  obtain ⟨pad, pcap, rfl, _⟩ := hpv
  unfold clL
  dsimp only at hdid ⊢
  unfold Cm.rows
  dsimp only
  cases hd : s.did with
  | false =>
    rw [if_neg (by decide)]
    refine Tri.of_body (vs := [_]) Tryz.func24 rfl rfl fun w0 F => ?_
    repeat' (first | refine Ga ?_ | (refine Gb ?_; intro b) | (refine Gd ?_; intro g cap rest hcap) | (refine Gc ?_; intro ad cap)  | (refine Ge ?_ ?_ <;> (intro h; try (exfalso; omega))) | fail)
    all_goals first | (exact absurd h (by rw [hd]; decide)) | skip
    refine St.d1 Tryz.func24 ⟨_, ⟨none, 0, rfl, rfl⟩, ?_⟩
    refine Ent.trans ?_ (Ent.cons Ent.rw0)
    exact Ent.cl Cb c _ p q progs ⟨s, work, b0⟩ wv bv
  | true =>
    rw [if_pos rfl]
    obtain ⟨bt, hb, hbi⟩ := hdid hd
    subst hb
    unfold BkP
    refine Tri.ent (Tri.ex_out (L := [bl Cb 147 (clV c (.slice pad progs.length pcap) p wv bv s), WkP c (.slice pad progs.length pcap) q progs (p.code progs) wv work]) ?_) (Ent.of_take (.there (.there .here)))
    rintro ⟨B, rfl⟩
    dsimp only
    have hrw := brows_t B c hc (.slice pad progs.length pcap) q progs bt hbi
    refine Tri.of_body (vs := [_]) Tryz.func24 rfl rfl fun w0 F => ?_
    repeat' (first | refine Ga ?_ | (refine Gb ?_; intro b) | (refine Gd ?_; intro g cap rest hcap) | (refine Gc ?_; intro ad cap)  | (refine Gt hrw ?_; rintro _ _ ⟨rad, rcap, rs, hrs, rfl, rfl⟩) | (refine Ge ?_ ?_ <;> (intro h; try (exfalso; omega))) | fail)
    all_goals first | (exact absurd h (by rw [hd]; decide)) | skip
    refine St.d1 Tryz.func24 ⟨_, ⟨rad, rcap, rfl, rfl⟩, ?_⟩
    refine Ent.trans (M := Row (.slice rad bt.rows.length rcap) 83 5 bt.rows.length (rs.flatMap rowV) :: star (rs.map rowP) :: Bd B c (.slice pad progs.length pcap) q progs bt :: bl Cb 147 (clV c (.slice pad progs.length pcap) p wv (.pointer (some ⟨B, 0, none⟩)) s) :: WkP c (.slice pad progs.length pcap) q progs (p.code progs) wv work :: F) Ent.go ?_
    refine Ent.trans (Ent.rw rs hrs) ?_
    refine Ent.trans (M := Bd B c (.slice pad progs.length pcap) q progs bt :: RwE (.slice rad bt.rows.length rcap) bt.rows :: bl Cb 147 (clV c (.slice pad progs.length pcap) p wv (.pointer (some ⟨B, 0, none⟩)) s) :: WkP c (.slice pad progs.length pcap) q progs (p.code progs) wv work :: F) Ent.go ?_
    refine Ent.trans (Ent.bbd bt B) ?_
    refine Ent.trans (M := bl Cb 147 (clV c (.slice pad progs.length pcap) p wv (.pointer (some ⟨B, 0, none⟩)) s) :: WkP c (.slice pad progs.length pcap) q progs (p.code progs) wv work :: BkP c (.slice pad progs.length pcap) q progs (.pointer (some ⟨B, 0, none⟩)) (some bt) :: RwE (.slice rad bt.rows.length rcap) bt.rows :: F) Ent.go ?_
    exact Ent.cl Cb c _ p q progs ⟨s, work, some bt⟩ wv (.pointer (some ⟨B, 0, none⟩))
end
set_option maxHeartbeats 1000000 in
theorem cnew_t (c : Cfg) (hc : Small c) (pv : Value) (p : Cp) (q : HProp) (progs : Progs) (hpv : ProgsR q pv progs) : Tri Tryz.prog 17 #[.agg ⟨c.m⟩, .int .i64 p.who, .int .u64 (p.tag : Int), pv, .agg ⟨.int .i64 p.prog :: g4 p.args⟩] [q]
    fun r L => ∃ Cb, r = .pointer (some ⟨Cb, 0, none⟩) ∧ L = [ClE Cb c pv p q progs (Cm.new p progs), q] := by
  obtain ⟨cv, hins, hcode⟩ := ccode_e q pv progs hpv p
  have hri := right_rr q cv (p.code progs) hins
  have hc1 := fun Cb => hcode Cb c .nilIface (.pointer none) ⟨0, 0, 0, false, ⟨0, 0⟩, false, false, 0, 0, 0, 0, false⟩
  have hro := fun hr : rightB (p.code progs) = true => reads_r q cv (p.code progs) hins (by have := (right_at hr).2.1; omega)
  have shut : ∀ (Cb : Nat) (m : Cm), m.work = .none → m.b = none → ∀ {M : List HProp}, Ent (bl Cb 147 (clV c pv p .nilIface (.pointer none) m.s) :: M) (ClE Cb c pv p q progs m :: M) := fun Cb m h1 h2 M => by
    have := Ent.cl Cb c pv p q progs m .nilIface (.pointer none) (L := M)
    rw [h1, h2] at this
    exact Ent.trans (Ent.cons (Ent.trans (Ent.star_in []) (Ent.cons (Ent.star_in [])))) this
  unfold clV at hc1
  dsimp only at hc1
  have hm : Cfg.m c = Cfg.m c := rfl
  obtain ⟨cad, ccap, rfl, _⟩ := hins
  obtain ⟨pad, pcap, rfl, _⟩ := hpv
  have hnew : ∀ r o : Bool, rightB (p.code progs) = r → onlyB (p.code progs) = o → Cm.new p progs = ⟨⟨if r = true ∧ o = false then 0 else 2, 0, 0, false, ⟨0, 0⟩, false, false, 0, 0, 0, 0, false⟩, .none, none⟩ := fun r o h1 h2 => by subst h1; subst h2; rfl
  unfold g4
  cases hr : rightB (p.code progs) with
  | false =>
    rw [hr] at hri
    clear hro
    rw [hnew false _ hr rfl, if_neg (by simp)]
    refine Tri.of_body (vs := [_, _, _, _, _]) Tryz.func17 rfl rfl fun w0 F => ?_
    repeat' (first | refine Ga ?_ | (refine Gb ?_; intro b) | (refine Gd ?_; intro g cap rest hcap) | (refine Gc ?_; intro ad cap) | refine Gl (hc1 _) ?_ | refine Gl hri ?_ | (refine Ge ?_ ?_ <;> (intro h; try (exfalso; omega))) | fail)
    all_goals first | (exfalso; omega) | skip
    refine St.d1 Tryz.func17 ⟨_, ⟨_, rfl, rfl⟩, ?_⟩
    exact Ent.trans (Ent.trans Ent.go (shut _ ⟨⟨2, 0, 0, false, ⟨0, 0⟩, false, false, 0, 0, 0, 0, false⟩, .none, none⟩ rfl rfl)) Ent.go
  | true =>
    rw [hr] at hri
    have hro := hro hr
    cases ho : onlyB (p.code progs) with
    | true =>
      rw [ho] at hro
      rw [hnew true true hr ho, if_neg (by simp)]
      refine Tri.of_body (vs := [_, _, _, _, _]) Tryz.func17 rfl rfl fun w0 F => ?_
      repeat' (first | refine Ga ?_ | (refine Gb ?_; intro b) | (refine Gd ?_; intro g cap rest hcap) | (refine Gc ?_; intro ad cap) | refine Gl (hc1 _) ?_ | refine Gl hri ?_ | refine Gl hro ?_ | (refine Ge ?_ ?_ <;> (intro h; try (exfalso; omega))) | fail)
      all_goals first | (exfalso; omega) | skip
      refine St.d1 Tryz.func17 ⟨_, ⟨_, rfl, rfl⟩, ?_⟩
      exact Ent.trans (Ent.trans Ent.go (shut _ ⟨⟨2, 0, 0, false, ⟨0, 0⟩, false, false, 0, 0, 0, 0, false⟩, .none, none⟩ rfl rfl)) Ent.go
    | false =>
      rw [ho] at hro
      rw [hnew true false hr ho, if_pos ⟨rfl, rfl⟩]
      refine Tri.of_body (vs := [_, _, _, _, _]) Tryz.func17 rfl rfl fun w0 F => ?_
      repeat' (first | refine Ga ?_ | (refine Gb ?_; intro b) | (refine Gd ?_; intro g cap rest hcap) | (refine Gc ?_; intro ad cap) | refine Gl (hc1 _) ?_ | refine Gl hri ?_ | refine Gl hro ?_ | (refine Ge ?_ ?_ <;> (intro h; try (exfalso; omega))) | fail)
      all_goals first | (exfalso; omega) | skip
      refine St.d1 Tryz.func17 ⟨_, ⟨_, rfl, rfl⟩, ?_⟩
      exact Ent.trans (Ent.trans Ent.go (shut _ ⟨⟨0, 0, 0, false, ⟨0, 0⟩, false, false, 0, 0, 0, 0, false⟩, .none, none⟩ rfl rfl)) Ent.go
end Go.Proofs.YtemaaenipjinaaaGreat
