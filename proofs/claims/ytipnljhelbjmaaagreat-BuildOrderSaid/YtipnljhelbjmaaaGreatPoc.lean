/-
  Package pool: Settle.
-/
import Derived.Test.YtipnljhelbjmaaaGreatPob
namespace Go.Proofs.YtipnljhelbjmaaaGreat
structure SetI (c : Cfg) (room : Nat) (p : Po) (puts : List (Int × Nat)) where
  k : Nat
  s : SetS
  hk : k ≤ p.limbo.length
  go : setGo c room p.names 0 p.limbo ⟨0, p.nt, puts⟩ = setGo c room p.names k (p.limbo.drop k) s
  nt : 0 ≤ s.nt
  kept : s.kept ≤ k
  len : s.puts.length ≤ puts.length + 2 * k
theorem relP_nt (c : Cfg) (room : Nat) (nt : Int) (puts : List (Int × Nat)) (b : Nat) (h : 0 ≤ nt) : 0 ≤ (relP c room nt puts b).1 := by
  unfold relP; split <;> (dsimp only; omega)
theorem setStep_nt (c : Cfg) (room : Nat) (names : List Nat) (k b : Nat) (s : SetS) (h : 0 ≤ s.nt) : 0 ≤ (setStep c room names k b s).nt := by
  unfold setStep
  split
  · exact h
  · split
    · exact relP_nt c room s.nt s.puts b h
    · exact h
def SetI.next {c : Cfg} {room : Nat} {p : Po} {puts : List (Int × Nat)} (i : SetI c room p puts) (hlt : i.k < p.limbo.length) (s' : SetS) (hs : setStep c room p.names i.k p.limbo[i.k] i.s = s') : SetI c room p puts where
  k := i.k + 1
  s := s'
  hk := hlt
  go := by rw [i.go, List.drop_eq_getElem_cons hlt, setGo, hs]
  nt := by rw [← hs]; exact setStep_nt _ _ _ _ _ _ i.nt
  kept := by have := setStep_len c room p.names i.k p.limbo[i.k] i.s; have := i.kept; rw [← hs]; omega
  len := by have := setStep_len c room p.names i.k p.limbo[i.k] i.s; have := i.len; rw [← hs]; omega
def Po.settled (c : Cfg) (room : Nat) (p : Po) (puts : List (Int × Nat)) : Po := { p with nt := (setGo c room p.names 0 p.limbo ⟨0, p.nt, puts⟩).nt, nl := ((setGo c room p.names 0 p.limbo ⟨0, p.nt, puts⟩).kept : Int), limbo := [] }
set_option maxHeartbeats 1000000 in
set_option maxRecDepth 100000 in
theorem psettle_tE (Pb W room : Nat) (c : Cfg) (hc : Small c) (p : Po) (puts : List (Int × Nat)) (hnt : 0 ≤ p.nt) (hll : p.limbo.length ≤ 1000000) (hlen : puts.length + 2 * p.limbo.length ≤ 1000000000) :
    Tri Tryz.prog 15 #[.pointer (some ⟨Pb, 0, none⟩), .pointer (some ⟨W, 0, none⟩)] [PlE Pb c p, Ws W room puts]
      fun r L => r = .tuple ⟨[]⟩ ∧ L = [PlE Pb c (p.settled c room puts), Ws W room (setGo c room p.names 0 p.limbo ⟨0, p.nt, puts⟩).puts] := by
  refine Tri.ex_out ?_
  rintro ⟨N, lad, lcap, m, hm⟩
  unfold plL
  dsimp only
  have hcf := cfg_r c
  have := hc.b0; have := hc.b1
  refine Tri.of_body (vs := [_, _]) Tryz.func15 rfl rfl fun w0 F => ?_
  repeat' (first | (apply Ya; exact Oa) | (apply Yb; exact Ob) | (apply Yc; exact Oc; intro b) | (apply Ye; exact Oe; intro g cap rest hcap) | (apply Yd; exact Od; intro ad cap) | (apply Yf; exact Oj) | (apply Yg; exact Oj; exact ⟨rfl, rfl⟩) | (apply Yh; exact Oj; rfl) | (apply Yi; exact Oj; exact On; all_goals (intro h; try (exfalso; omega))) | apply StL.nil | apply St.region | apply St.seq | apply St.block | apply St.inBlock | apply St.skip | (apply St.exit; rfl) | (apply St.cond_t; rfl) | (apply St.cond_f; rfl) | (apply Ud; rfl; exact On; all_goals (intro h; try (exfalso; omega))) | (apply Za; rfl; exact Oa) | (apply Zb; rfl; exact Oa; exact Ent.go) | (apply Zc; rfl; exact Ob) | (apply Zd; rfl; exact Oc; intro b; refine ⟨Ent.go, ?_⟩) | (apply Ze; rfl; exact Oc; intro b) | (apply Zf; rfl; exact Oe; intro g cap rest hcap) | (apply Zg; rfl; exact Od; intro ad cap) | apply StD.nil | exact StD.nope | apply StD.pick | (apply StD.claim; rfl; intro b) | (apply Zi; rfl; exact Oj; exact Oa) | (apply Zj; rfl; exact Oj; exact Oa; exact Ent.go) | (apply Zk; rfl; exact Oj; exact ⟨rfl, rfl⟩) | (apply Zl; rfl; exact Oj; exact ⟨rfl, rfl⟩; exact Ent.go) | (apply Zm; rfl; exact Oj; rfl) | (apply Zn; rfl; exact Oj; exact Ent.go; rfl)   | (apply Zo; rfl; exact Oj; exact On; all_goals (intro h; try (exfalso; omega))))
  refine St.loopX (Lr := ?Lr) (ι := SetI c room p puts) (fun i => p.limbo.length - i.k)
    (fun i => [(4, .int .i64 (i.s.kept : Int)), (12, .int .i64 (i.k : Int))])
    (fun i => [bl Pb 148 (poolV c N { p with nt := i.s.nt } (.slice lad p.limbo.length lcap)), Row (.slice lad p.limbo.length lcap) 22 1 p.limbo.length (u64s p.limbo), Ws W room i.s.puts])
    ⟨0, ⟨0, p.nt, puts⟩, Nat.zero_le _, rfl, hnt, Nat.le_refl _, by show puts.length ≤ puts.length + 2 * 0; omega⟩ ?hE ?hL ?round
  case hE => exact Sub.go
  case hL => exact Ent.go
  case round =>
    rintro i IH
    have hk := i.hk
    have hkept := i.kept
    have hntk := i.nt
    have hlk := i.len
    by_cases hlt : i.k < p.limbo.length
    · have IH' := fun s' hs E' L' => IH (i.next hlt s' hs) (E' := E') (L' := L') (by show _ - (i.k + 1) < _ - i.k; omega)
      clear IH
      dsimp only [SetI.next] at IH'
      refine St.conv ?_ (Sub.refl _) (Ent.of_take (.there .here))
      refine St.rowF (by omega) fun g lcp rest hv hrf => ?_
      injection hv with hv1 hv2 hv3
      subst hv1 hv3
      have hback : ∀ X : List HProp, Ent (bl g 22 (u64s p.limbo ++ rest) :: X) (Row (.slice (some ⟨g, 0, none⟩) p.limbo.length lcap) 22 1 p.limbo.length (u64s p.limbo) :: X) := fun X => Ent.rowF hrf
      have hnb : NthN ((i.k : Int).toNat * 1) (u64s p.limbo ++ rest) (.int .u64 (p.limbo[i.k] : Int)) := by
        have := (NthN.u64s (l := p.limbo) (i := i.k) hlt).app_left rest
        rw [List.getD_eq_getElem?_getD, List.getElem?_eq_getElem hlt] at this
        rw [Nat.mul_one]; exact this
      have htk := take_p c N { p with nt := i.s.nt } (.slice (some ⟨g, 0, none⟩) p.limbo.length lcap)
      generalize hbb : p.limbo[i.k] = b at *
      by_cases h1 : c.blocks ≤ (b : Int)
      · have hst : setStep c room p.names i.k b i.s = i.s := if_pos h1
        repeat' (first | (apply Ya; exact Oa) | (apply Yb; exact Ob) | (apply Yc; exact Oc; intro b) | (apply Ye; exact Oe; intro g cap rest hcap) | (apply Yd; exact Od; intro ad cap) | (apply Yf; exact Oj) | (apply Yg; exact Oj; exact ⟨rfl, rfl⟩) | (apply Yh; exact Oj; rfl) | (apply Yi; exact Oj; exact On; all_goals (intro h; try (exfalso; omega))) | apply StL.nil | apply St.region | apply St.seq | apply St.block | apply St.inBlock | apply St.skip | (apply St.exit; rfl) | (apply St.cond_t; rfl) | (apply St.cond_f; rfl) | (apply Ud; rfl; exact On; all_goals (intro h; try (exfalso; omega))) | (apply Za; rfl; exact Oa) | (apply Zb; rfl; exact Oa; exact Ent.go) | (apply Zc; rfl; exact Ob) | (apply Zd; rfl; exact Oc; intro b; refine ⟨Ent.go, ?_⟩) | (apply Ze; rfl; exact Oc; intro b) | (apply Zf; rfl; exact Oe; intro g cap rest hcap) | (apply Zg; rfl; exact Od; intro ad cap) | apply StD.nil | exact StD.nope | apply StD.pick | (apply StD.claim; rfl; intro b) | (apply Zi; rfl; exact Oj; exact Oa) | (apply Zj; rfl; exact Oj; exact Oa; exact Ent.go) | (apply Zk; rfl; exact Oj; exact ⟨rfl, rfl⟩) | (apply Zl; rfl; exact Oj; exact ⟨rfl, rfl⟩; exact Ent.go) | (apply Zm; rfl; exact Oj; rfl) | (apply Zn; rfl; exact Oj; exact Ent.go; rfl)  | (apply Ka; exact Og; exact hcf; exact Oh) | (apply Kb; rfl; exact Og; exact hcf; exact Oi) | (apply Kc; rfl; exact Oj; exact Og; exact hcf; exact Oi) | (apply Zo; rfl; exact Oj; exact On; all_goals (intro h; try (exfalso; omega))))
        refine IH' _ hst _ _ ?_ ?_
        · exact Sub.go
        · exact Ent.trans (Ent.of_take (p := bl g 22 (u64s p.limbo ++ rest)) Take.go) (Ent.trans (hback _) Ent.go)
      · have hmk := hm ((b : Int) + 1)
        have hb6 : b ≤ 1000000 := by omega
        by_cases h2 : cnt p.names ((b : Int) + 1) = 0
        · have hst : setStep c room p.names i.k b i.s = ⟨i.s.kept, (relP c room i.s.nt i.s.puts b).1, (relP c room i.s.nt i.s.puts b).2⟩ := (if_neg h1).trans (if_pos h2)
          have hrl := prelease_b Pb W room N (.slice (some ⟨g, 0, none⟩) p.limbo.length lcap) c hc { p with nt := i.s.nt } i.s.puts b hb6 hntk (by omega)
          dsimp only at hrl
          have IH2 := IH' _ hst
          dsimp only at IH2
          rw [← hmk] at h2
          repeat' (first | (apply Ya; exact Oa) | (apply Yb; exact Ob) | (apply Yc; exact Oc; intro b) | (apply Ye; exact Oe; intro g cap rest hcap) | (apply Yd; exact Od; intro ad cap) | (apply Yf; exact Oj) | (apply Yg; exact Oj; exact ⟨rfl, rfl⟩) | (apply Yh; exact Oj; rfl) | (apply Yi; exact Oj; exact On; all_goals (intro h; try (exfalso; omega))) | apply StL.nil | apply St.region | apply St.seq | apply St.block | apply St.inBlock | apply St.skip | (apply St.exit; rfl) | (apply St.cond_t; rfl) | (apply St.cond_f; rfl) | (apply Ud; rfl; exact On; all_goals (intro h; try (exfalso; omega))) | (apply Za; rfl; exact Oa) | (apply Zb; rfl; exact Oa; exact Ent.go) | (apply Zc; rfl; exact Ob) | (apply Zd; rfl; exact Oc; intro b; refine ⟨Ent.go, ?_⟩) | (apply Ze; rfl; exact Oc; intro b) | (apply Zf; rfl; exact Oe; intro g cap rest hcap) | (apply Zg; rfl; exact Od; intro ad cap) | apply StD.nil | exact StD.nope | apply StD.pick | (apply StD.claim; rfl; intro b) | (apply Zi; rfl; exact Oj; exact Oa) | (apply Zj; rfl; exact Oj; exact Oa; exact Ent.go) | (apply Zk; rfl; exact Oj; exact ⟨rfl, rfl⟩) | (apply Zl; rfl; exact Oj; exact ⟨rfl, rfl⟩; exact Ent.go) | (apply Zm; rfl; exact Oj; rfl) | (apply Zn; rfl; exact Oj; exact Ent.go; rfl)  | (apply Ka; exact Og; exact hcf; exact Oh) | (apply Kb; rfl; exact Og; exact hcf; exact Oi) | (apply Kc; rfl; exact Oj; exact Og; exact hcf; exact Oi) | (apply Kd; exact Og; exact hrl; exact Oh; rintro _ _ ⟨rfl, rfl⟩) | (apply Ke; rfl; exact Og; exact hrl; exact Oh; rintro _ _ ⟨rfl, rfl⟩) | (apply Kf; rfl; exact Og; exact hrl; exact Oh; rintro _ _ ⟨rfl, rfl⟩; refine ⟨Ent.go, ?_⟩) | (apply Zo; rfl; exact Oj; exact On; all_goals (intro h; try (exfalso; omega))))
          refine IH2 _ _ ?_ ?_
          · exact Sub.go
          · exact Ent.trans (Ent.of_take (p := bl g 22 (u64s p.limbo ++ rest)) Take.go) (Ent.trans (hback _) Ent.go)
        · have h15 := at_r c hc 15 i.s.kept 0
          have hp := wput_t W room i.s.puts (c.at 15 i.s.kept 0) b (by omega)
          by_cases h3 : i.s.kept ≠ i.k
          · have hst : setStep c room p.names i.k b i.s = ⟨i.s.kept + 1, i.s.nt, putP room i.s.puts (c.at 15 i.s.kept 0) b⟩ := by unfold setStep; rw [if_neg h1, if_neg h2, if_pos h3]
            have IH2 := IH' _ hst
            dsimp only at IH2
            rw [← hmk] at h2
            repeat' (first | (apply Ya; exact Oa) | (apply Yb; exact Ob) | (apply Yc; exact Oc; intro b) | (apply Ye; exact Oe; intro g cap rest hcap) | (apply Yd; exact Od; intro ad cap) | (apply Yf; exact Oj) | (apply Yg; exact Oj; exact ⟨rfl, rfl⟩) | (apply Yh; exact Oj; rfl) | (apply Yi; exact Oj; exact On; all_goals (intro h; try (exfalso; omega))) | apply StL.nil | apply St.region | apply St.seq | apply St.block | apply St.inBlock | apply St.skip | (apply St.exit; rfl) | (apply St.cond_t; rfl) | (apply St.cond_f; rfl) | (apply Ud; rfl; exact On; all_goals (intro h; try (exfalso; omega))) | (apply Za; rfl; exact Oa) | (apply Zb; rfl; exact Oa; exact Ent.go) | (apply Zc; rfl; exact Ob) | (apply Zd; rfl; exact Oc; intro b; refine ⟨Ent.go, ?_⟩) | (apply Ze; rfl; exact Oc; intro b) | (apply Zf; rfl; exact Oe; intro g cap rest hcap) | (apply Zg; rfl; exact Od; intro ad cap) | apply StD.nil | exact StD.nope | apply StD.pick | (apply StD.claim; rfl; intro b) | (apply Zi; rfl; exact Oj; exact Oa) | (apply Zj; rfl; exact Oj; exact Oa; exact Ent.go) | (apply Zk; rfl; exact Oj; exact ⟨rfl, rfl⟩) | (apply Zl; rfl; exact Oj; exact ⟨rfl, rfl⟩; exact Ent.go) | (apply Zm; rfl; exact Oj; rfl) | (apply Zn; rfl; exact Oj; exact Ent.go; rfl)  | (apply Ka; exact Og; exact hcf; exact Oh) | (apply Kb; rfl; exact Og; exact hcf; exact Oi) | (apply Kc; rfl; exact Oj; exact Og; exact hcf; exact Oi) | (apply Ka; exact Og; exact h15; exact Oh) | (apply Kb; rfl; exact Og; exact h15; exact Oi) | (apply Kc; rfl; exact Oj; exact Og; exact h15; exact Oi) | (apply Kd; exact Og; exact hp; exact Oh; rintro _ _ ⟨rfl, rfl⟩) | (apply Ke; rfl; exact Og; exact hp; exact Oh; rintro _ _ ⟨rfl, rfl⟩) | (apply Kf; rfl; exact Og; exact hp; exact Oh; rintro _ _ ⟨rfl, rfl⟩; refine ⟨Ent.go, ?_⟩) | (apply Zo; rfl; exact Oj; exact On; all_goals (intro h; try (exfalso; omega))))
            refine IH2 _ _ ?_ ?_
            · exact Sub.go
            · exact Ent.trans (Ent.of_take (p := bl g 22 (u64s p.limbo ++ rest)) Take.go) (Ent.trans (hback _) Ent.go)
          · have hst : setStep c room p.names i.k b i.s = ⟨i.s.kept + 1, i.s.nt, i.s.puts⟩ := by unfold setStep; rw [if_neg h1, if_neg h2, if_neg h3]
            have IH2 := IH' _ hst
            dsimp only at IH2
            rw [← hmk] at h2
            repeat' (first | (apply Ya; exact Oa) | (apply Yb; exact Ob) | (apply Yc; exact Oc; intro b) | (apply Ye; exact Oe; intro g cap rest hcap) | (apply Yd; exact Od; intro ad cap) | (apply Yf; exact Oj) | (apply Yg; exact Oj; exact ⟨rfl, rfl⟩) | (apply Yh; exact Oj; rfl) | (apply Yi; exact Oj; exact On; all_goals (intro h; try (exfalso; omega))) | apply StL.nil | apply St.region | apply St.seq | apply St.block | apply St.inBlock | apply St.skip | (apply St.exit; rfl) | (apply St.cond_t; rfl) | (apply St.cond_f; rfl) | (apply Ud; rfl; exact On; all_goals (intro h; try (exfalso; omega))) | (apply Za; rfl; exact Oa) | (apply Zb; rfl; exact Oa; exact Ent.go) | (apply Zc; rfl; exact Ob) | (apply Zd; rfl; exact Oc; intro b; refine ⟨Ent.go, ?_⟩) | (apply Ze; rfl; exact Oc; intro b) | (apply Zf; rfl; exact Oe; intro g cap rest hcap) | (apply Zg; rfl; exact Od; intro ad cap) | apply StD.nil | exact StD.nope | apply StD.pick | (apply StD.claim; rfl; intro b) | (apply Zi; rfl; exact Oj; exact Oa) | (apply Zj; rfl; exact Oj; exact Oa; exact Ent.go) | (apply Zk; rfl; exact Oj; exact ⟨rfl, rfl⟩) | (apply Zl; rfl; exact Oj; exact ⟨rfl, rfl⟩; exact Ent.go) | (apply Zm; rfl; exact Oj; rfl) | (apply Zn; rfl; exact Oj; exact Ent.go; rfl)  | (apply Ka; exact Og; exact hcf; exact Oh) | (apply Kb; rfl; exact Og; exact hcf; exact Oi) | (apply Kc; rfl; exact Oj; exact Og; exact hcf; exact Oi) | (apply Ka; exact Og; exact h15; exact Oh) | (apply Kb; rfl; exact Og; exact h15; exact Oi) | (apply Kc; rfl; exact Oj; exact Og; exact h15; exact Oi) | (apply Zo; rfl; exact Oj; exact On; all_goals (intro h; try (exfalso; omega))))
            refine IH2 _ _ ?_ ?_
            · exact Sub.go
            · exact Ent.trans (Ent.of_take (p := bl g 22 (u64s p.limbo ++ rest)) Take.go) (Ent.trans (hback _) Ent.go)
    · have hgo := i.go
      rw [List.drop_of_length_le (by omega), setGo] at hgo
      clear IH
      repeat' (first | (apply Ya; exact Oa) | (apply Yb; exact Ob) | (apply Yc; exact Oc; intro b) | (apply Ye; exact Oe; intro g cap rest hcap) | (apply Yd; exact Od; intro ad cap) | (apply Yf; exact Oj) | (apply Yg; exact Oj; exact ⟨rfl, rfl⟩) | (apply Yh; exact Oj; rfl) | (apply Yi; exact Oj; exact On; all_goals (intro h; try (exfalso; omega))) | apply StL.nil | apply St.region | apply St.seq | apply St.block | apply St.inBlock | apply St.skip | (apply St.exit; rfl) | (apply St.cond_t; rfl) | (apply St.cond_f; rfl) | (apply Ud; rfl; exact On; all_goals (intro h; try (exfalso; omega))) | (apply Za; rfl; exact Oa) | (apply Zb; rfl; exact Oa; exact Ent.go) | (apply Zc; rfl; exact Ob) | (apply Zd; rfl; exact Oc; intro b; refine ⟨Ent.go, ?_⟩) | (apply Ze; rfl; exact Oc; intro b) | (apply Zf; rfl; exact Oe; intro g cap rest hcap) | (apply Zg; rfl; exact Od; intro ad cap) | apply StD.nil | exact StD.nope | apply StD.pick | (apply StD.claim; rfl; intro b) | (apply Zi; rfl; exact Oj; exact Oa) | (apply Zj; rfl; exact Oj; exact Oa; exact Ent.go) | (apply Zk; rfl; exact Oj; exact ⟨rfl, rfl⟩) | (apply Zl; rfl; exact Oj; exact ⟨rfl, rfl⟩; exact Ent.go) | (apply Zm; rfl; exact Oj; rfl) | (apply Zn; rfl; exact Oj; exact Ent.go; rfl)   | (apply Zo; rfl; exact Oj; exact On; all_goals (intro h; try (exfalso; omega))))
      refine St.f1 Tryz.func15 ⟨_, ⟨rfl, rfl⟩, ?_⟩
      unfold Po.settled
      rw [hgo]
      refine Ent.trans ?_ (Ent.ex_in (Ls := plL Pb c { p with nt := i.s.nt, nl := (i.s.kept : Int), limbo := [] }) ⟨N, none, 0, m, hm⟩)
      refine Ent.trans (Ent.row_nil 22 1) ?_
      exact Ent.go
end Go.Proofs.YtipnljhelbjmaaaGreat
