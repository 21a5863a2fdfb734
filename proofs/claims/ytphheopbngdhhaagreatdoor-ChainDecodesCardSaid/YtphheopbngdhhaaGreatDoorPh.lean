/-
  Package tumblerlaw20: Made, walked.
-/
import Derived.Test.YtphheopbngdhhaaGreatDoorPg
namespace Go.Proofs.YtphheopbngdhhaaGreatDoor
set_option maxRecDepth 100000
theorem agg8 {l : List Nat} (h : l.length = 8) : aggL l = .agg ⟨g8 l⟩ := by
  obtain ⟨x0, x1, x2, x3, x4, x5, x6, x7, rfl⟩ := eight_of h
  rfl
theorem play_R (HB : HProp) (b1 : Option Addr) (b2 b3 : Nat) (bs : List (Nat × List Nat)) (hb : ListR boxV HB (.slice b1 b2 b3) bs) (hbl : bs.length ≤ 998) (rs : List Nat) (hrs : rs.length = 16) (b h w v : Nat) (hw : w < 16) :
    RTri Tryz.prog 52 #[.agg ⟨g16t rs [.slice b1 b2 b3]⟩, .slice (some ⟨b, 0, none⟩) 5 5, .agg ⟨g4 [h, w, v, 0]⟩, .int .i64 9, .int .i64 9, nilV] [HB, bl b 129 celR] (.tuple ⟨[.agg ⟨g16t (rs.set w v) [.slice b1 b2 b3]⟩, .agg ⟨rxV (.slice b1 b2 b3) nilV nilV (rs.set w v) (rg3 h w v) 5 5 1 true h 0⟩]⟩) :=
  (xplayR (star [HB, bl b 129 celR]) _ ((code_R b).weak fun _ _ h => RdC.star (.tail _ (.head _)) h) b1 b2 b3 bs (hb.weak fun _ _ h => RdC.star (.head _) h) (by omega) rs hrs h w v hw).ent (Ent.star_in [HB, bl b 129 celR] (M := []))
theorem play_W (HB : HProp) (b1 : Option Addr) (b2 b3 : Nat) (bs : List (Nat × List Nat)) (hb : ListR boxV HB (.slice b1 b2 b3) bs) (hbl : bs.length ≤ 998) (rs : List Nat) (b h w v : Nat) (bk : List Nat) (hw : w < 8) (hg : lkB bs h = some bk) (hk : bk.length = 8) :
    Tri Tryz.prog 52 #[.agg ⟨g16t rs [.slice b1 b2 b3]⟩, .slice (some ⟨b, 0, none⟩) 5 5, .agg ⟨g4 [h, w, v, 0]⟩, .int .i64 9, .int .i64 9, nilV] [HB, bl b 129 celW] (playQ (star [HB, bl b 129 celW]) rs (withB bs h (bk.set w v) false)) :=
  (xplayW (star [HB, bl b 129 celW]) _ ((code_W b).weak fun _ _ h => RdC.star (.tail _ (.head _)) h) b1 b2 b3 bs (hb.weak fun _ _ h => RdC.star (.head _) h) hbl rs h w v bk hw hg hk).ent (Ent.star_in [HB, bl b 129 celW] (M := []))
theorem play_F (HB : HProp) (b1 : Option Addr) (b2 b3 : Nat) (bs : List (Nat × List Nat)) (hb : ListR boxV HB (.slice b1 b2 b3) bs) (hbl : bs.length ≤ 998) (rs : List Nat) (b c h w v : Nat) (h0 : h ≠ 0) (h1 : h ≤ 64) (hg : lkB bs h = none) :
    Tri Tryz.prog 52 #[.agg ⟨g16t rs [.slice b1 b2 b3]⟩, .slice (some ⟨b, 0, none⟩) 2 2, .agg ⟨g4 [h, w, v, 0]⟩, .int .i64 9, .int .i64 9, .slice (some ⟨c, 0, none⟩) 1 1] [HB, bl b 129 celF, bl c 22 [.int .u64 (h : Int)]] (playQ (star [HB, bl b 129 celF, bl c 22 [.int .u64 (h : Int)]]) rs (withB bs h zero8 false)) :=
  (xplayF (star [HB, bl b 129 celF, bl c 22 [.int .u64 (h : Int)]]) _ ((code_F b).weak fun _ _ h => RdC.star (.tail _ (.head _)) h) b1 b2 b3 bs (hb.weak fun _ _ h => RdC.star (.head _) h) hbl rs h w v _ _ ((pick_1 c h).weak fun _ _ h => RdC.star (.tail _ (.tail _ (.head _))) h) h0 h1 hg).ent (Ent.star_in [HB, bl b 129 celF, bl c 22 [.int .u64 (h : Int)]] (M := []))
set_option maxHeartbeats 4000000 in
theorem made_t (q : HProp) (pv : Value) (pokes : List PokeB) (hv : ListR pokeV q pv pokes) (hl : pokes.length ≤ 80) : Tri Tryz.prog 16 #[pv] [q] (madeQ q (2 * pokes.length)) := by
  obtain ⟨oad, ocap, rfl, _, hv⟩ := hv
  unfold madeQ
  refine Tri.of_body (vs := [_]) Tryz.func16 rfl rfl fun w0 F => ?_
  repeat' (first | refine Ga ?_ | (refine Gb ?_; intro b) | (refine Gd ?_; intro g cap rest hcap) | (refine Gc ?_; intro ad cap) | (refine St.draw (id := 23) [(0, 0), (1, 1), (2, 0), (3, 3)] [3] mixed (by kernel_rfl) ?_) | (refine Gt mnew_t ?_; rintro _ _ ⟨S, rfl, rfl⟩) | (refine Ge ?_ ?_ <;> (intro h; try (exfalso; omega))) | fail)
  revert b; intro X
  refine St.conv ?_ (Sub.refl _) (Ent.star_in [])
  refine St.loopY (Lr := ?Lr1) (ι := { x : Nat × Ms × List Nat × List (Nat × List Nat) × Option Addr × Nat × Nat × HProp // x.1 ≤ pokes.length ∧ MadeI x.2.1 x.2.2.1 x.2.2.2.1 (2 * x.1) ∧ ListR boxV x.2.2.2.2.2.2.2 (.slice x.2.2.2.2.1 x.2.2.2.2.2.1 x.2.2.2.2.2.2.1) x.2.2.2.1 }) (fun x => pokes.length - x.1.1)
    (fun x => [(19, .int .i64 (x.1.1 : Int))]) (fun x => [MsE S x.1.2.1, x.1.2.2.2.2.2.2.2, bl X 52 (g16t x.1.2.2.1 [.slice x.1.2.2.2.2.1 x.1.2.2.2.2.2.1 x.1.2.2.2.2.2.2.1])]) ⟨(0, ms0, ms0.roots, [], none, 0, 0, star []), Nat.zero_le _, made0, ⟨_, 0, rfl, Nat.le_refl _, .inl rfl⟩⟩ ?hE1 ?hL1 ?round1
  case hE1 => exact Sub.go
  case hL1 => exact Takes.go
  case round1 =>
    rintro ⟨⟨k, m, rs, bs, b1, b2, b3, HB⟩, hk, hi, hb⟩ IH; dsimp only at hk hi hb IH ⊢
    by_cases hlt : k < pokes.length
    · obtain ⟨bf, o, l, l1, rfl, hrd, hdr, htk⟩ := ListR.at (f := pokeV) (sz := 3) (fun _ => rfl) hv k hlt
      generalize pokes[k] = p at htk
      obtain ⟨H, wd, vl⟩ := p
      unfold pokeV at htk
      dsimp only at htk
      obtain ⟨c, hand, hc⟩ := AndIs.pleI wd 15 (by decide)
      obtain ⟨c7, hand7, hc7⟩ := AndIs.pleU (c : Int) 7 (by decide)
      obtain ⟨g, handH, hg63⟩ := AndIs.pleU (H : Int) 63 (by decide)
      rw [show ((15 : Nat) : Int) = 15 from rfl] at hand
      rw [show ((7 : Nat) : Int) = 7 from rfl] at hand7
      rw [show ((63 : Nat) : Int) = 63 from rfl] at handH
      have hbl := hi.len
      have hrl := hi.rl
      by_cases hH : H = 0
      · subst hH
        have hbk := mblock_r S m hi.ok g
        rw [agg8 (hi.ok.get (g : Int))] at hbk
        generalize (mget m.blocks (g : Int)).isSome = bo at hbk
        have hrun := fun b => mrun_R S m hi.ok b g c vl (by omega)
        have hpl := fun b => play_R HB b1 b2 b3 bs hb (by omega) rs hrl b g c vl (by omega)
        have hi' := hi.R c vl
        unfold ranQ g4 at hrun
        unfold g4 at hpl
        cases bo
        all_goals repeat' (first | refine Ga ?_ | (refine Gb ?_; intro b) | (refine Gd ?_; intro g cap rest hcap) | (refine Gc ?_; intro ad cap) | (refine St.draw (id := 23) [(0, 0), (1, 1), (2, 0), (3, 3)] [3] mixed (by kernel_rfl) ?_)| refine Gl hbk ?_ | refine Gl (hpl _) ?_ | (refine Gt (hrun _) ?_; rintro _ _ ⟨X1, Y1, rfl⟩) | (refine Ge ?_ ?_ <;> (intro h; try (exfalso; omega))) | fail)
        all_goals first | (exfalso; omega) | (apply StL.v; (apply OpV.buildA; (focus (repeat (first | rfl | constructor))); (focus (repeat (first | exact Fill.nil | (apply Fill.cons; exact ⟨rfl, rfl⟩; rfl; (focus (first | assumption | (repeat constructor)))))))); rfl)
        all_goals repeat' (first | refine Ga ?_ | (refine Gb ?_; intro b) | (refine Gd ?_; intro g cap rest hcap) | (refine Gc ?_; intro ad cap) | (refine St.draw (id := 23) [(0, 0), (1, 1), (2, 0), (3, 3)] [3] mixed (by kernel_rfl) ?_)| refine Gl hbk ?_ | refine Gl (hpl _) ?_ | (refine Gt (hrun _) ?_; rintro _ _ ⟨X1, Y1, rfl⟩) | (refine Ge ?_ ?_ <;> (intro h; try (exfalso; omega))) | fail)
        all_goals first | (exfalso; omega) | skip
        all_goals refine IH ⟨(k + 1, ⟨m.roots.set c vl, m.blocks⟩, rs.set c vl, bs, b1, b2, b3, HB), hlt, ⟨hi'.ok, hi'.rel, by have := hi'.len; dsimp only; omega⟩, hb⟩ (by show pokes.length - (k + 1) < pokes.length - k; omega) ?_ ?_
        all_goals first | (exact Sub.go; done) | (exact Ent.go; done) | skip
      · obtain ⟨hh, hhe, hh0, hh64⟩ : ∃ hh : Nat, (if g = 0 then 64 else g) = hh ∧ hh ≠ 0 ∧ hh ≤ 64 := ⟨_, rfl, by split <;> omega, by split <;> omega⟩
        have hbk := mblock_r S m hi.ok hh
        have hrb := hi.rel.b hh
        cases hgm : lkB bs hh with
        | some bk =>
          rw [hgm] at hrb
          rw [hrb] at hbk
          have hk8 := hi.b8 hgm
          rw [show (some bk).getD zero8 = bk from rfl, show (some bk).isSome = true from rfl] at hbk
          rw [agg8 hk8] at hbk
          have hrun := fun b => mrun_W S m hi.ok b hh c7 vl bk (by omega) hrb
          have hpl := fun b => play_W HB b1 b2 b3 bs hb (by omega) rs b hh c7 vl bk (by omega) hgm hk8
          have hi' := hi.put hh (bk.set c7 vl) (by rw [List.length_set]; exact hk8)
          generalize withB bs hh (bk.set c7 vl) false = bs' at hi' hpl
          unfold ranQ g4 at hrun
          unfold playQ g4 at hpl
          by_cases hg0 : g = 0
          · rw [if_pos hg0] at hhe
            subst hg0 hhe
            repeat' (first | refine Ga ?_ | (refine Gb ?_; intro b) | (refine Gd ?_; intro g cap rest hcap) | (refine Gc ?_; intro ad cap) | (refine St.draw (id := 23) [(0, 0), (1, 1), (2, 0), (3, 3)] [3] mixed (by kernel_rfl) ?_)| refine Gl hbk ?_ | (refine Gt (hrun _) ?_; rintro _ _ ⟨X1, Y1, rfl⟩) | (refine Gt (hpl _) ?_; rintro _ _ ⟨ad, cap, rv, rfl, rfl⟩) | (refine Ge ?_ ?_ <;> (intro h; try (exfalso; omega))) | fail)
            all_goals first | (exfalso; omega) | (apply StL.v; (apply OpV.buildA; (focus (repeat (first | rfl | constructor))); (focus (repeat (first | exact Fill.nil | (apply Fill.cons; exact ⟨rfl, rfl⟩; rfl; (focus (first | assumption | (repeat constructor)))))))); rfl)
            all_goals repeat' (first | refine Ga ?_ | (refine Gb ?_; intro b) | (refine Gd ?_; intro g cap rest hcap) | (refine Gc ?_; intro ad cap) | (refine St.draw (id := 23) [(0, 0), (1, 1), (2, 0), (3, 3)] [3] mixed (by kernel_rfl) ?_)| refine Gl hbk ?_ | (refine Gt (hrun _) ?_; rintro _ _ ⟨X1, Y1, rfl⟩) | (refine Gt (hpl _) ?_; rintro _ _ ⟨ad, cap, rv, rfl, rfl⟩) | (refine Ge ?_ ?_ <;> (intro h; try (exfalso; omega))) | fail)
            all_goals first | (exfalso; omega) | skip
            all_goals (
              refine St.conv ?_ (Sub.refl _) (Ent.of_take (p := Row (.slice ad bs'.length cap) 161 9 bs'.length (bs'.flatMap boxV)) Take.go)
              refine St.rowL rfl fun R hR => ?_
              refine IH ⟨(k + 1, ⟨m.roots, mput m.blocks _ (bk.set c7 vl)⟩, rs, bs', ad, bs'.length, cap, R), hlt, ⟨hi'.ok, hi'.rel, by have := hi'.len; dsimp only; omega⟩, hR⟩ (by show pokes.length - (k + 1) < pokes.length - k; omega) ?_ ?_
              · exact Sub.go
              · exact Ent.go)
          · rw [if_neg hg0] at hhe
            subst hhe
            repeat' (first | refine Ga ?_ | (refine Gb ?_; intro b) | (refine Gd ?_; intro g cap rest hcap) | (refine Gc ?_; intro ad cap) | (refine St.draw (id := 23) [(0, 0), (1, 1), (2, 0), (3, 3)] [3] mixed (by kernel_rfl) ?_)| refine Gl hbk ?_ | (refine Gt (hrun _) ?_; rintro _ _ ⟨X1, Y1, rfl⟩) | (refine Gt (hpl _) ?_; rintro _ _ ⟨ad, cap, rv, rfl, rfl⟩) | (refine Ge ?_ ?_ <;> (intro h; try (exfalso; omega))) | fail)
            all_goals first | (exfalso; omega) | (apply StL.v; (apply OpV.buildA; (focus (repeat (first | rfl | constructor))); (focus (repeat (first | exact Fill.nil | (apply Fill.cons; exact ⟨rfl, rfl⟩; rfl; (focus (first | assumption | (repeat constructor)))))))); rfl)
            all_goals repeat' (first | refine Ga ?_ | (refine Gb ?_; intro b) | (refine Gd ?_; intro g cap rest hcap) | (refine Gc ?_; intro ad cap) | (refine St.draw (id := 23) [(0, 0), (1, 1), (2, 0), (3, 3)] [3] mixed (by kernel_rfl) ?_)| refine Gl hbk ?_ | (refine Gt (hrun _) ?_; rintro _ _ ⟨X1, Y1, rfl⟩) | (refine Gt (hpl _) ?_; rintro _ _ ⟨ad, cap, rv, rfl, rfl⟩) | (refine Ge ?_ ?_ <;> (intro h; try (exfalso; omega))) | fail)
            all_goals first | (exfalso; omega) | skip
            all_goals (
              refine St.conv ?_ (Sub.refl _) (Ent.of_take (p := Row (.slice ad bs'.length cap) 161 9 bs'.length (bs'.flatMap boxV)) Take.go)
              refine St.rowL rfl fun R hR => ?_
              refine IH ⟨(k + 1, ⟨m.roots, mput m.blocks _ (bk.set c7 vl)⟩, rs, bs', ad, bs'.length, cap, R), hlt, ⟨hi'.ok, hi'.rel, by have := hi'.len; dsimp only; omega⟩, hR⟩ (by show pokes.length - (k + 1) < pokes.length - k; omega) ?_ ?_
              · exact Sub.go
              · exact Ent.go)
        | none =>
          rw [hgm] at hrb
          rw [hrb] at hbk
          rw [show (none : Option (List Nat)).getD zero8 = zero8 from rfl, show (none : Option (List Nat)).isSome = false from rfl, agg8 (l := zero8) rfl] at hbk
          have hrunF := fun b c => mrun_F S m hi.ok b c hh c7 vl hh0 hh64 hrb
          have hplF := fun b c => play_F HB b1 b2 b3 bs hb (by omega) rs b c hh c7 vl hh0 hh64 hgm
          have hi1 := hi.put hh zero8 rfl
          have hlk : lkB (withB bs hh zero8 false) hh = some zero8 := by rw [lk_with, if_pos rfl]; rfl
          have hrb1 : mget (mput m.blocks (hh : Int) zero8) (hh : Int) = some zero8 := by rw [mget_mput, if_pos rfl]
          generalize withB bs hh zero8 false = bs1 at hplF hi1 hlk
          generalize mput m.blocks (hh : Int) zero8 = B1 at hrunF hi1 hrb1
          have hl1 := hi1.len
          unfold ranQ g4 at hrunF
          unfold playQ g4 at hplF
          by_cases hg0 : g = 0
          · rw [if_pos hg0] at hhe
            subst hg0 hhe
            repeat' (first | refine St.halt 20 ?_ |refine Ga ?_ | (refine Gb ?_; intro b) | (refine Gd ?_; intro g cap rest hcap) | (refine Gc ?_; intro ad cap) | (refine St.draw (id := 23) [(0, 0), (1, 1), (2, 0), (3, 3)] [3] mixed (by kernel_rfl) ?_)| refine Gl hbk ?_ | (refine Gt (hrunF _ _) ?_; rintro _ _ ⟨X1, Y1, rfl⟩) | (refine Gt (hplF _ _) ?_; rintro _ _ ⟨ad, cap, rv, rfl, rfl⟩) | (refine Ge ?_ ?_ <;> (intro h; try (exfalso; omega))) | fail)
            all_goals first | (exfalso; omega) | (apply StL.v; (apply OpV.buildA; (focus (repeat (first | rfl | constructor))); (focus (repeat (first | exact Fill.nil | (apply Fill.cons; exact ⟨rfl, rfl⟩; rfl; (focus (first | assumption | (repeat constructor)))))))); rfl)
            all_goals repeat' (first | refine St.halt 20 ?_ |refine Ga ?_ | (refine Gb ?_; intro b) | (refine Gd ?_; intro g cap rest hcap) | (refine Gc ?_; intro ad cap) | (refine St.draw (id := 23) [(0, 0), (1, 1), (2, 0), (3, 3)] [3] mixed (by kernel_rfl) ?_)| refine Gl hbk ?_ | (refine Gt (hrunF _ _) ?_; rintro _ _ ⟨X1, Y1, rfl⟩) | (refine Gt (hplF _ _) ?_; rintro _ _ ⟨ad, cap, rv, rfl, rfl⟩) | (refine Ge ?_ ?_ <;> (intro h; try (exfalso; omega))) | fail)
            all_goals first | (exfalso; omega) | skip
            all_goals (
              apply Halt.go
              refine St.conv ?_ (Sub.refl _) (Ent.of_take (p := Row (.slice ad bs1.length cap) 161 9 bs1.length (bs1.flatMap boxV)) Take.go)
              refine St.rowL rfl fun R hR => ?_)
            all_goals (
              have hrun := fun b => mrun_W S ⟨m.roots, B1⟩ hi1.ok b 64 c7 vl zero8 (by omega) hrb1
              have hpl := fun b => play_W R ad bs1.length cap bs1 hR (by omega) rs b 64 c7 vl zero8 (by omega) hlk rfl
              have hi' := hi1.put 64 (zero8.set c7 vl) (by rw [List.length_set]; rfl)
              generalize withB bs1 64 (zero8.set c7 vl) false = bs' at hi' hpl
              unfold ranQ g4 at hrun
              unfold playQ g4 at hpl
              repeat' (first | refine Ga ?_ | (refine Gb ?_; intro b) | (refine Gd ?_; intro g cap rest hcap) | (refine Gc ?_; intro ad cap) | (refine St.draw (id := 23) [(0, 0), (1, 1), (2, 0), (3, 3)] [3] mixed (by kernel_rfl) ?_)| refine Gl hbk ?_ | (refine Gt (hrun _) ?_; rintro _ _ ⟨X2, Y2, rfl⟩) | (refine Gt (hpl _) ?_; rintro _ _ ⟨ad2, cap2, rv2, rfl, rfl⟩) | (refine Ge ?_ ?_ <;> (intro h; try (exfalso; omega))) | fail))
            all_goals first | (exfalso; omega) | skip
            all_goals (
              refine St.conv ?_ (Sub.refl _) (Ent.of_take (p := Row (.slice ad2 bs'.length cap2) 161 9 bs'.length (bs'.flatMap boxV)) Take.go)
              refine St.rowL rfl fun R2 hR2 => ?_
              refine IH ⟨(k + 1, ⟨m.roots, mput B1 _ (zero8.set c7 vl)⟩, rs, bs', ad2, bs'.length, cap2, R2), hlt, ⟨hi'.ok, hi'.rel, by have := hi'.len; dsimp only; omega⟩, hR2⟩ (by show pokes.length - (k + 1) < pokes.length - k; omega) ?_ ?_
              · exact Sub.go
              · exact Ent.go)
          · rw [if_neg hg0] at hhe
            subst hhe
            repeat' (first | refine St.halt 20 ?_ |refine Ga ?_ | (refine Gb ?_; intro b) | (refine Gd ?_; intro g cap rest hcap) | (refine Gc ?_; intro ad cap) | (refine St.draw (id := 23) [(0, 0), (1, 1), (2, 0), (3, 3)] [3] mixed (by kernel_rfl) ?_)| refine Gl hbk ?_ | (refine Gt (hrunF _ _) ?_; rintro _ _ ⟨X1, Y1, rfl⟩) | (refine Gt (hplF _ _) ?_; rintro _ _ ⟨ad, cap, rv, rfl, rfl⟩) | (refine Ge ?_ ?_ <;> (intro h; try (exfalso; omega))) | fail)
            all_goals first | (exfalso; omega) | (apply StL.v; (apply OpV.buildA; (focus (repeat (first | rfl | constructor))); (focus (repeat (first | exact Fill.nil | (apply Fill.cons; exact ⟨rfl, rfl⟩; rfl; (focus (first | assumption | (repeat constructor)))))))); rfl)
            all_goals repeat' (first | refine St.halt 20 ?_ |refine Ga ?_ | (refine Gb ?_; intro b) | (refine Gd ?_; intro g cap rest hcap) | (refine Gc ?_; intro ad cap) | (refine St.draw (id := 23) [(0, 0), (1, 1), (2, 0), (3, 3)] [3] mixed (by kernel_rfl) ?_)| refine Gl hbk ?_ | (refine Gt (hrunF _ _) ?_; rintro _ _ ⟨X1, Y1, rfl⟩) | (refine Gt (hplF _ _) ?_; rintro _ _ ⟨ad, cap, rv, rfl, rfl⟩) | (refine Ge ?_ ?_ <;> (intro h; try (exfalso; omega))) | fail)
            all_goals first | (exfalso; omega) | skip
            all_goals (
              apply Halt.go
              refine St.conv ?_ (Sub.refl _) (Ent.of_take (p := Row (.slice ad bs1.length cap) 161 9 bs1.length (bs1.flatMap boxV)) Take.go)
              refine St.rowL rfl fun R hR => ?_)
            all_goals (
              have hrun := fun b => mrun_W S ⟨m.roots, B1⟩ hi1.ok b g c7 vl zero8 (by omega) hrb1
              have hpl := fun b => play_W R ad bs1.length cap bs1 hR (by omega) rs b g c7 vl zero8 (by omega) hlk rfl
              have hi' := hi1.put g (zero8.set c7 vl) (by rw [List.length_set]; rfl)
              generalize withB bs1 g (zero8.set c7 vl) false = bs' at hi' hpl
              unfold ranQ g4 at hrun
              unfold playQ g4 at hpl
              repeat' (first | refine Ga ?_ | (refine Gb ?_; intro b) | (refine Gd ?_; intro g cap rest hcap) | (refine Gc ?_; intro ad cap) | (refine St.draw (id := 23) [(0, 0), (1, 1), (2, 0), (3, 3)] [3] mixed (by kernel_rfl) ?_)| refine Gl hbk ?_ | (refine Gt (hrun _) ?_; rintro _ _ ⟨X2, Y2, rfl⟩) | (refine Gt (hpl _) ?_; rintro _ _ ⟨ad2, cap2, rv2, rfl, rfl⟩) | (refine Ge ?_ ?_ <;> (intro h; try (exfalso; omega))) | fail))
            all_goals first | (exfalso; omega) | skip
            all_goals (
              refine St.conv ?_ (Sub.refl _) (Ent.of_take (p := Row (.slice ad2 bs'.length cap2) 161 9 bs'.length (bs'.flatMap boxV)) Take.go)
              refine St.rowL rfl fun R2 hR2 => ?_
              refine IH ⟨(k + 1, ⟨m.roots, mput B1 _ (zero8.set c7 vl)⟩, rs, bs', ad2, bs'.length, cap2, R2), hlt, ⟨hi'.ok, hi'.rel, by have := hi'.len; dsimp only; omega⟩, hR2⟩ (by show pokes.length - (k + 1) < pokes.length - k; omega) ?_ ?_
              · exact Sub.go
              · exact Ent.go)
    · obtain rfl : k = pokes.length := by omega
      clear IH
      repeat' (first | refine Ga ?_ | (refine Gb ?_; intro b) | (refine Gd ?_; intro g cap rest hcap) | (refine Gc ?_; intro ad cap) | (refine St.draw (id := 23) [(0, 0), (1, 1), (2, 0), (3, 3)] [3] mixed (by kernel_rfl) ?_) | (refine Ge ?_ ?_ <;> (intro h; try (exfalso; omega))) | fail)
      refine St.d1 Tryz.func16 ⟨_, ⟨S, m, rs, bs, _, _, _, HB, rfl, hi, hb, rfl⟩, Ent.go⟩
end Go.Proofs.YtphheopbngdhhaaGreatDoor
