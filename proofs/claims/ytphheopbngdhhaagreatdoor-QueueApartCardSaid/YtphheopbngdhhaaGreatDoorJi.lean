/-
  Package asm: Assemble.
-/
import Derived.Test.YtphheopbngdhhaaGreatDoorJg
import Derived.Test.YtphheopbngdhhaaGreatDoorJh
namespace Go.Proofs.YtphheopbngdhhaaGreatDoor
set_option maxRecDepth 100000
def asmGo : Pr → List (List Tok) → Option Pr
  | pr, [] => some pr
  | pr, l :: ls => match parseM l with
    | none => none
    | some x => match prPut pr x with
      | none => none
      | some pr' => asmGo pr' ls
def someL (l : List Tok) : Bool := match l with
  | [] => false
  | _ :: _ => true
def asmM (text : ByteArray) : Option (List Ins) := match lexM text with
  | none => none
  | some toks => match asmGo ⟨[], []⟩ ((linesGo [] toks).filter someL) with
    | none => none
    | some pr => pr.code
structure PrOk (pr : Pr) : Prop where
  o : pr.orders.length ≤ 256
  l : ∀ p ∈ pr.labels, p.2 ≤ 256
theorem PrOk.put {pr pr' : Pr} {l : Ln} (h : PrOk pr) (hp : prPut pr l = some pr') : PrOk pr' := by
  cases l with
  | mark s a =>
    unfold prPut at hp
    dsimp only at hp
    cases hg : mget pr.labels s with
    | some k => rw [hg] at hp; cases hp
    | none =>
      rw [hg] at hp
      injection hp with hp
      subst hp
      exact ⟨h.o, mput_all (q := (· ≤ 256)) s _ h.o _ h.l⟩
  | order o =>
    unfold prPut at hp
    dsimp only at hp
    split at hp
    · cases hp
    · injection hp with hp
      subst hp
      refine ⟨?_, h.l⟩
      show (pr.orders ++ [o]).length ≤ 256
      rw [List.length_append, List.length_singleton]; omega
theorem shutM_len {text : ByteArray} {to : Nat} {r r' : Rdr} (h : shutM text to r = some r') (hl : r.list.length ≤ 16384) : r'.list.length ≤ 16384 := by
  unfold shutM at h
  split at h
  · injection h with h; subst h; exact hl
  split at h
  · cases h
  split at h
  · injection h with h; subst h
    show (r.list ++ [_]).length ≤ _
    rw [List.length_append, List.length_singleton]; omega
  · cases h
theorem runeM_len {text : ByteArray} {at_ : Nat} {c : Int} {r r' : Rdr} (h : runeM text at_ c r = some r') (hl : r.list.length ≤ 16384) : r'.list.length ≤ 16384 := by
  unfold runeM at h
  split at h
  · injection h with h
    subst h
    split <;> exact hl
  · cases hs : shutM text at_ r with
    | none => rw [hs] at h; cases h
    | some r1 =>
      rw [hs] at h
      dsimp only at h
      have h1 := shutM_len hs hl
      unfold endM at h
      split at h
      · split at h
        · cases h
        · injection h with h; subst h
          show (r1.list ++ [_]).length ≤ _
          rw [List.length_append, List.length_singleton]; omega
      iterate 4
        split at h
        · injection h with h; subst h; exact h1
      split at h
      · injection h with h; subst h; exact h1
      split at h
      · split at h
        · cases h
        · injection h with h; subst h
          show (r1.list ++ [_]).length ≤ _
          rw [List.length_append, List.length_singleton]; omega
      · cases h
theorem lexGo_len {text : ByteArray} : ∀ (k pos : Nat) (r r' : Rdr), lexGo text k pos r = some r' → r.list.length ≤ 16384 → r'.list.length ≤ 16384
  | 0, _, _, _, h, _ => by cases h
  | k + 1, pos, r, r', h, hl => by
    unfold lexGo at h
    split at h
    · injection h with h; subst h; exact hl
    · split at h
      · next r1 hr => exact lexGo_len k _ r1 r' h (runeM_len hr hl)
      · cases h
theorem lexM_len {text : ByteArray} {toks : List Tok} (h : lexM text = some toks) : toks.length ≤ 16384 := by
  unfold lexM at h
  split at h
  · next r hr =>
    have h1 := lexGo_len _ _ _ _ hr (by show (0 : Nat) ≤ 16384; omega)
    split at h
    · next r' hr' => injection h with h; subst h; exact shutM_len hr' h1
    · cases h
  · cases h
def keepL (xs : List Line) : List Line := xs.filter fun x => someL x.2.2
def asJ (Bs : Nat) (xs : List Line) : HProp := ex (ι := Option Addr × Nat) fun y =>
  [bl Bs 177 [.slice y.1 (keepL xs).length y.2], Row (.slice y.1 (keepL xs).length y.2) 169 1 (keepL xs).length ((keepL xs).flatMap lineV), star ((keepL xs).map lineP)]
theorem keepL_snoc (xs : List Line) (x : Line) : keepL (xs ++ [x]) = if someL x.2.2 then keepL xs ++ [x] else keepL xs := by
  unfold keepL
  rw [List.filter_append]
  cases h : someL x.2.2 with
  | true => rw [if_pos rfl, List.filter_cons_of_pos (by simpa using h)]; rfl
  | false => rw [if_neg (by decide), List.filter_cons_of_neg (by simp [h])]; simp
theorem keepL_map (xs : List Line) : (keepL xs).map (·.2.2) = (xs.map (·.2.2)).filter someL := by
  unfold keepL
  induction xs with
  | nil => rfl
  | cons x xs ih =>
    rw [List.filter_cons, List.map_cons, List.filter_cons]
    split <;> simp [ih]
set_option maxHeartbeats 2000000 in
theorem assemble_t (text : ByteArray) (hsz : text.data.size ≤ 65536) (code : List Ins) (h : asmM text = some code) :
    Tri Tryz.prog 65 #[.string text] [] fun r L => ∃ ad cap, r = .tuple ⟨[.slice ad code.length cap, .int .i64 0, .int .i64 0]⟩ ∧ L = [Row (.slice ad code.length cap) 129 5 code.length (code.flatMap Ins.v)] := by
  unfold asmM at h
  cases hlx : lexM text with
  | none => rw [hlx] at h; cases h
  | some toks =>
    rw [hlx] at h
    dsimp only at h
    have hlex := lex_t text hsz toks hlx
    refine Tri.of_body (vs := [_]) Tryz.func65 rfl rfl fun w0 F => ?_
    repeat' (first | refine St.halt 4 ?_ |refine Ga ?_ | (refine Gb ?_; intro b) | (refine Gd ?_; intro g cap rest hcap) | (refine Gc ?_; intro ad cap) | (refine St.draw (id := 15) [(0, 0), (1, 0), (2, 0), (3, 1), (4, 0), (5, 0), (6, 0)] [] mixed (by kernel_rfl) ?_) | (refine Gt hlex ?_; rintro _ _ ⟨tad, tcap, rfl, rfl⟩) | (refine Ge ?_ ?_ <;> (intro h; try (exfalso; omega))) | fail)
    apply Halt.go
    refine St.conv ?_ (Sub.refl _) (Ent.of_take (p := Row (.slice tad toks.length tcap) 185 5 toks.length (toks.flatMap Tok.v)) Take.go)
    refine St.rowL rfl (fun R hR => ?_)
    have hR' := hR
    obtain ⟨_, _, hv, _, hR2⟩ := hR
    injection hv with hv1 hv2 hv3
    subst hv1 hv3
    repeat' (first | refine Ga ?_ | (refine Gb ?_; intro b) | (refine Gd ?_; intro g cap rest hcap) | (refine Gc ?_; intro ad cap) | (refine St.draw (id := 15) [(0, 0), (1, 0), (2, 0), (3, 1), (4, 0), (5, 0), (6, 0)] [] mixed (by kernel_rfl) ?_) | (refine Gt (lines_t _ _ _) ?_; rintro _ _ ⟨Bl, rfl, rfl⟩) | (refine Ge ?_ ?_ <;> (intro h; try (exfalso; omega))) | fail)
    revert b; intro Bs
    revert b; intro Bp
    revert b; intro Bm
    have hit := lines1_it R tad toks.length tcap toks hR' (by have := lexM_len hlx; omega) Bl
    refine St.rangeFnO (fun xs => [asJ Bs xs]) (Lr := bl Bp 176 [.slice none 0 0, .map (some Bm)] :: Mp Bm Value.string natI [] :: F) rfl rfl hit ?pL ?py ?pz
    case pL =>
      refine Ent.trans ?_ (Ent.trans (Ent.ex_in (Ls := fun y : Option Addr × Nat => [bl Bs 177 [.slice y.1 (keepL []).length y.2], Row (.slice y.1 (keepL []).length y.2) 169 1 (keepL []).length ((keepL []).flatMap lineV), star ((keepL []).map lineP)]) (none, 0)) (Ent.mid (A := [bl Bl 169 [.slice tad toks.length tcap], R])))
      refine Ent.trans (Ent.star_in []) (Ent.trans (Ent.row_nil 169 1) ?_)
      show Ent _ (bl Bs _ [.slice none 0 0] :: Row (.slice none 0 0) _ 1 0 [] :: star [] :: ([bl Bl _ _, R] ++ _))
      exact Ent.go
    case py =>
      intro a ha fn l D pre x hlt
      have ha7 := ha.put (d := some 30) rfl (.slice x.1 x.2.2.length x.2.1)
      have e7 : ((#[30] : Array Tmp).zip ⟨lineV x⟩).foldl (fun tmps (t, a) => tmps.setIfInBounds t a) a.tmps = a.tmps.setIfInBounds 30 (.slice x.1 x.2.2.length x.2.1) := by simp [lineV]
      have hE := (⟨ha7.size, rfl, ha7.at_⟩ : AOk _ _ { tmps := a.tmps.setIfInBounds 30 (.slice x.1 x.2.2.length x.2.1), defers := [] })
      rw [← e7] at hE
      refine YTri.mk1 rfl rfl rfl rfl hE rfl rfl ?hB
      case hB =>
        intro w0 F Q h
        obtain ⟨xad, xcap, xl⟩ := x
        apply StR.block
        refine StR.conv ?_ (Sub.refl _) (Ent.of_take (p := asJ Bs pre) Take.go)
        refine StR.ex_out fun y => ?_
        obtain ⟨vad, vcap⟩ := y
        dsimp only
        apply StR.seq
        apply StR.region
        (apply StI.v; exact OpV.go; rfl; (intro c h; cases h))
        (apply StI.v; exact OpV.go; rfl; (intro c h; cases h))
        (apply StI.v; exact OpV.go; rfl; (intro c h; cases h))
        apply StI.then
        have hks := keepL_snoc pre (xad, xcap, xl)
        refine StR.cond rfl (fun ht => ?_) (fun ht => ?_)
        · have hsl : someL xl = true := by
            cases xl with
            | nil => simp at ht
            | cons c cs => rfl
          rw [show someL (xad, xcap, xl).2.2 = true from hsl, if_pos rfl] at hks
          apply StR.region
          (apply StI.v; exact OpV.go; rfl; (intro c h; cases h))
          (apply StI.v; exact OpV.go; rfl; (intro c h; cases h))
          (apply StI.ok; exact OpOk.gf; rfl; (intro c h; cases h); rintro _ _ ⟨g, rfl, rfl⟩)
          have hkl : (keepL pre).length ≤ 1000000 := by
            have h1 := List.length_filter_le (fun x : Line => someL x.2.2) pre
            have h2 := lexM_len hlx
            have h3 : (keepL pre).length ≤ pre.length := h1
            omega
          (apply StI.ok; exact OpOk.ga; rfl; (intro c h; cases h); rintro _ _ ⟨nad, ncap, rfl, rfl⟩)
          (apply StI.ok; exact OpOk.gt; rfl; (intro c h; cases h); rintro _ _ ⟨rfl, rfl⟩)
          refine StI.fin ?_ (fun a w hs ho => h a w _ rfl hs ho)
          have hx := fun M => Ent.ex_in (L := M) (Ls := fun y : Option Addr × Nat => [bl Bs 177 [.slice y.1 (keepL (pre ++ [(xad, xcap, xl)])).length y.2], Row (.slice y.1 (keepL (pre ++ [(xad, xcap, xl)])).length y.2) 169 1 (keepL (pre ++ [(xad, xcap, xl)])).length ((keepL (pre ++ [(xad, xcap, xl)])).flatMap lineV), star ((keepL (pre ++ [(xad, xcap, xl)])).map lineP)]) (nad, ncap)
          rw [show asJ Bs (pre ++ [(xad, xcap, xl)]) = _ from rfl]
          refine Ent.take Take.go ?_
          refine Ent.trans ?_ (hx F)
          dsimp only
          rw [hks, List.length_append, List.flatMap_append, List.map_append]
          refine Ent.trans ?_ (Ent.cons (Ent.cons (Ent.star_snoc _ _)))
          exact Ent.go
        · have hsl : someL xl = false := by
            cases xl with
            | nil => rfl
            | cons c cs => simp at ht
          rw [show someL (xad, xcap, xl).2.2 = false from hsl, if_neg (by decide)] at hks
          refine StR.skipE ?_ (fun a w hs ho => h a w _ rfl hs ho)
          have hx := fun M => Ent.ex_in (L := M) (Ls := fun y : Option Addr × Nat => [bl Bs 177 [.slice y.1 (keepL (pre ++ [(xad, xcap, xl)])).length y.2], Row (.slice y.1 (keepL (pre ++ [(xad, xcap, xl)])).length y.2) 169 1 (keepL (pre ++ [(xad, xcap, xl)])).length ((keepL (pre ++ [(xad, xcap, xl)])).flatMap lineV), star ((keepL (pre ++ [(xad, xcap, xl)])).map lineP)]) (vad, vcap)
          rw [show asJ Bs (pre ++ [(xad, xcap, xl)]) = _ from rfl]
          refine Ent.take Take.go ?_
          refine Ent.trans ?_ (hx F)
          dsimp only
          rw [hks]
          exact Ent.go
    case pz =>
      intro D xs hS
      have hks := keepL_map xs
      rw [hS] at hks
      rw [← hks] at h
      have hkl : (keepL xs).length ≤ 1000000 := by
        have h1 := List.length_filter_le (fun x : Line => someL x.2.2) xs
        have h2 := lexM_len hlx
        have h3 : (keepL xs).length ≤ xs.length := h1
        have h4 := congrArg List.length hS
        have h5 := linesGo_len toks []
        rw [List.length_map] at h4
        omega
      have hall : ∀ x ∈ keepL xs, someL x.2.2 = true := fun x hx => (List.mem_filter.1 hx).2
      have hln : ∀ x ∈ keepL xs, x.2.2.length ≤ 1000000 := fun x hx => by
        have h1 : x.2.2 ∈ xs.map (·.2.2) := List.mem_map.2 ⟨x, (List.mem_filter.1 hx).1, rfl⟩
        rw [hS] at h1
        have h2 := linesGo_mem toks [] _ h1
        have h3 := lexM_len hlx
        simp at h2
        omega
      cases hpr : asmGo ⟨[], []⟩ ((keepL xs).map (·.2.2)) with
      | none => rw [hpr] at h; cases h
      | some prF =>
      rw [hpr] at h
      dsimp only at h
      refine St.conv ?_ (Sub.refl _) (Ent.of_take (p := asJ Bs xs) Take.go)
      refine St.ex_out fun y => ?_
      obtain ⟨oad, ocap⟩ := y
      dsimp only
      generalize keepL xs = ls at hpr hkl hall hln ⊢
      refine St.conv ?_ (Sub.refl _) (Ent.of_take (p := Row (.slice oad ls.length ocap) 169 1 ls.length (ls.flatMap lineV)) Take.go)
      refine St.rowL rfl (fun R2 hS2 => ?_)
      obtain ⟨_, _, hw, _, hS2⟩ := hS2
      injection hw with hw1 hw2 hw3
      subst hw1 hw3
      refine St.conv ?_ (Sub.refl _) (Ent.row_nil 182 1)
      refine St.pr (Lr := ?Lr5) (b := Bp) (mb := Bm) (cap := 0) (pr := ⟨[], []⟩) (ad := none) ?tk5 ?go5
      case tk5 => exact Takes.go
      case go5 =>
        repeat' (first | refine Ga ?_ | (refine Gb ?_; intro b) | (refine Gd ?_; intro g cap rest hcap) | (refine Gc ?_; intro ad cap) | (refine St.draw (id := 15) [(0, 0), (1, 0), (2, 0), (3, 1), (4, 0), (5, 0), (6, 0)] [] mixed (by kernel_rfl) ?_) | (refine Ge ?_ ?_ <;> (intro h; try (exfalso; omega))) | fail)
        refine St.loopY (Lr := ?Lr6) (ι := { x : Nat × Pr // x.1 ≤ ls.length ∧ PrOk x.2 ∧ asmGo x.2 ((ls.drop x.1).map (·.2.2)) = some prF }) (fun x => ls.length - x.1.1)
          (fun x => [(40, .int .i64 (x.1.1 : Int))]) (fun x => [PrE Bp x.1.2, star ((ls.drop x.1.1).map lineP)]) ⟨(0, ⟨[], []⟩), Nat.zero_le _, ⟨Nat.zero_le _, fun p hp => by cases hp⟩, hpr⟩ ?hE6 ?hL6 ?round6
        case hE6 => exact Sub.go
        case hL6 => exact Takes.go
        case round6 =>
          rintro ⟨⟨k, pr⟩, hk, hok, hgo⟩ IH; dsimp only at hk hok hgo IH ⊢
          by_cases hlt : k < ls.length
          · obtain ⟨bf, o, lc, l1, rfl, hrd, hdr, htk⟩ := ListR.at (f := lineV) (sz := 1) (fun _ => rfl) hS2 k hlt
            have hsx := hall _ (List.getElem_mem hlt)
            have hlx := hln _ (List.getElem_mem hlt)
            rw [show ls.drop k = ls[k] :: ls.drop (k + 1) by simp] at hgo ⊢
            generalize ls[k] = x at htk hsx hlx hgo ⊢
            obtain ⟨xad, xcap, xl⟩ := x
            unfold lineV at htk
            dsimp only at htk hsx hlx
            have hn1 : NthN (o + (k : Int).toNat * 1) lc (.slice xad xl.length xcap) := NthN.part hdr htk (j := 0) (NthN.of rfl)
            rw [List.map_cons] at hgo ⊢
            have hu : asmGo pr (xl :: (ls.drop (k + 1)).map (·.2.2)) = match parseM xl with | none => none | some x => match prPut pr x with | none => none | some pr' => asmGo pr' ((ls.drop (k + 1)).map (·.2.2)) := rfl
            rw [hu] at hgo
            have h0 : 0 < xl.length := by
              cases xl with
              | nil => cases hsx
              | cons c cs => rw [List.length_cons]; omega
            cases hpm : parseM xl with
            | none => rw [hpm] at hgo; cases hgo
            | some ln =>
              rw [hpm] at hgo
              dsimp only at hgo
              cases hpp : prPut pr ln with
              | none => rw [hpp] at hgo; cases hgo
              | some pr' =>
                rw [hpp] at hgo
                dsimp only at hgo
                have hput := put_t Bp pr pr' ln hok.o hpp
                repeat' (first | refine St.halt 13 ?_ |refine Ga ?_ | (refine Gb ?_; intro b) | (refine Gd ?_; intro g cap rest hcap) | (refine Gc ?_; intro ad cap) | (refine St.draw (id := 15) [(0, 0), (1, 0), (2, 0), (3, 1), (4, 0), (5, 0), (6, 0)] [] mixed (by kernel_rfl) ?_) | (refine Ge ?_ ?_ <;> (intro h; try (exfalso; omega))) | fail)
                apply Halt.go
                refine St.conv ?_ (Sub.refl _) (Ent.of_take (p := star (lineP (xad, xcap, xl) :: (ls.drop (k + 1)).map lineP)) Take.go)
                refine St.conv ?_ (Sub.refl _) (Ent.star_cons _ _)
                refine St.rowL rfl (fun R3 hR3 => ?_)
                have hpa := parse_t R3 _ xl hR3 h0 hlx
                rw [hpm] at hpa
                have hnn : (∃ u v, lnV (some ln) = .iface u v) := by
                  cases ln <;> exact ⟨_, _, rfl⟩
                obtain ⟨iu, iv, hi⟩ := hnn
                rw [hi] at hpa hput
                repeat' (first | refine Ga ?_ | (refine Gb ?_; intro b) | (refine Gd ?_; intro g cap rest hcap) | (refine Gc ?_; intro ad cap) | (refine St.draw (id := 15) [(0, 0), (1, 0), (2, 0), (3, 1), (4, 0), (5, 0), (6, 0)] [] mixed (by kernel_rfl) ?_) | (refine Gt hpa ?_; rintro _ _ ⟨rfl, rfl⟩) | (refine Gt hput ?_; rintro _ _ ⟨rfl, rfl⟩) | (refine Ge ?_ ?_ <;> (intro h; try (exfalso; omega))) | fail)
                refine IH ⟨(k + 1, pr'), by dsimp only; omega, hok.put hpp, hgo⟩ (by show ls.length - (k + 1) < ls.length - k; omega) ?_ ?_
                · exact Sub.go
                · exact Ent.go
          · obtain rfl : k = ls.length := by omega
            rw [List.drop_length] at hgo
            injection hgo with hgo
            subst hgo
            clear IH
            have hc := code_t Bp pr code hok.o hok.l h
            repeat' (first | refine Ga ?_ | (refine Gb ?_; intro b) | (refine Gd ?_; intro g cap rest hcap) | (refine Gc ?_; intro ad cap) | (refine St.draw (id := 15) [(0, 0), (1, 0), (2, 0), (3, 1), (4, 0), (5, 0), (6, 0)] [] mixed (by kernel_rfl) ?_) | (refine Gt hc ?_; rintro _ _ ⟨cad, ccap, rfl, rfl⟩) | (refine Ge ?_ ?_ <;> (intro h; try (exfalso; omega))) | fail)
            refine St.dM Tryz.func65 ⟨_, ⟨cad, ccap, rfl, rfl⟩, ?_⟩
            exact Ent.go
end Go.Proofs.YtphheopbngdhhaaGreatDoor
