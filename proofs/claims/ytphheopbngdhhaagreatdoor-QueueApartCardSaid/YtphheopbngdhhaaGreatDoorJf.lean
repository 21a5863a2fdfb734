/-
  Package asm: parse.
-/
import Derived.Test.YtphheopbngdhhaaGreatDoorJe
namespace Go.Proofs.YtphheopbngdhhaaGreatDoor
set_option maxRecDepth 100000
inductive Ln where
  | mark (name : ByteArray) (at_ : Int)
  | order (o : Ordr)
def lnV : Option Ln → Value
  | none => .nilIface
  | some (.mark s a) => .iface 222 (.agg ⟨[.string s, .int .i64 a]⟩)
  | some (.order o) => .iface 224 (.agg ⟨ordV o⟩)
def tryGo (ts : List Tok) : Nat → Nat → Option Ln
  | 0, _ => none
  | n + 1, k => match matchM k ts with
    | some o => some (.order o)
    | none => tryGo ts n (k + 1)
def isMark (ts : List Tok) : Bool := match ts with
  | [t, u] => t.kind == 0 && (freeM t.text.data.toList && (u.kind == 2 && u.text.data.toList == [58]))
  | _ => false
def parseM (ts : List Tok) : Option Ln := if isMark ts then some (.mark (ts.headD tok0).text (ts.headD tok0).at_) else tryGo ts 22 0
theorem parse_tail (q : HProp) (v : Value) (ts : List Tok) (hv : ListR Tok.v q v ts) (hne : 0 < ts.length) (hmx : ts.length ≤ 1000000) (w0 : World) (F : List HProp) :
    St Tryz.prog ⟨93, Tryz.f93, w0, fun r L => r = lnV (tryGo ts 22 0) ∧ L = [q], F, []⟩ [.code (codeAt Tryz.f93 3), .code (restAt Tryz.f93 3)] [(0, v)] (q :: F) := by
  have hm := fun (k : Nat) (hk : k < 22) => match_t k hk q v ts hv hne hmx
  repeat' (first | refine Ga ?_ | (refine Gb ?_; intro b) | (refine Gd ?_; intro g cap rest hcap) | (refine Gc ?_; intro ad cap) | (refine St.draw (id := 2) [(0, 0), (1, 0), (2, 0), (3, 1), (4, 0), (5, 0), (6, 0), (7, 1), (8, 0), (9, 0), (10, 0)] [] mixed (by kernel_rfl) ?_) | (refine Ge ?_ ?_ <;> (intro h; try (exfalso; omega))) | fail)
  refine St.loopY (Lr := ?Lr1) (ι := { x : Nat // x ≤ 22 ∧ tryGo ts 22 0 = tryGo ts (22 - x) x }) (fun x => 22 - x.1) (fun x => [(47, .int .i64 (x.1 : Int))]) (fun x => []) ⟨0, by decide, rfl⟩ ?hE1 ?hL1 ?round1
  case hE1 => exact Sub.go
  case hL1 => exact Takes.go
  case round1 =>
    rintro ⟨x, hx, hgo⟩ IH; dsimp only at hx hgo IH ⊢
    by_cases hlt : x < 22
    · obtain ⟨n, hn⟩ : ∃ n, 22 - x = n + 1 := ⟨21 - x, by omega⟩
      have hmx := hm x hlt
      rw [hn] at hgo
      have hu : tryGo ts (n + 1) x = match matchM x ts with | some o => some (.order o) | none => tryGo ts n (x + 1) := rfl
      rw [hu] at hgo
      have hn2 : n = 22 - (x + 1) := by omega
      cases hmm : matchM x ts with
      | some o =>
        rw [hmm] at hmx hgo
        dsimp only at hgo
        rw [hgo]
        unfold ordV at hmx
        unfold lnV ordV
        dsimp only
        clear IH hm
        repeat' (first | refine St.halt 7 ?_ |refine Ga ?_ | (refine Gb ?_; intro b) | (refine Gd ?_; intro g cap rest hcap) | (refine Gc ?_; intro ad cap) | (refine St.draw (id := 2) [(0, 0), (1, 0), (2, 0), (3, 1), (4, 0), (5, 0), (6, 0), (7, 1), (8, 0), (9, 0), (10, 0)] [] mixed (by kernel_rfl) ?_) | (refine Gt hmx ?_; rintro _ _ ⟨o', rfl, ho', rfl⟩) | (refine Ge ?_ ?_ <;> (intro h; try (exfalso; omega))) | fail)
        obtain rfl := ho' o rfl
        apply Halt.go
        repeat' (first | refine Ga ?_ | (refine Gb ?_; intro b) | (refine Gd ?_; intro g cap rest hcap) | (refine Gc ?_; intro ad cap) | (refine St.draw (id := 2) [(0, 0), (1, 0), (2, 0), (3, 1), (4, 0), (5, 0), (6, 0), (7, 1), (8, 0), (9, 0), (10, 0)] [] mixed (by kernel_rfl) ?_) | (refine Ge ?_ ?_ <;> (intro h; try (exfalso; omega))) | fail)
        refine St.d1 Tryz.func93 ⟨_, ⟨rfl, rfl⟩, Ent.go⟩
      | none =>
        rw [hmm] at hmx hgo
        unfold ordV at hmx
        dsimp only at hgo
        repeat' (first | refine Ga ?_ | (refine Gb ?_; intro b) | (refine Gd ?_; intro g cap rest hcap) | (refine Gc ?_; intro ad cap) | (refine St.draw (id := 2) [(0, 0), (1, 0), (2, 0), (3, 1), (4, 0), (5, 0), (6, 0), (7, 1), (8, 0), (9, 0), (10, 0)] [] mixed (by kernel_rfl) ?_) | (refine Gt hmx ?_; rintro _ _ ⟨o', rfl, ho', rfl⟩) | (refine Ge ?_ ?_ <;> (intro h; try (exfalso; omega))) | fail)
        refine IH ⟨x + 1, by omega, by rw [hgo, hn2]⟩ (by show 22 - (x + 1) < 22 - x; omega) ?_ ?_
        · exact Sub.go
        · exact Ent.go
    · obtain rfl : x = 22 := by omega
      rw [hgo]
      clear IH hm
      repeat' (first | refine Ga ?_ | (refine Gb ?_; intro b) | (refine Gd ?_; intro g cap rest hcap) | (refine Gc ?_; intro ad cap) | (refine St.draw (id := 2) [(0, 0), (1, 0), (2, 0), (3, 1), (4, 0), (5, 0), (6, 0), (7, 1), (8, 0), (9, 0), (10, 0)] [] mixed (by kernel_rfl) ?_) | (refine Ge ?_ ?_ <;> (intro h; try (exfalso; omega))) | fail)
      refine St.d1 Tryz.func93 ⟨_, ⟨rfl, rfl⟩, Ent.go⟩
theorem isMark2 (t u : Tok) : isMark [t, u] = (t.kind == 0 && (freeM t.text.data.toList && (u.kind == 2 && u.text.data.toList == [58]))) := rfl
theorem parse_t (q : HProp) (v : Value) (ts : List Tok) (hv : ListR Tok.v q v ts) (hne : 0 < ts.length) (hmx : ts.length ≤ 1000000) : Tri Tryz.prog 93 #[v] [q] fun r L => r = lnV (parseM ts) ∧ L = [q] := by
  have tail := fun w0 F => parse_tail q v ts hv hne hmx w0 F
  obtain ⟨ad, cap, rfl, _, hv4⟩ := id hv
  obtain ⟨bf, o, l, rfl, hrd, hall⟩ := ListR.fix (f := Tok.v) (sz := 5) (fun _ => rfl) hv4 hne
  obtain ⟨l1, hdr, htk⟩ := hall 0 hne
  have hat := fun j y (e : NthN j ts[0].v y) => NthN.part hdr htk e
  have a0 := hat 0 _ (NthN.of rfl)
  have a1 := hat 1 _ (NthN.of rfl)
  have a3 := hat 3 _ (NthN.of rfl)
  have hfr := free_r ts[0].text
  clear hat htk hdr
  unfold parseM
  by_cases h2 : ts.length = 2
  · obtain ⟨t, u, rfl⟩ : ∃ t u, ts = [t, u] := by
      match ts, h2 with
      | [t, u], _ => exact ⟨t, u, rfl⟩
    obtain ⟨l2, hdr', htk'⟩ := hall 1 (by rw [h2]; decide)
    have hat := fun j y (e : NthN j u.v y) => NthN.part hdr' htk' e
    have b0 := hat 0 _ (NthN.of rfl)
    have b1 := hat 1 _ (NthN.of rfl)
    clear hat htk' hdr' hall hv4 hv
    dsimp only [List.getElem_cons_zero, List.headD_cons] at *
    have hl2 : [t, u].length = 2 := rfl
    generalize htry : tryGo [t, u] 22 0 = tg at tail ⊢
    by_cases h3 : t.kind = 0
    · cases h4 : freeM t.text.data.toList with
      | false =>
        rw [h4] at hfr
        rw [show isMark [t, u] = false by rw [isMark2, h4, Bool.false_and, Bool.and_false]]
        refine Tri.of_body (vs := [_]) Tryz.func93 rfl rfl fun w0 F => ?_
        repeat' (first | refine St.halt 3 ?_ |refine Ga ?_ | (refine Gb ?_; intro b) | (refine Gd ?_; intro g cap rest hcap) | (refine Gc ?_; intro ad cap) | (refine St.draw (id := 2) [(0, 0), (1, 0), (2, 0), (3, 1), (4, 0), (5, 0), (6, 0), (7, 1), (8, 0), (9, 0), (10, 0)] [] mixed (by kernel_rfl) ?_)| refine Gl hfr ?_ | (refine Ge ?_ ?_ <;> (intro h; try (exfalso; omega))) | fail)
        exact Halt.go (St.conv (tail w0 F) Sub.go Ent.go)
      | true =>
        rw [h4] at hfr
        by_cases h5 : u.kind = 2
        · by_cases h6 : u.text.data.toList = [58]
          · rw [show isMark [t, u] = true by rw [isMark2, h4, h3, h5, h6]; rfl]
            refine Tri.of_body (vs := [_]) Tryz.func93 rfl rfl fun w0 F => ?_
            repeat' (first | refine St.halt 3 ?_ |refine Ga ?_ | (refine Gb ?_; intro b) | (refine Gd ?_; intro g cap rest hcap) | (refine Gc ?_; intro ad cap) | (refine St.draw (id := 2) [(0, 0), (1, 0), (2, 0), (3, 1), (4, 0), (5, 0), (6, 0), (7, 1), (8, 0), (9, 0), (10, 0)] [] mixed (by kernel_rfl) ?_)| refine Gl hfr ?_ | (refine Ge ?_ ?_ <;> (intro h; try (exfalso; omega))) | fail)
            all_goals first | (exfalso; exact absurd h6 (by assumption)) | exact St.d1 Tryz.func93 ⟨_, ⟨rfl, rfl⟩, Ent.go⟩
          · rw [show isMark [t, u] = false by rw [isMark2, beq_false_of_ne h6, Bool.and_false, Bool.and_false, Bool.and_false]]
            refine Tri.of_body (vs := [_]) Tryz.func93 rfl rfl fun w0 F => ?_
            repeat' (first | refine St.halt 3 ?_ |refine Ga ?_ | (refine Gb ?_; intro b) | (refine Gd ?_; intro g cap rest hcap) | (refine Gc ?_; intro ad cap) | (refine St.draw (id := 2) [(0, 0), (1, 0), (2, 0), (3, 1), (4, 0), (5, 0), (6, 0), (7, 1), (8, 0), (9, 0), (10, 0)] [] mixed (by kernel_rfl) ?_)| refine Gl hfr ?_ | (refine Ge ?_ ?_ <;> (intro h; try (exfalso; omega))) | fail)
            all_goals first | (exfalso; exact absurd (by assumption) h6) | exact Halt.go (St.conv (tail w0 F) Sub.go Ent.go)
        · rw [show isMark [t, u] = false by rw [isMark2, beq_false_of_ne h5, Bool.false_and, Bool.and_false, Bool.and_false]]
          refine Tri.of_body (vs := [_]) Tryz.func93 rfl rfl fun w0 F => ?_
          repeat' (first | refine St.halt 3 ?_ |refine Ga ?_ | (refine Gb ?_; intro b) | (refine Gd ?_; intro g cap rest hcap) | (refine Gc ?_; intro ad cap) | (refine St.draw (id := 2) [(0, 0), (1, 0), (2, 0), (3, 1), (4, 0), (5, 0), (6, 0), (7, 1), (8, 0), (9, 0), (10, 0)] [] mixed (by kernel_rfl) ?_)| refine Gl hfr ?_ | (refine Ge ?_ ?_ <;> (intro h; try (exfalso; omega))) | fail)
          exact Halt.go (St.conv (tail w0 F) Sub.go Ent.go)
    · rw [show isMark [t, u] = false by rw [isMark2, beq_false_of_ne h3, Bool.false_and]]
      refine Tri.of_body (vs := [_]) Tryz.func93 rfl rfl fun w0 F => ?_
      repeat' (first | refine St.halt 3 ?_ |refine Ga ?_ | (refine Gb ?_; intro b) | (refine Gd ?_; intro g cap rest hcap) | (refine Gc ?_; intro ad cap) | (refine St.draw (id := 2) [(0, 0), (1, 0), (2, 0), (3, 1), (4, 0), (5, 0), (6, 0), (7, 1), (8, 0), (9, 0), (10, 0)] [] mixed (by kernel_rfl) ?_)| refine Gl hfr ?_ | (refine Ge ?_ ?_ <;> (intro h; try (exfalso; omega))) | fail)
      exact Halt.go (St.conv (tail w0 F) Sub.go Ent.go)
  · have hm : isMark ts = false := by
      unfold isMark
      split
      · exact absurd rfl h2
      · rfl
    rw [hm]
    refine Tri.of_body (vs := [_]) Tryz.func93 rfl rfl fun w0 F => ?_
    repeat' (first | refine St.halt 3 ?_ |refine Ga ?_ | (refine Gb ?_; intro b) | (refine Gd ?_; intro g cap rest hcap) | (refine Gc ?_; intro ad cap) | (refine St.draw (id := 2) [(0, 0), (1, 0), (2, 0), (3, 1), (4, 0), (5, 0), (6, 0), (7, 1), (8, 0), (9, 0), (10, 0)] [] mixed (by kernel_rfl) ?_) | (refine Ge ?_ ?_ <;> (intro h; try (exfalso; omega))) | fail)
    exact Halt.go (St.conv (tail w0 F) Sub.go Ent.go)
end Go.Proofs.YtphheopbngdhhaaGreatDoor
