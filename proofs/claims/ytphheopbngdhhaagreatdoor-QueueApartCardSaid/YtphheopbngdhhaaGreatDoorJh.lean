/-
  Package glyph: Lines.
-/
import Derived.Test.YtphheopbngdhhaaGreatDoorGd
import Derived.Test.YtphheopbngdhhaaGreatDoorJc
namespace Go.Proofs.YtphheopbngdhhaaGreatDoor
set_option maxRecDepth 100000
def linesGo : List Tok → List Tok → List (List Tok)
  | cur, [] => match cur with
    | [] => []
    | _ :: _ => [cur]
  | cur, t :: ts => if t.kind = 3 then cur :: linesGo [] ts else linesGo (cur ++ [t]) ts
theorem linesGo_len : ∀ (ts cur : List Tok), (linesGo cur ts).length ≤ ts.length + 1
  | [], cur => by cases cur <;> simp [linesGo]
  | t :: ts, cur => by
    unfold linesGo
    split
    · have := linesGo_len ts []
      simp; omega
    · have := linesGo_len ts (cur ++ [t])
      simp; omega
theorem linesGo_mem : ∀ (ts cur : List Tok), ∀ l ∈ linesGo cur ts, l.length ≤ cur.length + ts.length
  | [], cur, l, h => by
    cases cur with
    | nil => cases h
    | cons c cs => simp [linesGo] at h; subst h; simp
  | t :: ts, cur, l, h => by
    unfold linesGo at h
    split at h
    · rcases List.mem_cons.1 h with rfl | h
      · rw [List.length_cons]; omega
      · have := linesGo_mem ts [] l h
        rw [List.length_cons]; simp at this; omega
    · have := linesGo_mem ts (cur ++ [t]) l h
      simp at this ⊢; omega
/-- a line, and where it lies -/
abbrev Line := Option Addr × Nat × List Tok
def lineV (x : Line) : List Value := [.slice x.1 x.2.2.length x.2.1]
def lineP (x : Line) : HProp := Row (.slice x.1 x.2.2.length x.2.1) 185 5 x.2.2.length (x.2.2.flatMap Tok.v)
theorem lines_t (ad : Option Addr) (n cap : Nat) : Tri Tryz.prog 92 #[.slice ad n cap] [] fun r L => ∃ Bl, r = .func (.func 125) ⟨[]⟩ ⟨[.pointer (some ⟨Bl, 0, none⟩)]⟩ ∧ L = [bl Bl 169 [.slice ad n cap]] := by
  refine Tri.of_body (vs := [_]) Tryz.func92 rfl rfl fun w0 F => ?_
  repeat' (first | refine Ga ?_ | (refine Gb ?_; intro b) | (refine Gd ?_; intro g cap rest hcap) | (refine Gc ?_; intro ad cap)  | (refine Ge ?_ ?_ <;> (intro h; try (exfalso; omega))) | fail)
  refine St.d1 Tryz.func92 ⟨_, ⟨b, rfl, rfl⟩, Ent.go⟩
set_option maxHeartbeats 1000000 in
theorem lines1_it (q : HProp) (ad : Option Addr) (n cap : Nat) (toks : List Tok) (hv : ListR Tok.v q (.slice ad n cap) toks) (hn : toks.length ≤ 1000000) (Bl : Nat) :
    IterO Tryz.prog 125 [.pointer (some ⟨Bl, 0, none⟩)] [bl Bl 169 [.slice ad n cap], q] lineV (fun x => [lineP x]) (toks.length + 1) (fun xs => xs.map (·.2.2) = linesGo [] toks) := by
  obtain rfl := hv.len
  have hN := linesGo_len toks []
  intro l J hy
  refine Tri.of_body (vs := [_, _]) Tryz.func125 rfl rfl fun w0 F => ?_
  repeat' (first | refine Ga ?_ | (refine Gb ?_; intro b) | (refine Gd ?_; intro g cap rest hcap) | (refine Gc ?_; intro ad cap)  | (refine Ge ?_ ?_ <;> (intro h; try (exfalso; omega))) | fail)
  refine St.conv ?_ (Sub.refl _) (Ent.row_nil 185 5)
  refine St.loopY (Lr := ?Lr1) (ι := { x : Nat × List Line × Line // x.1 ≤ toks.length ∧ x.2.1.map (·.2.2) ++ linesGo x.2.2.2.2 (toks.drop x.1) = linesGo [] toks ∧ x.2.2.2.2.length ≤ x.1 }) (fun x => toks.length - x.1.1)
    (fun x => [(8, .int .i64 (x.1.1 : Int)), (3, .slice x.1.2.2.1 x.1.2.2.2.2.length x.1.2.2.2.1)]) (fun x => [Row (.slice x.1.2.2.1 x.1.2.2.2.2.length x.1.2.2.2.1) 185 5 x.1.2.2.2.2.length (x.1.2.2.2.2.flatMap Tok.v), J x.1.2.1]) ⟨(0, [], (none, 0, [])), Nat.zero_le _, rfl, Nat.le_refl _⟩ ?hE1 ?hL1 ?round1
  case hE1 => exact Sub.go
  case hL1 => exact Takes.go
  case round1 =>
    rintro ⟨⟨k, pre, cad, ccap, cur⟩, hk, hgo, hcl⟩ IH; dsimp only at hk hgo hcl IH ⊢
    have hlen := congrArg List.length hgo
    rw [List.length_append, List.length_map] at hlen
    by_cases hlt : k < toks.length
    · obtain ⟨bf, o, lc, l1, rfl, hrd, hdr, htk⟩ := hv.at' (f := Tok.v) (sz := 5) (fun _ => rfl) k hlt
      rw [show toks.drop k = toks[k] :: toks.drop (k + 1) by simp] at hgo hlen
      generalize toks[k] = t at htk hgo hlen
      unfold Tok.v at htk
      have hu : linesGo cur (t :: toks.drop (k + 1)) = if t.kind = 3 then cur :: linesGo [] (toks.drop (k + 1)) else linesGo (cur ++ [t]) (toks.drop (k + 1)) := rfl
      rw [hu] at hgo hlen
      by_cases h3 : t.kind = 3
      · rw [if_pos h3] at hgo hlen
        rw [List.length_cons] at hlen
        have hyk := hy pre (cad, ccap, cur) (by omega)
        unfold lineP lineV at hyk
        dsimp only at hyk
        repeat' (first | refine St.halt 6 ?_ |refine Ga ?_ | (refine Gb ?_; intro b) | (refine Gd ?_; intro g cap rest hcap) | (refine Gc ?_; intro ad cap)  | (refine Ge ?_ ?_ <;> (intro h; try (exfalso; omega))) | fail)
        apply Halt.go
        apply St.seq
        apply St.regionI
        (apply StI.v; exact OpV.go; rfl; (intro c h; cases h))
        (apply StI.v; exact OpV.go; rfl; (intro c h; cases h))
        refine StI.yield (L1 := [J pre, Row (.slice cad cur.length ccap) 185 5 cur.length (cur.flatMap Tok.v)]) (F1 := ?F1) rfl Evs.go hyk Ent.go rfl ?_
        rintro _ rfl
        (apply StI.v; exact OpV.go; rfl; (intro c h; cases h))
        apply StI.done
        repeat' (first | refine Ga ?_ | (refine Gb ?_; intro b) | (refine Gd ?_; intro g cap rest hcap) | (refine Gc ?_; intro ad cap)  | (refine Ge ?_ ?_ <;> (intro h; try (exfalso; omega))) | fail)
        refine St.conv ?_ (Sub.refl _) (Ent.row_nil 185 5)
        refine IH ⟨(k + 1, pre ++ [(cad, ccap, cur)], (none, 0, [])), by dsimp only; omega, by simpa using hgo, Nat.zero_le _⟩ (by show toks.length - (k + 1) < toks.length - k; omega) ?_ ?_
        · exact Sub.go
        · exact Ent.go
      · rw [if_neg h3] at hgo hlen
        repeat' (first | refine Ga ?_ | (refine Gb ?_; intro b) | (refine Gd ?_; intro g cap rest hcap) | (refine Gc ?_; intro ad cap)  | (refine Ge ?_ ?_ <;> (intro h; try (exfalso; omega))) | fail)
        refine IH ⟨(k + 1, pre, (ad, cap, cur ++ [t])), by dsimp only; omega, hgo, by rw [List.length_append]; show cur.length + 1 ≤ k + 1; omega⟩ (by show toks.length - (k + 1) < toks.length - k; omega) ?_ ?_
        · dsimp only; rw [List.length_append]; exact Sub.go
        · dsimp only; rw [List.length_append, List.flatMap_append]; exact Ent.go
    · obtain rfl : k = toks.length := by omega
      rw [List.drop_length] at hgo hlen
      clear IH
      cases cur with
      | nil =>
        rw [show linesGo [] [] = [] from rfl, List.append_nil] at hgo
        repeat' (first | refine Ga ?_ | (refine Gb ?_; intro b) | (refine Gd ?_; intro g cap rest hcap) | (refine Gc ?_; intro ad cap)  | (refine Ge ?_ ?_ <;> (intro h; try (exfalso; omega))) | fail)
        refine St.f1 Tryz.func125 ⟨_, ⟨pre, hgo, rfl⟩, ?_⟩
        exact Ent.go
      | cons c cs =>
        rw [show linesGo (c :: cs) [] = [c :: cs] from rfl] at hgo hlen
        rw [List.length_singleton] at hlen
        have hyk := hy pre (cad, ccap, c :: cs) (by omega)
        unfold lineP lineV at hyk
        dsimp only at hyk
        have hcc : (c :: cs).length = cs.length + 1 := rfl
        repeat' (first | refine St.halt 9 ?_ |refine Ga ?_ | (refine Gb ?_; intro b) | (refine Gd ?_; intro g cap rest hcap) | (refine Gc ?_; intro ad cap)  | (refine Ge ?_ ?_ <;> (intro h; try (exfalso; omega))) | fail)
        apply Halt.go
        iterate 7 (first | refine Ga ?_ | (refine Gb ?_; intro b) | (refine Gd ?_; intro g cap rest hcap) | (refine Gc ?_; intro ad cap)  | (refine Ge ?_ ?_ <;> (intro h; try (exfalso; omega))) | fail)
        apply St.regionI
        (apply StI.v; exact OpV.go; rfl; (intro c h; cases h))
        (apply StI.v; exact OpV.go; rfl; (intro c h; cases h))
        refine StI.yield (L1 := [J pre, Row (.slice cad (c :: cs).length ccap) 185 5 (c :: cs).length ((c :: cs).flatMap Tok.v)]) (F1 := ?F2) rfl Evs.go hyk Ent.go rfl ?_
        rintro _ rfl
        apply StI.done
        refine St.f1 Tryz.func125 ⟨_, ⟨pre ++ [(cad, ccap, c :: cs)], by simpa using hgo, rfl⟩, ?_⟩
        exact Ent.go
end Go.Proofs.YtphheopbngdhhaaGreatDoor
