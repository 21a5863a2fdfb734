/-
  A map's programs: which row, along a row, the moving of a row.
-/
import Derived.Test.YtphheopbngdhhaaGreatDoorTs
import Derived.Test.YtphheopbngdhhaaGreatDoorTv
namespace Go.Proofs.YtphheopbngdhhaaGreatDoor
set_option maxRecDepth 100000
theorem RepT.h0 {R : List Nat} {B : Bks} {root : Nat} {S : TabS} (hp : RepT R B root S) : S.h ≠ 0 := fun e => hp.nz (by unfold hands baseH; simp [e])
theorem RepT.hn0 {R : List Nat} {B : Bks} {root : Nat} {S : TabS} (hp : RepT R B root S) : S.hk false ≠ 0 := fun e => hp.nz (by unfold hands baseH; simp [e])
theorem RepT.base {R : List Nat} {B : Bks} {root : Nat} {S : TabS} (hp : RepT R B root S) : S.hk false ≠ S.h ∧ (S.hk true ≠ 0 → S.hk true ≠ S.h ∧ S.hk true ≠ S.hk false) ∧ ∀ x ∈ nodes S.rw, x.1 ≠ 0 ∧ x.1 ≠ S.h ∧ x.1 ≠ S.hk false ∧ x.1 ≠ S.hk true := by
  have hn := hp.nd
  have hz := hp.nz
  unfold hands at hn hz
  obtain ⟨n1, n2, n3⟩ := List.nodup_append.mp hn
  have hne : ∀ x ∈ nodes S.rw, x.1 ∉ baseH S := fun x hx h => n3 _ h _ (List.mem_map_of_mem hx) rfl
  have hx0 : ∀ x ∈ nodes S.rw, x.1 ≠ 0 := fun x hx e => hz (List.mem_append_right _ (by rw [← e]; exact List.mem_map_of_mem hx))
  unfold baseH at n1 hne
  refine ⟨?_, fun ht => ?_, fun x hx => ⟨hx0 x hx, ?_⟩⟩
  · rw [List.nodup_cons, List.mem_cons] at n1
    exact fun e => n1.1 (.inl e.symm)
  · rw [if_neg ht] at n1
    simp only [List.nodup_cons, List.mem_cons, not_or] at n1
    exact ⟨fun e => n1.1.2.1 e.symm, fun e => n1.2.1.1 e.symm⟩
  · have h := hne x hx
    rw [List.mem_cons, List.mem_cons, not_or, not_or] at h
    refine ⟨h.1, h.2.1, fun e => ?_⟩
    by_cases ht : S.hk true = 0
    · exact hx0 x hx (e.trans ht)
    · rw [if_neg ht] at h
      exact h.2.2 (by simp [e])
theorem row_nodes {f : Bool → List Nds} {b : Bool} {i : Nat} (h : i < (f b).length) {x : Nd} (hx : x ∈ row f b i) : x ∈ nodes f := mem_nodes.mpr ⟨b, i, _, row_get h, hx⟩
theorem head_zero {c : Nds} (h : c = []) : headH c = 0 := by rw [h]; rfl
theorem find_get {R : List Nat} {B : Bks} {root : Nat} {S : TabS} (hp : RepT R B root S) (hroot : root < 16) (P N : List Nat) (key val : Nat) {b : Bool} {i : Nat} (hs : sel S key = (b, i)) :
    ∃ a4 a7 a8 a9 n pc, n ≤ 22 ∧ pc = (if ("get" : String) = "get" then 22 else 23 : Int) ∧ RGo t_cd_get (rT [root, key, val, 0] [0, 0, 0, 0, 0, 0, 0, 0, 0, 0, 0, 0, 0, 0, 0, 0] 0 0 0 R B P N) (rT [root, key, val, 0] [root, S.h, key, S.hk b, a4, i, headH (row S.rw b i), a7, a8, a9, 0, 0, 0, 0, 0, 0] (0 + n) 0 pc R B P N) n := by
  obtain ⟨s1, s2, s3, s4⟩ := stage_n hp.st
  obtain ⟨i8, hb, _⟩ := sel_ok hp key
  rw [hs] at i8 hb
  dsimp only at i8 hb
  have hgk := hp.gk b hb
  have hh := head_row (f := S.rw) (b := b) (i := i) (by rw [hp.l8]; exact i8)
  rw [← hh]
  unfold sel at hs
  by_cases h : S.hk true = 0
  · rw [if_pos h] at hs
    injection hs with e1 e2
    subst e1; subst e2
    exact ⟨_, _, _, _, _, _, by decide, rfl, t_get_f0 R B P N root key val 0 0 S.h _ S.n _ S.od S.at_ _ _ _ hroot hp.r hp.h0 hp.hb hgk s1 i8 h (by decide)⟩
  · rw [if_neg h] at hs
    obtain ⟨t1, t2, t3, t4⟩ := s4 h
    by_cases hlt : key % S.od < S.at_
    · rw [if_pos hlt] at hs
      injection hs with e1 e2
      subst e1; subst e2
      exact ⟨_, _, _, _, _, _, by decide, rfl, t_get_f1 R B P N root key val 0 0 S.h _ S.n _ S.od S.at_ _ _ _ hroot hp.r hp.h0 hp.hb hgk s1 i8 h t1 hlt (by decide)⟩
    · rw [if_neg hlt] at hs
      injection hs with e1 e2
      subst e1; subst e2
      exact ⟨_, _, _, _, _, _, by decide, rfl, t_get_f2 R B P N root key val 0 0 S.h _ S.n _ S.od S.at_ _ _ _ hroot hp.r hp.h0 hp.hb hgk s1 i8 h t1 hlt (by decide)⟩
theorem find_del {R : List Nat} {B : Bks} {root : Nat} {S : TabS} (hp : RepT R B root S) (hroot : root < 16) (P N : List Nat) (key val : Nat) {b : Bool} {i : Nat} (hs : sel S key = (b, i)) :
    ∃ a4 a7 a8 a9 n pc, n ≤ 22 ∧ pc = (if ("del" : String) = "get" then 22 else 23 : Int) ∧ RGo t_cd_del (rT [root, key, val, 0] [0, 0, 0, 0, 0, 0, 0, 0, 0, 0, 0, 0, 0, 0, 0, 0] 0 0 0 R B P N) (rT [root, key, val, 0] [root, S.h, key, S.hk b, a4, i, headH (row S.rw b i), a7, a8, a9, 0, 0, 0, 0, 0, 0] (0 + n) 0 pc R B P N) n := by
  obtain ⟨s1, s2, s3, s4⟩ := stage_n hp.st
  obtain ⟨i8, hb, _⟩ := sel_ok hp key
  rw [hs] at i8 hb
  dsimp only at i8 hb
  have hgk := hp.gk b hb
  have hh := head_row (f := S.rw) (b := b) (i := i) (by rw [hp.l8]; exact i8)
  rw [← hh]
  unfold sel at hs
  by_cases h : S.hk true = 0
  · rw [if_pos h] at hs
    injection hs with e1 e2
    subst e1; subst e2
    exact ⟨_, _, _, _, _, _, by decide, rfl, t_del_f0 R B P N root key val 0 0 S.h _ S.n _ S.od S.at_ _ _ _ hroot hp.r hp.h0 hp.hb hgk s1 i8 h (by decide)⟩
  · rw [if_neg h] at hs
    obtain ⟨t1, t2, t3, t4⟩ := s4 h
    by_cases hlt : key % S.od < S.at_
    · rw [if_pos hlt] at hs
      injection hs with e1 e2
      subst e1; subst e2
      exact ⟨_, _, _, _, _, _, by decide, rfl, t_del_f1 R B P N root key val 0 0 S.h _ S.n _ S.od S.at_ _ _ _ hroot hp.r hp.h0 hp.hb hgk s1 i8 h t1 hlt (by decide)⟩
    · rw [if_neg hlt] at hs
      injection hs with e1 e2
      subst e1; subst e2
      exact ⟨_, _, _, _, _, _, by decide, rfl, t_del_f2 R B P N root key val 0 0 S.h _ S.n _ S.od S.at_ _ _ _ hroot hp.r hp.h0 hp.hb hgk s1 i8 h t1 hlt (by decide)⟩
theorem find_put {R : List Nat} {B : Bks} {root : Nat} {S : TabS} (hp : RepT R B root S) (P N : List Nat) (key val a2 a3 a4 a5 a6 a7 a8 a9 st dw : Nat) {b : Bool} {i : Nat} (hs : sel S key = (b, i)) (hst : st + 14 ≤ 1500) :
    ∃ b4 b7 b8 b9 n, n ≤ 14 ∧ RGo t_cd_put (rT [root, key, val, 0] [root, S.h, a2, a3, a4, a5, a6, a7, a8, a9, 0, 0, 0, 0, 0, 0] st dw 37 R B P N) (rT [root, key, val, 0] [root, S.h, key, S.hk b, b4, i, headH (row S.rw b i), b7, b8, b9, 0, 0, 0, 0, 0, 0] (st + n) dw 52 R B P N) n := by
  obtain ⟨s1, s2, s3, s4⟩ := stage_n hp.st
  obtain ⟨i8, hb, _⟩ := sel_ok hp key
  rw [hs] at i8 hb
  dsimp only at i8 hb
  have hgk := hp.gk b hb
  have hh := head_row (f := S.rw) (b := b) (i := i) (by rw [hp.l8]; exact i8)
  rw [← hh]
  unfold sel at hs
  by_cases h : S.hk true = 0
  · rw [if_pos h] at hs
    injection hs with e1 e2
    subst e1; subst e2
    exact ⟨_, _, _, _, _, by decide, t_put_f0 R B P N root key val st dw S.h _ S.n _ S.od S.at_ _ _ _ a2 a3 a4 a5 a6 a7 a8 a9 hp.hb hgk s1 i8 h (by omega)⟩
  · rw [if_neg h] at hs
    obtain ⟨t1, t2, t3, t4⟩ := s4 h
    by_cases hlt : key % S.od < S.at_
    · rw [if_pos hlt] at hs
      injection hs with e1 e2
      subst e1; subst e2
      exact ⟨_, _, _, _, _, by decide, t_put_f1 R B P N root key val st dw S.h _ S.n _ S.od S.at_ _ _ _ a2 a3 a4 a5 a6 a7 a8 a9 hp.hb hgk s1 i8 h t1 hlt (by omega)⟩
    · rw [if_neg hlt] at hs
      injection hs with e1 e2
      subst e1; subst e2
      exact ⟨_, _, _, _, _, by decide, t_put_f2 R B P N root key val st dw S.h _ S.n _ S.od S.at_ _ _ _ a2 a3 a4 a5 a6 a7 a8 a9 hp.hb hgk s1 i8 h t1 hlt (by omega)⟩
theorem seek_put (R : List Nat) (B : Bks) (P N : List Nat) (root key val h hk i a4 dw : Nat) : ∀ (c : Nds) (a7 a8 a9 st : Nat), Chn B c → 0 ∉ c.map (·.1) → st + 7 * (loK key c).length ≤ 1500 →
    ∃ b7 b8 b9, RGo t_cd_put (rT [root, key, val, 0] [root, h, key, hk, a4, i, headH c, a7, a8, a9, 0, 0, 0, 0, 0, 0] st dw 52 R B P N) (rT [root, key, val, 0] [root, h, key, hk, a4, i, headH (hiK key c), b7, b8, b9, 0, 0, 0, 0, 0, 0] (st + 7 * (loK key c).length) dw 52 R B P N) (7 * (loK key c).length)
  | [], a7, a8, a9, _, _, _, _ => ⟨a7, a8, a9, RGo.refl _ _⟩
  | x :: xs, a7, a8, a9, st, hc, hz, hs => by
    by_cases hx : x.2.1 = key
    · rw [loK_neg hx, hiK_neg hx]
      exact ⟨a7, a8, a9, RGo.refl _ _⟩
    · rw [loK_pos hx, List.length_cons] at hs
      rw [loK_pos hx, hiK_pos hx, List.length_cons]
      have hx0 : x.1 ≠ 0 := fun e => hz (by rw [← e]; simp)
      obtain ⟨b7, b8, b9, ih⟩ := seek_put R B P N root key val h hk i a4 dw xs 0 a8 1 (st + 7) hc.2 (fun hm => hz (by rw [List.map_cons]; exact List.mem_cons_of_mem _ hm)) (by omega)
      refine ⟨b7, b8, b9, ?_⟩
      have h1 := (t_put_on R B P N root key val st dw h hk i a4 x.1 a7 a8 a9 x.2.1 (headH xs) x.2.2 hx0 hc.1 hx (by omega)).trans ih
      rw [show st + 7 + 7 * (loK key xs).length = st + 7 * ((loK key xs).length + 1) by omega, show 7 * (loK key xs).length + 7 = 7 * ((loK key xs).length + 1) by omega] at h1
      exact h1
theorem seek_get (R : List Nat) (B : Bks) (P N : List Nat) (root key val h hk i a4 dw : Nat) : ∀ (c : Nds) (a7 a8 a9 st : Nat), Chn B c → 0 ∉ c.map (·.1) → st + 7 * (loK key c).length ≤ 1500 →
    ∃ b7 b8 b9, RGo t_cd_get (rT [root, key, val, 0] [root, h, key, hk, a4, i, headH c, a7, a8, a9, 0, 0, 0, 0, 0, 0] st dw 22 R B P N) (rT [root, key, val, 0] [root, h, key, hk, a4, i, headH (hiK key c), b7, b8, b9, 0, 0, 0, 0, 0, 0] (st + 7 * (loK key c).length) dw 22 R B P N) (7 * (loK key c).length)
  | [], a7, a8, a9, _, _, _, _ => ⟨a7, a8, a9, RGo.refl _ _⟩
  | x :: xs, a7, a8, a9, st, hc, hz, hs => by
    by_cases hx : x.2.1 = key
    · rw [loK_neg hx, hiK_neg hx]
      exact ⟨a7, a8, a9, RGo.refl _ _⟩
    · rw [loK_pos hx, List.length_cons] at hs
      rw [loK_pos hx, hiK_pos hx, List.length_cons]
      have hx0 : x.1 ≠ 0 := fun e => hz (by rw [← e]; simp)
      obtain ⟨b7, b8, b9, ih⟩ := seek_get R B P N root key val h hk i a4 dw xs 0 a8 1 (st + 7) hc.2 (fun hm => hz (by rw [List.map_cons]; exact List.mem_cons_of_mem _ hm)) (by omega)
      refine ⟨b7, b8, b9, ?_⟩
      have h1 := (t_get_on R B P N root key val st dw h hk i a4 x.1 a7 a8 a9 x.2.1 (headH xs) x.2.2 hx0 hc.1 hx (by omega)).trans ih
      rw [show st + 7 + 7 * (loK key xs).length = st + 7 * ((loK key xs).length + 1) by omega, show 7 * (loK key xs).length + 7 = 7 * ((loK key xs).length + 1) by omega] at h1
      exact h1
theorem seek_del (R : List Nat) (B : Bks) (P N : List Nat) (root key val h hk i a4 dw : Nat) : ∀ (c : Nds) (a7 a8 a9 p st : Nat), Chn B c → 0 ∉ c.map (·.1) → st + 8 * (loK key c).length ≤ 1500 →
    ∃ b7 b8 b9, RGo t_cd_del (rT [root, key, val, 0] [root, h, key, hk, a4, i, headH c, a7, a8, a9, p, 0, 0, 0, 0, 0] st dw 23 R B P N) (rT [root, key, val, 0] [root, h, key, hk, a4, i, headH (hiK key c), b7, b8, b9, lastP p (loK key c), 0, 0, 0, 0, 0] (st + 8 * (loK key c).length) dw 23 R B P N) (8 * (loK key c).length)
  | [], a7, a8, a9, _, _, _, _, _ => ⟨a7, a8, a9, RGo.refl _ _⟩
  | x :: xs, a7, a8, a9, p, st, hc, hz, hs => by
    by_cases hx : x.2.1 = key
    · rw [loK_neg hx, hiK_neg hx]
      exact ⟨a7, a8, a9, RGo.refl _ _⟩
    · rw [loK_pos hx, List.length_cons] at hs
      rw [loK_pos hx, hiK_pos hx, List.length_cons]
      have hx0 : x.1 ≠ 0 := fun e => hz (by rw [← e]; simp)
      obtain ⟨b7, b8, b9, ih⟩ := seek_del R B P N root key val h hk i a4 dw xs 0 a8 1 x.1 (st + 8) hc.2 (fun hm => hz (by rw [List.map_cons]; exact List.mem_cons_of_mem _ hm)) (by omega)
      refine ⟨b7, b8, b9, ?_⟩
      have h1 := (t_del_on R B P N root key val st dw h hk i a4 x.1 a7 a8 a9 p x.2.1 (headH xs) x.2.2 hx0 hc.1 hx (by omega)).trans ih
      rw [show st + 8 + 8 * (loK key xs).length = st + 8 * ((loK key xs).length + 1) by omega, show 8 * (loK key xs).length + 8 = 8 * ((loK key xs).length + 1) by omega] at h1
      exact h1
/-- a row's nodes, moved into rows by another number -/
def mvA (n : Nat) : List Nds → Nds → List Nds
  | A, [] => A
  | A, x :: c => mvA n (A.set (x.2.1 % n) (x :: A.getD (x.2.1 % n) [])) c
theorem mvA_len (n : Nat) : ∀ (c : Nds) (A : List Nds), (mvA n A c).length = A.length
  | [], _ => rfl
  | x :: c, A => by
    unfold mvA
    rw [mvA_len n c, List.length_set]
theorem set_getD {A : List Nds} {i : Nat} (h : i < A.length) : A.set i (A.getD i []) = A := by
  refine List.ext_getElem? fun j => ?_
  by_cases hj : i = j
  · subst hj
    rw [List.getElem?_set_self h, List.getD_eq_getElem?_getD, List.getElem?_eq_getElem h]; rfl
  · rw [List.getElem?_set_ne hj]
theorem flat_cons {A : List Nds} {i : Nat} (h : i < A.length) (x : Nd) : ((A.set i (x :: A.getD i [])).flatten).Perm (x :: A.flatten) := by
  have h1 := flat_setR h (x :: A.getD i [])
  have h2 := flat_setR h (A.getD i [])
  rw [set_getD h] at h2
  refine h1.trans ?_
  rw [List.cons_append]
  exact (h2.symm).cons _
theorem mvA_perm {n : Nat} (hn0 : n ≠ 0) (hn8 : n ≤ 8) : ∀ (c : Nds) (A : List Nds), A.length = 8 → ((mvA n A c).flatten).Perm (c ++ A.flatten)
  | [], A, _ => List.Perm.refl _
  | x :: c, A, h8 => by
    unfold mvA
    have hi : x.2.1 % n < A.length := by have := Nat.mod_lt x.2.1 (Nat.pos_of_ne_zero hn0); omega
    refine (mvA_perm hn0 hn8 c _ (by rw [List.length_set]; exact h8)).trans ?_
    refine ((flat_cons hi x).append_left c).trans ?_
    exact List.perm_middle
theorem mvA_ok {n : Nat} (Q : Nat → Nd → Prop) : ∀ (c : Nds) (A : List Nds), (∀ i a, A[i]? = some a → ∀ x ∈ a, Q i x) → (∀ x ∈ c, Q (x.2.1 % n) x) → ∀ i a, (mvA n A c)[i]? = some a → ∀ x ∈ a, Q i x
  | [], A, h, _ => h
  | y :: c, A, h, hc => by
    unfold mvA
    refine mvA_ok Q c _ (fun i a ha x hx => ?_) fun x hx => hc x (List.mem_cons_of_mem _ hx)
    by_cases hi : y.2.1 % n = i
    · by_cases hl : i < A.length
      · rw [hi, List.getElem?_set_self hl] at ha
        injection ha with ha
        subst ha
        rcases List.mem_cons.mp hx with rfl | hx
        · rw [← hi]; exact hc _ (by simp)
        · rw [List.getD_eq_getElem?_getD, List.getElem?_eq_getElem hl] at hx
          exact h i _ (List.getElem?_eq_getElem hl) x hx
      · rw [List.getElem?_eq_none (by rw [List.length_set]; omega)] at ha
        cases ha
    · rw [List.getElem?_set_ne hi] at ha
      exact h i a ha x hx
theorem getD_mem {A : List Nds} {i : Nat} (h : i < A.length) : A.getD i [] ∈ A := by
  rw [List.getD_eq_getElem?_getD, List.getElem?_eq_getElem h]
  exact List.getElem_mem h
theorem map_getD (A : List Nds) (i : Nat) : (A.map headH).getD i 0 = headH (A.getD i []) := by
  rw [List.getD_eq_getElem?_getD, List.getD_eq_getElem?_getD, List.getElem?_map]
  cases A[i]? <;> rfl
set_option maxHeartbeats 1000000 in
/-- the loop that moves a row -/
theorem mv_loop (R : List Nat) (P N : List Nat) (root key val h hn ho at_ n : Nat) (hn0 : n ≠ 0) (hn8 : n ≤ 8) : ∀ (c : Nds) (A : List Nds) (B : Bks) (a7 a8 a9 st dw : Nat), WfB B → A.length = 8 → mget B (hn : Int) = some (A.map headH) → Chn B c → (∀ a ∈ A, Chn B a) →
    (c.map (·.1) ++ A.flatten.map (·.1)).Nodup → 0 ∉ c.map (·.1) → hn ∉ c.map (·.1) ++ A.flatten.map (·.1) → st + 10 * c.length ≤ 1500 → dw + 2 * c.length ≤ 200 →
    ∃ B' b7 b8 b9, RGo t_cd_put (rT [root, key, val, 0] [root, h, ho, at_, headH c, hn, n, a7, a8, a9, 0, 0, 0, 0, 0, 0] st dw 13 R B P N) (rT [root, key, val, 0] [root, h, ho, at_, 0, hn, n, b7, b8, b9, 0, 0, 0, 0, 0, 0] (st + 10 * c.length) (dw + 2 * c.length) 13 R B' P N) (10 * c.length) ∧
      WfB B' ∧ B'.length = B.length ∧ mget B' (hn : Int) = some ((mvA n A c).map headH) ∧ (∀ a ∈ mvA n A c, Chn B' a) ∧ (∀ j : Nat, j ≠ hn → j ∉ c.map (·.1) → mget B' (j : Int) = mget B (j : Int))
  | [], A, B, a7, a8, a9, st, dw, hw, _, gn, _, hA, _, _, _, _, _ => ⟨B, a7, a8, a9, RGo.refl _ _, hw, rfl, gn, hA, fun _ _ _ => rfl⟩
  | x :: c, A, B, a7, a8, a9, st, dw, hw, h8, gn, hc, hA, hnd, hz, hnn, hst, hdw => by
    rw [List.length_cons] at hst hdw
    have hx0 : x.1 ≠ 0 := fun e => hz (by rw [← e]; simp)
    have hi8 : x.2.1 % n < 8 := by have := Nat.mod_lt x.2.1 (Nat.pos_of_ne_zero hn0); omega
    have hiA : x.2.1 % n < A.length := by omega
    have hxn : x.1 ≠ hn := fun e => hnn (by rw [← e]; simp)
    have hnd' := hnd
    rw [List.map_cons, List.cons_append, List.nodup_cons] at hnd'
    have hfl := flat_cons hiA x
    have hgo := t_put_round R B P N root key val st dw h hn n ho at_ x.1 a7 a8 a9 x.2.1 (headH c) x.2.2 (A.map headH) hx0 hc.1 gn hxn hn0 hi8 (by omega) (by omega)
    rw [map_getD] at hgo
    generalize hB1 : mput (mput B (x.1 : Int) [x.2.1, headH (A.getD (x.2.1 % n) []), x.2.2, 0, 0, 0, 0, 0]) (hn : Int) ((A.map headH).set (x.2.1 % n) x.1) = B1 at hgo
    obtain ⟨w1, l1⟩ := hw.put_old (k := (x.1 : Int)) (x := [x.2.1, headH (A.getD (x.2.1 % n) []), x.2.2, 0, 0, 0, 0, 0]) hc.1 rfl
    obtain ⟨w2, l2⟩ := w1.put_old (k := (hn : Int)) (x := (A.map headH).set (x.2.1 % n) x.1) (by rw [mputN, if_neg hxn]; exact gn) (by rw [List.length_set, List.length_map]; exact h8)
    rw [hB1] at w2 l2
    have gfr : ∀ j : Nat, j ≠ hn → j ≠ x.1 → mget B1 (j : Int) = mget B (j : Int) := fun j h1 h2 => by
      rw [← hB1, mputN, if_neg (fun e => h1 e.symm), mputN, if_neg (fun e => h2 e.symm)]
    have gx : mget B1 (x.1 : Int) = some [x.2.1, headH (A.getD (x.2.1 % n) []), x.2.2, 0, 0, 0, 0, 0] := by
      rw [← hB1, mputN, if_neg (fun e => hxn e.symm), mputN, if_pos rfl]
    have gn1 : mget B1 (hn : Int) = some ((A.set (x.2.1 % n) (x :: A.getD (x.2.1 % n) [])).map headH) := by
      rw [← hB1, mputN, if_pos rfl, map_set_head]
      rfl
    have hAf : ∀ a ∈ A, ∀ z ∈ a, z.1 ≠ hn ∧ z.1 ≠ x.1 := fun a ha z hz' => by
      have hm : z.1 ∈ A.flatten.map (·.1) := List.mem_map_of_mem (List.mem_flatten.mpr ⟨a, ha, hz'⟩)
      exact ⟨fun e => hnn (by rw [← e]; exact List.mem_append_right _ hm), fun e => hnd'.1 (by rw [← e]; exact List.mem_append_right _ hm)⟩
    have hcf : ∀ z ∈ c, z.1 ≠ hn ∧ z.1 ≠ x.1 := fun z hz' => by
      have hm : z.1 ∈ c.map (·.1) := List.mem_map_of_mem hz'
      exact ⟨fun e => hnn (by rw [← e, List.map_cons]; exact List.mem_append_left _ (List.mem_cons_of_mem _ hm)), fun e => hnd'.1 (by rw [← e]; exact List.mem_append_left _ hm)⟩
    have hp1 : ((A.set (x.2.1 % n) (x :: A.getD (x.2.1 % n) [])).flatten.map (·.1)).Perm (x.1 :: A.flatten.map (·.1)) := hfl.map (·.1)
    have hp2 : (c.map (·.1) ++ (A.set (x.2.1 % n) (x :: A.getD (x.2.1 % n) [])).flatten.map (·.1)).Perm ((x :: c).map (·.1) ++ A.flatten.map (·.1)) := by
      refine (hp1.append_left _).trans ?_
      rw [List.map_cons, List.cons_append]
      exact List.perm_middle
    obtain ⟨B', b7, b8, b9, r1, r2, r3, r4, r5, r6⟩ := mv_loop R P N root key val h hn ho at_ n hn0 hn8 c (A.set (x.2.1 % n) (x :: A.getD (x.2.1 % n) [])) B1 (headH c) 1 (headH (A.getD (x.2.1 % n) [])) (st + 10) (dw + 2) w2 (by rw [List.length_set]; exact h8) gn1
      (hc.2.frame fun z hz' => gfr z.1 (hcf z hz').1 (hcf z hz').2)
      (fun a ha => by
        rcases List.mem_or_eq_of_mem_set ha with ha | rfl
        · exact (hA a ha).frame fun z hz' => gfr z.1 (hAf a ha z hz').1 (hAf a ha z hz').2
        · have hm := getD_mem hiA
          exact ⟨gx, (hA _ hm).frame fun z hz' => gfr z.1 (hAf _ hm z hz').1 (hAf _ hm z hz').2⟩)
      (hp2.nodup_iff.mpr hnd) (fun hm => hz (by rw [List.map_cons]; exact List.mem_cons_of_mem _ hm)) (fun hm => hnn (hp2.mem_iff.mp hm)) (by omega) (by omega)
    refine ⟨B', b7, b8, b9, ?_, r2, r3.trans (l2.trans l1), r4, r5, fun j h1 h2 => ?_⟩
    · have h1 := hgo.trans r1
      rw [show st + 10 + 10 * c.length = st + 10 * (c.length + 1) by omega, show dw + 2 + 2 * c.length = dw + 2 * (c.length + 1) by omega, show 10 * c.length + 10 = 10 * (c.length + 1) by omega] at h1
      rw [List.length_cons]
      exact h1
    · rw [List.map_cons, List.mem_cons, not_or] at h2
      rw [r6 j h1 h2.2, gfr j h1 h2.1]
def mvStage (od at_ : Nat) : Nat × Nat := if 0 < od then (if at_ + 1 = od then (0, 0) else (od, at_ + 1)) else (od, at_)
def mvRw (S : TabS) : Bool → List Nds
  | true => (S.rw true).set S.at_ []
  | false => mvA S.n (S.rw false) (row S.rw true S.at_)
theorem mvRw_perm {R : List Nat} {B : Bks} {root : Nat} {S : TabS} (hp : RepT R B root S) (ha : S.at_ < 8) :
    (nodes S.rw).Perm ((row S.rw true S.at_ ++ (S.rw false).flatten) ++ ((S.rw true).set S.at_ []).flatten) ∧ (nodes (mvRw S)).Perm (nodes S.rw) := by
  obtain ⟨s1, s2, _, _⟩ := stage_n hp.st
  have h1 : (nodes S.rw).Perm ((row S.rw true S.at_ ++ (S.rw false).flatten) ++ ((S.rw true).set S.at_ []).flatten) := by
    have h2 := flat_setR (L := S.rw true) (i := S.at_) (by rw [hp.l8]; exact ha) (row S.rw true S.at_)
    have h3 : (S.rw true).set S.at_ (row S.rw true S.at_) = S.rw true := set_getD (by rw [hp.l8]; exact ha)
    rw [h3] at h2
    unfold nodes
    refine (h2.append_left _).trans ?_
    rw [← List.append_assoc]
    exact List.perm_append_comm.append_right _
  refine ⟨h1, ?_⟩
  have h4 := mvA_perm s1 s2 (row S.rw true S.at_) (S.rw false) (hp.l8 false)
  exact (h4.append_right _).trans h1.symm
theorem mem_set_nil {L : List Nds} {i j : Nat} {c : Nds} (h : (L.set i [])[j]? = some c) {x : Nd} (hx : x ∈ c) : j ≠ i ∧ L[j]? = some c := by
  by_cases e : i = j
  · subst e
    by_cases hl : i < L.length
    · rw [List.getElem?_set_self hl] at h
      injection h with h
      subst h
      cases hx
    · rw [List.getElem?_eq_none (by rw [List.length_set]; omega)] at h
      cases h
  · rw [List.getElem?_set_ne e] at h
    exact ⟨fun e' => e e'.symm, h⟩
set_option maxHeartbeats 2000000 in
theorem put_mid {R : List Nat} {B : Bks} {root : Nat} {S : TabS} (hw : WfB B) (hp : RepT R B root S) (hroot : root < 16) (P N : List Nat) (key val : Nat) (hc : (nodes S.rw).length ≤ 60) :
    ∃ B' S' a2 a3 a4 a5 a6 a7 a8 a9 st dw n, RGo t_cd_put (rT [root, key, val, 0] [0, 0, 0, 0, 0, 0, 0, 0, 0, 0, 0, 0, 0, 0, 0, 0] 0 0 0 R B P N) (rT [root, key, val, 0] [root, S'.h, a2, a3, a4, a5, a6, a7, a8, a9, 0, 0, 0, 0, 0, 0] st dw 37 R B' P N) n ∧ n = st ∧ st ≤ 27 + 10 * (nodes S.rw).length ∧ dw ≤ 7 + 2 * (nodes S.rw).length ∧
      WfB B' ∧ RepT R B' root S' ∧ S'.n = S.n ∧ (S'.od, S'.at_) = mvStage S.od S.at_ ∧ S'.cap = S.cap ∧ (nodes S'.rw).Perm (nodes S.rw) ∧ B'.length + (hands S).length = B.length + (hands S').length ∧ (hands S').length ≤ (hands S).length ∧ (∀ j : Nat, mget B (j : Int) = none → mget B' (j : Int) = none) := by
  by_cases h0 : S.hk true = 0
  · have hgo := t_put_in0 R B P N root key val 0 0 S.h _ S.n _ S.od S.at_ _ _ hroot hp.r hp.h0 hp.hb h0 (by decide)
    refine ⟨B, S, _, _, _, _, _, _, _, _, _, _, _, hgo, rfl, by omega, by omega, hw, hp, rfl, ?_, rfl, List.Perm.refl _, rfl, Nat.le_refl _, fun _ h => h⟩
    rcases hp.st with ⟨_, h2, h3, _⟩ | ⟨h1, _⟩
    · rw [h2, h3]; rfl
    · exact absurd h0 h1
  obtain ⟨s1, s2, s3, s4⟩ := stage_n hp.st
  obtain ⟨t1, t2, t3, t4⟩ := s4 h0
  obtain ⟨b1, b2, b3⟩ := hp.base
  obtain ⟨b21, b22⟩ := b2 h0
  obtain ⟨p1, p2⟩ := mvRw_perm hp t2
  have hrow8 : S.at_ < (S.rw true).length := by rw [hp.l8]; exact t2
  have hin : ∀ x, x ∈ nodes S.rw ↔ x ∈ (row S.rw true S.at_ ++ (S.rw false).flatten) ++ ((S.rw true).set S.at_ []).flatten := fun x => p1.mem_iff
  have hcn : ∀ x ∈ row S.rw true S.at_, x ∈ nodes S.rw := fun x hx => (hin x).mpr (List.mem_append_left _ (List.mem_append_left _ hx))
  have hnd : ((row S.rw true S.at_ ++ (S.rw false).flatten ++ ((S.rw true).set S.at_ []).flatten).map (·.1)).Nodup := (p1.map (·.1)).nodup_iff.mp (List.nodup_append.mp hp.nd).2.1
  rw [List.map_append, List.map_append] at hnd
  obtain ⟨n1, n2, n3⟩ := List.nodup_append.mp hnd
  have hlen : (row S.rw true S.at_).length ≤ (nodes S.rw).length := by
    have := p1.length_eq
    rw [List.length_append, List.length_append] at this
    omega
  have hgk := hp.gk true h0
  have hgo1 := t_put_inE R B P N root key val 0 0 S.h _ S.n _ S.od S.at_ _ _ _ hroot hp.r hp.h0 hp.hb hgk h0 t2 (by decide)
  rw [head_row hrow8] at hgo1
  obtain ⟨B1, c7, c8, c9, hgo2, w1, l1, g1, g2, g3⟩ := mv_loop R P N root key val S.h (S.hk false) (S.hk true) S.at_ S.n s1 s2 (row S.rw true S.at_) (S.rw false) B 0 0 0 (0 + 13) 0 hw (hp.l8 false) (hp.gk false hp.hn0) (hp.ch true _ (row_mem hp t2)) (hp.ch false) n1
    (fun hm => by
      obtain ⟨z, hz, e⟩ := List.mem_map.mp hm
      exact (b3 z (hcn z hz)).1 e)
    (fun hm => by
      rw [← List.map_append] at hm
      obtain ⟨z, hz, e⟩ := List.mem_map.mp hm
      exact (b3 z ((hin z).mpr (List.mem_append_left _ hz))).2.2.1 e) (by omega) (by omega)
  have hgo := hgo1.trans hgo2
  have hcm : ∀ j : Nat, j = S.h ∨ j = S.hk true → j ∉ (row S.rw true S.at_).map (·.1) := fun j hj hm => by
    obtain ⟨z, hz, e⟩ := List.mem_map.mp hm
    have := b3 z (hcn z hz)
    rcases hj with rfl | rfl
    · exact this.2.1 e
    · exact this.2.2.2 e
  have gh1 : mget B1 (S.h : Int) = some [3, S.hk false, S.n, S.hk true, S.od, S.at_, (nodes S.rw).length, S.cap] := by rw [g3 _ (fun e => b1 e.symm) (hcm _ (.inl rfl))]; exact hp.hb
  have go1 : mget B1 (S.hk true : Int) = some ((S.rw true).map headH) := by rw [g3 _ b22 (hcm _ (.inr rfl))]; exact hgk
  have hE : ∀ c ∈ (S.rw true).set S.at_ [], Chn B1 c := fun c hc' => by
    have hch : Chn B c := by
      rcases List.mem_or_eq_of_mem_set hc' with h | rfl
      · exact hp.ch true c h
      · trivial
    refine hch.frame fun z hz => ?_
    have hm : z ∈ ((S.rw true).set S.at_ []).flatten := List.mem_flatten.mpr ⟨c, hc', hz⟩
    refine g3 z.1 (b3 z ((hin z).mpr (List.mem_append_right _ hm))).2.2.1 fun hm2 => ?_
    exact n3 z.1 (List.mem_append_left _ hm2) z.1 (List.mem_map_of_mem hm) rfl
  have okF : ∀ i a, (mvRw S false)[i]? = some a → ∀ x ∈ a, i = x.2.1 % S.n ∧ x.2.1 % S.od < S.at_ + 1 := by
    refine mvA_ok (fun i x => i = x.2.1 % S.n ∧ x.2.1 % S.od < S.at_ + 1) _ _ (fun i a ha x hx => ?_) (fun x hx => ?_)
    · obtain ⟨q1, q2⟩ := hp.ok false i a ha x hx
      exact ⟨q1, Nat.lt_succ_of_lt (q2 h0)⟩
    · obtain ⟨_, q2, _⟩ := hp.ok true S.at_ _ (row_get hrow8) x hx
      exact ⟨rfl, by omega⟩
  have okT : ∀ j c, (mvRw S true)[j]? = some c → ∀ x ∈ c, j = x.2.1 % S.od ∧ S.at_ < j := fun j c hj x hx => by
    obtain ⟨e1, e2⟩ := mem_set_nil hj hx
    obtain ⟨_, q2, q3⟩ := hp.ok true j c e2 x hx
    exact ⟨q2, by omega⟩
  have l8' : ∀ b, (mvRw S b).length = 8 := fun b => by
    cases b
    · show (mvA _ _ _).length = 8
      rw [mvA_len]; exact hp.l8 false
    · show ((S.rw true).set _ _).length = 8
      rw [List.length_set]; exact hp.l8 true
  have hch' : ∀ b, ∀ c ∈ mvRw S b, Chn B1 c := fun b c hc' => by
    cases b
    · exact g2 c hc'
    · exact hE c hc'
  have hin' : ∀ b, ∀ c ∈ mvRw S b, ∀ z ∈ c, z ∈ nodes S.rw := fun b c hc' z hz => by
    refine p2.mem_iff.mp (mem_nodes.mpr ?_)
    obtain ⟨i, hi⟩ := List.mem_iff_getElem?.mp hc'
    exact ⟨b, i, c, hi, hz⟩
  have hnone : ∀ j : Nat, mget B (j : Int) = none → mget B1 (j : Int) = none ∧ j ≠ S.h ∧ j ≠ S.hk true := fun j hj => by
    have h1 : j ≠ S.h := fun e => by rw [e, hp.hb] at hj; cases hj
    have h2 : j ≠ S.hk true := fun e => by rw [e, hgk] at hj; cases hj
    have h3 : j ≠ S.hk false := fun e => by rw [e, hp.gk false hp.hn0] at hj; cases hj
    have h4 : j ∉ (row S.rw true S.at_).map (·.1) := fun hm => by
      obtain ⟨z, hz, e⟩ := List.mem_map.mp hm
      obtain ⟨x, hx⟩ := (hp.ch true _ (row_mem hp t2)).mem z hz
      rw [e, hj] at hx
      cases hx
    exact ⟨by rw [g3 j h3 h4]; exact hj, h1, h2⟩
  have hnl := p2.length_eq
  by_cases hlt : S.at_ + 1 < S.od
  · have hgo3 := t_put_mvmore R B1 P N root key val (0 + 13 + 10 * (row S.rw true S.at_).length) (0 + 2 * (row S.rw true S.at_).length) S.h (S.hk false) S.n (S.hk true) S.od S.at_ _ _ 0 c7 c8 c9 _ rfl gh1 go1 b21 t2 hlt (by omega) (by omega)
    obtain ⟨w2, l2⟩ := w1.put_old (k := (S.hk true : Int)) (x := ((S.rw true).map headH).set S.at_ 0) go1 (by rw [List.length_set, List.length_map]; exact hp.l8 true)
    obtain ⟨w3, l3⟩ := w2.put_old (k := (S.h : Int)) (x := [3, S.hk false, S.n, S.hk true, S.od, S.at_ + 1, (nodes S.rw).length, S.cap]) (by rw [mputN, if_neg b21]; exact gh1) rfl
    have hh1 : hands ({ S with at_ := S.at_ + 1, rw := mvRw S } : TabS) = baseH S ++ (nodes (mvRw S)).map (·.1) := rfl
    have hh2 : (baseH S ++ (nodes (mvRw S)).map (·.1)).Perm (hands S) := (p2.map (·.1)).append_left _
    refine ⟨_, { S with at_ := S.at_ + 1, rw := mvRw S }, _, _, _, _, _, _, _, _, _, _, _, hgo.trans hgo3, by omega, by omega, by omega, w3, ⟨hp.r, ?_, fun b hb => ?_, l8', fun b c hc' => ?_, fun b i c hi x hx => ?_, ?_, ?_, ?_, hp.c64, by show (nodes (mvRw S)).length ≤ S.cap; rw [hnl]; exact hp.lc⟩, rfl, ?_, rfl, p2, ?_, ?_, fun j hj => ?_⟩
    · rw [mputN, if_pos rfl]
      show _ = some [3, S.hk false, S.n, S.hk true, S.od, S.at_ + 1, (nodes (mvRw S)).length, S.cap]
      rw [hnl]
    · cases b
      · rw [mputN, if_neg (fun e => b1 e.symm), mputN, if_neg b22]
        exact g1
      · rw [mputN, if_neg (fun e => b21 e.symm), mputN, if_pos rfl]
        show _ = some (((S.rw true).set S.at_ []).map headH)
        rw [map_set_head]; rfl
    · refine (hch' b c hc').frame fun z hz => ?_
      have := b3 z (hin' b c hc' z hz)
      rw [mputN, if_neg (fun e => this.2.1 e.symm), mputN, if_neg (fun e => this.2.2.2 e.symm)]
    · cases b
      · obtain ⟨q1, q2⟩ := okF i c hi x hx
        exact ⟨q1, fun _ => q2⟩
      · obtain ⟨q1, q2⟩ := okT i c hi x hx
        exact ⟨h0, q1, q2⟩
    · rcases hp.st with ⟨e, _⟩ | ⟨e1, e2, e3, e4⟩
      · exact absurd e h0
      · exact .inr ⟨e1, e2, e3, hlt⟩
    · rw [hh1]; exact hh2.nodup_iff.mpr hp.nd
    · rw [hh1]; exact fun hm => hp.nz (hh2.mem_iff.mp hm)
    · show (S.od, S.at_ + 1) = mvStage S.od S.at_
      unfold mvStage
      rw [if_pos (by omega), if_neg (by omega)]
    · rw [hh1, hh2.length_eq, l3, l2, l1]
    · rw [hh1, hh2.length_eq]; exact Nat.le_refl _
    · obtain ⟨q1, q2, q3⟩ := hnone j hj
      rw [mputN, if_neg (fun e => q2 e.symm), mputN, if_neg (fun e => q3 e.symm)]
      exact q1
  · have hgo3 := t_put_mvdone R B1 P N root key val (0 + 13 + 10 * (row S.rw true S.at_).length) (0 + 2 * (row S.rw true S.at_).length) S.h (S.hk false) S.n (S.hk true) S.od S.at_ _ _ 0 c7 c8 c9 _ rfl gh1 go1 b21 t2 hlt (by omega) (by omega)
    obtain ⟨w2, l2⟩ := w1.put_old (k := (S.hk true : Int)) (x := ((S.rw true).map headH).set S.at_ 0) go1 (by rw [List.length_set, List.length_map]; exact hp.l8 true)
    obtain ⟨w3, l3⟩ := w2.put_old (k := (S.h : Int)) (x := [3, S.hk false, S.n, S.hk true, S.od, S.at_ + 1, (nodes S.rw).length, S.cap]) (by rw [mputN, if_neg b21]; exact gh1) rfl
    obtain ⟨w4, l4⟩ := w3.put_old (k := (S.h : Int)) (x := [3, S.hk false, S.n, 0, S.od, S.at_ + 1, (nodes S.rw).length, S.cap]) (by rw [mputN, if_pos rfl]) rfl
    obtain ⟨w5, l5⟩ := w4.put_old (k := (S.h : Int)) (x := [3, S.hk false, S.n, 0, 0, S.at_ + 1, (nodes S.rw).length, S.cap]) (by rw [mputN, if_pos rfl]) rfl
    obtain ⟨w6, l6⟩ := w5.put_old (k := (S.h : Int)) (x := [3, S.hk false, S.n, 0, 0, 0, (nodes S.rw).length, S.cap]) (by rw [mputN, if_pos rfl]) rfl
    obtain ⟨w7, l7⟩ := w6.del (k := (S.hk true : Int)) (y := ((S.rw true).map headH).set S.at_ 0) (by rw [mputN, if_neg (fun e => b21 e.symm), mputN, if_neg (fun e => b21 e.symm), mputN, if_neg (fun e => b21 e.symm), mputN, if_neg (fun e => b21 e.symm), mputN, if_pos rfl])
    have hfr : ∀ j : Nat, j ≠ S.h → j ≠ S.hk true → mget (mdel (mput (mput (mput (mput (mput B1 (S.hk true : Int) (((S.rw true).map headH).set S.at_ 0)) (S.h : Int) [3, S.hk false, S.n, S.hk true, S.od, S.at_ + 1, (nodes S.rw).length, S.cap]) (S.h : Int) [3, S.hk false, S.n, 0, S.od, S.at_ + 1, (nodes S.rw).length, S.cap]) (S.h : Int) [3, S.hk false, S.n, 0, 0, S.at_ + 1, (nodes S.rw).length, S.cap]) (S.h : Int) [3, S.hk false, S.n, 0, 0, 0, (nodes S.rw).length, S.cap]) (S.hk true : Int)) (j : Int) = mget B1 (j : Int) := fun j q1 q2 => by
      rw [mdelN _ (fun e => q2 e.symm), mputN, if_neg (fun e => q1 e.symm), mputN, if_neg (fun e => q1 e.symm), mputN, if_neg (fun e => q1 e.symm), mputN, if_neg (fun e => q1 e.symm), mputN, if_neg (fun e => q2 e.symm)]
    have hhands : (hands S).length = (nodes S.rw).length + 3 := by
      unfold hands baseH
      rw [if_neg h0, List.length_append, List.length_map]
      show 3 + _ = _
      omega
    have hbs : baseH S = [S.h, S.hk false, S.hk true] := by unfold baseH; rw [if_neg h0]
    have hh : hands ({ S with od := 0, at_ := 0, hk := fun b => if b then 0 else S.hk false, rw := mvRw S } : TabS) = S.h :: S.hk false :: (nodes (mvRw S)).map (·.1) := rfl
    refine ⟨_, { S with od := 0, at_ := 0, hk := fun b => if b then 0 else S.hk false, rw := mvRw S }, _, _, _, _, _, _, _, _, _, _, _, hgo.trans hgo3, by omega, by omega, by omega, w7, ⟨hp.r, ?_, fun b hb => ?_, l8', fun b c hc' => ?_, fun b i c hi x hx => ?_, ?_, ?_, ?_, hp.c64, by show (nodes (mvRw S)).length ≤ S.cap; rw [hnl]; exact hp.lc⟩, rfl, ?_, rfl, p2, ?_, ?_, fun j hj => ?_⟩
    · show _ = some [3, S.hk false, S.n, 0, 0, 0, (nodes (mvRw S)).length, S.cap]
      rw [hnl, mdelN _ b21, mputN, if_pos rfl]
    · cases b
      · show mget _ (S.hk false : Int) = _
        rw [hfr _ b1 (fun e => b22 e.symm)]
        exact g1
      · exact absurd rfl hb
    · refine (hch' b c hc').frame fun z hz => ?_
      have := b3 z (hin' b c hc' z hz)
      exact hfr z.1 this.2.1 this.2.2.2
    · cases b
      · obtain ⟨q1, q2⟩ := okF i c hi x hx
        exact ⟨q1, fun h => absurd rfl h⟩
      · obtain ⟨q1, q2⟩ := okT i c hi x hx
        have := Nat.mod_lt x.2.1 (Nat.pos_of_ne_zero t1)
        omega
    · refine .inl ⟨rfl, rfl, rfl, ?_⟩
      show S.n = 2 ∨ S.n = 4 ∨ S.n = 8
      rcases hp.st with ⟨e, _⟩ | ⟨e1, e2, e3, e4⟩
      · exact absurd e h0
      · omega
    · rw [hh]
      have h1 := hp.nd
      unfold hands at h1
      rw [hbs] at h1
      have h2 : ([S.h, S.hk false, S.hk true] ++ (nodes (mvRw S)).map (·.1)).Nodup := ((p2.map (·.1)).append_left _).nodup_iff.mpr h1
      refine h2.sublist ?_
      show (S.h :: S.hk false :: _).Sublist (S.h :: S.hk false :: S.hk true :: _)
      exact ((List.sublist_cons_self _ _).cons_cons _).cons_cons _
    · rw [hh]
      intro hm
      refine hp.nz ?_
      unfold hands
      rw [hbs]
      rcases List.mem_cons.mp hm with e | hm
      · simp [← e]
      · rcases List.mem_cons.mp hm with e | hm
        · simp [← e]
        · exact List.mem_append_right _ ((p2.map (·.1)).mem_iff.mp hm)
    · show (0, 0) = mvStage S.od S.at_
      unfold mvStage
      rw [if_pos (by omega), if_pos (by omega)]
    · rw [hh, hhands, List.length_cons, List.length_cons, List.length_map, hnl]
      omega
    · rw [hh, hhands, List.length_cons, List.length_cons, List.length_map, hnl]
      omega
    · obtain ⟨q1, q2, q3⟩ := hnone j hj
      rw [hfr j q2 q3]
      exact q1
end Go.Proofs.YtphheopbngdhhaaGreatDoor
