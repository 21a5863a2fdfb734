/-
  A map's programs: which row, along a row, the moving of a row.
-/
import Derived.Test.YthbignifgljphaaGreatDoorTs
import Derived.Test.YthbignifgljphaaGreatDoorTv
namespace Go.Proofs.YthbignifgljphaaGreatDoor
set_option maxRecDepth 100000
theorem RepT.h0 {R : List Nat} {B : Bks} {root : Nat} {S : TabS} (hp : RepT R B root S) : S.h ≠ 0 := fun e => hp.nz (by unfold hands baseH; simp [e])
theorem RepT.hn0 {R : List Nat} {B : Bks} {root : Nat} {S : TabS} (hp : RepT R B root S) : S.hk false ≠ 0 := fun e => hp.nz (by unfold hands baseH; simp [e])
theorem RepT.base {R : List Nat} {B : Bks} {root : Nat} {S : TabS} (hp : RepT R B root S) : S.hk false ≠ S.h ∧ (S.hk true ≠ 0 → S.hk true ≠ S.h ∧ S.hk true ≠ S.hk false) ∧ ∀ x ∈ nodes S.rw, x.1 ≠ 0 ∧ x.1 ≠ S.h ∧ x.1 ≠ S.hk false ∧ x.1 ≠ S.hk true := by
  have hn := hp.nd
  have hz := hp.nz
  unfold hands at hn hz
  obtain ⟨n1, n2, n3⟩ := List.nodup_append.mp hn
  have hne : ∀ x ∈ nodes S.rw, x.1 ∉ baseH S := fun x hx h => n3 _ h _ (List.mem_map_of_mem hx) rfl
  have hx0 : ∀ x ∈ nodes S.rw, x.1 ≠ 0 := fun x hx e => hz (List.mem_append_right _ (by rw [← e]; exact List.mem_map_of_mem hx))
  unfold baseH at n1 hne
  refine ⟨?_, fun ht => ?_, fun x hx => ⟨hx0 x hx, ?_⟩⟩
  · rw [List.nodup_cons, List.mem_cons] at n1
    exact fun e => n1.1 (.inl e.symm)
  · rw [if_neg ht] at n1
    simp only [List.nodup_cons, List.mem_cons, not_or] at n1
    exact ⟨fun e => n1.1.2.1 e.symm, fun e => n1.2.1.1 e.symm⟩
  · have h := hne x hx
    rw [List.mem_cons, List.mem_cons, not_or, not_or] at h
    refine ⟨h.1, h.2.1, fun e => ?_⟩
    by_cases ht : S.hk true = 0
    · exact hx0 x hx (e.trans ht)
    · rw [if_neg ht] at h
      exact h.2.2 (by simp [e])
theorem row_nodes {f : Bool → List Nds} {b : Bool} {i : Nat} (h : i < (f b).length) {x : Nd} (hx : x ∈ row f b i) : x ∈ nodes f := mem_nodes.mpr ⟨b, i, _, row_get h, hx⟩
theorem head_zero {c : Nds} (h : c = []) : headH c = 0 := by rw [h]; rfl
theorem find_get {R : List Nat} {B : Bks} {root : Nat} {S : TabS} (hp : RepT R B root S) (hroot : root < 16) (P N : List Nat) (key val : Nat) {b : Bool} {i : Nat} (hs : sel S key = (b, i)) :
    ∃ a4 a7 a8 a9 n pc, n ≤ 22 ∧ pc = (if ("get" : String) = "get" then 22 else 23 : Int) ∧ RGo t_cd_get (rT [root, key, val, 0] [0, 0, 0, 0, 0, 0, 0, 0, 0, 0, 0, 0, 0, 0, 0, 0] 0 0 0 R B P N) (rT [root, key, val, 0] [root, S.h, key, S.hk b, a4, i, headH (row S.rw b i), a7, a8, a9, 0, 0, 0, 0, 0, 0] (0 + n) 0 pc R B P N) n := by
  obtain ⟨s1, s2, s3, s4⟩ := stage_n hp.st
  obtain ⟨i8, hb, _⟩ := sel_ok hp key
  rw [hs] at i8 hb
  dsimp only at i8 hb
  have hgk := hp.gk b hb
  have hh := head_row (f := S.rw) (b := b) (i := i) (by rw [hp.l8]; exact i8)
  rw [← hh]
  unfold sel at hs
  by_cases h : S.hk true = 0
  · rw [if_pos h] at hs
    injection hs with e1 e2
    subst e1; subst e2
    exact ⟨_, _, _, _, _, _, by decide, rfl, t_get_f0 R B P N root key val 0 0 S.h _ S.n _ S.od S.at_ _ _ _ hroot hp.r hp.h0 hp.hb hgk s1 i8 h (by decide)⟩
  · rw [if_neg h] at hs
    obtain ⟨t1, t2, t3, t4⟩ := s4 h
    by_cases hlt : key % S.od < S.at_
    · rw [if_pos hlt] at hs
      injection hs with e1 e2
      subst e1; subst e2
      exact ⟨_, _, _, _, _, _, by decide, rfl, t_get_f1 R B P N root key val 0 0 S.h _ S.n _ S.od S.at_ _ _ _ hroot hp.r hp.h0 hp.hb hgk s1 i8 h t1 hlt (by decide)⟩
    · rw [if_neg hlt] at hs
      injection hs with e1 e2
      subst e1; subst e2
      exact ⟨_, _, _, _, _, _, by decide, rfl, t_get_f2 R B P N root key val 0 0 S.h _ S.n _ S.od S.at_ _ _ _ hroot hp.r hp.h0 hp.hb hgk s1 i8 h t1 hlt (by decide)⟩
theorem find_del {R : List Nat} {B : Bks} {root : Nat} {S : TabS} (hp : RepT R B root S) (hroot : root < 16) (P N : List Nat) (key val : Nat) {b : Bool} {i : Nat} (hs : sel S key = (b, i)) :
    ∃ a4 a7 a8 a9 n pc, n ≤ 22 ∧ pc = (if ("del" : String) = "get" then 22 else 23 : Int) ∧ RGo t_cd_del (rT [root, key, val, 0] [0, 0, 0, 0, 0, 0, 0, 0, 0, 0, 0, 0, 0, 0, 0, 0] 0 0 0 R B P N) (rT [root, key, val, 0] [root, S.h, key, S.hk b, a4, i, headH (row S.rw b i), a7, a8, a9, 0, 0, 0, 0, 0, 0] (0 + n) 0 pc R B P N) n := by
  obtain ⟨s1, s2, s3, s4⟩ := stage_n hp.st
  obtain ⟨i8, hb, _⟩ := sel_ok hp key
  rw [hs] at i8 hb
  dsimp only at i8 hb
  have hgk := hp.gk b hb
  have hh := head_row (f := S.rw) (b := b) (i := i) (by rw [hp.l8]; exact i8)
  rw [← hh]
  unfold sel at hs
  by_cases h : S.hk true = 0
  · rw [if_pos h] at hs
    injection hs with e1 e2
    subst e1; subst e2
    exact ⟨_, _, _, _, _, _, by decide, rfl, t_del_f0 R B P N root key val 0 0 S.h _ S.n _ S.od S.at_ _ _ _ hroot hp.r hp.h0 hp.hb hgk s1 i8 h (by decide)⟩
  · rw [if_neg h] at hs
    obtain ⟨t1, t2, t3, t4⟩ := s4 h
    by_cases hlt : key % S.od < S.at_
    · rw [if_pos hlt] at hs
      injection hs with e1 e2
      subst e1; subst e2
      exact ⟨_, _, _, _, _, _, by decide, rfl, t_del_f1 R B P N root key val 0 0 S.h _ S.n _ S.od S.at_ _ _ _ hroot hp.r hp.h0 hp.hb hgk s1 i8 h t1 hlt (by decide)⟩
    · rw [if_neg hlt] at hs
      injection hs with e1 e2
      subst e1; subst e2
      exact ⟨_, _, _, _, _, _, by decide, rfl, t_del_f2 R B P N root key val 0 0 S.h _ S.n _ S.od S.at_ _ _ _ hroot hp.r hp.h0 hp.hb hgk s1 i8 h t1 hlt (by decide)⟩
theorem find_put {R : List Nat} {B : Bks} {root : Nat} {S : TabS} (hp : RepT R B root S) (P N : List Nat) (key val a2 a3 a4 a5 a6 a7 a8 a9 st dw : Nat) {b : Bool} {i : Nat} (hs : sel S key = (b, i)) (hst : st + 14 ≤ 1500) :
    ∃ b4 b7 b8 b9 n, n ≤ 14 ∧ RGo t_cd_put (rT [root, key, val, 0] [root, S.h, a2, a3, a4, a5, a6, a7, a8, a9, 0, 0, 0, 0, 0, 0] st dw 37 R B P N) (rT [root, key, val, 0] [root, S.h, key, S.hk b, b4, i, headH (row S.rw b i), b7, b8, b9, 0, 0, 0, 0, 0, 0] (st + n) dw 52 R B P N) n := by
  obtain ⟨s1, s2, s3, s4⟩ := stage_n hp.st
  obtain ⟨i8, hb, _⟩ := sel_ok hp key
  rw [hs] at i8 hb
  dsimp only at i8 hb
  have hgk := hp.gk b hb
  have hh := head_row (f := S.rw) (b := b) (i := i) (by rw [hp.l8]; exact i8)
  rw [← hh]
  unfold sel at hs
  by_cases h : S.hk true = 0
  · rw [if_pos h] at hs
    injection hs with e1 e2
    subst e1; subst e2
    exact ⟨_, _, _, _, _, by decide, t_put_f0 R B P N root key val st dw S.h _ S.n _ S.od S.at_ _ _ _ a2 a3 a4 a5 a6 a7 a8 a9 hp.hb hgk s1 i8 h (by omega)⟩
  · rw [if_neg h] at hs
    obtain ⟨t1, t2, t3, t4⟩ := s4 h
    by_cases hlt : key % S.od < S.at_
    · rw [if_pos hlt] at hs
      injection hs with e1 e2
      subst e1; subst e2
      exact ⟨_, _, _, _, _, by decide, t_put_f1 R B P N root key val st dw S.h _ S.n _ S.od S.at_ _ _ _ a2 a3 a4 a5 a6 a7 a8 a9 hp.hb hgk s1 i8 h t1 hlt (by omega)⟩
    · rw [if_neg hlt] at hs
      injection hs with e1 e2
      subst e1; subst e2
      exact ⟨_, _, _, _, _, by decide, t_put_f2 R B P N root key val st dw S.h _ S.n _ S.od S.at_ _ _ _ a2 a3 a4 a5 a6 a7 a8 a9 hp.hb hgk s1 i8 h t1 hlt (by omega)⟩
theorem seek_put (R : List Nat) (B : Bks) (P N : List Nat) (root key val h hk i a4 dw : Nat) : ∀ (c : Nds) (a7 a8 a9 st : Nat), Chn B c → 0 ∉ c.map (·.1) → st + 7 * (loK key c).length ≤ 1500 →
    ∃ b7 b8 b9, RGo t_cd_put (rT [root, key, val, 0] [root, h, key, hk, a4, i, headH c, a7, a8, a9, 0, 0, 0, 0, 0, 0] st dw 52 R B P N) (rT [root, key, val, 0] [root, h, key, hk, a4, i, headH (hiK key c), b7, b8, b9, 0, 0, 0, 0, 0, 0] (st + 7 * (loK key c).length) dw 52 R B P N) (7 * (loK key c).length)
  | [], a7, a8, a9, _, _, _, _ => ⟨a7, a8, a9, RGo.refl _ _⟩
  | x :: xs, a7, a8, a9, st, hc, hz, hs => by
    by_cases hx : x.2.1 = key
    · rw [loK_neg hx, hiK_neg hx]
      exact ⟨a7, a8, a9, RGo.refl _ _⟩
    · rw [loK_pos hx, List.length_cons] at hs
      rw [loK_pos hx, hiK_pos hx, List.length_cons]
      have hx0 : x.1 ≠ 0 := fun e => hz (by rw [← e]; simp)
      obtain ⟨b7, b8, b9, ih⟩ := seek_put R B P N root key val h hk i a4 dw xs 0 a8 1 (st + 7) hc.2 (fun hm => hz (by rw [List.map_cons]; exact List.mem_cons_of_mem _ hm)) (by omega)
      refine ⟨b7, b8, b9, ?_⟩
      have h1 := (t_put_on R B P N root key val st dw h hk i a4 x.1 a7 a8 a9 x.2.1 (headH xs) x.2.2 hx0 hc.1 hx (by omega)).trans ih
      rw [show st + 7 + 7 * (loK key xs).length = st + 7 * ((loK key xs).length + 1) by omega, show 7 * (loK key xs).length + 7 = 7 * ((loK key xs).length + 1) by omega] at h1
      exact h1
theorem seek_get (R : List Nat) (B : Bks) (P N : List Nat) (root key val h hk i a4 dw : Nat) : ∀ (c : Nds) (a7 a8 a9 st : Nat), Chn B c → 0 ∉ c.map (·.1) → st + 7 * (loK key c).length ≤ 1500 →
    ∃ b7 b8 b9, RGo t_cd_get (rT [root, key, val, 0] [root, h, key, hk, a4, i, headH c, a7, a8, a9, 0, 0, 0, 0, 0, 0] st dw 22 R B P N) (rT [root, key, val, 0] [root, h, key, hk, a4, i, headH (hiK key c), b7, b8, b9, 0, 0, 0, 0, 0, 0] (st + 7 * (loK key c).length) dw 22 R B P N) (7 * (loK key c).length)
  | [], a7, a8, a9, _, _, _, _ => ⟨a7, a8, a9, RGo.refl _ _⟩
  | x :: xs, a7, a8, a9, st, hc, hz, hs => by
    by_cases hx : x.2.1 = key
    · rw [loK_neg hx, hiK_neg hx]
      exact ⟨a7, a8, a9, RGo.refl _ _⟩
    · rw [loK_pos hx, List.length_cons] at hs
      rw [loK_pos hx, hiK_pos hx, List.length_cons]
      have hx0 : x.1 ≠ 0 := fun e => hz (by rw [← e]; simp)
      obtain ⟨b7, b8, b9, ih⟩ := seek_get R B P N root key val h hk i a4 dw xs 0 a8 1 (st + 7) hc.2 (fun hm => hz (by rw [List.map_cons]; exact List.mem_cons_of_mem _ hm)) (by omega)
      refine ⟨b7, b8, b9, ?_⟩
      have h1 := (t_get_on R B P N root key val st dw h hk i a4 x.1 a7 a8 a9 x.2.1 (headH xs) x.2.2 hx0 hc.1 hx (by omega)).trans ih
      rw [show st + 7 + 7 * (loK key xs).length = st + 7 * ((loK key xs).length + 1) by omega, show 7 * (loK key xs).length + 7 = 7 * ((loK key xs).length + 1) by omega] at h1
      exact h1
theorem seek_del (R : List Nat) (B : Bks) (P N : List Nat) (root key val h hk i a4 dw : Nat) : ∀ (c : Nds) (a7 a8 a9 p st : Nat), Chn B c → 0 ∉ c.map (·.1) → st + 8 * (loK key c).length ≤ 1500 →
    ∃ b7 b8 b9, RGo t_cd_del (rT [root, key, val, 0] [root, h, key, hk, a4, i, headH c, a7, a8, a9, p, 0, 0, 0, 0, 0] st dw 23 R B P N) (rT [root, key, val, 0] [root, h, key, hk, a4, i, headH (hiK key c), b7, b8, b9, lastP p (loK key c), 0, 0, 0, 0, 0] (st + 8 * (loK key c).length) dw 23 R B P N) (8 * (loK key c).length)
  | [], a7, a8, a9, _, _, _, _, _ => ⟨a7, a8, a9, RGo.refl _ _⟩
  | x :: xs, a7, a8, a9, p, st, hc, hz, hs => by
    by_cases hx : x.2.1 = key
    · rw [loK_neg hx, hiK_neg hx]
      exact ⟨a7, a8, a9, RGo.refl _ _⟩
    · rw [loK_pos hx, List.length_cons] at hs
      rw [loK_pos hx, hiK_pos hx, List.length_cons]
      have hx0 : x.1 ≠ 0 := fun e => hz (by rw [← e]; simp)
      obtain ⟨b7, b8, b9, ih⟩ := seek_del R B P N root key val h hk i a4 dw xs 0 a8 1 x.1 (st + 8) hc.2 (fun hm => hz (by rw [List.map_cons]; exact List.mem_cons_of_mem _ hm)) (by omega)
      refine ⟨b7, b8, b9, ?_⟩
      have h1 := (t_del_on R B P N root key val st dw h hk i a4 x.1 a7 a8 a9 p x.2.1 (headH xs) x.2.2 hx0 hc.1 hx (by omega)).trans ih
      rw [show st + 8 + 8 * (loK key xs).length = st + 8 * ((loK key xs).length + 1) by omega, show 8 * (loK key xs).length + 8 = 8 * ((loK key xs).length + 1) by omega] at h1
      exact h1
/-- a row's nodes, moved into rows by another number -/
def mvA (n : Nat) : List Nds → Nds → List Nds
  | A, [] => A
  | A, x :: c => mvA n (A.set (x.2.1 % n) (x :: A.getD (x.2.1 % n) [])) c
theorem mvA_len (n : Nat) : ∀ (c : Nds) (A : List Nds), (mvA n A c).length = A.length
  | [], _ => rfl
  | x :: c, A => by
    unfold mvA
    rw [mvA_len n c, List.length_set]
theorem set_getD {A : List Nds} {i : Nat} (h : i < A.length) : A.set i (A.getD i []) = A := by
  refine List.ext_getElem? fun j => ?_
  by_cases hj : i = j
  · subst hj
    rw [List.getElem?_set_self h, List.getD_eq_getElem?_getD, List.getElem?_eq_getElem h]; rfl
  · rw [List.getElem?_set_ne hj]
theorem flat_cons {A : List Nds} {i : Nat} (h : i < A.length) (x : Nd) : ((A.set i (x :: A.getD i [])).flatten).Perm (x :: A.flatten) := by
  have h1 := flat_setR h (x :: A.getD i [])
  have h2 := flat_setR h (A.getD i [])
  rw [set_getD h] at h2
  refine h1.trans ?_
  rw [List.cons_append]
  exact (h2.symm).cons _
theorem mvA_perm {n : Nat} (hn0 : n ≠ 0) (hn8 : n ≤ 8) : ∀ (c : Nds) (A : List Nds), A.length = 8 → ((mvA n A c).flatten).Perm (c ++ A.flatten)
  | [], A, _ => List.Perm.refl _
  | x :: c, A, h8 => by
    unfold mvA
    have hi : x.2.1 % n < A.length := by have := Nat.mod_lt x.2.1 (Nat.pos_of_ne_zero hn0); omega
    refine (mvA_perm hn0 hn8 c _ (by rw [List.length_set]; exact h8)).trans ?_
    refine ((flat_cons hi x).append_left c).trans ?_
    exact List.perm_middle
theorem mvA_ok {n : Nat} (Q : Nat → Nd → Prop) : ∀ (c : Nds) (A : List Nds), (∀ i a, A[i]? = some a → ∀ x ∈ a, Q i x) → (∀ x ∈ c, Q (x.2.1 % n) x) → ∀ i a, (mvA n A c)[i]? = some a → ∀ x ∈ a, Q i x
  | [], A, h, _ => h
  | y :: c, A, h, hc => by
    unfold mvA
    refine mvA_ok Q c _ (fun i a ha x hx => ?_) fun x hx => hc x (List.mem_cons_of_mem _ hx)
    by_cases hi : y.2.1 % n = i
    · by_cases hl : i < A.length
      · rw [hi, List.getElem?_set_self hl] at ha
        injection ha with ha
        subst ha
        rcases List.mem_cons.mp hx with rfl | hx
        · rw [← hi]; exact hc _ (by simp)
        · rw [List.getD_eq_getElem?_getD, List.getElem?_eq_getElem hl] at hx
          exact h i _ (List.getElem?_eq_getElem hl) x hx
      · rw [List.getElem?_eq_none (by rw [List.length_set]; omega)] at ha
        cases ha
    · rw [List.getElem?_set_ne hi] at ha
      exact h i a ha x hx
theorem getD_mem {A : List Nds} {i : Nat} (h : i < A.length) : A.getD i [] ∈ A := by
  rw [List.getD_eq_getElem?_getD, List.getElem?_eq_getElem h]
  exact List.getElem_mem h
theorem map_getD (A : List Nds) (i : Nat) : (A.map headH).getD i 0 = headH (A.getD i []) := by
  rw [List.getD_eq_getElem?_getD, List.getD_eq_getElem?_getD, List.getElem?_map]
  cases A[i]? <;> rfl
set_option maxHeartbeats 1000000 in
/-- the loop that moves a row -/
theorem mv_loop (R : List Nat) (P N : List Nat) (root key val h hn ho at_ n : Nat) (hn0 : n ≠ 0) (hn8 : n ≤ 8) : ∀ (c : Nds) (A : List Nds) (B : Bks) (a7 a8 a9 st dw : Nat), WfB B → A.length = 8 → mget B (hn : Int) = some (A.map headH) → Chn B c → (∀ a ∈ A, Chn B a) →
    (c.map (·.1) ++ A.flatten.map (·.1)).Nodup → 0 ∉ c.map (·.1) → hn ∉ c.map (·.1) ++ A.flatten.map (·.1) → st + 10 * c.length ≤ 1500 → dw + 2 * c.length ≤ 200 →
    ∃ B' b7 b8 b9, RGo t_cd_put (rT [root, key, val, 0] [root, h, ho, at_, headH c, hn, n, a7, a8, a9, 0, 0, 0, 0, 0, 0] st dw 13 R B P N) (rT [root, key, val, 0] [root, h, ho, at_, 0, hn, n, b7, b8, b9, 0, 0, 0, 0, 0, 0] (st + 10 * c.length) (dw + 2 * c.length) 13 R B' P N) (10 * c.length) ∧
      WfB B' ∧ B'.length = B.length ∧ mget B' (hn : Int) = some ((mvA n A c).map headH) ∧ (∀ a ∈ mvA n A c, Chn B' a) ∧ (∀ j : Nat, j ≠ hn → j ∉ c.map (·.1) → mget B' (j : Int) = mget B (j : Int))
  | [], A, B, a7, a8, a9, st, dw, hw, _, gn, _, hA, _, _, _, _, _ => ⟨B, a7, a8, a9, RGo.refl _ _, hw, rfl, gn, hA, fun _ _ _ => rfl⟩
  | x :: c, A, B, a7, a8, a9, st, dw, hw, h8, gn, hc, hA, hnd, hz, hnn, hst, hdw => by
    rw [List.length_cons] at hst hdw
    have hx0 : x.1 ≠ 0 := fun e => hz (by rw [← e]; simp)
    have hi8 : x.2.1 % n < 8 := by have := Nat.mod_lt x.2.1 (Nat.pos_of_ne_zero hn0); omega
    have hiA : x.2.1 % n < A.length := by omega
    have hxn : x.1 ≠ hn := fun e => hnn (by rw [← e]; simp)
    have hnd' := hnd
    rw [List.map_cons, List.cons_append, List.nodup_cons] at hnd'
    have hfl := flat_cons hiA x
    have hgo := t_put_round R B P N root key val st dw h hn n ho at_ x.1 a7 a8 a9 x.2.1 (headH c) x.2.2 (A.map headH) hx0 hc.1 gn hxn hn0 hi8 (by omega) (by omega)
    rw [map_getD] at hgo
    generalize hB1 : mput (mput B (x.1 : Int) [x.2.1, headH (A.getD (x.2.1 % n) []), x.2.2, 0, 0, 0, 0, 0]) (hn : Int) ((A.map headH).set (x.2.1 % n) x.1) = B1 at hgo
    obtain ⟨w1, l1⟩ := hw.put_old (k := (x.1 : Int)) (x := [x.2.1, headH (A.getD (x.2.1 % n) []), x.2.2, 0, 0, 0, 0, 0]) hc.1 rfl
    obtain ⟨w2, l2⟩ := w1.put_old (k := (hn : Int)) (x := (A.map headH).set (x.2.1 % n) x.1) (by rw [mputN, if_neg hxn]; exact gn) (by rw [List.length_set, List.length_map]; exact h8)
    rw [hB1] at w2 l2
    have gfr : ∀ j : Nat, j ≠ hn → j ≠ x.1 → mget B1 (j : Int) = mget B (j : Int) := fun j h1 h2 => by
      rw [← hB1, mputN, if_neg (fun e => h1 e.symm), mputN, if_neg (fun e => h2 e.symm)]
    have gx : mget B1 (x.1 : Int) = some [x.2.1, headH (A.getD (x.2.1 % n) []), x.2.2, 0, 0, 0, 0, 0] := by
      rw [← hB1, mputN, if_neg (fun e => hxn e.symm), mputN, if_pos rfl]
    have gn1 : mget B1 (hn : Int) = some ((A.set (x.2.1 % n) (x :: A.getD (x.2.1 % n) [])).map headH) := by
      rw [← hB1, mputN, if_pos rfl, map_set_head]
      rfl
    have hAf : ∀ a ∈ A, ∀ z ∈ a, z.1 ≠ hn ∧ z.1 ≠ x.1 := fun a ha z hz' => by
      have hm : z.1 ∈ A.flatten.map (·.1) := List.mem_map_of_mem (List.mem_flatten.mpr ⟨a, ha, hz'⟩)
      exact ⟨fun e => hnn (by rw [← e]; exact List.mem_append_right _ hm), fun e => hnd'.1 (by rw [← e]; exact List.mem_append_right _ hm)⟩
    have hcf : ∀ z ∈ c, z.1 ≠ hn ∧ z.1 ≠ x.1 := fun z hz' => by
      have hm : z.1 ∈ c.map (·.1) := List.mem_map_of_mem hz'
      exact ⟨fun e => hnn (by rw [← e, List.map_cons]; exact List.mem_append_left _ (List.mem_cons_of_mem _ hm)), fun e => hnd'.1 (by rw [← e]; exact List.mem_append_left _ hm)⟩
    have hp1 : ((A.set (x.2.1 % n) (x :: A.getD (x.2.1 % n) [])).flatten.map (·.1)).Perm (x.1 :: A.flatten.map (·.1)) := hfl.map (·.1)
    have hp2 : (c.map (·.1) ++ (A.set (x.2.1 % n) (x :: A.getD (x.2.1 % n) [])).flatten.map (·.1)).Perm ((x :: c).map (·.1) ++ A.flatten.map (·.1)) := by
      refine (hp1.append_left _).trans ?_
      rw [List.map_cons, List.cons_append]
      exact List.perm_middle
    obtain ⟨B', b7, b8, b9, r1, r2, r3, r4, r5, r6⟩ := mv_loop R P N root key val h hn ho at_ n hn0 hn8 c (A.set (x.2.1 % n) (x :: A.getD (x.2.1 % n) [])) B1 (headH c) 1 (headH (A.getD (x.2.1 % n) [])) (st + 10) (dw + 2) w2 (by rw [List.length_set]; exact h8) gn1
      (hc.2.frame fun z hz' => gfr z.1 (hcf z hz').1 (hcf z hz').2)
      (fun a ha => by
        rcases List.mem_or_eq_of_mem_set ha with ha | rfl
        · exact (hA a ha).frame fun z hz' => gfr z.1 (hAf a ha z hz').1 (hAf a ha z hz').2
        · have hm := getD_mem hiA
          exact ⟨gx, (hA _ hm).frame fun z hz' => gfr z.1 (hAf _ hm z hz').1 (hAf _ hm z hz').2⟩)
      (hp2.nodup_iff.mpr hnd) (fun hm => hz (by rw [List.map_cons]; exact List.mem_cons_of_mem _ hm)) (fun hm => hnn (hp2.mem_iff.mp hm)) (by omega) (by omega)
    refine ⟨B', b7, b8, b9, ?_, r2, r3.trans (l2.trans l1), r4, r5, fun j h1 h2 => ?_⟩
    · have h1 := hgo.trans r1
      rw [show st + 10 + 10 * c.length = st + 10 * (c.length + 1) by omega, show dw + 2 + 2 * c.length = dw + 2 * (c.length + 1) by omega, show 10 * c.length + 10 = 10 * (c.length + 1) by omega] at h1
      rw [List.length_cons]
      exact h1
    · rw [List.map_cons, List.mem_cons, not_or] at h2
      rw [r6 j h1 h2.2, gfr j h1 h2.1]
end Go.Proofs.YthbignifgljphaaGreatDoor
