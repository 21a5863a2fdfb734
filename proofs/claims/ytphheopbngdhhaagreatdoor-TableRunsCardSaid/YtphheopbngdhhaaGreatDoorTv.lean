/-
  A map, as it lies in roots and blocks.
-/
import Derived.Test.YtphheopbngdhhaaGreatDoorTu
namespace Go.Proofs.YtphheopbngdhhaaGreatDoor
set_option maxRecDepth 100000
theorem mputN (B : Bks) (k k' : Nat) (x : List Nat) : mget (mput B (k : Int) x) (k' : Int) = if k = k' then some x else mget B (k' : Int) := by
  rw [mget_mput]
  by_cases h : k = k'
  · rw [if_pos h, if_pos (by omega)]
  · rw [if_neg h, if_neg (by omega)]
theorem mdelN (B : Bks) {k k' : Nat} (h : k ≠ k') : mget (mdel B (k : Int)) (k' : Int) = mget B (k' : Int) := mget_mdel_ne (by omega)
theorem getD_set_same {R : List Nat} {root x : Nat} (h : root < R.length) : (R.set root x).getD root 0 = x := by
  rw [List.getD_eq_getElem?_getD, List.getElem?_set_self h]; rfl
theorem getD_set_ne {R : List Nat} {root x j : Nat} (h : j ≠ root) : (R.set root x).getD j 0 = R.getD j 0 := by
  rw [List.getD_eq_getElem?_getD, List.getD_eq_getElem?_getD, List.getElem?_set_ne (fun e => h e.symm)]
/-- nodes: their handles, keys and numbers -/
abbrev Nd := Nat × Nat × Nat
abbrev Nds := List Nd
def headH : Nds → Nat
  | [] => 0
  | x :: _ => x.1
def Chn (B : Bks) : Nds → Prop
  | [] => True
  | x :: xs => mget B (x.1 : Int) = some [x.2.1, headH xs, x.2.2, 0, 0, 0, 0, 0] ∧ Chn B xs
theorem Chn.frame {B B' : Bks} : ∀ {ns : Nds}, Chn B ns → (∀ x ∈ ns, mget B' (x.1 : Int) = mget B (x.1 : Int)) → Chn B' ns
  | [], _, _ => trivial
  | x :: xs, h, hf => ⟨by rw [hf x (by simp)]; exact h.1, h.2.frame fun y hy => hf y (by simp [hy])⟩
theorem Chn.mem {B : Bks} : ∀ {ns : Nds}, Chn B ns → ∀ z ∈ ns, ∃ x, mget B (z.1 : Int) = some [z.2.1, x, z.2.2, 0, 0, 0, 0, 0]
  | [], _, _, hz => by cases hz
  | x :: xs, h, z, hz => by
    rcases List.mem_cons.mp hz with rfl | hz
    · exact ⟨_, h.1⟩
    · exact Chn.mem h.2 z hz
theorem Chn.right {B : Bks} {hi : Nds} : ∀ {lo : Nds}, Chn B (lo ++ hi) → Chn B hi
  | [], h => h
  | _ :: l, h => Chn.right (lo := l) h.2
def lastP : Nat → Nds → Nat
  | p, [] => p
  | _, x :: xs => lastP x.1 xs
theorem lastP_mem : ∀ {ns : Nds} {p : Nat}, ns ≠ [] → lastP p ns ∈ ns.map (·.1)
  | [x], _, _ => by simp [lastP]
  | x :: y :: l, _, _ => by
    have := lastP_mem (ns := y :: l) (p := x.1) (by simp)
    rw [List.map_cons]
    exact List.mem_cons_of_mem _ this
/-- the last of the first part leads elsewhere -/
theorem Chn.link {B B' : Bks} {hi hi2 : Nds} : ∀ {lo : Nds} {p0 : Nat}, Chn B (lo ++ hi) → lo ≠ [] → (lo.map (·.1)).Nodup → (∀ x ∈ lo, x.1 ≠ lastP p0 lo → mget B' (x.1 : Int) = mget B (x.1 : Int)) →
    (∀ k x v, mget B (lastP p0 lo : Int) = some [k, x, v, 0, 0, 0, 0, 0] → mget B' (lastP p0 lo : Int) = some [k, headH hi2, v, 0, 0, 0, 0, 0]) → Chn B' hi2 → Chn B' (lo ++ hi2)
  | [x], _, h, _, _, _, h2, h3 => ⟨h2 _ _ _ h.1, h3⟩
  | x :: y :: l, p0, h, _, hnd, hf, h2, h3 => by
    rw [List.map_cons, List.nodup_cons] at hnd
    have hx : x.1 ≠ lastP p0 (x :: y :: l) := fun e => hnd.1 (by rw [e]; exact lastP_mem (ns := y :: l) (p := x.1) (by simp))
    refine ⟨?_, Chn.link (lo := y :: l) (p0 := x.1) h.2 (by simp) hnd.2 (fun z hz hne => hf z (List.mem_cons_of_mem _ hz) hne) h2 h3⟩
    rw [hf x (by simp) hx]
    exact h.1
/-- a row, parted at a key -/
def loK (key : Nat) (c : Nds) : Nds := c.takeWhile (fun x => decide (x.2.1 ≠ key))
def hiK (key : Nat) (c : Nds) : Nds := c.dropWhile (fun x => decide (x.2.1 ≠ key))
theorem loK_hiK (key : Nat) (c : Nds) : loK key c ++ hiK key c = c := List.takeWhile_append_dropWhile
theorem loK_pos {key : Nat} {x : Nd} {xs : Nds} (h : x.2.1 ≠ key) : loK key (x :: xs) = x :: loK key xs := by
  unfold loK; rw [List.takeWhile_cons_of_pos (by simpa using h)]
theorem loK_neg {key : Nat} {x : Nd} {xs : Nds} (h : x.2.1 = key) : loK key (x :: xs) = [] := by
  unfold loK; rw [List.takeWhile_cons_of_neg (by simpa using h)]
theorem hiK_pos {key : Nat} {x : Nd} {xs : Nds} (h : x.2.1 ≠ key) : hiK key (x :: xs) = hiK key xs := by
  unfold hiK; rw [List.dropWhile_cons_of_pos (by simpa using h)]
theorem hiK_neg {key : Nat} {x : Nd} {xs : Nds} (h : x.2.1 = key) : hiK key (x :: xs) = x :: xs := by
  unfold hiK; rw [List.dropWhile_cons_of_neg (by simpa using h)]
theorem loK_ne (key : Nat) : ∀ (c : Nds), ∀ x ∈ loK key c, x.2.1 ≠ key
  | y :: ys, x, hx => by
    by_cases h : y.2.1 = key
    · rw [loK_neg h] at hx; cases hx
    · rw [loK_pos h] at hx
      rcases List.mem_cons.mp hx with rfl | hx
      · exact h
      · exact loK_ne key ys x hx
theorem hiK_head {key : Nat} : ∀ {c : Nds} {z : Nd} {zs : Nds}, hiK key c = z :: zs → z.2.1 = key
  | y :: ys, z, zs, e => by
    by_cases h : y.2.1 = key
    · rw [hiK_neg h] at e; injection e with e _; rw [← e]; exact h
    · rw [hiK_pos h] at e; exact hiK_head e
theorem loK_len (key : Nat) (c : Nds) : (loK key c).length ≤ c.length := by
  have h := congrArg List.length (loK_hiK key c)
  rw [List.length_append] at h
  omega
/-- rows -/
def updR (f : Bool → List Nds) (b : Bool) (i : Nat) (c : Nds) : Bool → List Nds := fun b' => if b' = b then (f b).set i c else f b'
def nodes (f : Bool → List Nds) : Nds := (f false).flatten ++ (f true).flatten
theorem flat_setR : ∀ {L : List Nds} {i : Nat}, i < L.length → ∀ c : Nds, ((L.set i c).flatten).Perm (c ++ (L.set i []).flatten)
  | x :: L, 0, _, c => by simp
  | x :: L, i + 1, h, c => by
    have ih := flat_setR (L := L) (i := i) (by simpa using h) c
    show (x ++ (L.set i c).flatten).Perm (c ++ (x ++ (L.set i []).flatten))
    refine (ih.append_left x).trans ?_
    rw [← List.append_assoc, ← List.append_assoc]
    exact List.perm_append_comm.append_right _
theorem updR_same (f : Bool → List Nds) (b : Bool) (i : Nat) (c : Nds) : updR f b i c b = (f b).set i c := if_pos rfl
theorem updR_ne (f : Bool → List Nds) {b b' : Bool} (h : b' ≠ b) (i : Nat) (c : Nds) : updR f b i c b' = f b' := if_neg h
theorem nodes_updR (f : Bool → List Nds) (b : Bool) {i : Nat} (h : i < (f b).length) (c : Nds) : (nodes (updR f b i c)).Perm (c ++ nodes (updR f b i [])) := by
  cases b
  · show (((f false).set i c).flatten ++ (f true).flatten).Perm (c ++ (((f false).set i []).flatten ++ (f true).flatten))
    rw [← List.append_assoc]
    exact (flat_setR h c).append_right _
  · show ((f false).flatten ++ ((f true).set i c).flatten).Perm (c ++ ((f false).flatten ++ ((f true).set i []).flatten))
    refine ((flat_setR h c).append_left _).trans ?_
    rw [← List.append_assoc, ← List.append_assoc]
    exact List.perm_append_comm.append_right _
def row (f : Bool → List Nds) (b : Bool) (i : Nat) : Nds := (f b).getD i []
theorem row_get {f : Bool → List Nds} {b : Bool} {i : Nat} (h : i < (f b).length) : (f b)[i]? = some (row f b i) := by
  unfold row
  rw [List.getD_eq_getElem?_getD, List.getElem?_eq_getElem h]; rfl
theorem updR_row (f : Bool → List Nds) (b : Bool) {i : Nat} (h : i < (f b).length) : updR f b i (row f b i) = f := by
  funext b'
  by_cases e : b' = b
  · subst e
    rw [updR_same]
    refine List.ext_getElem? fun j => ?_
    by_cases hj : i = j
    · subst hj
      rw [List.getElem?_set_self h, row_get h]
    · rw [List.getElem?_set_ne hj]
  · rw [updR_ne f e]
theorem nodes_row (f : Bool → List Nds) (b : Bool) {i : Nat} (h : i < (f b).length) : (nodes f).Perm (row f b i ++ nodes (updR f b i [])) := by
  have := nodes_updR f b h (row f b i)
  rw [updR_row f b h] at this
  exact this
theorem mem_nodes {f : Bool → List Nds} {x : Nd} : x ∈ nodes f ↔ ∃ (b : Bool) (i : Nat) (c : Nds), (f b)[i]? = some c ∧ x ∈ c := by
  unfold nodes
  rw [List.mem_append, List.mem_flatten, List.mem_flatten]
  constructor
  · rintro (⟨c, hc, hx⟩ | ⟨c, hc, hx⟩)
    · obtain ⟨i, hi⟩ := List.mem_iff_getElem?.mp hc
      exact ⟨false, i, c, hi, hx⟩
    · obtain ⟨i, hi⟩ := List.mem_iff_getElem?.mp hc
      exact ⟨true, i, c, hi, hx⟩
  · rintro ⟨b, i, c, hi, hx⟩
    cases b
    · exact .inl ⟨c, List.mem_iff_getElem?.mpr ⟨i, hi⟩, hx⟩
    · exact .inr ⟨c, List.mem_iff_getElem?.mpr ⟨i, hi⟩, hx⟩
theorem map_set_head (L : List Nds) (i : Nat) (c : Nds) : (L.set i c).map headH = (L.map headH).set i (headH c) := List.map_set
theorem head_row {f : Bool → List Nds} {b : Bool} {i : Nat} (h : i < (f b).length) : ((f b).map headH).getD i 0 = headH (row f b i) := by
  rw [List.getD_eq_getElem?_getD, List.getElem?_map, row_get h]; rfl
/-- what a map's blocks are -/
structure TabS where
  h : Nat
  n : Nat
  od : Nat
  at_ : Nat
  cap : Nat
  hk : Bool → Nat
  rw : Bool → List Nds
def rowOk (S : TabS) : Bool → Nat → Nat → Prop
  | false, i, k => i = k % S.n ∧ (S.hk true ≠ 0 → k % S.od < S.at_)
  | true, i, k => S.hk true ≠ 0 ∧ i = k % S.od ∧ S.at_ ≤ i
def stageOk (n od at_ ht : Nat) : Prop := (ht = 0 ∧ od = 0 ∧ at_ = 0 ∧ (n = 2 ∨ n = 4 ∨ n = 8)) ∨ (ht ≠ 0 ∧ (od = 2 ∨ od = 4) ∧ n = od + od ∧ at_ < od)
def baseH (S : TabS) : List Nat := S.h :: S.hk false :: (if S.hk true = 0 then [] else [S.hk true])
def hands (S : TabS) : List Nat := baseH S ++ (nodes S.rw).map (·.1)
structure RepT (R : List Nat) (B : Bks) (root : Nat) (S : TabS) : Prop where
  r : R.getD root 0 = S.h
  hb : mget B (S.h : Int) = some [3, S.hk false, S.n, S.hk true, S.od, S.at_, (nodes S.rw).length, S.cap]
  gk : ∀ b, S.hk b ≠ 0 → mget B (S.hk b : Int) = some ((S.rw b).map headH)
  l8 : ∀ b, (S.rw b).length = 8
  ch : ∀ b, ∀ c ∈ S.rw b, Chn B c
  ok : ∀ b i c, (S.rw b)[i]? = some c → ∀ x ∈ c, rowOk S b i x.2.1
  st : stageOk S.n S.od S.at_ (S.hk true)
  nd : (hands S).Nodup
  nz : 0 ∉ hands S
  c64 : S.cap < 18446744073709551616
  lc : (nodes S.rw).length ≤ S.cap
/-- in which row a key is, if it is anywhere -/
def sel (S : TabS) (key : Nat) : Bool × Nat := if S.hk true = 0 then (false, key % S.n) else if key % S.od < S.at_ then (false, key % S.n) else (true, key % S.od)
theorem stage_n {n od a ht : Nat} (h : stageOk n od a ht) : n ≠ 0 ∧ n ≤ 8 ∧ od ≤ 4 ∧ (ht ≠ 0 → od ≠ 0 ∧ a < 8 ∧ a < od ∧ n = od + od) := by
  rcases h with ⟨h1, h2, h3, h4⟩ | ⟨h1, h2, h3, h4⟩
  · refine ⟨by omega, by omega, by omega, fun h => absurd h1 h⟩
  · refine ⟨by omega, by omega, by omega, fun _ => ⟨by omega, by omega, h4, h3⟩⟩
theorem sel_ok {R : List Nat} {B : Bks} {root : Nat} {S : TabS} (hp : RepT R B root S) (key : Nat) : (sel S key).2 < 8 ∧ S.hk (sel S key).1 ≠ 0 ∧ rowOk S (sel S key).1 (sel S key).2 key := by
  obtain ⟨s1, s2, s3, s4⟩ := stage_n hp.st
  have hn0 : S.hk false ≠ 0 := fun e => hp.nz (by unfold hands baseH; simp [e])
  have h1 : key % S.n < 8 := by have := Nat.mod_lt key (Nat.pos_of_ne_zero s1); omega
  unfold sel
  by_cases h : S.hk true = 0
  · rw [if_pos h]
    exact ⟨h1, hn0, rfl, fun h' => absurd h h'⟩
  · rw [if_neg h]
    obtain ⟨t1, t2, t3, t4⟩ := s4 h
    have h2 : key % S.od < 8 := by have := Nat.mod_lt key (Nat.pos_of_ne_zero t1); omega
    by_cases hlt : key % S.od < S.at_
    · rw [if_pos hlt]
      exact ⟨h1, hn0, rfl, fun _ => hlt⟩
    · rw [if_neg hlt]
      exact ⟨h2, h, h, rfl, by show S.at_ ≤ key % S.od; omega⟩
theorem sel_of {S : TabS} {b : Bool} {i key : Nat} (h : rowOk S b i key) : sel S key = (b, i) := by
  unfold sel
  cases b
  · obtain ⟨h1, h2⟩ := h
    by_cases e : S.hk true = 0
    · rw [if_pos e, h1]
    · rw [if_neg e, if_pos (h2 e), h1]
  · obtain ⟨h1, h2, h3⟩ := h
    rw [if_neg h1, if_neg (by omega), h2]
theorem in_row {R : List Nat} {B : Bks} {root : Nat} {S : TabS} (hp : RepT R B root S) {x : Nd} (hx : x ∈ nodes S.rw) : x ∈ row S.rw (sel S x.2.1).1 (sel S x.2.1).2 := by
  obtain ⟨b, i, c, hc, hxc⟩ := mem_nodes.mp hx
  rw [sel_of (hp.ok b i c hc x hxc)]
  unfold row
  rw [List.getD_eq_getElem?_getD, hc]
  exact hxc
theorem row_mem {R : List Nat} {B : Bks} {root : Nat} {S : TabS} (hp : RepT R B root S) {b : Bool} {i : Nat} (hi : i < 8) : row S.rw b i ∈ S.rw b :=
  List.mem_iff_getElem?.mpr ⟨i, row_get (by rw [hp.l8]; exact hi)⟩
/-- the parts: what leads, a row, the others -/
theorem RepT.parts {R : List Nat} {B : Bks} {root : Nat} {S : TabS} (hp : RepT R B root S) (b : Bool) {i : Nat} (hi : i < 8) :
    (nodes S.rw).Perm (row S.rw b i ++ nodes (updR S.rw b i [])) ∧ (baseH S ++ ((row S.rw b i).map (·.1) ++ (nodes (updR S.rw b i [])).map (·.1))).Nodup ∧ 0 ∉ baseH S ++ ((row S.rw b i).map (·.1) ++ (nodes (updR S.rw b i [])).map (·.1)) := by
  have h1 := nodes_row S.rw b (i := i) (by rw [hp.l8]; exact hi)
  have h2 : (hands S).Perm (baseH S ++ ((row S.rw b i).map (·.1) ++ (nodes (updR S.rw b i [])).map (·.1))) := by
    unfold hands
    refine List.Perm.append_left _ ?_
    rw [← List.map_append]
    exact h1.map _
  exact ⟨h1, h2.nodup_iff.mp hp.nd, fun h => hp.nz (h2.mem_iff.mpr h)⟩
/-- one row is another one -/
theorem RepT.set {R : List Nat} {B B' : Bks} {root : Nat} {S : TabS} (hp : RepT R B root S) (b : Bool) {i : Nat} (hi : i < 8) (hb : S.hk b ≠ 0) (c : Nds)
    (gh : mget B' (S.h : Int) = some [3, S.hk false, S.n, S.hk true, S.od, S.at_, (nodes (updR S.rw b i c)).length, S.cap])
    (gk : mget B' (S.hk b : Int) = some (((S.rw b).set i c).map headH)) (gc : Chn B' c)
    (gf : ∀ j : Nat, j ∈ hands S → j ≠ S.h → j ≠ S.hk b → j ∉ (row S.rw b i).map (·.1) → mget B' (j : Int) = mget B (j : Int))
    (cn : (c.map (·.1)).Nodup) (cd : ∀ x ∈ c, x.1 ≠ 0 ∧ x.1 ∉ baseH S ∧ x.1 ∉ (nodes (updR S.rw b i [])).map (·.1)) (co : ∀ x ∈ c, rowOk S b i x.2.1) (cl : (nodes (updR S.rw b i c)).length ≤ S.cap) :
    RepT R B' root { S with rw := updR S.rw b i c } := by
  obtain ⟨p1, p2, p3⟩ := hp.parts b hi
  have hlen : ∀ b', (updR S.rw b i c b').length = 8 := by
    intro b'
    by_cases e : b' = b
    · subst e; rw [updR_same, List.length_set]; exact hp.l8 _
    · rw [updR_ne _ e]; exact hp.l8 _
  have hperm := nodes_updR S.rw b (i := i) (by rw [hp.l8]; exact hi) c
  have hbase : baseH ({ S with rw := updR S.rw b i c } : TabS) = baseH S := rfl
  have hh : (hands ({ S with rw := updR S.rw b i c } : TabS)).Perm (baseH S ++ (c.map (·.1) ++ (nodes (updR S.rw b i [])).map (·.1))) := by
    unfold hands
    rw [hbase]
    refine List.Perm.append_left _ ?_
    rw [← List.map_append]
    exact hperm.map _
  obtain ⟨n1, n2, n3⟩ := List.nodup_append.mp p2
  obtain ⟨n4, n5, n6⟩ := List.nodup_append.mp n2
  -- what stands in another row stands apart
  have hother : ∀ b' j c', (S.rw b')[j]? = some c' → (b' ≠ b ∨ j ≠ i) → ∀ x ∈ c', x ∈ nodes (updR S.rw b i []) := by
    intro b' j c' hc' hne x hx
    refine mem_nodes.mpr ⟨b', j, c', ?_, hx⟩
    by_cases e : b' = b
    · subst e
      rw [updR_same, List.getElem?_set_ne (fun e => hne.elim (fun h => h rfl) (fun h => h e.symm))]
      exact hc'
    · rw [updR_ne _ e]; exact hc'
  have hfr : ∀ x ∈ nodes (updR S.rw b i []), mget B' (x.1 : Int) = mget B (x.1 : Int) := by
    intro x hx
    have hm : x.1 ∈ (nodes (updR S.rw b i [])).map (·.1) := List.mem_map_of_mem hx
    have hnb : x.1 ∉ baseH S := fun h => n3 _ h _ (List.mem_append_right _ hm) rfl
    refine gf x.1 ?_ (fun e => hnb (by rw [e]; unfold baseH; simp)) (fun e => hnb ?_) (fun h => n6 _ h _ hm rfl)
    · unfold hands
      refine List.mem_append_right _ ((p1.map (·.1)).mem_iff.mpr ?_)
      rw [List.map_append]
      exact List.mem_append_right _ hm
    · rw [e]
      unfold baseH
      cases b
      · simp
      · rw [if_neg hb]; simp
  refine ⟨hp.r, gh, fun b' hb' => ?_, hlen, fun b' c' hc' => ?_, fun b' j c' hc' x hx => ?_, hp.st, ?_, ?_, hp.c64, cl⟩
  · show mget B' (S.hk b' : Int) = some ((updR S.rw b i c b').map headH)
    by_cases e : b' = b
    · subst e; rw [updR_same]; exact gk
    · rw [updR_ne _ e, ← hp.gk b' hb']
      have hin : ∀ b0, S.hk b0 ≠ 0 → S.hk b0 ∈ baseH S := by
        intro b0 h0
        unfold baseH
        cases b0
        · simp
        · rw [if_neg h0]; simp
      have hbn : (baseH S).Nodup := n1
      have hne : S.hk b' ≠ S.hk b := by
        unfold baseH at hbn
        cases b' <;> cases b
        · exact absurd rfl e
        · rw [if_neg hb] at hbn; simp only [List.nodup_cons, List.mem_cons, not_or] at hbn; exact hbn.2.1.1
        · rw [if_neg hb'] at hbn; simp only [List.nodup_cons, List.mem_cons, not_or] at hbn; exact fun e => hbn.2.1.1 e.symm
        · exact absurd rfl e
      have hneh : S.hk b' ≠ S.h := by
        unfold baseH at hbn
        cases b'
        · simp only [List.nodup_cons, List.mem_cons, not_or] at hbn; exact fun e => hbn.1.1 e.symm
        · rw [if_neg hb'] at hbn; simp only [List.nodup_cons, List.mem_cons, not_or] at hbn; exact fun e => hbn.1.2.1 e.symm
      exact gf _ (by unfold hands; exact List.mem_append_left _ (hin b' hb')) hneh hne (fun h => n3 _ (hin b' hb') _ (List.mem_append_left _ h) rfl)
  · have hc2 : c' ∈ updR S.rw b i c b' := hc'
    by_cases e : b' = b
    · subst e
      rw [updR_same] at hc2
      obtain ⟨j, hj⟩ := List.mem_iff_getElem?.mp hc2
      by_cases ej : i = j
      · subst ej
        rw [List.getElem?_set_self (by rw [hp.l8]; exact hi)] at hj
        injection hj with hj
        subst hj
        exact gc
      · rw [List.getElem?_set_ne ej] at hj
        exact (hp.ch b' c' (List.mem_iff_getElem?.mpr ⟨j, hj⟩)).frame fun x hx => hfr x (hother b' j c' hj (.inr (fun e => ej e.symm)) x hx)
    · rw [updR_ne _ e] at hc2
      obtain ⟨j, hj⟩ := List.mem_iff_getElem?.mp hc2
      exact (hp.ch b' c' hc2).frame fun x hx => hfr x (hother b' j c' hj (.inl e) x hx)
  · have hc2 : (updR S.rw b i c b')[j]? = some c' := hc'
    show rowOk S b' j x.2.1
    by_cases e : b' = b
    · subst e
      rw [updR_same] at hc2
      by_cases ej : i = j
      · subst ej
        rw [List.getElem?_set_self (by rw [hp.l8]; exact hi)] at hc2
        injection hc2 with hc2
        subst hc2
        exact co x hx
      · rw [List.getElem?_set_ne ej] at hc2
        exact hp.ok b' j c' hc2 x hx
    · rw [updR_ne _ e] at hc2
      exact hp.ok b' j c' hc2 x hx
  · refine hh.nodup_iff.mpr (List.nodup_append.mpr ⟨n1, List.nodup_append.mpr ⟨cn, n5, fun x hx y hy e => ?_⟩, fun x hx y hy e => ?_⟩)
    · obtain ⟨z, hz, rfl⟩ := List.mem_map.mp hx
      exact (cd z hz).2.2 (e ▸ hy)
    · rcases List.mem_append.mp hy with hy | hy
      · obtain ⟨z, hz, rfl⟩ := List.mem_map.mp hy
        exact (cd z hz).2.1 (e ▸ hx)
      · exact n3 x hx y (List.mem_append_right _ hy) e
  · intro h
    rcases List.mem_append.mp (hh.mem_iff.mp h) with h | h
    · exact p3 (List.mem_append_left _ h)
    · rcases List.mem_append.mp h with h | h
      · obtain ⟨z, hz, e⟩ := List.mem_map.mp h
        exact (cd z hz).1 e
      · exact p3 (List.mem_append_right _ (List.mem_append_right _ h))
end Go.Proofs.YtphheopbngdhhaaGreatDoor
