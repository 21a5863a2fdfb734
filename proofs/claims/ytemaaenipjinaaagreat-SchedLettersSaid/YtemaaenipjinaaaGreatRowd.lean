/-
  Rows of a schedule as they are sorted: the same rows, and by their picks alone. Package sched: Rows, as a law sees them; picks one behind the other. From a law's contract to its row. Rows: programs, calls and replies as they lie in a law's arguments. Rows: the threads' calls and the picks as they lie in a law's arguments.
-/
import Derived.Test.YtemaaenipjinaaaGreatSa
import Derived.Test.YtemaaenipjinaaaGreatSo2
import Derived.Test.YtemaaenipjinaaaGreatRows
import Derived.ProofKit
import Derived.OpenShut
import Derived.Deep.Slices
import Derived.Deep.Fields
import Derived.Test.YtemaaenipjinaaaGreatBoot
import Derived.Test.YtemaaenipjinaaaGreatVr
import Derived.Test.YtemaaenipjinaaaGreatSj
section
namespace Go.Proofs.YtemaaenipjinaaaGreat
theorem swp_perm {l : List SRowH} {i j : Nat} (hi : i < l.length) (hj : j < l.length) : (swp l i j).Perm l := by
  unfold swp
  rw [List.getD_eq_getElem?_getD, List.getD_eq_getElem?_getD, List.getElem?_eq_getElem hi, List.getElem?_eq_getElem hj]
  exact List.set_set_perm hi hj
theorem insIn_perm (a : Nat) : ∀ (j : Nat) (l : List SRowH), j < l.length → (insIn a j l).Perm l
  | 0, _, _ => List.Perm.refl _
  | j + 1, l, h => by
    unfold insIn
    split
    · exact (insIn_perm a j _ (by rw [swp_len]; omega)).trans (swp_perm h (by omega))
    · exact List.Perm.refl _
theorem insOut_perm (a : Nat) : ∀ (n i : Nat) (l : List SRowH), i + n ≤ l.length → (insOut a n i l).Perm l
  | 0, _, _, _ => List.Perm.refl _
  | n + 1, i, l, h => by
    unfold insOut
    exact (insOut_perm a n (i + 1) _ (by rw [insIn_len]; omega)).trans (insIn_perm a i l (by omega))
theorem insS_perm (a b : Nat) (l : List SRowH) (h : b ≤ l.length) : (insS a b l).Perm l := by
  unfold insS
  by_cases hb : a + 1 ≤ b
  · exact insOut_perm a _ _ l (by omega)
  · rw [show b - (a + 1) = 0 by omega]; exact List.Perm.refl _
theorem swrGo_perm (a b : Nat) : ∀ (n i : Nat) (l : List SRowH), a + i + n ≤ l.length → b + i + n ≤ l.length → (swrGo a b n i l).Perm l
  | 0, _, _, _, _ => List.Perm.refl _
  | n + 1, i, l, h1, h2 => by
    unfold swrGo
    exact (swrGo_perm a b n (i + 1) _ (by rw [swp_len]; omega) (by rw [swp_len]; omega)).trans (swp_perm (by omega) (by omega))
theorem swr_perm (a b n : Nat) (l : List SRowH) (h1 : a + n ≤ l.length) (h2 : b + n ≤ l.length) : (swr a b n l).Perm l := swrGo_perm a b n 0 l (by omega) (by omega)
theorem rotGo_perm (m : Nat) : ∀ (f i j : Nat) (l : List SRowH), i ≤ m → m + j ≤ l.length → (rotGo m f i j l).Perm l
  | 0, _, _, _, _, _ => List.Perm.refl _
  | f + 1, i, j, l, h1, h2 => by
    unfold rotGo
    split
    · exact swr_perm _ _ _ l (by omega) (by omega)
    split
    · exact (rotGo_perm m f _ _ _ (by omega) (by rw [swr_len]; omega)).trans (swr_perm _ _ _ l (by omega) (by omega))
    · exact (rotGo_perm m f _ _ _ (by omega) (by rw [swr_len]; omega)).trans (swr_perm _ _ _ l (by omega) (by omega))
theorem rotS_perm (a m b : Nat) (l : List SRowH) (h1 : m ≤ b) (h2 : b ≤ l.length) : (rotS a m b l).Perm l := rotGo_perm m _ _ _ l (by omega) (by omega)
theorem upGo_perm : ∀ (n k : Nat) (l : List SRowH), n = 0 ∨ k + n < l.length → (upGo n k l).Perm l
  | 0, _, _, _ => List.Perm.refl _
  | n + 1, k, l, h => by
    unfold upGo
    exact (upGo_perm n (k + 1) _ (by rw [swp_len]; omega)).trans (swp_perm (by omega) (by omega))
theorem dnGo_perm : ∀ (n k : Nat) (l : List SRowH), k < l.length → (dnGo n k l).Perm l
  | 0, _, _, _ => List.Perm.refl _
  | n + 1, k, l, h => by
    unfold dnGo
    exact (dnGo_perm n (k - 1) _ (by rw [swp_len]; omega)).trans (swp_perm (by omega) (by omega))
theorem symStart_in {a m b : Nat} (l : List SRowH) (h1 : a < m) (h2 : m < b) : a ≤ symStart a m b l ∧ symStart a m b l ≤ m ∧ m ≤ (a + b) / 2 + m - symStart a m b l ∧ (a + b) / 2 + m - symStart a m b l ≤ b := by
  unfold symStart
  by_cases hm : (a + b) / 2 < m
  · rw [if_pos hm, if_pos hm]
    have := half_in (fun c => !ltA l ((a + b) / 2 + m - 1 - c) c) (i := (a + b) / 2 + m - b) (j := (a + b) / 2) (by omega)
    omega
  · rw [if_neg hm, if_neg hm]
    have := half_in (fun c => !ltA l ((a + b) / 2 + m - 1 - c) c) (i := a) (j := m) (by omega)
    omega
theorem symGo_perm : ∀ (f a m b : Nat) (l : List SRowH), a < m → m < b → b ≤ l.length → (symGo f a m b l).Perm l
  | 0, _, _, _, _, _, _, _ => List.Perm.refl _
  | f + 1, a, m, b, l, h1, h2, h3 => by
    unfold symGo
    split
    · have := half_in (fun h => ltA l h a) (i := m) (j := b) (by omega)
      exact upGo_perm _ _ l (by omega)
    split
    · exact dnGo_perm _ _ l (by omega)
    dsimp only
    obtain ⟨s1, s2, s3, s4⟩ := symStart_in l h1 h2
    generalize symStart a m b l = st at *
    have hp : (if st < m ∧ m < (a + b) / 2 + m - st then rotS st m ((a + b) / 2 + m - st) l else l).Perm l := by
      split
      · exact rotS_perm _ _ _ l (by omega) (by omega)
      · exact List.Perm.refl _
    generalize (if st < m ∧ m < (a + b) / 2 + m - st then rotS st m ((a + b) / 2 + m - st) l else l) = l1 at hp
    have hp2 : (if a < st ∧ st < (a + b) / 2 then symGo f a st ((a + b) / 2) l1 else l1).Perm l := by
      split
      · rename_i hh
        exact (symGo_perm f a st _ l1 hh.1 hh.2 (by rw [hp.length_eq]; omega)).trans hp
      · exact hp
    generalize (if a < st ∧ st < (a + b) / 2 then symGo f a st ((a + b) / 2) l1 else l1) = l2 at hp2
    split
    · rename_i hh
      exact (symGo_perm f _ _ b l2 hh.1 hh.2 (by rw [hp2.length_eq]; omega)).trans hp2
    · exact hp2
theorem mrgGo_perm (sz n : Nat) (hs : 0 < sz) : ∀ (f a : Nat) (l : List SRowH), l.length = n → (mrgGo sz n f a l).Perm l
  | 0, _, _, _ => List.Perm.refl _
  | f + 1, a, l, h => by
    unfold mrgGo
    split
    · exact (mrgGo_perm sz n hs f _ _ (by rw [symGo_len]; exact h)).trans (symGo_perm n _ _ _ l (by omega) (by omega) (by omega))
    split
    · exact symGo_perm n _ _ _ l (by omega) (by omega) (by omega)
    · exact List.Perm.refl _
theorem blkGo_perm (n : Nat) : ∀ (f a : Nat) (l : List SRowH), l.length = n → (blkGo n f a l).Perm l
  | 0, a, l, h => insS_perm a n l (by omega)
  | f + 1, a, l, h => by
    unfold blkGo
    split
    · exact (blkGo_perm n f _ _ (by rw [insS_len]; exact h)).trans (insS_perm _ _ l (by omega))
    · exact insS_perm a n l (by omega)
theorem staGo_perm (n : Nat) : ∀ (f sz : Nat) (l : List SRowH), 0 < sz → l.length = n → (staGo n f sz l).Perm l
  | 0, _, _, _, _ => List.Perm.refl _
  | f + 1, sz, l, hs, h => by
    unfold staGo
    split
    · exact (staGo_perm n f _ _ (by omega) (by rw [mrgGo_len]; exact h)).trans (mrgGo_perm sz n hs _ _ l h)
    · exact List.Perm.refl _
theorem sortS_perm (l : List SRowH) : (sortS l).Perm l := (staGo_perm _ _ _ _ (by decide) (by rw [blkGo_len])).trans (blkGo_perm _ _ _ l rfl)
/-! ### it looks at rows alone, not at where their handles lie -/
def kS (l : List SRowH) : List SRow := l.map (·.1)
theorem kS_getD (l : List SRowH) (i : Nat) : (l.getD i d0).1 = (kS l).getD i d0.1 := by
  unfold kS
  rw [List.getD_eq_getElem?_getD, List.getD_eq_getElem?_getD, List.getElem?_map]
  cases l[i]? <;> rfl
theorem kS_ltA {l l' : List SRowH} (h : kS l = kS l') (i j : Nat) : ltA l i j = ltA l' i j := by
  unfold ltA; rw [kS_getD, kS_getD, kS_getD, kS_getD, h]
theorem kS_swp {l l' : List SRowH} (h : kS l = kS l') (i j : Nat) : kS (swp l i j) = kS (swp l' i j) := by
  have e : ∀ l : List SRowH, kS (swp l i j) = ((kS l).set i ((kS l).getD j d0.1)).set j ((kS l).getD i d0.1) := fun l => by
    rw [← kS_getD, ← kS_getD]
    unfold swp kS
    rw [List.map_set, List.map_set]
  rw [e, e, h]
theorem kS_insIn (a : Nat) : ∀ (j : Nat) {l l' : List SRowH}, kS l = kS l' → kS (insIn a j l) = kS (insIn a j l')
  | 0, _, _, h => h
  | j + 1, l, l', h => by
    unfold insIn
    rw [kS_ltA h]
    split
    · exact kS_insIn a j (kS_swp h _ _)
    · exact h
theorem kS_insOut (a : Nat) : ∀ (n i : Nat) {l l' : List SRowH}, kS l = kS l' → kS (insOut a n i l) = kS (insOut a n i l')
  | 0, _, _, _, h => h
  | n + 1, i, l, l', h => by
    unfold insOut
    exact kS_insOut a n _ (kS_insIn a i h)
theorem kS_insS (a b : Nat) {l l' : List SRowH} (h : kS l = kS l') : kS (insS a b l) = kS (insS a b l') := kS_insOut _ _ _ h
theorem kS_swrGo (a b : Nat) : ∀ (n i : Nat) {l l' : List SRowH}, kS l = kS l' → kS (swrGo a b n i l) = kS (swrGo a b n i l')
  | 0, _, _, _, h => h
  | n + 1, i, l, l', h => by
    unfold swrGo
    exact kS_swrGo a b n _ (kS_swp h _ _)
theorem kS_rotGo (m : Nat) : ∀ (f i j : Nat) {l l' : List SRowH}, kS l = kS l' → kS (rotGo m f i j l) = kS (rotGo m f i j l')
  | 0, _, _, _, _, h => h
  | f + 1, i, j, l, l', h => by
    unfold rotGo
    split
    · exact kS_swrGo _ _ _ _ h
    split
    · exact kS_rotGo m f _ _ (kS_swrGo _ _ _ _ h)
    · exact kS_rotGo m f _ _ (kS_swrGo _ _ _ _ h)
theorem kS_upGo : ∀ (n k : Nat) {l l' : List SRowH}, kS l = kS l' → kS (upGo n k l) = kS (upGo n k l')
  | 0, _, _, _, h => h
  | n + 1, k, l, l', h => by unfold upGo; exact kS_upGo n _ (kS_swp h _ _)
theorem kS_dnGo : ∀ (n k : Nat) {l l' : List SRowH}, kS l = kS l' → kS (dnGo n k l) = kS (dnGo n k l')
  | 0, _, _, _, h => h
  | n + 1, k, l, l', h => by unfold dnGo; exact kS_dnGo n _ (kS_swp h _ _)
theorem kS_symGo : ∀ (f a m b : Nat) {l l' : List SRowH}, kS l = kS l' → kS (symGo f a m b l) = kS (symGo f a m b l')
  | 0, _, _, _, _, _, h => h
  | f + 1, a, m, b, l, l', h => by
    have e0 : ltA l = ltA l' := funext fun i => funext fun j => kS_ltA h i j
    have e : symStart a m b l = symStart a m b l' := by unfold symStart; rw [e0]
    unfold symGo
    rw [e0, e]
    split
    · exact kS_upGo _ _ h
    split
    · exact kS_dnGo _ _ h
    dsimp only
    generalize symStart a m b l' = st
    have h1 : kS (if st < m ∧ m < (a + b) / 2 + m - st then rotS st m ((a + b) / 2 + m - st) l else l) = kS (if st < m ∧ m < (a + b) / 2 + m - st then rotS st m ((a + b) / 2 + m - st) l' else l') := by
      split
      · exact kS_rotGo _ _ _ _ h
      · exact h
    generalize (if st < m ∧ m < (a + b) / 2 + m - st then rotS st m ((a + b) / 2 + m - st) l else l) = x1 at h1
    generalize (if st < m ∧ m < (a + b) / 2 + m - st then rotS st m ((a + b) / 2 + m - st) l' else l') = y1 at h1
    have h2 : kS (if a < st ∧ st < (a + b) / 2 then symGo f a st ((a + b) / 2) x1 else x1) = kS (if a < st ∧ st < (a + b) / 2 then symGo f a st ((a + b) / 2) y1 else y1) := by
      split
      · exact kS_symGo f _ _ _ h1
      · exact h1
    generalize (if a < st ∧ st < (a + b) / 2 then symGo f a st ((a + b) / 2) x1 else x1) = x2 at h2
    generalize (if a < st ∧ st < (a + b) / 2 then symGo f a st ((a + b) / 2) y1 else y1) = y2 at h2
    split
    · exact kS_symGo f _ _ _ h2
    · exact h2
theorem kS_mrgGo (sz n : Nat) : ∀ (f a : Nat) {l l' : List SRowH}, kS l = kS l' → kS (mrgGo sz n f a l) = kS (mrgGo sz n f a l')
  | 0, _, _, _, h => h
  | f + 1, a, l, l', h => by
    unfold mrgGo
    split
    · exact kS_mrgGo sz n f _ (kS_symGo _ _ _ _ h)
    split
    · exact kS_symGo _ _ _ _ h
    · exact h
theorem kS_blkGo (n : Nat) : ∀ (f a : Nat) {l l' : List SRowH}, kS l = kS l' → kS (blkGo n f a l) = kS (blkGo n f a l')
  | 0, _, _, _, h => kS_insS _ _ h
  | f + 1, a, l, l', h => by
    unfold blkGo
    split
    · exact kS_blkGo n f _ (kS_insS _ _ h)
    · exact kS_insS _ _ h
theorem kS_staGo (n : Nat) : ∀ (f sz : Nat) {l l' : List SRowH}, kS l = kS l' → kS (staGo n f sz l) = kS (staGo n f sz l')
  | 0, _, _, _, h => h
  | f + 1, sz, l, l', h => by
    unfold staGo
    split
    · exact kS_staGo n f _ (kS_mrgGo _ _ _ _ h)
    · exact h
theorem kS_sortS {l l' : List SRowH} (h : kS l = kS l') : kS (sortS l) = kS (sortS l') := by
  have hl : l.length = l'.length := by have := congrArg List.length h; unfold kS at this; rwa [List.length_map, List.length_map] at this
  unfold sortS
  rw [hl]
  exact kS_staGo _ _ _ (kS_blkGo _ _ _ h)
end Go.Proofs.YtemaaenipjinaaaGreat
end
section
namespace Go.Proofs.YtemaaenipjinaaaGreat
set_option maxRecDepth 100000
theorem Ent.perm {L L' : List HProp} (h : L.Perm L') : Ent L L' := by
  induction h with
  | nil => exact Ent.refl _
  | cons p _ ih => exact Ent.cons ih
  | swap p q l =>
    unfold Ent
    exact fun _ h => h.swap
  | trans _ _ h1 h2 => exact Ent.trans h1 h2
theorem Ent.star_perm {L L' : List HProp} (h : L.Perm L') {M : List HProp} : Ent (star L :: M) (star L' :: M) :=
  Ent.trans Ent.star_out (Ent.trans (Ent.app (Ent.perm h)) (Ent.star_in L'))
def sortR (rows : List SRow) : List SRow := kS (sortS (rows.map fun r => (r, none, 0)))
theorem sortR_of {rs : List SRowH} {rows : List SRow} (h : rs.map (·.1) = rows) : kS (sortS rs) = sortR rows := by
  refine kS_sortS ?_
  show rs.map (·.1) = (rows.map fun r => (r, none, 0)).map (·.1)
  rw [h, List.map_map]
  exact (List.map_id' rows).symm
theorem sortR_perm (rows : List SRow) : (sortR rows).Perm rows := by
  have h := (sortS_perm (rows.map fun r => ((r, none, 0) : SRowH))).map (·.1)
  rw [List.map_map] at h
  have e : rows.map ((fun x : SRowH => x.1) ∘ fun r => (r, none, 0)) = rows := List.map_id' rows
  rw [e] at h
  exact h
section
variable {Sb : Nat} {c : Cfg} {pv : Value} {q : HProp} {progs : Progs}
theorem rows_s {m : Sd} (hi : SdI c progs m) (hlen : m.rows.length ≤ 100000) : Tri Tryz.prog 50 #[.pointer (some ⟨Sb, 0, none⟩)] [SdE Sb c pv q progs m]
    fun r L => ∃ (ad : Option Addr) (cap : Nat) (rs : List SRowH), kS rs = sortR m.rows ∧ r = .slice ad rs.length cap ∧ L = [SdE Sb c pv q progs m, Row (.slice ad rs.length cap) 120 6 rs.length (rs.flatMap srV), star (rs.map srP)] := by
  refine Tri.wk (rows_t hi hlen) ?_
  rintro v L' ⟨ad, cap, rs, hrs, rfl, rfl⟩
  have hl : (sortS rs).length = m.rows.length := by rw [sortS_len, ← hrs, List.length_map]
  refine ⟨_, ⟨ad, cap, sortS rs, sortR_of hrs, by rw [hl], rfl⟩, ?_⟩
  rw [hl]
  exact Ent.cons (Ent.cons (Ent.star_perm ((sortS_perm rs).map srP).symm))
end
theorem sortR_len (rows : List SRow) : (sortR rows).length = rows.length := (sortR_perm rows).length_eq
theorem sortR_news {rows : List SRow} (h : ∀ r ∈ rows, r.news.length ≤ 1000) {rs : List SRowH} (hrs : kS rs = sortR rows) : rs.length = rows.length ∧ ∀ r ∈ rs, r.1.news.length ≤ 1000 := by
  constructor
  · have := congrArg List.length hrs
    unfold kS at this
    rw [List.length_map, sortR_len] at this
    exact this
  · intro r hr
    have hm : r.1 ∈ kS rs := List.mem_map.2 ⟨r, hr, rfl⟩
    rw [hrs] at hm
    exact h _ ((sortR_perm rows).mem_iff.1 hm)
/-- picks, one behind the other -/
def runP (c : Cfg) (progs : Progs) (m : Sd) (ts : List Int) : Sd := ts.foldl (fun m t => (m.pick c progs t).1) m
theorem runP_snoc (c : Cfg) (progs : Progs) (m : Sd) (ts : List Int) (t : Int) : runP c progs m (ts ++ [t]) = ((runP c progs m ts).pick c progs t).1 := by
  unfold runP; rw [List.foldl_append]; rfl
theorem runP_inv {c : Cfg} (hc : Small c) (hf : 0 ≤ c.fuel ∧ c.fuel ≤ 1000) {progs : Progs} {m : Sd} (h : SdI c progs m) : ∀ ts : List Int, SdI c progs (runP c progs m ts) := by
  intro ts
  unfold runP
  induction ts generalizing m with
  | nil => exact h
  | cons t ts ih => exact ih (h.pick hc hf t)
theorem pick_picks (c : Cfg) (progs : Progs) (m : Sd) (t : Int) : (m.pick c progs t).1.picks ≤ m.picks + 1 := by
  unfold Sd.pick
  split
  · exact Nat.le_succ _
  · dsimp only
    have hs : ∀ (x : Sd) (k : Nat), (Sd.step c progs x k).picks = x.picks := fun x k => by unfold Sd.step; split <;> rfl
    have hb : ∀ (x : Sd) (k : Nat), (Sd.begin progs x k).picks = x.picks := fun x k => by unfold Sd.begin; split <;> rfl
    rw [hs]
    split
    · rw [hb]; exact Nat.le_refl _
    · exact Nat.le_refl _
theorem runP_picks (c : Cfg) (progs : Progs) : ∀ (ts : List Int) (m : Sd), (runP c progs m ts).picks ≤ m.picks + ts.length
  | [], m => Nat.le_refl _
  | t :: ts, m => by
    have h1 := runP_picks c progs ts (m.pick c progs t).1
    have h2 := pick_picks c progs m t
    have e : runP c progs m (t :: ts) = runP c progs (m.pick c progs t).1 ts := rfl
    rw [e, List.length_cons]; omega
theorem pick_idle {c : Cfg} {progs : Progs} {m : Sd} {t : Int} (h : m.idle t = true) : m.pick c progs t = (m, false) := by
  unfold Sd.pick; rw [if_pos (.inl h)]
theorem idle_out {m : Sd} {t : Int} (h : t < 0 ∨ (m.ths.length : Int) ≤ t) : m.idle t = true := by
  unfold Sd.idle
  rcases h with h | h
  · rw [decide_eq_true h]; rfl
  · rw [decide_eq_true h, Bool.or_true]; rfl
end Go.Proofs.YtemaaenipjinaaaGreat
end
section
namespace Go.Proofs.YtemaaenipjinaaaGreat
open Go.ChangeShapes Go.WideShapes Go.ChangeAt Go.RowKit Go.Deep
theorem own_ : ownKnob Tryz.prog.godebug = none := by kernel_rfl
theorem laid_ : laidOutB Tryz.prog = true := by kernel_rfl
/-- the heap as it is -/
theorem exact_sat (W : World) : Sat ([exact' W] ++ []) (hpOf W) := sat_exact W
theorem exact_below {W W' : World} (hs : Sat ([exact' W] ++ []) (hpOf W')) (ho : Old W W') : Below W.heap.size W W' := by
  have key : ∀ b o, W.heap[b]? = some o → W'.heap[b]? = some o := fun b o hb =>
    Reads.sat (L := [exact' W] ++ []) (.here (fun h e => by rw [show h = hpOf W from e]; exact hb)) hs
  refine ⟨ho.os, ho.tape, ho.output, ?_, fun k hk => ?_⟩
  · rcases Nat.eq_zero_or_pos W.heap.size with h0 | h0
    · omega
    · have h1 := key (W.heap.size - 1) W.heap[W.heap.size - 1] (by simp)
      have := (Array.getElem?_eq_some_iff.1 h1).1
      omega
  · have h1 : W.heap[k]? = some W.heap[k] := by simp [hk]
    rw [h1]
    exact key k _ h1
theorem trodAll_stays {H : Type} {enc : TypeId × Value → H} {P : Program} (hl : laidOutB P = true) {W W' : World} (hb : Below W.heap.size W W') (sp : Nat → Bool) :
    ∀ {ts : List TypeId} {vs : List Value} {ds : List (DataW H)} {ps : List MemPlace}, (ts.all fun t => P.readableRec t && decide (t < P.types.size)) = true → DataW.TrodAll enc P W 0 (fun _ => true) true ts vs ds ps →
      (∀ x ∈ ps, x.block < W.heap.size) → (∀ x ∈ ps, sp x.block = true) → DataW.TrodAll enc P W' 0 sp true ts vs ds ps
  | [], _, _, _, _, h, _, _ => by obtain ⟨rfl, rfl, rfl⟩ := trodAll_nil h; rfl
  | t :: ts, _, _, _, hts, h, hlt, hsp => by
    obtain ⟨v, vs, d, ds, p, q, rfl, rfl, rfl, h1, h2⟩ := trodAll_cons h
    simp only [List.all_cons, Bool.and_eq_true, decide_eq_true_eq] at hts
    refine trodAll_cons_mk (WideElems.Trod_stays hl hts.1.1 hts.1.2 h1 (fun x hx => hb.same (hlt x (by simp [hx]))) (fun x hx => hsp x (by simp [hx]))) ?_
    exact trodAll_stays hl hb sp hts.2 h2 (fun x hx => hlt x (by simp [hx])) (fun x hx => hsp x (by simp [hx]))
section
variable {H : Type} {enc : TypeId × Value → H} {P : Program}
theorem post_of_below {f : Func} {s : ChangeSpec} {apart fresh handsOn again : Bool} {W W' : World} {args : Array Value} {v : Value} {ds gs : List (DataW H)} {before pa pv : List MemPlace}
    (hW : DataW.Whole enc P f.params.toList s.vars apart W args.toList ds gs before)
    (hres : ∀ (b : Nat) (sp : Nat → Bool) (hd : Bool), DataW.TrodAll enc P W' b sp hd f.resultTypes.toList (v.resultList f.resultTypes.size) (s.fn H (ds ++ gs)).results [])
    (hargs : ∀ sp : Nat → Bool, (∀ p ∈ before, sp p.block = true) → DataW.TrodAll enc P W' 0 sp true f.params.toList args.toList (s.fn H (ds ++ gs)).args pa)
    (hvars : ∀ sp : Nat → Bool, (∀ p ∈ before, sp p.block = true) → DataW.TrodVars enc P W' sp s.vars (s.fn H (ds ++ gs)).vars pv)
    (hps : before = pa ++ pv) (hb : Below W.heap.size W W')
    (hok : ∀ (j : Nat) (t : TypeId) (r : Value), f.resultTypes[j]? = some t → (v.resultList f.resultTypes.size)[j]? = some r → Value.okWide P W' .any 0 t r) :
    s.post enc P f apart fresh handsOn again W args v W' := by
  have hlt : ∀ p ∈ before, p.block < W.heap.size := fun p hp => hW.lt p hp
  have hold : ∀ p ∈ before, (fun b => decide (b < W.heap.size)) p.block = true := fun p hp => by simpa using hlt p hp
  refine ⟨ds, gs, before, [], pa, pv, hW, hres _ _ _, hargs _ hold, hvars _ hold, World.keptBut_mono (fun p hp => ⟨hp, ?_⟩) (hb.frame (· ∈ before)), fun _ => ?_⟩
  · rw [hps, List.mem_append] at hp
    exact Or.inr hp
  · obtain ⟨_, _, _, _, _, hz, hn⟩ := hW
    refine ⟨hok, _, _, ([] ++ pa) ++ pv, ⟨[] ++ pa, pv, trodAll_append (hargs _ (fun _ _ => rfl)) (hres _ _ _), hvars _ (fun _ _ => rfl), rfl, ?_, ?_⟩, ?_⟩
    · intro b off hp
      have hin : MemPlace.cell b off ∈ before := by rw [hps]; simpa using hp
      rw [hb.frozen (hlt _ hin)]
      exact hz b off hin
    · intro ha
      have := hn ha
      rw [hps] at this
      simpa using this
    · intro p hp _
      rw [hps]
      simpa using hp
/-- the law returned true, and what was there stands: the row's post -/
theorem post_true {f : Func} {s : ChangeSpec} {apart fresh handsOn again : Bool} {W W' : World} {args : Array Value} {ds gs : List (DataW H)} {before : List MemPlace} {bt : TypeId} (hl : laidOutB P = true)
    (hW : DataW.Whole enc P f.params.toList s.vars apart W args.toList ds gs before) (hnv : s.vars = []) (hrt : f.resultTypes = #[bt]) (hbt : P.underlying bt = some .bool)
    (hts : (f.params.toList.all fun t => P.readableRec t && decide (t < P.types.size)) = true)
    (hfn : s.fn H (ds ++ gs) = { results := [.lit (.bool true)], args := ds }) (hs : Sat ([exact' W] ++ []) (hpOf W')) (ho : Old W W') : s.post enc P f apart fresh handsOn again W args (.bool true) W' := by
  have hb := exact_below hs ho
  have hW0 := hW
  obtain ⟨p, q, hA, hV, hpq, _, _⟩ := hW0
  rw [hnv] at hV
  obtain ⟨hg, hq⟩ := trodVars_none hV
  have hpb : before = p := by rw [hpq, hq, List.append_nil]
  refine post_of_below (pa := before) (pv := []) hW (fun _ _ _ => ?_) (fun sp hsp => ?_) (fun sp hsp => ?_) (by simp) hb ?_
  · rw [hrt, hfn]; exact trodAll_mk1 (shut_bool hbt _)
  · rw [hfn, hpb]; exact trodAll_stays hl hb sp hts hA (fun x hx => hW.lt x (by rw [hpb]; exact hx)) (fun x hx => hsp x (by rw [hpb]; exact hx))
  · rw [hfn, hnv]; rfl
  · exact ok_one hrt rfl (okWide_bool_mk hbt _)
end
section
variable {H : Type} {enc : TypeId × Value → H} {w : World} {base fuel : Nat} {spare : Nat → Bool} {held : Bool} {cs : List Value} {x : DataW H × List MemPlace}
theorem wf_u64 {n : Int} (h : (Lit.int .u64 n).wf = true) : 0 ≤ n ∧ n < 18446744073709551616 := by
  have := (by simpa [Lit.wf, IntKind.min, IntKind.max, IntKind.signed, IntKind.bits] using h : 0 ≤ n ∧ n ≤ 18446744073709551615)
  omega
theorem trod_fld {P : Program} {t : TypeId} {fs : Array Field} (ht : P.underlying t = some (.struct fs)) (h : DataW.trod enc P w base spare held fuel t cs = some x) (m : Nat) (hm : P.cellsOf t = m) :
    cs.length = m ∧ ∀ (i : Nat) (f : Field) (o k : Nat), fs[i]? = some f → f.offset = o → P.cellsOf f.type = k → ∃ n y, DataW.trod enc P w base spare held n f.type ((cs.drop o).take k) = some y := by
  obtain ⟨xs, n, _, _, hl, hlen, hf⟩ := DataW.trod_struct ht h
  refine ⟨hl.trans hm, fun i f o k h1 h2 h3 => ?_⟩
  have hi := (Array.getElem?_eq_some_iff.1 h1).1
  have := hf i f h1
  rw [h2, h3, List.getElem?_eq_getElem (by omega)] at this
  exact ⟨n, _, this⟩
theorem cfg_of (h : DataW.trod enc Tryz.prog w base spare held fuel 24 cs = some x) : ∃ c : Cfg, cs = c.v := by
  obtain ⟨hl, hf⟩ := trod_fld Tryz.underlying24 h 6 (by kernel_rfl)
  obtain ⟨_, _, h0⟩ := hf 0 _ 0 1 rfl rfl (by kernel_rfl)
  obtain ⟨_, _, h1⟩ := hf 1 _ 1 1 rfl rfl (by kernel_rfl)
  obtain ⟨_, _, h2⟩ := hf 2 _ 2 1 rfl rfl (by kernel_rfl)
  obtain ⟨_, _, h3⟩ := hf 3 _ 3 1 rfl rfl (by kernel_rfl)
  obtain ⟨_, _, h4⟩ := hf 4 _ 4 1 rfl rfl (by kernel_rfl)
  obtain ⟨_, _, h5⟩ := hf 5 _ 5 1 rfl rfl (by kernel_rfl)
  obtain ⟨a0, e0, _, _⟩ := DataW.trod_int Tryz.underlying3 h0
  obtain ⟨a1, e1, _, _⟩ := DataW.trod_int Tryz.underlying3 h1
  obtain ⟨a2, e2, _, _⟩ := DataW.trod_int Tryz.underlying3 h2
  obtain ⟨a3, e3, _, _⟩ := DataW.trod_int Tryz.underlying3 h3
  obtain ⟨a4, e4, _, w4⟩ := DataW.trod_int Tryz.underlying22 h4
  obtain ⟨a5, e5, _, w5⟩ := DataW.trod_int Tryz.underlying22 h5
  have := wf_u64 w4; have := wf_u64 w5
  match cs, hl with
  | [c0, c1, c2, c3, c4, c5], _ =>
    injection e0 with e0 _; injection e1 with e1 _; injection e2 with e2 _; injection e3 with e3 _; injection e4 with e4 _; injection e5 with e5 _
    subst e0; subst e1; subst e2; subst e3; subst e4; subst e5
    refine ⟨⟨a0, a1, a2, a3, a4.toNat, a5.toNat⟩, ?_⟩
    unfold Cfg.v
    dsimp only
    rw [Int.toNat_of_nonneg (by omega), Int.toNat_of_nonneg (by omega)]
end
theorem addr_add' {a : Addr} (h : a.spot = none) (k : Nat) : a.add k = ⟨a.block, a.off + k, none⟩ := by
  cases a; cases h; exact addr_add _ _ _
/-- a slice, as it lies -/
theorem slice_cs {H : Type} {enc : TypeId × Value → H} {P : Program} {W : World} {t e : TypeId} {sz fuel : Nat} {cs : List Value} {x : DataW H × List MemPlace} {α : Type} (f : α → List Value) (hf : ∀ x, (f x).length = sz) (hsz : 0 < sz) (ht : P.underlying t = some (.slice e)) (hC : P.cellsOf e = sz)
    (hdec : ∀ n cs x, DataW.trod enc P W 0 (fun _ => true) true n e cs = some x → ∃ a : α, cs = f a) (h : DataW.trod enc P W 0 (fun _ => true) true fuel t cs = some x) :
    ∃ (ad : Option Addr) (l : List α) (cap : Nat), cs = [.slice ad l.length cap] ∧ l.length ≤ cap ∧ cap ≤ maxLen ∧ (l.length = 0 ∨ ∃ b o blk rest, ad = some ⟨b, o, none⟩ ∧ RdC (exact' W) b blk ∧ DropN o blk (l.flatMap f ++ rest)) := by
  rcases open_slice ht h with ⟨hcs, _⟩ | ⟨a, len0, cap, m, n, D, Pl, hcs, _, hl, hm, hmm, _, hi⟩
  · subst hcs
    exact ⟨none, [], 0, rfl, Nat.le_refl _, Nat.zero_le _, .inl rfl⟩
  · subst hcs
    simp only [if_true] at hmm
    subst hmm
    rw [hC] at hi
    have hcell : ∀ i, i < len0 → ∃ x : α, ∀ j, j < sz → W.cell? (a.add (i * sz + j)) = (f x)[j]? := fun i h1 => by
      obtain ⟨cs', h2, h3⟩ := hi i (by omega)
      obtain ⟨x, rfl⟩ := hdec _ _ _ h3
      obtain ⟨_, _, h4⟩ := World.cells?_some h2
      exact ⟨x, fun j hj => by rw [← Go.Deep.add_add]; exact h4 j hj⟩
    have hlist : ∀ n, n ≤ len0 → ∃ l : List α, l.length = n ∧ ∀ i (h : i < l.length), ∀ j, j < sz → W.cell? (a.add (i * sz + j)) = (f l[i])[j]? := by
      intro n
      induction n with
      | zero => exact fun _ => ⟨[], rfl, fun i h => by simp at h⟩
      | succ n ih =>
        intro hn
        obtain ⟨l, hll, hlc⟩ := ih (by omega)
        obtain ⟨x, hx⟩ := hcell n (by omega)
        refine ⟨l ++ [x], by simp [hll], fun i h j hj => ?_⟩
        by_cases hin : i < l.length
        · rw [List.getElem_append_left hin]; exact hlc i hin j hj
        · have : i = n := by simp at h; omega
          subst this
          rw [List.getElem_append_right (by omega)]
          simpa using hx j hj
    obtain ⟨l, hll, hlc⟩ := hlist len0 (Nat.le_refl _)
    subst hll
    refine ⟨some a, l, _, rfl, hl, hm, ?_⟩
    rcases Nat.eq_zero_or_pos l.length with h0 | h0
    · exact .inl h0
    · right
      have h1 := hlc 0 h0 0 hsz
      rw [List.getElem?_eq_getElem (by rw [hf]; exact hsz)] at h1
      unfold World.cell? at h1
      cases hb : W.heap[a.block]? with
      | none => simp [Addr.add, hb] at h1
      | some o =>
        cases o with
        | cells c t' fz =>
          have hspot : a.spot = none := by
            cases hs : a.spot with
            | none => rfl
            | some x => simp [Addr.add, hb, hs] at h1
          have hget : ∀ i (h : i < l.length), ∀ j, j < sz → c[a.off + (i * sz + j)]? = (f l[i])[j]? := fun i h j hj => by
            rw [← hlc i h j hj, addr_add' hspot]
            exact (cell_hp (w := W) hb).symm
          have hlen : (l.flatMap f).length = l.length * sz := flat_len hf l
          have hall : ∀ k, k < l.length * sz → c[a.off + k]? = (l.flatMap f)[k]? := fun k hk => by
            have hi : k / sz < l.length := (Nat.div_lt_iff_lt_mul hsz).2 hk
            have hj := Nat.mod_lt k hsz
            have hkk : k / sz * sz + k % sz = k := by rw [Nat.mul_comm]; exact Nat.div_add_mod k sz
            have h2 := hget (k / sz) hi (k % sz) hj
            rw [hkk, List.getElem?_eq_getElem (by rw [hf]; exact hj)] at h2
            rw [h2]
            have h3 := (NthN.flat hf hi (NthN.of (l := f l[k / sz]) (n := k % sz) (List.getElem?_eq_getElem (by rw [hf]; exact hj)))).eq
            rw [hkk] at h3
            exact h3.symm
          have hoff : a.off + l.length * sz ≤ c.toList.length := by
            have h2 : 0 < l.length * sz := Nat.mul_pos h0 hsz
            have h3 := hall (l.length * sz - 1) (by omega)
            rw [List.getElem?_eq_getElem (by omega)] at h3
            have := (Array.getElem?_eq_some_iff.1 h3).1
            simp only [Array.length_toList]
            omega
          refine ⟨a.block, a.off, c.toList, (c.toList.drop a.off).drop (l.length * sz), by rw [← hspot], ⟨t', fz, fun h e => ?_⟩, ?_⟩
          · rw [show h = hpOf W from e]; exact hb
          · have h2 : (c.toList.drop a.off).take (l.length * sz) = l.flatMap f := by
              apply List.ext_getElem?
              intro k
              by_cases hk : k < l.length * sz
              · rw [List.getElem?_take_of_lt hk, List.getElem?_drop, ← hall k hk]; simp
              · rw [List.getElem?_eq_none (by rw [List.length_take]; omega), List.getElem?_eq_none (by omega)]
            have h3 := DropN.of (l := c.toList) (n := a.off) (by omega)
            rw [← List.take_append_drop (l.length * sz) (c.toList.drop a.off), h2] at h3
            exact h3
        | _ => simp [Addr.add, hb] at h1
theorem slice_of {H : Type} {enc : TypeId × Value → H} {P : Program} {W : World} {t e : TypeId} {sz b0 : Nat} {r : Reach} {α : Type} (f : α → List Value) (hf : ∀ x, (f x).length = sz) (hsz : 0 < sz) (ht : P.underlying t = some (.slice e)) (hC : P.cellsOf e = sz)
    (hdec : ∀ n cs x, DataW.trod enc P W 0 (fun _ => true) true n e cs = some x → ∃ a : α, cs = f a) {v : Value} {d : DataW H} {p : List MemPlace} (hok : Value.okWide P W r b0 t v) (h : DataW.Trod enc P W 0 (fun _ => true) true t v d p) :
    ∃ (ad : Option Addr) (l : List α) (cap : Nat), v = .slice ad l.length cap ∧ l.length ≤ cap ∧ cap ≤ maxLen ∧ (l.length = 0 ∨ ∃ b o blk rest, ad = some ⟨b, o, none⟩ ∧ RdC (exact' W) b blk ∧ DropN o blk (l.flatMap f ++ rest)) := by
  obtain ⟨a0, len0, cap0, rfl⟩ := okWide_slice ht hok
  obtain ⟨fuel, h⟩ := h
  obtain ⟨ad, l, cap, hcs, h1, h2, h3⟩ := slice_cs f hf hsz ht hC hdec h
  injection hcs with hcs _
  exact ⟨ad, l, cap, hcs, h1, h2, h3⟩
theorem tri_run {P : Program} {f : FuncId} {args : Array Value} {W : World} {Q : Value → Prop} (h : Tri P f args [exact' W] fun v L => Q v ∧ L = [exact' W]) :
    Calls P f args W fun e W' => ∃ v, e = .returned v ∧ Q v ∧ Sat ([exact' W] ++ []) (hpOf W') ∧ Old W W' := by
  unfold Tri at h
  refine (h W [] (exact_sat W)).mono ?_
  rintro e W' ⟨v, L, he, ⟨hq, rfl⟩, hs, ho⟩
  exact ⟨v, he, hq, hs, ho⟩
end Go.Proofs.YtemaaenipjinaaaGreat
end
section
namespace Go.Proofs.YtemaaenipjinaaaGreat
open Go.ChangeShapes Go.WideShapes Go.ChangeAt Go.RowKit Go.Deep
section
variable {H : Type} {enc : TypeId × Value → H} {w : World} {base fuel : Nat} {spare : Nat → Bool} {held : Bool} {cs : List Value} {x : DataW H × List MemPlace}
theorem ins_of (h : DataW.trod enc Tryz.prog w base spare held fuel 140 cs = some x) : ∃ i : Ins, cs = i.v := by
  obtain ⟨hl, hf⟩ := trod_fld Tryz.underlying140 h 5 (by kernel_rfl)
  obtain ⟨_, _, h0⟩ := hf 0 _ 0 1 rfl rfl (by kernel_rfl)
  obtain ⟨_, _, h1⟩ := hf 1 _ 1 1 rfl rfl (by kernel_rfl)
  obtain ⟨_, _, h2⟩ := hf 2 _ 2 1 rfl rfl (by kernel_rfl)
  obtain ⟨_, _, h3⟩ := hf 3 _ 3 1 rfl rfl (by kernel_rfl)
  obtain ⟨_, _, h4⟩ := hf 4 _ 4 1 rfl rfl (by kernel_rfl)
  obtain ⟨a0, e0, _, _⟩ := DataW.trod_int Tryz.underlying3 h0
  obtain ⟨a1, e1, _, _⟩ := DataW.trod_int Tryz.underlying3 h1
  obtain ⟨a2, e2, _, _⟩ := DataW.trod_int Tryz.underlying3 h2
  obtain ⟨a3, e3, _, _⟩ := DataW.trod_int Tryz.underlying3 h3
  obtain ⟨a4, e4, _, w4⟩ := DataW.trod_int Tryz.underlying22 h4
  have := wf_u64 w4
  match cs, hl with
  | [c0, c1, c2, c3, c4], _ =>
    injection e0 with e0 _; injection e1 with e1 _; injection e2 with e2 _; injection e3 with e3 _; injection e4 with e4 _
    subst e0; subst e1; subst e2; subst e3; subst e4
    refine ⟨⟨a0, a1, a2, a3, a4.toNat⟩, ?_⟩
    unfold Ins.v
    dsimp only
    rw [Int.toNat_of_nonneg (by omega)]
theorem four_of (h : DataW.trod enc Tryz.prog w base spare held fuel 26 cs = some x) : ∃ l : List Nat, l.length = 4 ∧ cs = g4 l := by
  obtain ⟨xs, m, _, _, hl, hx, hf⟩ := DataW.trod_array Tryz.underlying26 h
  rw [show Tryz.prog.cellsOf 26 = 4 by kernel_rfl] at hl
  rw [show Tryz.prog.cellsOf 22 = 1 by kernel_rfl] at hf
  have hi : ∀ i, i < 4 → ∃ a : Nat, (cs.drop (i * 1)).take 1 = [.int .u64 (a : Int)] := fun i hi => by
    have h1 := hf i hi
    rw [List.getElem?_eq_getElem (by omega)] at h1
    obtain ⟨a, e, _, wa⟩ := DataW.trod_int Tryz.underlying22 h1
    have := wf_u64 wa
    exact ⟨a.toNat, by rw [e, Int.toNat_of_nonneg (by omega)]⟩
  obtain ⟨a0, e0⟩ := hi 0 (by decide)
  obtain ⟨a1, e1⟩ := hi 1 (by decide)
  obtain ⟨a2, e2⟩ := hi 2 (by decide)
  obtain ⟨a3, e3⟩ := hi 3 (by decide)
  match cs, hl with
  | [c0, c1, c2, c3], _ =>
    injection e0 with e0 _; injection e1 with e1 _; injection e2 with e2 _; injection e3 with e3 _
    subst e0; subst e1; subst e2; subst e3
    exact ⟨[a0, a1, a2, a3], rfl, rfl⟩
theorem call_of (h : DataW.trod enc Tryz.prog w base spare held fuel 28 cs = some x) : ∃ (jp : Int) (l : List Nat), l.length = 4 ∧ cs = .int .i64 jp :: g4 l := by
  obtain ⟨hl, hf⟩ := trod_fld Tryz.underlying28 h 5 (by kernel_rfl)
  obtain ⟨_, _, h0⟩ := hf 0 _ 0 1 rfl rfl (by kernel_rfl)
  obtain ⟨_, _, h1⟩ := hf 1 _ 1 4 rfl rfl (by kernel_rfl)
  obtain ⟨a, ea, _, _⟩ := DataW.trod_int Tryz.underlying3 h0
  obtain ⟨l, hl4, e1⟩ := four_of h1
  refine ⟨a, l, hl4, ?_⟩
  match cs, hl with
  | [c0, c1, c2, c3, c4], _ =>
    injection ea with ea _
    subst ea
    rw [← e1]; rfl
end
/-- a program, as it lies -/
def PrR (W : World) : Type := { p : Value × List Ins // InsR (exact' W) p.1 p.2 }
def PrR.f {W : World} (p : PrR W) : List Value := [p.1.1]
theorem prog_of {H : Type} {enc : TypeId × Value → H} {W : World} {fuel : Nat} {cs : List Value} {x : DataW H × List MemPlace} (h : DataW.trod enc Tryz.prog W 0 (fun _ => true) true fuel 78 cs = some x) : ∃ p : PrR W, cs = p.f := by
  obtain ⟨ad, code, cap, e0, _, _, hr⟩ := slice_cs Ins.v Ins.v_len (by decide) Tryz.underlying78 (by kernel_rfl) (fun _ _ _ h => ins_of h) h
  exact ⟨⟨(.slice ad code.length cap, code), ad, cap, rfl, hr⟩, e0⟩
theorem progs_of {W : World} {ad : Option Addr} {cap : Nat} (l : List (PrR W)) (h1 : l.length ≤ cap) (h2 : cap ≤ maxLen) (h : l.length = 0 ∨ ∃ b o blk rest, ad = some ⟨b, o, none⟩ ∧ RdC (exact' W) b blk ∧ DropN o blk (l.flatMap PrR.f ++ rest)) :
    ProgsG (exact' W) (.slice ad l.length cap) (l.map fun p => p.1.2) := by
  have hm : maxLen = 9223372036854775807 := by decide
  refine ⟨ad, cap, by rw [List.length_map], by rw [List.length_map]; omega, fun i hi => ?_⟩
  rw [List.length_map] at hi
  rcases h with h | ⟨b, o, blk, rest, e1, e2, e3⟩
  · omega
  · have hd := e3.add ((DropN.flat (f := PrR.f) (sz := 1) (fun _ => rfl) hi).more rest)
    refine ⟨b, o, blk, l[i].1.1, e1, e2, ?_, ?_⟩
    · exact NthN.part (j := 0) hd (TakeN.succ .zero) .zero
    · rw [List.getElem_map]; exact l[i].2
end Go.Proofs.YtemaaenipjinaaaGreat
end
section
namespace Go.Proofs.YtemaaenipjinaaaGreat
open Go.ChangeShapes Go.WideShapes Go.ChangeAt Go.RowKit Go.Deep
def dI (t : Int) : List Value := [.int .i64 t]
def JbR : Type := { j : Jb // j.args.length = 4 }
def JbR.f (j : JbR) : List Value := jbV j.1
/-- a thread's calls, as they lie -/
def ClR (W : World) : Type := { p : Option Addr × Nat × List Jb // (∀ j ∈ p.2.2, j.args.length = 4) ∧ RdS jbV (exact' W) p.1 p.2.2 }
def ClR.f {W : World} (p : ClR W) : List Value := [.slice p.1.1 p.1.2.2.length p.1.2.1]
section
variable {H : Type} {enc : TypeId × Value → H} {W : World} {fuel : Nat} {cs : List Value} {x : DataW H × List MemPlace}
theorem job_of (h : DataW.trod enc Tryz.prog W 0 (fun _ => true) true fuel 28 cs = some x) : ∃ j : JbR, cs = j.f := by
  obtain ⟨jp, l, hl, rfl⟩ := call_of h
  exact ⟨⟨⟨jp, l⟩, hl⟩, rfl⟩
theorem calls_of (h : DataW.trod enc Tryz.prog W 0 (fun _ => true) true fuel 95 cs = some x) : ∃ p : ClR W, cs = p.f := by
  obtain ⟨ad, l, cap, e0, _, _, hr⟩ := slice_cs JbR.f (fun j => jbV_len j.1) (by decide) Tryz.underlying95 (by kernel_rfl) (fun _ _ _ h => job_of h) h
  have hf : (l.map fun j => j.1).flatMap jbV = l.flatMap JbR.f := by rw [List.flatMap_map]; rfl
  refine ⟨⟨(ad, cap, l.map fun j => j.1), fun j hj => ?_, ?_⟩, ?_⟩
  · obtain ⟨y, _, rfl⟩ := List.mem_map.1 hj
    exact y.2
  · unfold RdS
    dsimp only
    rw [hf, List.length_map]
    exact hr
  · unfold ClR.f
    dsimp only
    rw [List.length_map]; exact e0
theorem int_of (h : DataW.trod enc Tryz.prog W 0 (fun _ => true) true fuel 3 cs = some x) : ∃ t : Int, cs = dI t := by
  obtain ⟨a, e, _, _⟩ := DataW.trod_int Tryz.underlying3 h
  exact ⟨a, e⟩
end
theorem callss_of {W : World} {ad : Option Addr} {cap : Nat} (l : List (ClR W)) (h1 : l.length ≤ cap) (h2 : cap ≤ maxLen) (h : l.length = 0 ∨ ∃ b o blk rest, ad = some ⟨b, o, none⟩ ∧ RdC (exact' W) b blk ∧ DropN o blk (l.flatMap ClR.f ++ rest)) :
    CallsG (exact' W) (.slice ad l.length cap) (l.map fun p => p.1.2.2) := by
  have hm : maxLen = 9223372036854775807 := by decide
  refine ⟨ad, cap, by rw [List.length_map], by rw [List.length_map]; omega, fun i hi => ?_⟩
  rw [List.length_map] at hi
  rcases h with h | ⟨b, o, blk, rest, e1, e2, e3⟩
  · omega
  · have hd := e3.add ((DropN.flat (f := ClR.f) (sz := 1) (fun _ => rfl) hi).more rest)
    refine ⟨b, o, blk, l[i].1.1, l[i].1.2.1, e1, e2, ?_, ?_⟩
    · rw [List.getElem_map]
      exact NthN.part (j := 0) hd (TakeN.succ .zero) .zero
    · rw [List.getElem_map]; exact l[i].2.2
theorem callss_four {W : World} (l : List (ClR W)) : ∀ c ∈ (l.map fun p => p.1.2.2), ∀ j ∈ c, j.args.length = 4 := fun c hc => by
  obtain ⟨p, _, rfl⟩ := List.mem_map.1 hc
  exact p.2.1
end Go.Proofs.YtemaaenipjinaaaGreat
end
