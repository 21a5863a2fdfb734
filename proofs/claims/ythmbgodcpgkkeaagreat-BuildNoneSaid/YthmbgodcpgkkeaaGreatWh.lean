/-
  Rounds of transactions: what threads ask for, and what is written.
-/
import Derived.Test.YthmbgodcpgkkeaaGreatWg
namespace Go.Proofs.YthmbgodcpgkkeaaGreat
set_option maxRecDepth 100000
section
variable {c : Cfg} {cs : List Cell} {n : Nat}
/-- the cells of a thread that asks -/
theorem atAnn (hc : Small c) {u : Int} (hu : 0 ≤ u ∧ u < c.threads) : c.what (c.at 1 u 0) = (1, u, 0) := at_own hc (by decide) hu (by unfold Cfg.cnt; simp)
theorem atArg (hc : Small c) {u : Int} (hu : 0 ≤ u ∧ u < c.threads) {k : Nat} (hk : k < 4) : c.what (c.at 2 u k) = (2, u, (k : Int)) := at_own hc (by decide) hu (by unfold Cfg.cnt; simp; omega)
theorem wantN_cell (hc : Small c) (hl : (cs.length : Int) = c.f17) {who : Int} (hw : 0 ≤ who ∧ who < c.threads) (args : List Nat) {a : Int} (ha : 0 ≤ a ∧ a < cs.length) : ∀ k : Nat, k ≤ 4 → (wantN c cs who args k).length = cs.length ∧ ((∀ j : Nat, j < k → a ≠ c.at 2 who j) → cellI (wantN c cs who args k) a = cellI cs a) ∧ ∀ j : Nat, j < k → a = c.at 2 who j → (cellI (wantN c cs who args k) a).val = args.getD j 0
  | 0, _ => ⟨rfl, fun _ => rfl, fun j hj => absurd hj (Nat.not_lt_zero _)⟩
  | k + 1, hk => by
    obtain ⟨h1, h2, h3⟩ := wantN_cell hc hl hw args ha k (by omega)
    have e : cellI (wantN c cs who args (k + 1)) a = if c.at 2 who k = a then ⟨args.getD k 0, 0⟩ else cellI (wantN c cs who args k) a := by
      rw [wantN, cellI_setOf ha.1 (by omega)]
    refine ⟨by rw [wantN, setOf_len]; exact h1, fun hn => ?_, fun j hj ej => ?_⟩
    · rw [e, if_neg (Ne.symm (hn k (by omega)))]
      exact h2 fun j hj => hn j (by omega)
    · rw [e]
      by_cases ek : j = k
      · subst ek; rw [if_pos ej.symm]
      · rw [if_neg]
        · exact h3 j (by omega) ej
        · intro e'
          have w1 := atArg hc hw (k := k) (by omega)
          rw [e', ej, atArg hc hw (by omega)] at w1
          injection w1 with _ w2
          injection w2 with _ w3
          omega
def wantC (c : Cfg) (cs : List Cell) (who : Int) (prog : Nat) (args : List Nat) (tag : Nat) : List Cell := setOf (wantN c cs who args 4) (c.at 1 who 0) ⟨prog, tag⟩
theorem atAA (hc : Small c) {u u' : Int} (hu : 0 ≤ u ∧ u < c.threads) (hu' : 0 ≤ u' ∧ u' < c.threads) {k : Nat} (hk : k < 4) : c.at 1 u 0 ≠ c.at 2 u' k := fun e => by
  have w1 := atAnn hc hu
  rw [e, atArg hc hu' hk] at w1
  injection w1 with w2
  exact absurd w2 (by decide)
/-- what a memory holds behind an asking -/
theorem want_ann (hc : Small c) (hl : (cs.length : Int) = c.f17) {who : Int} (hw : 0 ≤ who ∧ who < c.threads) (prog : Nat) {args : List Nat} (h4 : args.length = 4) (tag : Nat) : (wantC c cs who prog args tag).length = cs.length ∧ (∀ a, Tx c a → cellI (wantC c cs who prog args tag) a = cellI cs a) ∧ ∀ u : Int, 0 ≤ u ∧ u < c.threads → annC c (wantC c cs who prog args tag) u = (if u = who then ⟨prog, tag⟩ else annC c cs u) ∧ argsC c (wantC c cs who prog args tag) u = if u = who then args else argsC c cs u := by
  have hf := f717 hc
  have hin : ∀ {a : Int}, 1 ≤ (c.what a).1 → 0 ≤ a ∧ a < cs.length := fun {a} ha => by
    by_cases h6 : (c.what a).1 ≤ 6
    · have := own_in (c := c) (a := a) ⟨ha, h6⟩
      omega
    · have := what_in hc (a := a) (by omega)
      unfold Tx at this
      omega
  have hN := fun (a : Int) (ha : 0 ≤ a ∧ a < cs.length) => wantN_cell hc hl hw args ha 4 (Nat.le_refl _)
  have hcell : ∀ a : Int, 0 ≤ a ∧ a < cs.length → cellI (wantC c cs who prog args tag) a = if c.at 1 who 0 = a then ⟨prog, tag⟩ else cellI (wantN c cs who args 4) a := fun a ha => by
    unfold wantC
    rw [cellI_setOf ha.1 (by rw [(hN a ha).1]; exact ha.2)]
  have h0 : 0 ≤ c.at 1 who 0 ∧ c.at 1 who 0 < cs.length := hin (by rw [atAnn hc hw]; dsimp only; omega)
  refine ⟨by unfold wantC; rw [setOf_len, (hN _ h0).1], fun a ha => ?_, fun u hu => ⟨?_, ?_⟩⟩
  · have ha' := ha
    unfold Tx at ha'
    have hb : 0 ≤ a ∧ a < cs.length := by omega
    have h1 := own_in (c := c) (a := c.at 1 who 0) (by rw [atAnn hc hw]; dsimp only; omega)
    rw [hcell a hb, if_neg (by omega)]
    refine (hN a hb).2.1 fun j hj e => ?_
    have h2 := own_in (c := c) (a := c.at 2 who j) (by rw [atArg hc hw hj]; dsimp only; omega)
    omega
  · unfold annC
    have hb : 0 ≤ c.at 1 u 0 ∧ c.at 1 u 0 < cs.length := hin (by rw [atAnn hc hu]; dsimp only; omega)
    rw [hcell _ hb]
    by_cases e : u = who
    · subst e; rw [if_pos rfl, if_pos rfl]
    · rw [if_neg e, if_neg]
      · exact (hN _ hb).2.1 fun j hj => atAA hc hu hw hj
      · intro e'
        have w1 := atAnn hc hu
        rw [← e', atAnn hc hw] at w1
        injection w1 with _ w2
        injection w2 with w3
        exact e w3.symm
  · have hk : ∀ k : Nat, k < 4 → (cellI (wantC c cs who prog args tag) (c.at 2 u k)).val = if u = who then args.getD k 0 else (cellI cs (c.at 2 u k)).val := fun k hk => by
      have hb : 0 ≤ c.at 2 u k ∧ c.at 2 u k < cs.length := hin (by rw [atArg hc hu hk]; dsimp only; omega)
      rw [hcell _ hb, if_neg (atAA hc hw hu hk)]
      by_cases e : u = who
      · subst e
        rw [if_pos rfl]
        exact (hN _ hb).2.2 k hk rfl
      · rw [if_neg e, (hN _ hb).2.1]
        intro j hj e'
        have w1 := atArg hc hu hk
        rw [e', atArg hc hw hj] at w1
        injection w1 with _ w2
        injection w2 with w3
        exact e w3.symm
    obtain ⟨a0, a1, a2, a3, rfl⟩ := len4 h4
    have e0 : (cellI (wantC c cs who prog [a0, a1, a2, a3] tag) (c.at 2 u 0)).val = if u = who then a0 else (cellI cs (c.at 2 u 0)).val := hk 0 (by decide)
    have e1 : (cellI (wantC c cs who prog [a0, a1, a2, a3] tag) (c.at 2 u 1)).val = if u = who then a1 else (cellI cs (c.at 2 u 1)).val := hk 1 (by decide)
    have e2 : (cellI (wantC c cs who prog [a0, a1, a2, a3] tag) (c.at 2 u 2)).val = if u = who then a2 else (cellI cs (c.at 2 u 2)).val := hk 2 (by decide)
    have e3 : (cellI (wantC c cs who prog [a0, a1, a2, a3] tag) (c.at 2 u 3)).val = if u = who then a3 else (cellI cs (c.at 2 u 3)).val := hk 3 (by decide)
    unfold argsC
    rw [e0, e1, e2, e3]
    by_cases e : u = who
    · rw [if_pos e, if_pos e, if_pos e, if_pos e, if_pos e]
    · rw [if_neg e, if_neg e, if_neg e, if_neg e, if_neg e]
theorem MemH.want {fs ls R : List Nat} {B : List (Int × List Nat)} (hc : Small c) (h : MemH c cs n fs ls R B) {who : Int} (hw : 0 ≤ who ∧ who < c.threads) (prog : Nat) {args : List Nat} (h4 : args.length = 4) (tag : Nat) : MemH c (wantC c cs who prog args tag) n fs ls R B := by
  obtain ⟨g1, g2, g3⟩ := want_ann hc (h.mem.sz hc) hw prog h4 tag
  have hat : ∀ {kind i j : Int}, 7 ≤ kind ∧ kind ≤ 16 → (0 ≤ i ∧ i < (c.cnt kind).1 ∧ 0 ≤ j ∧ j < (c.cnt kind).2) → (cellI (wantC c cs who prog args tag) (c.at kind i j)).val = (cellI cs (c.at kind i j)).val := fun hk hi => by rw [g2 _ (at_in hc hk hi)]
  refine ⟨⟨g1.trans h.mem.len, fun b _ => rfl, fun b hb => by rw [g2 b hb]; exact h.mem.q b hb⟩, ?_, ?_, ?_⟩
  · exact h.rep.congr2 (fun kind i hk hi => hat (by omega) hi) fun b w hb hw => hat (by decide) (in16 hb hw)
  · rw [hat (by decide) (in12 c)]; exact h.top
  · rw [hat (by decide) (in14 c)]; exact h.lim
/-- entries are written -/
def putEs (sq : Nat) (E : List (Int × Nat)) (cs : List Cell) : List Cell := E.foldl (fun cs e => setOf cs e.1 ⟨e.2, sq⟩) cs
theorem ents_wroteG (P : List (Int × Nat)) (sq : Nat) : ∀ (E : List (Int × Nat)) (cs : List Cell), putEs sq (E.filter (entB c P)) cs = wrote c (allP P) sq E cs
  | [], cs => rfl
  | e :: E, cs => by
    have he : entB c P e = !skipB c (allP P) e.1 := by
      unfold entB skipB
      by_cases h : (c.what e.1).1 = 16
      · rw [if_pos h, h]
        cases mget (allP P) (c.at 11 (c.what e.1).2.1 0) with
        | none => rfl
        | some v =>
          simp only [Option.isSome_some, Option.getD_some, Bool.true_and, beq_self_eq_true]
          congr 1
          rw [Bool.eq_iff_iff]
          simp only [bne_iff_ne, ne_eq]
          omega
      · rw [if_neg h, show ((c.what e.1).1 == 16) = false from beq_eq_false_iff_ne.2 h]; rfl
    show _ = wrote c (allP P) sq E (setE c (allP P) sq cs e)
    rw [← ents_wroteG P sq E]
    unfold setE
    cases hs : skipB c (allP P) e.1 with
    | true =>
      rw [hs] at he
      rw [List.filter_cons, if_neg (by rw [he]; decide), if_pos rfl]
    | false =>
      rw [hs] at he
      rw [List.filter_cons, if_pos (by rw [he]; rfl), if_neg (by decide)]
      rfl
theorem ents_wrote (P : List (Int × Nat)) (sq : Nat) (cs : List Cell) : putEs sq (entriesOf c P) cs = wrote c (allP P) sq (allP P) cs := ents_wroteG P sq (allP P) cs
/-- what stands behind a transaction that was written -/
structure Bdone (q : Tq) (rows : List BRow) (cs2 : List Cell) (ms : Ms) : Prop where
  mem : ∃ fs ls, MemH q.c cs2 (q.n + 1) fs ls ms.roots ms.blocks
  ann : ∀ u : Int, 0 ≤ u ∧ u < q.c.threads → annC q.c cs2 u = annC q.c q.cs u
  tag : ∀ u : Int, 0 ≤ u ∧ u < q.c.threads → (cellI cs2 (q.c.at 7 u 0)).val = if pendB q.c q.cs u = true then (annC q.c q.cs u).seq else (cellI q.cs (q.c.at 7 u 0)).val
  told : ∀ r ∈ rows, (cellI cs2 (q.c.at 8 r.who 0)).val = r.rc.toNat ∧ (cellI cs2 (q.c.at 9 r.who 0)).val = r.rv ∧ (cellI cs2 (q.c.at 7 r.who 0)).val = r.tag
end
theorem BU.done {q : Tq} (hq : Tok q) {rows : List BRow} {P : List (Int × Nat)} {p : Po} {v : Vw} {ms : Ms} (h : BU q q.c.threads.toNat rows P p v ms) {cs : List Cell} (hm : MemB q.c q.cs cs q.n) :
    Bdone q rows (putEs (q.n + 1) (entriesOf q.c (endP q.c q.c.cap.toNat p P)) cs) ms := by
  have hc := hq.hc
  have ht0 := hc.t0
  have hl := h.len
  obtain ⟨fs, ls, hj⟩ := h.jr
  have hfin := hj.fin hc (by omega) (by omega) hm.v hq.mem.top hq.mem.lim (sq' := q.n + 1) (Nat.le_succ _)
  obtain ⟨_, _, _, e4⟩ := endP_v (room := q.c.cap.toNat) hc (p := p) hj.pk (hj.room hc (by omega) (by omega)) hq.mem.top hq.mem.lim hj.wt hj.wl hj.nt hj.nl
  rw [ents_wrote]
  have hsz := hm.v.sz hc
  have hcell : ∀ {kind u : Int}, 7 ≤ kind ∧ kind ≤ 9 → 0 ≤ u ∧ u < q.c.threads → (cellI (wrote q.c (allP (endP q.c q.c.cap.toNat p P)) (q.n + 1) (allP (endP q.c q.c.cap.toNat p P)) cs) (q.c.at kind u 0)).val = ovl P q.V (q.c.at kind u 0) := fun {kind u} hk hu => by
    have hi := in7 (c := q.c) hk hu
    have hx := at_in hc (kind := kind) (i := u) (j := 0) (by omega) hi
    have hx' := hx
    have hf := f717 hc
    unfold Tx at hx'
    have hw := at_rest hc (kind := kind) (i := u) (k := 0) (by omega) ⟨hi.1, hi.2.1⟩ ⟨hi.2.2.1, hi.2.2.2⟩
    have hns : skipB q.c (allP (endP q.c q.c.cap.toNat p P)) (q.c.at kind u 0) = false := by
      unfold skipB
      rw [hw, show ((kind, u, (0 : Int)).1 == 16) = false from beq_eq_false_iff_ne.2 (by dsimp only; omega)]; rfl
    rw [wrote_cell _ _ _ _ (allP_nod _) _ (by omega) (by omega), ← e4 _ (ne_kind hc (by omega) (by decide) hi (in12 q.c) (by omega)) (ne_kind hc (by omega) (by decide) hi (in14 q.c) (by omega))]
    unfold ovl
    cases mget (allP (endP q.c q.c.cap.toNat p P)) (q.c.at kind u 0) with
    | none => exact hm.v.v _ hx
    | some x => dsimp only; rw [if_neg (by rw [hns]; decide)]; rfl
  refine ⟨⟨fs, ls, hfin⟩, fun u hu => ?_, fun u hu => ?_, fun r hr => ?_⟩
  · have hw := atAnn hc hu
    have ho := own_in (c := q.c) (a := q.c.at 1 u 0) (by rw [hw]; dsimp only; omega)
    unfold annC
    rw [← hm.o (q.c.at 1 u 0) (by rw [hw]; exact .inl rfl)]
    have hf := f717 hc
    rw [wrote_cell _ _ _ _ (allP_nod _) _ (by omega) (by omega)]
    have hno : mget (allP (endP q.c q.c.cap.toNat p P)) (q.c.at 1 u 0) = none := by
      have hkey : ∀ x ∈ endP q.c q.c.cap.toNat p P, x.1 ≠ q.c.at 1 u 0 := h.keys1 hq p hu
      cases e : mget (allP (endP q.c q.c.cap.toNat p P)) (q.c.at 1 u 0) with
      | none => rfl
      | some y =>
        exfalso
        obtain ⟨x, hx, ex⟩ := keysP_mem (gkey e)
        exact hkey x hx ex
    rw [hno]
  · rw [hcell (by decide) hu]
    cases hp : pendB q.c q.cs u with
    | true =>
      rw [if_pos rfl]
      have : u ∈ rows.map (·.who) := by
        rw [h.whos, List.mem_filter, List.mem_map]
        exact ⟨⟨u.toNat, List.mem_range.2 (by omega), by omega⟩, hp⟩
      obtain ⟨r, hr, e⟩ := List.mem_map.1 this
      rw [← e, (h.told r hr).1.2.2, h.tags r hr]
    | false =>
      rw [if_neg (by decide)]
      refine h.rest u hu.1 hu.2 fun hi => ?_
      rw [h.whos, List.mem_filter] at hi
      rw [hi.2] at hp
      cases hp
  · obtain ⟨w1, w2, _⟩ := h.who_lt hr
    have hu : 0 ≤ r.who ∧ r.who < q.c.threads := ⟨w1, by omega⟩
    obtain ⟨⟨h1, h2, h3⟩, _⟩ := h.told r hr
    exact ⟨(hcell (by decide) hu).trans h1, (hcell (by decide) hu).trans h2, (hcell (by decide) hu).trans h3⟩
end Go.Proofs.YthmbgodcpgkkeaaGreat
