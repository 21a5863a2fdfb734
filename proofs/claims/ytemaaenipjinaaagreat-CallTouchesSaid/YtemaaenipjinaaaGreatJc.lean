/-
  Ranges over functions that hand memory on; lists that can be read.
-/
import Derived.Test.YtemaaenipjinaaaGreatInsc
namespace Go.Proofs.YtemaaenipjinaaaGreat
set_option maxRecDepth 100000
/-- a slice that can be read -/
def ListR {α : Type} (f : α → List Value) (q : HProp) (v : Value) (xs : List α) : Prop :=
  ∃ ad cap, v = .slice ad xs.length cap ∧ xs.length ≤ cap ∧ (xs.length = 0 ∨ ∃ b o l rest, ad = some ⟨b, o, none⟩ ∧ RdC q b l ∧ DropN o l (xs.flatMap f ++ rest))
theorem ListR.at {α : Type} {f : α → List Value} {sz : Nat} (hf : ∀ x, (f x).length = sz) {q : HProp} {ad : Option Addr} {xs : List α} (h : xs.length = 0 ∨ ∃ b o l rest, ad = some ⟨b, o, none⟩ ∧ RdC q b l ∧ DropN o l (xs.flatMap f ++ rest)) (i : Nat) (hi : i < xs.length) :
    ∃ b o l l1, ad = some ⟨b, o, none⟩ ∧ RdC q b l ∧ DropN (o + (i : Int).toNat * sz) l l1 ∧ TakeN sz l1 (f xs[i]) := by
  rcases h with h | ⟨b, o, l, rest, h1, h2, h3⟩
  · omega
  · refine ⟨b, o, l, f xs[i] ++ (xs.drop (i + 1)).flatMap f ++ rest, h1, h2, h3.add ((DropN.flat hf hi).more rest), ?_⟩
    rw [List.append_assoc]; rw [← hf xs[i]]; exact TakeN.app (f xs[i]) _
theorem ListR.fix {α : Type} {f : α → List Value} {sz : Nat} (hf : ∀ x, (f x).length = sz) {q : HProp} {ad : Option Addr} {xs : List α} (h : xs.length = 0 ∨ ∃ b o l rest, ad = some ⟨b, o, none⟩ ∧ RdC q b l ∧ DropN o l (xs.flatMap f ++ rest)) (h0 : 0 < xs.length) :
    ∃ b o l, ad = some ⟨b, o, none⟩ ∧ RdC q b l ∧ ∀ i (hi : i < xs.length), ∃ l1, DropN (o + (i : Int).toNat * sz) l l1 ∧ TakeN sz l1 (f xs[i]) := by
  rcases h with h | ⟨b, o, l, rest, h1, h2, h3⟩
  · omega
  · refine ⟨b, o, l, h1, h2, fun i hi => ⟨f xs[i] ++ (xs.drop (i + 1)).flatMap f ++ rest, h3.add ((DropN.flat hf hi).more rest), ?_⟩⟩
    rw [List.append_assoc]; rw [← hf xs[i]]; exact TakeN.app (f xs[i]) _
theorem NthN.part {α : Type} {n m j : Nat} {l l1 vs : List α} {v : α} (h : DropN n l l1) (k : TakeN m l1 vs) (e : NthN j vs v) : NthN (n + j) l v := by
  obtain ⟨h1, _⟩ := h.eq
  obtain ⟨h3, _⟩ := k.eq
  have h5 := e.eq
  refine NthN.of ?_
  rw [← h3, ← h1, List.getElem?_take, List.getElem?_drop] at h5
  split at h5
  · exact h5
  · cases h5
theorem St.rowL {P : Program} {C : Cx} {k : List Item} {E : Env} {L : List HProp} {α : Type} {f : α → List Value} {v : Value} {e sz n : Nat} {xs : List α} (hn : xs.length = n)
    (h : ∀ R, ListR f R v xs → St P C k E (R :: L)) : St P C k E (Row v e sz n (xs.flatMap f) :: L) := by
  refine St.rowC (fun h0 h1 _ => ?_) (fun g cap rest hv hr => ?_)
  · exact (h (Row (.slice none 0 0) e sz 0 []) ⟨none, 0, by rw [h0, hn, h1], by omega, .inl (by omega)⟩).conv (Sub.refl _) (Ent.row_nil e sz)
  · exact h _ ⟨_, _, by rw [hv, hn], by rw [hn]; exact hr.le, .inr ⟨g, 0, _, rest, rfl, RdC.bl, .zero⟩⟩
theorem sat_rowL {α : Type} {f : α → List Value} {v : Value} {e sz n : Nat} {xs : List α} {L : List HProp} {h : Hp} (hn : xs.length = n) (hs : Sat (Row v e sz n (xs.flatMap f) :: L) h) : ∃ R, ListR f R v xs ∧ Sat (R :: L) h := by
  have hs0 := hs
  rw [sat_cons] at hs
  obtain ⟨h1, h2, hd, hor, ⟨hl, hr⟩, hL⟩ := hs
  rcases hr with ⟨hv, hz⟩ | ⟨g, cap, cur, rfl, hc, hm, hcs, htk, hp⟩
  · exact ⟨_, ⟨none, 0, by rw [hv, hn, hz], by omega, .inl (by omega)⟩, hs0⟩
  · refine ⟨bl g e (xs.flatMap f ++ cur.toList.drop (n * sz)), ⟨_, _, by rw [hn], by rw [hn]; exact hc, .inr ⟨g, 0, _, cur.toList.drop (n * sz), rfl, RdC.bl, .zero⟩⟩, ?_⟩
    rw [sat_cons]
    refine ⟨h1, h2, hd, hor, ?_, hL⟩
    rw [← htk, List.take_append_drop]
    exact hp
theorem StL.rowL {P : Program} {C : Cx} {ops : Array Oper} {l : List Oper} {k : List Item} {E : Env} {L : List HProp} {α : Type} {f : α → List Value} {v : Value} {e sz n : Nat} {xs : List α} (hn : xs.length = n)
    (h : ∀ R, ListR f R v xs → StL P C ops l k E (R :: L)) : StL P C ops l k E (Row v e sz n (xs.flatMap f) :: L) := by
  unfold StL at *
  intro a w ha hs ho
  obtain ⟨R, hR, hs⟩ := sat_rowL hn hs
  exact h R hR a w ha hs ho
theorem Tri.rowL {P : Program} {g : FuncId} {args : Array Value} {Q : Value → List HProp → Prop} {L : List HProp} {α : Type} {f : α → List Value} {v : Value} {e sz n : Nat} {xs : List α} (hn : xs.length = n)
    (h : ∀ R, ListR f R v xs → Tri P g args (R :: L) Q) : Tri P g args (Row v e sz n (xs.flatMap f) :: L) Q := by
  unfold Tri at *
  intro w F hs
  obtain ⟨R, hR, hs⟩ := sat_rowL hn hs
  exact h R hR w F hs
/-- several assertions as one -/
def star (L : List HProp) : HProp := ex (ι := Unit) fun _ => L
theorem Ent.star_in (L : List HProp) {M : List HProp} : Ent (L ++ M) (star L :: M) := Ent.ex_in (Ls := fun _ : Unit => L) ()
theorem Ent.star_out {L M : List HProp} : Ent (star L :: M) (L ++ M) := by
  unfold Ent
  intro h hs
  obtain ⟨_, h1⟩ := sat_ex hs
  exact h1
theorem Ent.star_snoc (L : List HProp) (p : HProp) {M : List HProp} : Ent (p :: star L :: M) (star (L ++ [p]) :: M) := by
  refine Ent.trans ?_ (Ent.star_in (L ++ [p]))
  refine Ent.trans (Ent.cons Ent.star_out) ?_
  rw [List.append_assoc]
  exact Ent.mid
theorem Ent.star_cons (p : HProp) (L : List HProp) {M : List HProp} : Ent (star (p :: L) :: M) (p :: star L :: M) := Ent.trans Ent.star_out (Ent.cons (Ent.star_in L))
theorem StI.then {P : Program} {ro : Option Nat} {nt : Fi} {w0 : World} {ops : Array Oper} {y : Code} {E : Env} {L : List HProp} {Q : Exit → Act → World → Prop} (h : StR P ro nt w0 y E L Q) : StI P ro nt w0 ops (Exit.then (y.wpIn (fnc ro) 0 P Q) Q) [] E L := by
  unfold StR at h
  exact StI.nil h
theorem StR.skipE {P : Program} {ro : Option Nat} {nt : Fi} {w0 : World} {E : Env} {L L1 : List HProp} {Q : Exit → Act → World → Prop} (he : Ent L L1) (h : ∀ a w, Sat L1 (hpOf w) → Old w0 w → Q .normal a w) : StR P ro nt w0 .skip E L Q := by
  unfold Ent at he
  exact StR.skip fun a w _ hs ho => h a w (he _ hs) ho
theorem RdC.star {L : List HProp} {p : HProp} (hp : p ∈ L) {b : Nat} {l : List Value} (h : RdC p b l) : RdC (star L) b l := by
  refine RdC.of_sat (L := L) (p := Go.Proofs.YtemaaenipjinaaaGreat.star L) (fun k hk => ?_) ?_
  · obtain ⟨_, hs⟩ := hk
    exact hs
  · induction L with
    | nil => cases hp
    | cons q L ih =>
      rcases List.mem_cons.1 hp with rfl | hp
      · exact .here h
      · exact .there (ih hp)
theorem ListR.weak {α : Type} {f : α → List Value} {q q' : HProp} {v : Value} {xs : List α} (h : ListR f q v xs) (hq : ∀ b l, RdC q b l → RdC q' b l) : ListR f q' v xs := by
  obtain ⟨ad, cap, h1, h0, h2⟩ := h
  refine ⟨ad, cap, h1, h0, ?_⟩
  rcases h2 with h2 | ⟨b, o, l, rest, e, hr, hd⟩
  · exact .inl h2
  · exact .inr ⟨b, o, l, rest, e, hq _ _ hr, hd⟩
theorem mput_all {κ β : Type} [DecidableEq κ] {q : β → Prop} (k : κ) (x : β) (hx : q x) : ∀ (m : List (κ × β)), (∀ p ∈ m, q p.2) → ∀ p ∈ mput m k x, q p.2
  | [], _, p, hp => by
    simp only [mput, List.mem_singleton] at hp
    subst hp; exact hx
  | (a, y) :: m, h, p, hp => by
    unfold mput at hp
    split at hp
    · rcases List.mem_cons.1 hp with rfl | hp
      · exact hx
      · exact h p (List.mem_cons_of_mem _ hp)
    · rcases List.mem_cons.1 hp with rfl | hp
      · exact h _ (List.mem_cons_self ..)
      · exact mput_all k x hx m (fun p hp => h p (List.mem_cons_of_mem _ hp)) p hp
/-- x[1:] -/
theorem ListR.tail {α : Type} {f : α → List Value} {sz : Nat} {q : HProp} {ad : Option Addr} {n cap : Nat} {x : α} {xs : List α} (hf : (f x).length = sz) (h : ListR f q (.slice ad n cap) (x :: xs)) : ListR f q (.slice (tlA ad cap sz) (n - 1) (cap - 1)) xs := by
  obtain ⟨ad', cap', h1, h0, h2⟩ := h
  injection h1 with e1 e2 e3
  subst e1 e3
  rw [List.length_cons] at e2 h0
  refine ⟨tlA ad cap sz, cap - 1, by rw [e2]; rfl, by omega, ?_⟩
  rcases h2 with h2 | ⟨b, o, l, rest, rfl, hr, hd⟩
  · simp at h2
  · by_cases h3 : xs.length = 0
    · exact .inl h3
    · refine .inr ⟨b, o + sz, l, rest, ?_, hr, ?_⟩
      · unfold tlA
        rw [if_neg (by omega), Option.map_some, Addr.add]
        split
        · next h => subst h; rfl
        · rfl
      · refine hd.add ?_
        rw [List.flatMap_cons, List.append_assoc, ← hf]
        exact DropN.app _ _
theorem ListR.len {α : Type} {f : α → List Value} {q : HProp} {ad : Option Addr} {n cap : Nat} {xs : List α} (h : ListR f q (.slice ad n cap) xs) : n = xs.length := by
  obtain ⟨_, _, h1, _⟩ := h
  injection h1 with _ e _
theorem ListR.at' {α : Type} {f : α → List Value} {sz : Nat} (hf : ∀ x, (f x).length = sz) {q : HProp} {ad : Option Addr} {n cap : Nat} {xs : List α} (h : ListR f q (.slice ad n cap) xs) (i : Nat) (hi : i < xs.length) :
    ∃ b o l l1, ad = some ⟨b, o, none⟩ ∧ RdC q b l ∧ DropN (o + (i : Int).toNat * sz) l l1 ∧ TakeN sz l1 (f xs[i]) := by
  obtain ⟨_, _, h1, _, h2⟩ := h
  injection h1 with e1 _ _
  subst e1
  exact ListR.at hf h2 i hi
end Go.Proofs.YtemaaenipjinaaaGreat
