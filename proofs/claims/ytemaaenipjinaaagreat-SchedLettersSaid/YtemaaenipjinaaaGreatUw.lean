/-
  Package sched: letters pick threads as their numbers do, in plain terms.
-/
import Derived.Test.YtemaaenipjinaaaGreatUt
import Derived.Test.YtemaaenipjinaaaGreatUv
import Derived.Test.YtemaaenipjinaaaGreatSl
namespace Go.Proofs.YtemaaenipjinaaaGreat
set_option maxRecDepth 100000
theorem playGo_runes (c : Cfg) (progs : Progs) (s : ByteArray) : ∀ (rs : List Nat) (k pos : Nat) (x : Sd × Nat), Runes s pos rs → rs.length < k → playGo c progs s k pos x = rs.foldl (playR c progs) x
  | _, 0, _, _, _, hk => absurd hk (Nat.not_lt_zero _)
  | [], k + 1, pos, x, h, _ => by
    rw [playGo, if_pos (show s.data.size ≤ pos from Nat.le_of_eq h), List.foldl_nil]
  | r :: rs, k + 1, pos, x, h, hk => by
    obtain ⟨h1, h2, h3⟩ := h
    have e := decode_enc h1 h2
    have hp := (enc_pos (r : Int)).1
    have hlt : ¬ s.data.size ≤ pos := by
      have h4 : pos + (Utf8.encode (r : Int)).size ≤ s.data.size := h2.1
      omega
    have hk2 : rs.length < k := by rw [List.length_cons] at hk; omega
    have ih := playGo_runes c progs s rs k (pos + (Utf8.encode (r : Int)).size) (playR c progs x r) h3 hk2
    generalize Utf8.encode (r : Int) = en at e ih
    rw [playGo, if_neg hlt, e, List.foldl_cons]
    exact ih
theorem playM_encs (c : Cfg) (progs : Progs) (m : Sd) {l : List Nat} (h : ∀ r ∈ l, Utf8.valid (r : Int) = true) : playM c progs (encs l) m = l.foldl (playR c progs) (m, 0) := by
  refine playGo_runes c progs (encs l) l _ 0 _ (encs_runes l h) ?_
  have h1 : l.length ≤ (encs l).data.size := (encs_size l).1
  omega
/-- what comes of a rune outside a to h -/
def NoL (l : List Nat) : Prop := ∀ r ∈ l, (r < 97 ∨ 105 ≤ r) ∧ Utf8.valid (r : Int) = true
section
variable {c : Cfg} (hc : Small c) (hf : 0 ≤ c.fuel ∧ c.fuel ≤ 1000) {progs : Progs}
include hc in
theorem fold_no {m : Sd} (hi : SdI c progs m) (n : Nat) : ∀ l : List Nat, NoL l → l.foldl (playR c progs) (m, n) = (m, n)
  | [], _ => rfl
  | r :: l, h => by
    have h1 := (h r (by simp)).1
    have e : playR c progs (m, n) r = (m, n) := by
      unfold playR
      split
      · have hid : m.idle ((r : Int) - 97) = true := idle_out (.inr (by have := hi.n; have := hc.t1; omega))
        dsimp only
        rw [pick_idle hid]
        rfl
      · rfl
    rw [List.foldl_cons, e]
    exact fold_no hi n l fun x hx => h x (by simp [hx])
/-- the runes of picks, with noise behind each -/
def txR (oth : List Nat) : List Nat → List Nat
  | [] => []
  | t :: ts => (if t < 8 then (97 + t) :: oth else []) ++ txR oth ts
theorem txR_app (oth : List Nat) : ∀ a b : List Nat, txR oth (a ++ b) = txR oth a ++ txR oth b
  | [], b => rfl
  | t :: a, b => by
    show (if t < 8 then (97 + t) :: oth else []) ++ txR oth (a ++ b) = _
    rw [txR_app oth a b, ← List.append_assoc]; rfl
theorem txR_len (oth : List Nat) : ∀ a : List Nat, (txR oth a).length ≤ a.length * (oth.length + 1)
  | [] => Nat.le_of_eq (by simp [txR])
  | t :: a => by
    have ih := txR_len oth a
    have e : (txR oth (t :: a)).length = (if t < 8 then (97 + t) :: oth else []).length + (txR oth a).length := by
      show ((if t < 8 then (97 + t) :: oth else []) ++ txR oth a).length = _
      rw [List.length_append]
    have h : (if t < 8 then (97 + t) :: oth else []).length ≤ oth.length + 1 := by
      split
      · exact Nat.le_refl _
      · exact Nat.zero_le _
    rw [e, List.length_cons, Nat.succ_mul]
    omega
theorem txR_ok {oth : List Nat} (h : NoL oth) : ∀ a : List Nat, ∀ r ∈ txR oth a, Utf8.valid (r : Int) = true
  | [], r, hr => by cases hr
  | t :: a, r, hr => by
    have hr : r ∈ (if t < 8 then (97 + t) :: oth else []) ++ txR oth a := hr
    rcases List.mem_append.1 hr with hr | hr
    · split at hr
      · rcases List.mem_cons.1 hr with rfl | hr
        · unfold Utf8.valid
          simp only [Bool.or_eq_true, Bool.and_eq_true, decide_eq_true_eq]
          exact .inl ⟨by omega, by omega⟩
        · exact (h r hr).2
      · cases hr
    · exact txR_ok h a r hr
include hc hf in
theorem fold_tx {oth : List Nat} (ho : NoL oth) : ∀ (ts : List Nat) {m : Sd}, SdI c progs m → (txR oth ts).foldl (playR c progs) (m, m.picks) = (runP c progs m (ts.map Int.ofNat), (runP c progs m (ts.map Int.ofNat)).picks)
  | [], _, _ => rfl
  | t :: ts, m, hi => by
    have hp := pick_cases c progs m (t : Int)
    have hi2 := hi.pick hc hf (t : Int)
    show ((if t < 8 then (97 + t) :: oth else []) ++ txR oth ts).foldl (playR c progs) (m, m.picks) = (runP c progs (m.pick c progs (t : Int)).1 (ts.map Int.ofNat), (runP c progs (m.pick c progs (t : Int)).1 (ts.map Int.ofNat)).picks)
    rw [List.foldl_append]
    by_cases h8 : t < 8
    · have e : playR c progs (m, m.picks) (97 + t) = ((m.pick c progs (t : Int)).1, (m.pick c progs (t : Int)).1.picks) := by
        unfold playR
        rw [if_pos (by omega), show (((97 + t : Nat) : Int) - 97) = (t : Int) by omega, hp]
        dsimp only
        split <;> rfl
      rw [if_pos h8, List.foldl_cons, e, fold_no hc hi2 _ oth ho]
      exact fold_tx ho ts hi2
    · have hid : m.idle (t : Int) = true := idle_out (.inr (by have := hi.n; have := hc.t1; omega))
      rw [if_neg h8, pick_idle hid]
      exact fold_tx ho ts hi
end
/-- a number's last four bits -/
def msk (a : Int) : Nat := (BitVec.ofInt 64 a &&& BitVec.ofInt 64 15).toNat
theorem msk_le (a : Int) : msk a ≤ 15 := by
  unfold msk
  rw [BitVec.toNat_and, show (BitVec.ofInt 64 15).toNat = 15 from rfl]
  exact Nat.and_le_right
theorem msk_and (a : Int) : AndIs .i64 a 15 (msk a : Int) := by
  have h := msk_le a
  unfold AndIs
  exact wrap_fits (kd := .i64) (n := (msk a : Int)) (by simp only [fits]; omega)
end Go.Proofs.YtemaaenipjinaaaGreat
