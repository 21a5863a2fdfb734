/-
  A map from three numbers to one; how often each key stands in a list.
-/
import Derived.Test.YtemaaenipjinaaaGreatSu3
import Derived.Test.YtemaaenipjinaaaGreatSup
namespace Go.Proofs.YtemaaenipjinaaaGreat
set_option maxRecDepth 100000
def k3 (k : Int × Int × Int) : Value := .agg ⟨[.int .i64 k.1, .int .i64 k.2.1, .int .i64 k.2.2]⟩
theorem ck3 (e : Bool) (n : Nat) (a : Int × Int × Int) (w : World) : (Instr.checkKey e (n + 2) 121 (k3 a)).run Tryz.prog w = .ok () w := by
  have hs : ∀ w, (sizeOf 3).run Tryz.prog w = .ok 1 w := (inferInstance : Siz Tryz.prog 3 1).h
  have hg : ∀ w, (isAgg 3).run Tryz.prog w = .ok false w := (inferInstance : IsAg Tryz.prog 3 false).h
  have hi : ∀ (v : Int) w, (Instr.checkKey e (n + 1) 3 (.int .i64 v)).run Tryz.prog w = .ok () w := fun v w => by simp [Instr.checkKey, run_underlying Tryz.underlying3]
  rw [Instr.checkKey]
  simp only [Sem.run_bind, run_underlying Tryz.underlying121, Result.andThen_ok, k3]
  simp only [Std.Legacy.Range.forIn_eq_forIn_range', Std.Legacy.Range.size, Nat.sub_zero, Nat.add_one_sub_one, Nat.div_one, show List.range' 0 3 = [0, 1, 2] from rfl]
  simp [Sem.run_bind, hs, part, hg, hi]
theorem mget3 (a b : Int × Int × Int) (w : World) : (Op.equal 121 (k3 a) (k3 b)).run Tryz.prog w = .ok (decide (a = b)) w := by
  have h := EqV.arr (P := Tryz.prog) (m := 0) (t := 121) (k := .i64) (k' := .i64) (e := 3) (n := 3) (xs := [a.1, a.2.1, a.2.2]) (ys := [b.1, b.2.1, b.2.2]) (by kernel_rfl) rfl rfl
  unfold EqV at h
  have h := h 9998 w
  have e : (([a.1, a.2.1, a.2.2] : List Int) == [b.1, b.2.1, b.2.2]) = decide (a = b) := by
    rw [Bool.eq_iff_iff]
    obtain ⟨a1, a2, a3⟩ := a
    obtain ⟨b1, b2, b3⟩ := b
    simp
  rw [e] at h
  exact h
instance map3 : MapTy Tryz.prog 118 (Int × Int × Int) Int k3 (Value.int .i64) 0 where
  h := ⟨121, 3, Tryz.underlying118, ⟨_, Tryz.underlying121, .inr ⟨fun a b => rfl, fun a b w => by
    rw [mget3]
    exact ⟨fun h => by rw [decide_eq_true h], fun h => by rw [decide_eq_false h]⟩⟩⟩, ck3, fun n a => by unfold k3; simp [Instr.sameBits], fun w => (inferInstance : Zer Tryz.prog 3 (.int .i64 0)).h w⟩
/-! how often -/
theorem mgetK_mput {κ β : Type} [DecidableEq κ] (k k' : κ) (x : β) : ∀ m : List (κ × β), mget (mput m k x) k' = if k = k' then some x else mget m k'
  | [] => by
    unfold mput mget
    split <;> simp [mget]
  | (a, y) :: m => by
    unfold mput
    by_cases h : a = k
    · rw [if_pos h]
      subst h
      unfold mget
      split <;> rfl
    · rw [if_neg h]
      unfold mget
      rw [mgetK_mput k k' x m]
      by_cases h2 : a = k'
      · rw [if_pos h2, if_pos h2, if_neg (fun e => h (h2.trans e.symm))]
      · rw [if_neg h2, if_neg h2]
theorem RdM.mps {κ β : Type} [DecidableEq κ] {b : Nat} {enc : κ → Value} {f : β → Value} {m : List (κ × β)} {k : κ} {st : Int} : RdM (MpS b enc f m k st) b enc f m := fun _ ⟨es, ck, _, _, _, h1, _, _, _, _, h2⟩ => ⟨es, ck, h1, by rw [h2 b, if_pos rfl]⟩
def cnt3 (m : List ((Int × Int × Int) × Int)) (k : Int × Int × Int) : List ((Int × Int × Int) × Int) := mput m k ((mget m k).getD 0 + 1)
def cntL (l : List (Int × Int × Int)) : List ((Int × Int × Int) × Int) := l.foldl cnt3 []
theorem cntL_snoc (l : List (Int × Int × Int)) (k : Int × Int × Int) : cntL (l ++ [k]) = mput (cntL l) k ((mget (cntL l) k).getD 0 + 1) := by
  unfold cntL; rw [List.foldl_append]; rfl
theorem cntL_get {l : List (Int × Int × Int)} (h : l.Nodup) (k : Int × Int × Int) : mget (cntL l) k = if k ∈ l then some 1 else none := by
  obtain ⟨n, hn⟩ : ∃ n, l.length = n := ⟨_, rfl⟩
  induction n generalizing l k with
  | zero => obtain rfl := List.eq_nil_of_length_eq_zero hn; rfl
  | succ n ih =>
    obtain ⟨l', x, rfl⟩ : ∃ l' x, l = l' ++ [x] := ⟨_, _, (List.dropLast_concat_getLast (l := l) (by intro e; rw [e] at hn; cases hn)).symm⟩
    rw [List.length_append, List.length_singleton] at hn
    rw [List.nodup_append] at h
    have hx : x ∉ l' := fun hx => h.2.2 x hx x (by simp) rfl
    have ih := fun k => ih (l := l') h.1 k (by omega)
    rw [cntL_snoc, mgetK_mput, ih x, if_neg hx, ih k]
    by_cases hk : x = k
    · subst hk; rw [if_pos rfl, if_pos (by simp)]; rfl
    · rw [if_neg hk]
      by_cases hm : k ∈ l'
      · rw [if_pos hm, if_pos (by simp [hm])]
      · rw [if_neg hm, if_neg (by simp [hm, Ne.symm hk])]
end Go.Proofs.YtemaaenipjinaaaGreat
