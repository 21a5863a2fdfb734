/-
  UTF-8: what is encoded is decoded.
-/
import Derived.Test.YtemaaenipjinaaaGreatSx
namespace Go.Proofs.YtemaaenipjinaaaGreat
set_option maxRecDepth 100000
theorem u8n {n : Nat} (h : n < 256) : (UInt8.ofNat n).toNat = n := by
  rw [UInt8.toNat_ofNat']
  exact Nat.mod_eq_of_lt h
/-- the bytes of e stand in s from pos on -/
def AtB (s : ByteArray) (pos : Nat) (e : ByteArray) : Prop := pos + e.size ≤ s.size ∧ ∀ k, k < e.size → s.get! (pos + k) = e.get! k
theorem decode_enc {s : ByteArray} {pos c : Nat} (hv : Utf8.valid (c : Int) = true) (h : AtB s pos (Utf8.encode (c : Int))) : Utf8.decode s pos = (c, (Utf8.encode (c : Int)).size) := by
  obtain ⟨h1, h2⟩ := h
  have hvv := hv
  unfold Utf8.valid at hvv
  simp only [Bool.and_eq_true, Bool.or_eq_true, decide_eq_true_eq] at hvv
  unfold Utf8.encode at h1 h2 ⊢
  simp only [hv, if_true, Int.toNat_natCast] at h1 h2 ⊢
  by_cases a1 : c < 128
  · rw [if_pos a1] at h1 h2 ⊢
    have b0 := h2 0 (by show 0 < 1; decide)
    have b0 : (s.get! (pos + 0)).toNat = c := by rw [b0]; exact u8n (by omega)
    unfold Utf8.decode
    simp only [b0, if_pos a1]
    rfl
  rw [if_neg a1] at h1 h2 ⊢
  by_cases a2 : c < 2048
  · rw [if_pos a2] at h1 h2 ⊢
    have b0 := h2 0 (by show 0 < 2; decide)
    have b1 := h2 1 (by show 1 < 2; decide)
    have b0 : (s.get! (pos + 0)).toNat = 192 + c / 64 := by rw [b0]; exact u8n (by omega)
    have b1 : (s.get! (pos + 1)).toNat = 128 + c % 64 := by rw [b1]; exact u8n (by omega)
    have h1 : pos + 2 ≤ s.size := h1
    unfold Utf8.decode
    simp only [b0, b1]
    rw [if_neg (by omega)]
    have e1 : ((192 + c / 64) / 32 == 6 && (decide (pos + 1 < s.size) && (128 + c % 64) / 64 == 2)) = true := by
      simp only [Bool.and_eq_true, beq_iff_eq, decide_eq_true_eq]
      omega
    rw [if_pos e1, if_pos (by omega)]
    refine Prod.ext ?_ rfl
    dsimp only; omega
  rw [if_neg a2] at h1 h2 ⊢
  by_cases a3 : c < 65536
  · rw [if_pos a3] at h1 h2 ⊢
    have b0 := h2 0 (by show 0 < 3; decide)
    have b1 := h2 1 (by show 1 < 3; decide)
    have b2 := h2 2 (by show 2 < 3; decide)
    have b0 : (s.get! (pos + 0)).toNat = 224 + c / 4096 := by rw [b0]; exact u8n (by omega)
    have b1 : (s.get! (pos + 1)).toNat = 128 + c / 64 % 64 := by rw [b1]; exact u8n (by omega)
    have b2 : (s.get! (pos + 2)).toNat = 128 + c % 64 := by rw [b2]; exact u8n (by omega)
    have h1 : pos + 3 ≤ s.size := h1
    have hc : (224 + c / 4096) % 16 * 4096 + (128 + c / 64 % 64) % 64 * 64 + (128 + c % 64) % 64 = c := by omega
    unfold Utf8.decode
    simp only [b0, b1, b2, hc]
    rw [if_neg (by omega), if_neg (by simp only [Bool.and_eq_true, beq_iff_eq]; omega)]
    have e1 : ((224 + c / 4096) / 16 == 14 && (decide (pos + 1 < s.size) && (128 + c / 64 % 64) / 64 == 2) && (decide (pos + 2 < s.size) && (128 + c % 64) / 64 == 2)) = true := by
      simp only [Bool.and_eq_true, beq_iff_eq, decide_eq_true_eq]
      omega
    rw [if_pos e1, if_pos (by simp only [Bool.and_eq_true, decide_eq_true_eq]; exact ⟨by omega, hv⟩)]
    rfl
  · rw [if_neg a3] at h1 h2 ⊢
    have b0 := h2 0 (by show 0 < 4; decide)
    have b1 := h2 1 (by show 1 < 4; decide)
    have b2 := h2 2 (by show 2 < 4; decide)
    have b3 := h2 3 (by show 3 < 4; decide)
    have b0 : (s.get! (pos + 0)).toNat = 240 + c / 262144 := by rw [b0]; exact u8n (by omega)
    have b1 : (s.get! (pos + 1)).toNat = 128 + c / 4096 % 64 := by rw [b1]; exact u8n (by omega)
    have b2 : (s.get! (pos + 2)).toNat = 128 + c / 64 % 64 := by rw [b2]; exact u8n (by omega)
    have b3 : (s.get! (pos + 3)).toNat = 128 + c % 64 := by rw [b3]; exact u8n (by omega)
    have h1 : pos + 4 ≤ s.size := h1
    have hc : (240 + c / 262144) % 8 * 262144 + (128 + c / 4096 % 64) % 64 * 4096 + (128 + c / 64 % 64) % 64 * 64 + (128 + c % 64) % 64 = c := by omega
    unfold Utf8.decode
    simp only [b0, b1, b2, b3, hc]
    rw [if_neg (by omega), if_neg (by simp only [Bool.and_eq_true, beq_iff_eq]; omega), if_neg (by simp only [Bool.and_eq_true, beq_iff_eq]; omega)]
    have e1 : ((240 + c / 262144) / 8 == 30 && (decide (pos + 1 < s.size) && (128 + c / 4096 % 64) / 64 == 2) && (decide (pos + 2 < s.size) && (128 + c / 64 % 64) / 64 == 2) && (decide (pos + 3 < s.size) && (128 + c % 64) / 64 == 2)) = true := by
      simp only [Bool.and_eq_true, beq_iff_eq, decide_eq_true_eq]
      omega
    rw [if_pos e1, if_pos (by simp only [Bool.and_eq_true, decide_eq_true_eq]; exact ⟨by omega, hv⟩)]
    rfl
theorem enc_pos (r : Int) : 1 ≤ (Utf8.encode r).size ∧ (Utf8.encode r).size ≤ 4 := by
  unfold Utf8.encode
  dsimp only
  generalize (if Utf8.valid r = true then r.toNat else Utf8.runeError) = c
  by_cases a1 : c < 128
  · rw [if_pos a1]; exact ⟨Nat.le_refl 1, by show 1 ≤ 4; decide⟩
  rw [if_neg a1]
  by_cases a2 : c < 2048
  · rw [if_pos a2]; exact ⟨by show 1 ≤ 2; decide, by show 2 ≤ 4; decide⟩
  rw [if_neg a2]
  by_cases a3 : c < 65536
  · rw [if_pos a3]; exact ⟨by show 1 ≤ 3; decide, by show 3 ≤ 4; decide⟩
  · rw [if_neg a3]; exact ⟨by show 1 ≤ 4; decide, by show 4 ≤ 4; decide⟩
theorem enc_le (r : Int) : (Utf8.encode r).data.size ≤ 4 := (enc_pos r).2
theorem app_dsize (a b : ByteArray) : (a ++ b).data.size = a.data.size + b.data.size := ByteArray.size_append
theorem get_at (s : ByteArray) (i : Nat) : s.get! i = s.data.toList.getD i default := by
  show s.data[i]! = _
  rw [Array.getElem!_eq_getD, Array.getD_eq_getD_getElem?, List.getD_eq_getElem?_getD, Array.getElem?_toList]
theorem app_toList (a b : ByteArray) : (a ++ b).data.toList = a.data.toList ++ b.data.toList := by
  rw [ByteArray.data_append, Array.toList_append]
theorem app_size (a b : ByteArray) : (a ++ b).size = a.size + b.size := ByteArray.size_append
theorem AtB.mid (a e b : ByteArray) : AtB (a ++ (e ++ b)) a.size e := by
  refine ⟨by rw [app_size, app_size]; omega, fun k hk => ?_⟩
  have hk : k < e.data.toList.length := by rw [Array.length_toList]; exact hk
  have ha : a.size = a.data.toList.length := Array.length_toList.symm
  rw [get_at, get_at, app_toList, app_toList, List.getD_eq_getElem?_getD, List.getD_eq_getElem?_getD, List.getElem?_append_right (by omega), List.getElem?_append_left (by omega)]
  congr 2
  omega
/-- runes, as text -/
def encs : List Nat → ByteArray
  | [] => ByteArray.empty
  | r :: rs => Utf8.encode (r : Int) ++ encs rs
theorem encs_cons (r : Nat) (l : List Nat) : encs (r :: l) = Utf8.encode (r : Int) ++ encs l := rfl
theorem encs_app : ∀ a b : List Nat, encs (a ++ b) = encs a ++ encs b
  | [], b => by show encs b = ByteArray.empty ++ encs b; rw [ByteArray.empty_append]
  | r :: a, b => by
    show Utf8.encode (r : Int) ++ encs (a ++ b) = Utf8.encode (r : Int) ++ encs a ++ encs b
    rw [encs_app a b, ByteArray.append_assoc]
theorem encs_one (r : Nat) : encs [r] = Utf8.encode (r : Int) := by
  show Utf8.encode (r : Int) ++ ByteArray.empty = _
  rw [ByteArray.append_empty]
theorem encs_size : ∀ l : List Nat, l.length ≤ (encs l).size ∧ (encs l).size ≤ 4 * l.length
  | [] => ⟨Nat.zero_le _, Nat.le_refl 0⟩
  | r :: l => by
    have h1 := enc_pos (r : Int)
    have h2 := encs_size l
    have h3 : (encs (r :: l)).size = (Utf8.encode (r : Int)).size + (encs l).size := app_size _ _
    rw [h3, List.length_cons]
    omega
/-- from pos on s is these runes -/
def Runes (s : ByteArray) : Nat → List Nat → Prop
  | pos, [] => s.data.size = pos
  | pos, r :: rs => Utf8.valid (r : Int) = true ∧ AtB s pos (Utf8.encode (r : Int)) ∧ Runes s (pos + (Utf8.encode (r : Int)).size) rs
theorem encs_runesF : ∀ (l : List Nat) (a : ByteArray), (∀ r ∈ l, Utf8.valid (r : Int) = true) → Runes (a ++ encs l) a.size l
  | [], a, _ => by show (a ++ ByteArray.empty).size = a.size; rw [ByteArray.append_empty]
  | r :: l, a, h => by
    refine ⟨h r (by simp), AtB.mid a _ _, ?_⟩
    have ih := encs_runesF l (a ++ Utf8.encode (r : Int)) (fun x hx => h x (by simp [hx]))
    rw [app_size, ByteArray.append_assoc] at ih
    exact ih
theorem encs_runes (l : List Nat) (h : ∀ r ∈ l, Utf8.valid (r : Int) = true) : Runes (encs l) 0 l := by
  have := encs_runesF l ByteArray.empty h
  rwa [ByteArray.empty_append] at this
theorem encs_le (l : List Nat) : (encs l).data.size ≤ 4 * l.length := (encs_size l).2
theorem dec_valid (s : ByteArray) (pos : Nat) : Utf8.valid ((Utf8.decode s pos).1 : Int) = true := by
  have hv : Utf8.valid (Utf8.runeError : Int) = true := by decide
  have hs : ∀ n : Nat, n < 55296 → Utf8.valid (n : Int) = true := fun n hn => by
    unfold Utf8.valid
    simp only [Bool.or_eq_true, Bool.and_eq_true, decide_eq_true_eq]
    exact .inl ⟨by omega, by omega⟩
  have h0 : (s.get! (pos + 0)).toNat < 256 := UInt8.toNat_lt _
  have h1 : (s.get! (pos + 1)).toNat < 256 := UInt8.toNat_lt _
  unfold Utf8.decode
  dsimp only
  have e1 : (s.get! (pos + 0)).toNat % 32 * 64 + (s.get! (pos + 1)).toNat % 64 < 55296 := by omega
  split
  · exact hs (s.get! (pos + 0)).toNat (Nat.lt_trans h0 (by decide))
  split
  · split
    · exact hs _ e1
    · exact hv
  split
  · split
    · rename_i h
      rw [Bool.and_eq_true] at h
      exact h.2
    · exact hv
  split
  · split
    · rename_i h
      rw [Bool.and_eq_true] at h
      exact h.2
    · exact hv
  · exact hv
end Go.Proofs.YtemaaenipjinaaaGreat
