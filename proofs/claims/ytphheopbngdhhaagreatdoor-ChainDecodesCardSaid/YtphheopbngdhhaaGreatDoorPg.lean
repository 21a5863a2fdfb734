/-
  Package tumblerlaw20: Made: a state, and the document's, of pokes.
-/
import Derived.Test.YtphheopbngdhhaaGreatDoorPe
namespace Go.Proofs.YtphheopbngdhhaaGreatDoor
set_option maxRecDepth 100000
theorem AndIs.pleU (a : Int) (b : Nat) (hb : b < 9223372036854775808) : ∃ c : Nat, AndIs .u64 a (b : Int) (c : Int) ∧ c ≤ b := by
  have e1 : (BitVec.ofInt 64 (b : Int)).toNat = b := by
    rw [BitVec.toNat_ofInt]
    have : (2 : Nat) ^ 64 = 18446744073709551616 := by decide
    omega
  have e2 : (BitVec.ofInt 64 a &&& BitVec.ofInt 64 (b : Int)).toNat ≤ b := by
    rw [BitVec.toNat_and, e1]
    exact Nat.and_le_right
  refine ⟨(BitVec.ofInt 64 a &&& BitVec.ofInt 64 (b : Int)).toNat, ?_, by omega⟩
  unfold AndIs
  rw [show IntKind.u64.bits = 64 from rfl]
  exact wrap_fits (by simp only [fits]; omega)
theorem AndIs.pleI (a : Int) (b : Nat) (hb : b < 9223372036854775808) : ∃ c : Nat, AndIs .i64 a (b : Int) (c : Int) ∧ c ≤ b := by
  have e1 : (BitVec.ofInt 64 (b : Int)).toNat = b := by
    rw [BitVec.toNat_ofInt]
    have : (2 : Nat) ^ 64 = 18446744073709551616 := by decide
    omega
  have e2 : (BitVec.ofInt 64 a &&& BitVec.ofInt 64 (b : Int)).toNat ≤ b := by
    rw [BitVec.toNat_and, e1]
    exact Nat.and_le_right
  refine ⟨(BitVec.ofInt 64 a &&& BitVec.ofInt 64 (b : Int)).toNat, ?_, by omega⟩
  unfold AndIs
  rw [show IntKind.i64.bits = 64 from rfl]
  exact wrap_fits (by simp only [fits]; omega)
/-- a word that is set -/
structure PokeB where
  h : Nat
  word : Int
  val : Nat
def pokeV (p : PokeB) : List Value := [.int .u64 (p.h : Int), .int .i64 p.word, .int .u64 (p.val : Int)]
/-- the cells of the three programs -/
def insC (o a b c i : Int) : List Value := [.int .i64 o, .int .i64 a, .int .i64 b, .int .i64 c, .int .u64 i]
abbrev celR : List Value := [.int .i64 8, .int .i64 1, .int .i64 0, .int .i64 0, .int .u64 0, .int .i64 8, .int .i64 2, .int .i64 0, .int .i64 0, .int .u64 1, .int .i64 8, .int .i64 3, .int .i64 0, .int .i64 0, .int .u64 2, .int .i64 10, .int .i64 3, .int .i64 2, .int .i64 0, .int .u64 0, .int .i64 20, .int .i64 1, .int .i64 0, .int .i64 0, .int .u64 0]
abbrev celW : List Value := [.int .i64 8, .int .i64 1, .int .i64 0, .int .i64 0, .int .u64 0, .int .i64 8, .int .i64 2, .int .i64 0, .int .i64 0, .int .u64 1, .int .i64 8, .int .i64 3, .int .i64 0, .int .i64 0, .int .u64 2, .int .i64 14, .int .i64 3, .int .i64 1, .int .i64 2, .int .u64 0, .int .i64 20, .int .i64 1, .int .i64 0, .int .i64 0, .int .u64 0]
abbrev celF : List Value := [.int .i64 15, .int .i64 1, .int .i64 0, .int .i64 0, .int .u64 0, .int .i64 20, .int .i64 1, .int .i64 0, .int .i64 0, .int .u64 0]
theorem code_R (b : Nat) : ListR Ins.v (bl b 129 celR) (.slice (some ⟨b, 0, none⟩) 5 5) cdR := ⟨_, 5, rfl, by decide, .inr ⟨b, 0, celR, [], rfl, RdC.bl, .zero⟩⟩
theorem code_W (b : Nat) : ListR Ins.v (bl b 129 celW) (.slice (some ⟨b, 0, none⟩) 5 5) cdW := ⟨_, 5, rfl, by decide, .inr ⟨b, 0, celW, [], rfl, RdC.bl, .zero⟩⟩
theorem code_F (b : Nat) : ListR Ins.v (bl b 129 celF) (.slice (some ⟨b, 0, none⟩) 2 2) cdF := ⟨_, 2, rfl, by decide, .inr ⟨b, 0, celF, [], rfl, RdC.bl, .zero⟩⟩
theorem pick_1 (b h : Nat) : ListR u64V (bl b 22 [.int .u64 (h : Int)]) (.slice (some ⟨b, 0, none⟩) 1 1) [h] := ⟨_, 1, rfl, (show 1 ≤ 1 by decide), .inr ⟨b, 0, _, [], rfl, RdC.bl, .zero⟩⟩
theorem pick_0 : ListR u64V (star []) nilV [] := ⟨_, 0, rfl, by decide, .inl rfl⟩
/-- behind a run -/
def ranQ (S : Nat) (m : Ms) (q : HProp) (_ : Value) (L : List HProp) : Prop := ∃ X Y : HProp, L = [MsE S m, X, q, Y]
theorem ent_nil {p q : HProp} : Ent [p, q] [p, q, star []] := by
  have h : Ent ([] ++ [p, q]) (star [] :: [p, q]) := Ent.star_in []
  exact Ent.trans h Ent.go
theorem mrun_R (S : Nat) (m : Ms) (hm : MsOk m) (b h w v : Nat) (hw : w < 16) : Tri Tryz.prog 30 #[.pointer (some ⟨S, 0, none⟩), .slice (some ⟨b, 0, none⟩) 5 5, .agg ⟨g4 [h, w, v, 0]⟩, .int .i64 9, .int .i64 9, nilV] [MsE S m, bl b 129 celR] (ranQ S ⟨m.roots.set w v, m.blocks⟩ (bl b 129 celR)) := by
  have hx := mrun_t S m hm (bl b 129 celR) (star []) _ cdR (code_R b) cd3_ok.2.2.1 cd3_ok.2.2.2.1 (by decide) [h, w, v, 0] rfl 9 9 (by decide) (by decide) none 0 [] pick_0 10 _ true (run_R m.roots m.blocks h w v hw)
  exact (hx.mono (Q' := ranQ S ⟨m.roots.set w v, m.blocks⟩ (bl b 129 celR)) (fun u L ⟨nad, ncap, h1, h2⟩ => ⟨_, _, h2⟩)).ent ent_nil
theorem mrun_W (S : Nat) (m : Ms) (hm : MsOk m) (b h w v : Nat) (bk : List Nat) (hw : w < 8) (hg : mget m.blocks (h : Int) = some bk) : Tri Tryz.prog 30 #[.pointer (some ⟨S, 0, none⟩), .slice (some ⟨b, 0, none⟩) 5 5, .agg ⟨g4 [h, w, v, 0]⟩, .int .i64 9, .int .i64 9, nilV] [MsE S m, bl b 129 celW] (ranQ S ⟨m.roots, mput m.blocks (h : Int) (bk.set w v)⟩ (bl b 129 celW)) := by
  have hx := mrun_t S m hm (bl b 129 celW) (star []) _ cdW (code_W b) cd3_ok.2.2.2.2.1 cd3_ok.2.2.2.2.2 (by decide) [h, w, v, 0] rfl 9 9 (by decide) (by decide) none 0 [] pick_0 10 _ true (run_W m.roots m.blocks h w v bk hw hg)
  exact (hx.mono (Q' := ranQ S ⟨m.roots, mput m.blocks (h : Int) (bk.set w v)⟩ (bl b 129 celW)) (fun u L ⟨nad, ncap, h1, h2⟩ => ⟨_, _, h2⟩)).ent ent_nil
theorem mrun_F (S : Nat) (m : Ms) (hm : MsOk m) (b c h w v : Nat) (h0 : h ≠ 0) (h1 : h ≤ 64) (hg : mget m.blocks (h : Int) = none) : Tri Tryz.prog 30 #[.pointer (some ⟨S, 0, none⟩), .slice (some ⟨b, 0, none⟩) 2 2, .agg ⟨g4 [h, w, v, 0]⟩, .int .i64 9, .int .i64 9, .slice (some ⟨c, 0, none⟩) 1 1] [MsE S m, bl b 129 celF, bl c 22 [.int .u64 (h : Int)]] (ranQ S ⟨m.roots, mput m.blocks (h : Int) zero8⟩ (bl b 129 celF)) := by
  have hx := mrun_t S m hm (bl b 129 celF) (bl c 22 [.int .u64 (h : Int)]) _ cdF (code_F b) cd3_ok.1 cd3_ok.2.1 (by decide) [h, w, v, 0] rfl 9 9 (by decide) (by decide) _ 1 [h] (pick_1 c h) 10 _ true (run_F m.roots m.blocks h w v h0 h1 hg)
  exact hx.mono (Q' := ranQ S ⟨m.roots, mput m.blocks (h : Int) zero8⟩ (bl b 129 celF)) (fun u L ⟨nad, ncap, h1, h2⟩ => ⟨_, _, h2⟩)
/-- the state and the document's are the same, and may be -/
structure MadeI (m : Ms) (rs : List Nat) (bs : List (Nat × List Nat)) (n : Nat) : Prop where
  ok : MsOk m
  rel : RelX m rs bs
  len : bs.length ≤ n
theorem MadeI.rl {m : Ms} {rs : List Nat} {bs : List (Nat × List Nat)} {n : Nat} (h : MadeI m rs bs n) : rs.length = 16 := h.rel.r ▸ h.ok.r
theorem MadeI.b8 {m : Ms} {rs : List Nat} {bs : List (Nat × List Nat)} {n : Nat} (h : MadeI m rs bs n) {a : Nat} {w : List Nat} (hg : lkB bs a = some w) : w.length = 8 := h.ok.b _ (mget_mem ((h.rel.b a).trans hg))
theorem MadeI.R {m : Ms} {rs : List Nat} {bs : List (Nat × List Nat)} {n : Nat} (h : MadeI m rs bs n) (w v : Nat) : MadeI ⟨m.roots.set w v, m.blocks⟩ (rs.set w v) bs n :=
  ⟨⟨by show (List.set _ _ _).length = 16; rw [List.length_set]; exact h.ok.r, h.ok.b⟩, ⟨by rw [← h.rel.r], h.rel.b⟩, h.len⟩
theorem MadeI.put {m : Ms} {rs : List Nat} {bs : List (Nat × List Nat)} {n : Nat} (h : MadeI m rs bs n) (a : Nat) (w : List Nat) (hw : w.length = 8) : MadeI ⟨m.roots, mput m.blocks (a : Int) w⟩ rs (withB bs a w false) (n + 1) := by
  refine ⟨⟨h.ok.r, mput_all (q := fun l : List Nat => l.length = 8) _ _ hw _ h.ok.b⟩, ⟨h.rel.r, fun k => ?_⟩, ?_⟩
  · rw [mget_mput, lk_with, h.rel.b]
    by_cases e : k = a
    · subst e; rw [if_pos rfl, if_pos rfl]; rfl
    · rw [if_neg (by omega), if_neg e]
  · have := h.len
    have := with_len bs a w false
    rw [show (if (false : Bool) = true then 0 else 1) = 1 from rfl] at this
    omega
theorem msok0 : MsOk ms0 := ⟨rfl, by intro p hp; cases hp⟩
theorem made0 : MadeI ms0 ms0.roots [] 0 := ⟨msok0, ⟨rfl, fun _ => rfl⟩, Nat.le_refl _⟩
def madeQ (q : HProp) (n : Nat) (v : Value) (L : List HProp) : Prop := ∃ S m rs bs b1 b2 b3 HB, v = .tuple ⟨[.pointer (some ⟨S, 0, none⟩), .agg ⟨g16t rs [.slice b1 b2 b3]⟩]⟩ ∧ MadeI m rs bs n ∧ ListR boxV HB (.slice b1 b2 b3) bs ∧ L = [MsE S m, HB, q]
end Go.Proofs.YtphheopbngdhhaaGreatDoor
