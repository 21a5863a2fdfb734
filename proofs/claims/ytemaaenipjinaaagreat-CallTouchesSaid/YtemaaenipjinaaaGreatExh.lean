/-
  Package exec: Result.
-/
import Derived.Test.YtemaaenipjinaaaGreatExg
namespace Go.Proofs.YtemaaenipjinaaaGreat
section more
variable {P : Program} {n' : Fi} {E : Env} {L : List HProp} {ty : TypeId}
/-- append([]T(nil), x...) -/
theorem OpOk.appendNl {t e sz by_ m c bx ox : Nat} {z : Value} {s x : Operand} {news blk r : List Value} [hu : Und P t (.slice e)] [hz : Zer P e z] [hs : Siz P e sz] [hb : Byt P e by_]
    (hv : ev E s = some (.slice none 0 0)) (hx : ev E x = some (.slice (some ⟨bx, ox, none⟩) m c)) (hr : ReadsC L bx blk) (hdr : DropN ox blk r) (htk : TakeN (m * sz) r news) (h1 : news.all one = true) (hzs : (cl z).length = sz) (hpos : Nat.blt 0 sz = true) (h63 : m ≤ 9223372036854775807) (hby : m * by_ ≤ 140737488355328) :
    OpOk P n' (.call { callee := .builtin .append, args := ⟨[s, x]⟩, argTypes := ⟨[t, t]⟩ }) ty E L (fun v' L' => ∃ ad cap, v' = .slice ad m cap ∧ L' = Row (.slice ad m cap) e sz m news :: L) := by
  unfold OpOk
  intro d ps af g a w ha X hsat
  have hent := Ent.row_nil e sz (L := L ++ X)
  unfold Ent at hent
  obtain ⟨v', w', hrun, hs', ho⟩ := row_append (P := P) (ty := ty) (t := t) (e := e) (sz := sz) (by_ := by_) (n := 0) (m := m) (c := c) (z := z) (hent _ hsat) (hr.sat hsat.head_of) hdr htk h1 hzs (Nat.le_of_ble_eq_true hpos) (by omega) (by rw [Nat.zero_add]; exact hby)
  rw [Nat.zero_add, List.nil_append] at hs'
  obtain ⟨ad, cap, rfl⟩ : ∃ ad cap, v' = .slice ad m cap := by
    rw [sat_cons] at hs'
    obtain ⟨_, _, _, _, hrow, _⟩ := hs'
    rcases hrow.2 with ⟨rfl, h0⟩ | ⟨_, _, _, rfl, _⟩
    · exact ⟨none, 0, by rw [h0]⟩
    · exact ⟨_, _, rfl⟩
  refine ⟨.slice ad m cap, w', _, .inl ?_, ⟨ad, cap, rfl, rfl⟩, hs', ho⟩
  simp [execOp, resolve, invoke, builtin, ha.ev hv, ha.ev hx, hrun]
theorem OpV.appendZ {t e sz : Nat} {s x : Operand} [hu : Und P t (.slice e)] [hs : Siz P e sz] (hv : ev E s = some (.slice none 0 0)) (hx : ev E x = some (.slice none 0 0)) :
    OpV P n' (.call { callee := .builtin .append, args := ⟨[s, x]⟩, argTypes := ⟨[t, t]⟩ }) ty E L (.slice none 0 0) := by
  unfold OpV
  intro d ps af g a w ha _
  simp [execOp, resolve, invoke, builtin, ha.ev hv, ha.ev hx, Builtin.append_, run_underlying hu.h, hs.h, Builtin.lenOf, Builtin.firstCells]
end more
set_option maxRecDepth 100000 in
theorem xresult_t (X V Pb W : Nat) (c : Cfg) (cv : Value) (m : Xm) (hn : m.news.length ≤ 1000000) : Tri Tryz.prog 187 #[.pointer (some ⟨X, 0, none⟩)] [XeE X c cv V Pb W m.x m.news]
    fun r L => ∃ ad cap, r = .tuple ⟨[.agg ⟨[.int .i64 m.x.rc, .int .u64 (m.x.rv : Int)]⟩, .slice ad m.news.length cap]⟩ ∧ L = [XeE X c cv V Pb W m.x m.news, Row (.slice ad m.news.length cap) 22 1 m.news.length (u64s m.news)] := by
  refine Tri.ex_out ?_
  rintro ⟨nad, ncap⟩
  unfold xeL
  dsimp only
  have hone : (u64s m.news).all one = true := by
    unfold u64s
    generalize m.news = l
    induction l with
    | nil => rfl
    | cons x l ih => rw [List.map_cons, List.all_cons, ih]; rfl
  refine Tri.of_body (vs := [_]) Tryz.func187 rfl rfl fun w0 F => ?_
  refine St.conv ?_ (Sub.refl _) (Ent.of_take (.there .here))
  refine St.rowC (fun hv h0 hx => ?_) (fun g lcp rest hv hrf => ?_)
  · injection hv with hv1 hv2 hv3
    subst hv1 hv3
    rw [h0, hx]
    repeat' (first | refine Ga ?_ | (refine Gb ?_; intro b) | (refine Gd ?_; intro g cap rest hcap) | (refine Gc ?_; intro ad cap) | (refine St.draw (id := 1) [(0, 0), (1, 0), (2, 0), (3, 1), (4, 0), (5, 0), (6, 0), (7, 1), (8, 0), (9, 3), (10, 0)] [9] mixed (by kernel_rfl) ?_) | (refine Ge ?_ ?_ <;> (intro h; try (exfalso; omega))) | fail)
    (apply StD.v0; rfl; (apply OpV.appendZ; rfl; rfl); rfl)
    repeat' (first | refine Ga ?_ | (refine Gb ?_; intro b) | (refine Gd ?_; intro g cap rest hcap) | (refine Gc ?_; intro ad cap) | (refine St.draw (id := 1) [(0, 0), (1, 0), (2, 0), (3, 1), (4, 0), (5, 0), (6, 0), (7, 1), (8, 0), (9, 3), (10, 0)] [9] mixed (by kernel_rfl) ?_) | (refine Ge ?_ ?_ <;> (intro h; try (exfalso; omega))) | fail)
    refine St.d1 Tryz.func187 ⟨_, ⟨none, 0, rfl, rfl⟩, ?_⟩
    refine Ent.trans ?_ (Ent.ex_in (Ls := xeL X c cv V Pb W m.x m.news) (none, 0))
    unfold xeL
    dsimp only
    rw [h0, hx]
    exact Ent.trans (Ent.row_nil 22 1) (Ent.trans (Ent.row_nil 22 1) Ent.go)
  · injection hv with hv1 hv2 hv3
    subst hv1 hv3
    have htk : TakeN (m.news.length * 1) (u64s m.news ++ rest) (u64s m.news) := by rw [← hrf.len]; exact TakeN.app _ _
    repeat' (first | refine Ga ?_ | (refine Gb ?_; intro b) | (refine Gd ?_; intro g cap rest hcap) | (refine Gc ?_; intro ad cap) | (refine St.draw (id := 1) [(0, 0), (1, 0), (2, 0), (3, 1), (4, 0), (5, 0), (6, 0), (7, 1), (8, 2), (9, 3), (10, 0)] [9] mixed (by kernel_rfl) ?_) | (refine Ge ?_ ?_ <;> (intro h; try (exfalso; omega))) | fail)
    (apply StD.ok2; rfl; (apply OpOk.appendNl; rfl; rfl; (focus (repeat first | exact ReadsC.here RdC.bl | exact ReadsC.here (by assumption) | apply ReadsC.there)); (focus (first | assumption | (repeat constructor))); (focus (first | assumption | (repeat constructor))); assumption; rfl; rfl; omega; omega); rfl; rintro _ _ ⟨ad, cap, rfl, rfl⟩; refine ⟨Ent.go, ?_⟩)
    repeat' (first | refine Ga ?_ | (refine Gb ?_; intro b) | (refine Gd ?_; intro g cap rest hcap) | (refine Gc ?_; intro ad cap) | (refine St.draw (id := 1) [(0, 0), (1, 0), (2, 0), (3, 1), (4, 0), (5, 0), (6, 0), (7, 1), (8, 2), (9, 3), (10, 0)] [9] mixed (by kernel_rfl) ?_) | (refine Ge ?_ ?_ <;> (intro h; try (exfalso; omega))) | fail)
    refine St.d1 Tryz.func187 ⟨_, ⟨ad, cap, rfl, rfl⟩, ?_⟩
    refine Ent.trans ?_ (Ent.ex_in (Ls := xeL X c cv V Pb W m.x m.news) (some ⟨g, 0, none⟩, ncap))
    refine Ent.trans (Ent.of_take (p := bl g 22 (u64s m.news ++ rest)) Take.go) (Ent.trans (Ent.rowF hrf) Ent.go)
end Go.Proofs.YtemaaenipjinaaaGreat
