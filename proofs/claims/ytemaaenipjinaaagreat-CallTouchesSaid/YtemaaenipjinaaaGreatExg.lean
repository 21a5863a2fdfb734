/-
  Package exec: New, Ask, Tell, Status.
-/
import Derived.Test.YtemaaenipjinaaaGreatExf
namespace Go.Proofs.YtemaaenipjinaaaGreat
def Xm.ask (c : Cfg) (m : Xm) : MOp × Bool := if m.x.s ≠ 0 then (mop 0 0 0, false) else m.v.ask c
set_option maxRecDepth 100000 in
theorem xask_r (X V Pb W : Nat) (c : Cfg) (hc : Small c) (cv : Value) (m : Xm) (hb : 0 ≤ m.v.block ∧ m.v.block ≤ 1000000) : RTri Tryz.prog 308 #[.pointer (some ⟨X, 0, none⟩)] [XeE X c cv V Pb W m.x m.news, bl V 347 (viewV c m.v)] (.tuple ⟨[.agg ⟨(m.ask c).1.v⟩, .bool (m.ask c).2]⟩) := by
  refine RTri.of_exact fun W0 hs => ?_
  obtain ⟨⟨nad, ncap⟩, hs⟩ := sat_ex hs
  have hX := RdC.exact hs (ReadsC.here RdC.bl)
  have hV := RdC.exact hs (ReadsC.there (ReadsC.there (ReadsC.here RdC.bl)))
  have hask := (vask_r c hc V m.v hb).of_read (p := exact' W0) fun k hk => by
    rw [show k = hpOf W0 from hk]
    have := (Ent.go : Ent (xeL X c cv V Pb W m.x m.news (nad, ncap) ++ [bl V 347 (viewV c m.v)]) [bl V 347 (viewV c m.v)])
    unfold Ent at this
    exact this _ hs
  unfold Xm.ask
  by_cases h0 : m.x.s ≠ 0
  · rw [if_pos h0]
    refine Tri.of_body (vs := [_]) Tryz.func308 rfl rfl fun w0 F => ?_
    repeat' (first | refine Ga ?_ | (refine Gb ?_; intro b) | (refine Gd ?_; intro g cap rest hcap) | (refine Gc ?_; intro ad cap)  | (refine Ge ?_ ?_ <;> (intro h; try (exfalso; omega))) | fail)
    (first | refine St.dn Tryz.func308 ⟨?_, rfl⟩ Ent.go | refine St.fl Tryz.func308 ⟨?_, rfl⟩ Ent.go)
    rfl
  · rw [if_neg h0]
    refine Tri.of_body (vs := [_]) Tryz.func308 rfl rfl fun w0 F => ?_
    repeat' (first | refine Ga ?_ | (refine Gb ?_; intro b) | (refine Gd ?_; intro g cap rest hcap) | (refine Gc ?_; intro ad cap) | refine Gl hask ?_ | (refine Ge ?_ ?_ <;> (intro h; try (exfalso; omega))) | fail)
    (first | refine St.dn Tryz.func308 ⟨?_, rfl⟩ Ent.go | refine St.fl Tryz.func308 ⟨?_, rfl⟩ Ent.go)
    rfl
set_option maxRecDepth 100000 in
theorem xstatus_r (X V Pb W : Nat) (c : Cfg) (cv : Value) (m : Xm) : RTri Tryz.prog 186 #[.pointer (some ⟨X, 0, none⟩)] [XeE X c cv V Pb W m.x m.news] (.int .i64 m.x.s) := by
  refine RTri.of_exact fun W0 hs => ?_
  obtain ⟨⟨nad, ncap⟩, hs⟩ := sat_ex hs
  have hX := RdC.exact hs (ReadsC.here RdC.bl)
  refine Tri.of_body (vs := [_]) Tryz.func186 rfl rfl fun w0 F => ?_
  repeat' (first | refine Ga ?_ | (refine Gb ?_; intro b) | (refine Gd ?_; intro g cap rest hcap) | (refine Gc ?_; intro ad cap)  | (refine Ge ?_ ?_ <;> (intro h; try (exfalso; omega))) | fail)
  (first | refine St.dn Tryz.func186 ⟨?_, rfl⟩ Ent.go | refine St.fl Tryz.func186 ⟨?_, rfl⟩ Ent.go)
  rfl
def Xm.tell (c : Cfg) (room : Nat) (code : List Ins) (m : Xm) (o : Out) : Xm := if m.x.s = 0 then Xm.run c room code { m with v := m.v.tell o } else m
set_option maxRecDepth 100000 in
theorem xtell_t (X V Pb W room : Nat) (c : Cfg) (hc : Small c) (cv : Value) (q : HProp) (code : List Ins) (hcode : rightB code = true) (hv : InsR q cv code) (I : Xm → Prop) (hI : RunInv c room code I) (m : Xm) (o : Out) (hm : m.x.s = 0 → I { m with v := m.v.tell o }) :
    Tri Tryz.prog 314 #[.pointer (some ⟨X, 0, none⟩), .agg ⟨o.v⟩] (xmL X V Pb W room c cv m ++ [q]) fun r L => r = .tuple ⟨[]⟩ ∧ L = xmL X V Pb W room c cv (m.tell c room code o) ++ [q] := by
  refine Tri.ex_out ?_
  rintro ⟨nad, ncap⟩
  unfold Xm.tell
  by_cases h0 : m.x.s = 0
  · rw [if_pos h0]
    have ht := vtell_t c V m.v o
    have hr := (xrun_t X V Pb W room c hc cv q code hcode hv I hI { m with v := m.v.tell o } (hm h0)).ent (L := xmO X V Pb W room c cv { m with v := m.v.tell o } nad ncap ++ [q]) xmO_in
    refine Tri.of_body (vs := [_, _]) Tryz.func314 rfl rfl fun w0 F => ?_
    repeat' (first | refine Ga ?_ | (refine Gb ?_; intro b) | (refine Gd ?_; intro g cap rest hcap) | (refine Gc ?_; intro ad cap) | (refine St.draw (id := 2) [(0, 0), (1, 0), (2, 0), (3, 1), (4, 1), (5, 3)] [5] mixed (by kernel_rfl) ?_) | (refine Gt ht ?_; rintro _ _ ⟨rfl, rfl⟩) | (refine Gt hr ?_; rintro _ _ ⟨rfl, rfl⟩) | (refine Ge ?_ ?_ <;> (intro h; try (exfalso; omega))) | fail)
    refine St.f1 Tryz.func314 ⟨_, ⟨rfl, rfl⟩, ?_⟩
    exact Ent.go
  · rw [if_neg h0]
    refine Tri.of_body (vs := [_, _]) Tryz.func314 rfl rfl fun w0 F => ?_
    repeat' (first | refine Ga ?_ | (refine Gb ?_; intro b) | (refine Gd ?_; intro g cap rest hcap) | (refine Gc ?_; intro ad cap) | (refine St.draw (id := 2) [(0, 0), (1, 0), (2, 0), (3, 1), (4, 1), (5, 3)] [5] mixed (by kernel_rfl) ?_) | (refine Ge ?_ ?_ <;> (intro h; try (exfalso; omega))) | fail)
    refine St.f1 Tryz.func314 ⟨_, ⟨rfl, rfl⟩, ?_⟩
    refine Ent.trans ?_ (xmO_in (nad := nad) (ncap := ncap))
    exact Ent.go
def regs0 : List Nat := [0, 0, 0, 0, 0, 0, 0, 0, 0, 0, 0, 0, 0, 0, 0, 0]
def Xm.init (v : Vw) (p : Po) (puts : List (Int × Nat)) (args : List Nat) : Xm := ⟨⟨args, puts.length, p.nt, p.nl, regs0, 0, 0, 0, false, ins0, 0, 0, 0⟩, v, p, puts, []⟩
def Xm.start (c : Cfg) (room : Nat) (code : List Ins) (v : Vw) (p : Po) (puts : List (Int × Nat)) (args : List Nat) : Xm := if rightB code = true then (Xm.init v p puts args).run c room code else (Xm.init v p puts args).fail 30 0
set_option maxHeartbeats 1000000 in
set_option maxRecDepth 100000 in
theorem xnew_t (V Pb W room : Nat) (c : Cfg) (hc : Small c) (cv : Value) (q : HProp) (code : List Ins) (hv : InsR q cv code) (v : Vw) (p : Po) (puts : List (Int × Nat)) (args : List Nat) (hlen : puts.length ≤ 1000000000)
    (I : Xm → Prop) (hI : rightB code = true → RunInv c room code I) (hm : rightB code = true → I (Xm.init v p puts args)) :
    Tri Tryz.prog 179 #[.agg ⟨c.m⟩, cv, .agg ⟨g4 args⟩, .pointer (some ⟨V, 0, none⟩), .pointer (some ⟨Pb, 0, none⟩), .pointer (some ⟨W, 0, none⟩)] [bl V 347 (viewV c v), Pl Pb c p, Ws W room puts, q]
      fun r L => ∃ X, r = .pointer (some ⟨X, 0, none⟩) ∧ L = xmL X V Pb W room c cv (Xm.start c room code v p puts args) ++ [q] := by
  have hrt := right_rr q cv code hv
  have hmk := wmark_r W room puts
  have hpm := pMark_r Pb c p
  obtain ⟨ad, cap, hcv, _⟩ := id hv
  subst hcv
  unfold Xm.start
  cases hr : rightB code with
  | false =>
    rw [hr] at hrt
    rw [if_neg (by decide)]
    have hf := fun X => xfail_t X V Pb W room c (.slice ad code.length cap) (.slice none 0 0) (Xm.init v p puts args).x p puts 30 0 (Nat.le_refl _) hlen
    refine Tri.of_body (vs := [_, _, _, _, _, _]) Tryz.func179 rfl rfl fun w0 F => ?_
    repeat' (first | refine Ga ?_ | (refine Gb ?_; intro b) | (refine Gd ?_; intro g cap rest hcap) | (refine Gc ?_; intro ad cap) | (refine St.draw (id := 1) [(0, 1), (1, 0), (2, 1), (3, 0), (4, 0), (5, 0), (6, 0), (7, 1), (8, 0), (9, 1), (10, 0), (11, 2), (12, 0)] [] mixed (by kernel_rfl) ?_)| refine Gl hmk ?_ | refine Gl hpm ?_ | refine Gl hrt ?_ | (refine Gt (hf _) ?_; rintro _ _ ⟨rfl, rfl⟩) | (refine Ge ?_ ?_ <;> (intro h; try (exfalso; omega))) | fail)
    refine St.d1 Tryz.func179 ⟨_, ⟨_, rfl, rfl⟩, ?_⟩
    refine Ent.trans ?_ (xmO_in (nad := none) (ncap := 0))
    refine Ent.trans (Ent.row_nil 22 1) ?_
    exact Ent.go
  | true =>
    rw [hr] at hrt
    rw [if_pos rfl]
    have hru := fun X => (xrun_t X V Pb W room c hc (.slice ad code.length cap) q code hr hv I (hI hr) (Xm.init v p puts args) (hm hr)).ent (L := [bl X 344 (exV c (.slice ad code.length cap) V Pb W (.slice none 0 0) (Xm.init v p puts args).x), bl V 347 (viewV c v), Pl Pb c p, Ws W room puts, q])
      (Ent.trans (Ent.row_nil 22 1) (Ent.trans (Ent.go : Ent _ (xmO X V Pb W room c (.slice ad code.length cap) (Xm.init v p puts args) none 0 ++ [q])) xmO_in))
    refine Tri.of_body (vs := [_, _, _, _, _, _]) Tryz.func179 rfl rfl fun w0 F => ?_
    repeat' (first | refine Ga ?_ | (refine Gb ?_; intro b) | (refine Gd ?_; intro g cap rest hcap) | (refine Gc ?_; intro ad cap) | (refine St.draw (id := 1) [(0, 1), (1, 0), (2, 1), (3, 0), (4, 0), (5, 0), (6, 0), (7, 1), (8, 0), (9, 1), (10, 0), (11, 2), (12, 0)] [] mixed (by kernel_rfl) ?_)| refine Gl hmk ?_ | refine Gl hpm ?_ | refine Gl hrt ?_ | (refine Gt (hru _) ?_; rintro _ _ ⟨rfl, rfl⟩) | (refine Ge ?_ ?_ <;> (intro h; try (exfalso; omega))) | fail)
    refine St.d1 Tryz.func179 ⟨_, ⟨_, rfl, rfl⟩, ?_⟩
    exact Ent.go
end Go.Proofs.YtemaaenipjinaaaGreat
