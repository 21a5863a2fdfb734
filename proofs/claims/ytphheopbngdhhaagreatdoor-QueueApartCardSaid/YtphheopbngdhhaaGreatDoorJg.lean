/-
  Package asm: put, code.
-/
import Derived.Test.YtphheopbngdhhaaGreatDoorJf
namespace Go.Proofs.YtphheopbngdhhaaGreatDoor
set_option maxRecDepth 100000
abbrev natI (n : Nat) : Value := .int .i64 (n : Int)
instance mapLabels : MapTy Tryz.prog 173 ByteArray Nat Value.string natI 0 := MapTy.str Tryz.underlying173 Tryz.underlying9 (inferInstance : Zer Tryz.prog 3 (.int .i64 0)).h
theorem mget_memL {κ β : Type} [DecidableEq κ] {k : κ} {x : β} : ∀ {m : List (κ × β)}, mget m k = some x → (k, x) ∈ m
  | [], h => by cases h
  | (y, z) :: m, h => by
    unfold mget at h
    split at h
    · injection h with h; subst h; subst y; simp
    · exact List.mem_cons_of_mem _ (mget_memL h)
structure Pr where
  orders : List Ordr
  labels : List (ByteArray × Nat)
def oV (o : Ordr) : List Value := [.iface 224 (.agg ⟨ordV o⟩)]
def prL (b : Nat) (pr : Pr) (x : Nat × Option Addr × Nat) : List HProp :=
  [bl b 176 [.slice x.2.1 pr.orders.length x.2.2, .map (some x.1)], Mp x.1 Value.string natI pr.labels, Row (.slice x.2.1 pr.orders.length x.2.2) 182 1 pr.orders.length (pr.orders.flatMap oV)]
def PrE (b : Nat) (pr : Pr) : HProp := ex (prL b pr)
theorem Ent.pr {b mb cap : Nat} {pr : Pr} {ad : Option Addr} {L : List HProp} : Ent (bl b 176 [.slice ad pr.orders.length cap, .map (some mb)] :: Mp mb Value.string natI pr.labels :: Row (.slice ad pr.orders.length cap) 182 1 pr.orders.length (pr.orders.flatMap oV) :: L) (PrE b pr :: L) := Ent.ex_in (Ls := prL b pr) (mb, ad, cap)
theorem St.pr {P : Program} {C : Cx} {k : List Item} {E : Env} {L Lr : List HProp} {b mb cap : Nat} {pr : Pr} {ad : Option Addr} (t : Takes [bl b 176 [.slice ad pr.orders.length cap, .map (some mb)], Mp mb Value.string natI pr.labels, Row (.slice ad pr.orders.length cap) 182 1 pr.orders.length (pr.orders.flatMap oV)] L Lr) (h : St P C k E (PrE b pr :: Lr)) : St P C k E L :=
  h.conv (Sub.refl _) (t.ent.trans Ent.pr)
def prPut (pr : Pr) : Ln → Option Pr
  | .mark s _ => match mget pr.labels s with
    | some _ => none
    | none => some { pr with labels := mput pr.labels s pr.orders.length }
  | .order o => if 256 ≤ pr.orders.length then none else some { pr with orders := pr.orders ++ [o] }
theorem put_t (b : Nat) (pr pr' : Pr) (l : Ln) (hn : pr.orders.length ≤ 256) (h : prPut pr l = some pr') : Tri Tryz.prog 94 #[.pointer (some ⟨b, 0, none⟩), lnV (some l)] [PrE b pr]
    fun r L => r = .int .i64 0 ∧ L = [PrE b pr'] := by
  refine Tri.ex_out fun x => ?_
  obtain ⟨mb, ad, cap⟩ := x
  unfold prL
  dsimp only
  revert b; intro B
  cases l with
  | mark s a =>
    unfold prPut at h
    dsimp only at h
    cases hg : mget pr.labels s with
    | some k => rw [hg] at h; cases h
    | none =>
      rw [hg] at h
      injection h with h
      subst h
      unfold lnV
      dsimp only
      have hsh := fun F' => Ent.pr (b := B) (mb := mb) (cap := cap) (pr := { pr with labels := mput pr.labels s pr.orders.length }) (ad := ad) (L := F')
      dsimp only at hsh
      have hmi : (mget pr.labels s).isSome = false := by rw [hg]; rfl
      refine Tri.of_body (vs := [_, _]) Tryz.func94 rfl rfl fun w0 F => ?_
      repeat' (first | refine St.halt 4 ?_ |refine Ga ?_ | (refine Gb ?_; intro b) | (refine Gd ?_; intro g cap rest hcap) | (refine Gc ?_; intro ad cap) | (refine St.draw (id := 3) [(0, 0), (1, 0), (2, 0), (3, 1), (4, 0), (5, 1), (6, 1), (7, 0), (8, 0), (9, 0), (10, 0), (11, 0)] [] mixed (by kernel_rfl) ?_) | (refine St.draw (id := 6) [(0, 0), (1, 0), (2, 0), (3, 1), (4, 0), (5, 1), (6, 0), (7, 0), (8, 0), (9, 1), (10, 0), (11, 3)] [11] mixed (by kernel_rfl) ?_) | (refine Ge ?_ ?_ <;> (intro h; try (exfalso; omega))) | fail)
      rw [hmi]
      apply Halt.go
      repeat' (first | refine Ga ?_ | (refine Gb ?_; intro b) | (refine Gd ?_; intro g cap rest hcap) | (refine Gc ?_; intro ad cap) | (refine St.draw (id := 3) [(0, 0), (1, 0), (2, 0), (3, 1), (4, 0), (5, 1), (6, 1), (7, 0), (8, 0), (9, 0), (10, 0), (11, 0)] [] mixed (by kernel_rfl) ?_) | (refine St.draw (id := 6) [(0, 0), (1, 0), (2, 0), (3, 1), (4, 0), (5, 1), (6, 0), (7, 0), (8, 0), (9, 1), (10, 0), (11, 3)] [11] mixed (by kernel_rfl) ?_) | (refine Ge ?_ ?_ <;> (intro h; try (exfalso; omega))) | fail)
      refine St.d1 Tryz.func94 ⟨_, ⟨rfl, rfl⟩, Ent.trans ?_ (hsh F)⟩
      exact Ent.go
  | order o =>
    unfold prPut at h
    dsimp only at h
    by_cases hm : 256 ≤ pr.orders.length
    · rw [if_pos hm] at h; cases h
    rw [if_neg hm] at h
    injection h with h
    subst h
    have hsh := fun F' nad ncap => Ent.pr (b := B) (mb := mb) (cap := ncap) (pr := { pr with orders := pr.orders ++ [o] }) (ad := nad) (L := F')
    dsimp only at hsh
    rw [List.length_append, List.flatMap_append] at hsh
    unfold lnV
    unfold ordV
    dsimp only
    refine Tri.of_body (vs := [_, _]) Tryz.func94 rfl rfl fun w0 F => ?_
    repeat' (first | refine Ga ?_ | (refine Gb ?_; intro b) | (refine Gd ?_; intro g cap rest hcap) | (refine Gc ?_; intro ad cap) | (refine St.draw (id := 3) [(0, 0), (1, 0), (2, 0), (3, 1), (4, 0), (5, 1), (6, 1), (7, 0), (8, 0), (9, 0), (10, 0), (11, 0)] [] mixed (by kernel_rfl) ?_) | (refine St.draw (id := 6) [(0, 0), (1, 0), (2, 0), (3, 1), (4, 0), (5, 1), (6, 0), (7, 0), (8, 0), (9, 1), (10, 0), (11, 3)] [11] mixed (by kernel_rfl) ?_) | (refine Ge ?_ ?_ <;> (intro h; try (exfalso; omega))) | fail)
    refine St.d1 Tryz.func94 ⟨_, ⟨rfl, rfl⟩, Ent.trans ?_ (hsh F ad cap)⟩
    exact Ent.go
def forthM (op frm to : Int) : Bool := if op = 19 then decide (to ≤ frm) else decide (frm < to)
theorem forth_r (op frm to : Int) : RTri Tryz.prog 128 #[.int .i64 op, .int .i64 frm, .int .i64 to] [] (.bool (forthM op frm to)) := by
  apply RTri.of_pure
  unfold forthM
  by_cases h : op = 19
  · rw [if_pos h]
    refine Tri.of_body (vs := [_, _, _]) Tryz.func128 rfl rfl fun w0 F => ?_
    repeat' (first | refine Ga ?_ | (refine Gb ?_; intro b) | (refine Gd ?_; intro g cap rest hcap) | (refine Gc ?_; intro ad cap)  | (refine Ge ?_ ?_ <;> (intro h; try (exfalso; omega))) | fail)
    (first | refine St.dn Tryz.func128 ⟨?_, rfl⟩ Ent.go | refine St.fl Tryz.func128 ⟨?_, rfl⟩ Ent.go)
    rfl
  · rw [if_neg h]
    refine Tri.of_body (vs := [_, _, _]) Tryz.func128 rfl rfl fun w0 F => ?_
    repeat' (first | refine Ga ?_ | (refine Gb ?_; intro b) | (refine Gd ?_; intro g cap rest hcap) | (refine Gc ?_; intro ad cap)  | (refine Ge ?_ ?_ <;> (intro h; try (exfalso; omega))) | fail)
    (first | refine St.dn Tryz.func128 ⟨?_, rfl⟩ Ent.go | refine St.fl Tryz.func128 ⟨?_, rfl⟩ Ent.go)
    rfl
def codeGo (labels : List (ByteArray × Nat)) : Nat → List Ordr → List Ins → Option (List Ins)
  | _, [], out => some out
  | k, o :: os, out => match o.name.data.toList with
    | [] => codeGo labels (k + 1) os (out ++ [o.i])
    | _ :: _ => match mget labels o.name with
      | none => none
      | some to => match forthM o.i.op k to with
        | true => codeGo labels (k + 1) os (out ++ [{ o.i with imm := to }])
        | false => none
def Pr.code (pr : Pr) : Option (List Ins) := codeGo pr.labels 0 pr.orders []
theorem drop_cons {α : Type} {l : List α} {k : Nat} (h : k < l.length) : l.drop k = l[k] :: l.drop (k + 1) := by simp
set_option maxHeartbeats 600000 in
theorem code_t (b : Nat) (pr : Pr) (code : List Ins) (hn : pr.orders.length ≤ 256) (hl : ∀ p ∈ pr.labels, p.2 ≤ 256) (h : pr.code = some code) : Tri Tryz.prog 95 #[.pointer (some ⟨b, 0, none⟩)] [PrE b pr]
    fun r L => ∃ ad cap, r = .tuple ⟨[.slice ad code.length cap, .int .i64 0, .int .i64 0]⟩ ∧ L = [Row (.slice ad code.length cap) 129 5 code.length (code.flatMap Ins.v)] := by
  unfold Pr.code at h
  refine Tri.ex_out fun x => ?_
  obtain ⟨mb, ad, cap⟩ := x
  unfold prL
  dsimp only
  revert b; intro B
  have hgL : ∀ (s : ByteArray) (to : Nat), mget pr.labels s = some to → to ≤ 256 := fun s to hg => hl (s, to) (mget_memL hg)
  refine Tri.of_body (vs := [_]) Tryz.func95 rfl rfl fun w0 F => ?_
  repeat' (first | refine Ga ?_ | (refine Gb ?_; intro b) | (refine Gd ?_; intro g cap rest hcap) | (refine Gc ?_; intro ad cap) | (refine St.draw (id := 7) [(0, 0), (1, 0), (2, 0), (3, 1), (4, 0), (5, 1), (6, 1), (7, 0), (8, 0), (9, 0), (10, 0), (11, 0)] [] mixed (by kernel_rfl) ?_) | (refine St.draw (id := 9) [(0, 0), (1, 1), (2, 0), (3, 0), (4, 0)] [] mixed (by kernel_rfl) ?_) | (refine Ge ?_ ?_ <;> (intro h; try (exfalso; omega))) | fail)
  refine St.conv ?_ (Sub.refl _) (Ent.of_take (p := Row (.slice ad pr.orders.length cap) 182 1 pr.orders.length (pr.orders.flatMap oV)) Take.go)
  refine St.rowL rfl (fun R hR => ?_)
  obtain ⟨_, _, hv, _, hR⟩ := hR
  injection hv with hv1 hv2 hv3
  subst hv1 hv3
  refine St.conv ?_ (Sub.refl _) (Ent.row_nil 129 5)
  refine St.loopY (Lr := ?Lr1) (ι := { x : Nat × List Ins × Option Addr × Nat // x.1 ≤ pr.orders.length ∧ x.2.1.length = x.1 ∧ codeGo pr.labels x.1 (pr.orders.drop x.1) x.2.1 = some code }) (fun x => pr.orders.length - x.1.1)
    (fun x => [(16, .int .i64 (x.1.1 : Int)), (5, .slice x.1.2.2.1 x.1.2.1.length x.1.2.2.2)]) (fun x => [Row (.slice x.1.2.2.1 x.1.2.1.length x.1.2.2.2) 129 5 x.1.2.1.length (x.1.2.1.flatMap Ins.v)]) ⟨(0, [], none, 0), Nat.zero_le _, rfl, h⟩ ?hE1 ?hL1 ?round1
  case hE1 => exact Sub.go
  case hL1 => exact Takes.go
  case round1 =>
    rintro ⟨⟨k, out, oad, ocap⟩, hk, hol, hgo⟩ IH; dsimp only at hk hol hgo IH ⊢
    by_cases hlt : k < pr.orders.length
    · obtain ⟨bf, o, l, l1, rfl, hrd, hdr, htk⟩ := ListR.at (f := oV) (sz := 1) (fun _ => rfl) hR k hlt
      rw [drop_cons hlt] at hgo
      generalize pr.orders[k] = od at htk hgo
      unfold oV ordV at htk
      have hn1 : NthN (o + (k : Int).toNat * 1) l (.iface 224 (.agg ⟨[.int .i64 od.i.op, .int .i64 od.i.a, .int .i64 od.i.b, .int .i64 od.i.c, .int .u64 (od.i.imm : Int), .string od.name, .int .i64 od.at_]⟩)) := NthN.part hdr htk (j := 0) (NthN.of rfl)
      have hu : codeGo pr.labels k (od :: pr.orders.drop (k + 1)) out = match od.name.data.toList with | [] => codeGo pr.labels (k + 1) (pr.orders.drop (k + 1)) (out ++ [od.i]) | _ :: _ => match mget pr.labels od.name with | none => none | some to => match forthM od.i.op k to with | true => codeGo pr.labels (k + 1) (pr.orders.drop (k + 1)) (out ++ [{ od.i with imm := to }]) | false => none := rfl
      rw [hu] at hgo
      cases hnm : od.name.data.toList with
      | nil =>
        rw [hnm] at hgo
        dsimp only at hgo
        repeat' (first | refine Ga ?_ | (refine Gb ?_; intro b) | (refine Gd ?_; intro g cap rest hcap) | (refine Gc ?_; intro ad cap) | (refine St.draw (id := 7) [(0, 0), (1, 0), (2, 0), (3, 1), (4, 0), (5, 1), (6, 1), (7, 0), (8, 0), (9, 0), (10, 0), (11, 0)] [] mixed (by kernel_rfl) ?_) | (refine St.draw (id := 9) [(0, 0), (1, 1), (2, 0), (3, 0), (4, 0)] [] mixed (by kernel_rfl) ?_) | (refine Ge ?_ ?_ <;> (intro h; try (exfalso; omega))) | fail)
        all_goals first | (exfalso; simp_all; done) | skip
        refine IH ⟨(k + 1, out ++ [od.i], ad, cap), by dsimp only; omega, by rw [List.length_append]; dsimp only; rw [hol]; rfl, hgo⟩ (by show pr.orders.length - (k + 1) < pr.orders.length - k; omega) ?_ ?_
        · dsimp only; rw [List.length_append]; exact Sub.go
        · dsimp only; rw [List.length_append, List.flatMap_append]; exact Ent.go
      | cons c cs =>
        rw [hnm] at hgo
        dsimp only at hgo
        cases hg : mget pr.labels od.name with
        | none => rw [hg] at hgo; cases hgo
        | some to =>
          rw [hg] at hgo
          dsimp only at hgo
          have hto := hgL _ _ hg
          have hfo := forth_r od.i.op (k : Int) (to : Int)
          cases hf : forthM od.i.op k to with
          | false => rw [hf] at hgo; cases hgo
          | true =>
            rw [hf] at hgo hfo
            dsimp only at hgo
            repeat' (first | refine St.halt 7 ?_ |refine Ga ?_ | (refine Gb ?_; intro b) | (refine Gd ?_; intro g cap rest hcap) | (refine Gc ?_; intro ad cap) | (refine St.draw (id := 7) [(0, 0), (1, 0), (2, 0), (3, 1), (4, 0), (5, 1), (6, 1), (7, 0), (8, 0), (9, 0), (10, 0), (11, 0)] [] mixed (by kernel_rfl) ?_) | (refine St.draw (id := 9) [(0, 0), (1, 1), (2, 0), (3, 0), (4, 0)] [] mixed (by kernel_rfl) ?_) | (refine Ge ?_ ?_ <;> (intro h; try (exfalso; omega))) | fail)
            all_goals first | (exfalso; simp_all; done) | skip
            apply Halt.go
            repeat' (first | refine St.halt 8 ?_ |refine Ga ?_ | (refine Gb ?_; intro b) | (refine Gd ?_; intro g cap rest hcap) | (refine Gc ?_; intro ad cap) | (refine St.draw (id := 7) [(0, 0), (1, 0), (2, 0), (3, 1), (4, 0), (5, 1), (6, 1), (7, 0), (8, 0), (9, 0), (10, 0), (11, 0)] [] mixed (by kernel_rfl) ?_) | (refine St.draw (id := 9) [(0, 0), (1, 1), (2, 0), (3, 0), (4, 0)] [] mixed (by kernel_rfl) ?_) | (refine Ge ?_ ?_ <;> (intro h; try (exfalso; omega))) | fail)
            rw [hg, Option.getD_some]
            apply Halt.go
            repeat' (first | refine Ga ?_ | (refine Gb ?_; intro b) | (refine Gd ?_; intro g cap rest hcap) | (refine Gc ?_; intro ad cap) | (refine St.draw (id := 7) [(0, 0), (1, 0), (2, 0), (3, 1), (4, 0), (5, 1), (6, 1), (7, 0), (8, 0), (9, 0), (10, 0), (11, 0)] [] mixed (by kernel_rfl) ?_) | (refine St.draw (id := 9) [(0, 0), (1, 1), (2, 0), (3, 0), (4, 0)] [] mixed (by kernel_rfl) ?_)| refine Gl hfo ?_ | (refine Ge ?_ ?_ <;> (intro h; try (exfalso; omega))) | fail)
            refine IH ⟨(k + 1, out ++ [{ od.i with imm := to }], ad, cap), by dsimp only; omega, by rw [List.length_append]; dsimp only; rw [hol]; rfl, hgo⟩ (by show pr.orders.length - (k + 1) < pr.orders.length - k; omega) ?_ ?_
            · dsimp only; rw [List.length_append]; exact Sub.go
            · dsimp only; rw [List.length_append, List.flatMap_append]; exact Ent.go
    · obtain rfl : k = pr.orders.length := by omega
      rw [List.drop_length] at hgo
      injection hgo with hgo
      subst hgo
      clear IH
      repeat' (first | refine Ga ?_ | (refine Gb ?_; intro b) | (refine Gd ?_; intro g cap rest hcap) | (refine Gc ?_; intro ad cap) | (refine St.draw (id := 7) [(0, 0), (1, 0), (2, 0), (3, 1), (4, 0), (5, 1), (6, 1), (7, 0), (8, 0), (9, 0), (10, 0), (11, 0)] [] mixed (by kernel_rfl) ?_) | (refine St.draw (id := 9) [(0, 0), (1, 1), (2, 0), (3, 0), (4, 0)] [] mixed (by kernel_rfl) ?_) | (refine Ge ?_ ?_ <;> (intro h; try (exfalso; omega))) | fail)
      refine St.d1 Tryz.func95 ⟨_, ⟨oad, ocap, rfl, rfl⟩, ?_⟩
      exact Ent.go
end Go.Proofs.YtphheopbngdhhaaGreatDoor
