/-
  Package help: Tell, Own.
-/
import Derived.Test.YtemaaenipjinaaaGreatHf
namespace Go.Proofs.YtemaaenipjinaaaGreat
set_option maxRecDepth 100000
theorem place_r (seq : Nat) : RTri Tryz.prog 327 #[.int .u64 (seq : Int)] [] (.int .i64 (placeOf seq)) := by
  apply RTri.of_pure
  unfold placeOf
  by_cases h : 65536 ≤ seq
  · rw [if_pos h]
    refine Tri.of_body (vs := [_]) Tryz.func327 rfl rfl fun w0 F => ?_
    repeat' (first | refine Ga ?_ | (refine Gb ?_; intro b) | (refine Gd ?_; intro g cap rest hcap) | (refine Gc ?_; intro ad cap)  | (refine Ge ?_ ?_ <;> (intro h; try (exfalso; omega))) | fail)
    all_goals first | (exfalso; omega) | skip
    refine St.d1 Tryz.func327 ⟨_, ⟨rfl, rfl⟩, Ent.go⟩
  · rw [if_neg h]
    refine Tri.of_body (vs := [_]) Tryz.func327 rfl rfl fun w0 F => ?_
    repeat' (first | refine Ga ?_ | (refine Gb ?_; intro b) | (refine Gd ?_; intro g cap rest hcap) | (refine Gc ?_; intro ad cap)  | (refine Ge ?_ ?_ <;> (intro h; try (exfalso; omega))) | fail)
    all_goals first | (exfalso; omega) | skip
    refine St.d1 Tryz.func327 ⟨_, ⟨rfl, rfl⟩, Ent.go⟩
theorem cell_eq (x : Cell) (s : Nat) : ((x.val : Int) == 1 && ((x.seq : Int) == (s : Int) && true)) = decide (x = ⟨1, s⟩) := by
  obtain ⟨v, q⟩ := x
  rw [Bool.eq_iff_iff]
  simp
  omega
theorem entV_snoc (l : List (Int × Nat)) (a : Int) (v : Nat) : (l ++ [(a, v)]).flatMap entV = l.flatMap entV ++ [.int .i64 a, .int .u64 (v : Int)] := by rw [List.flatMap_append]; rfl
theorem hread_raw (H : Nat) (c : Cfg) (y : Hm) (lad : Option Addr) (lcap : Nat) : Tri Tryz.prog 325 #[.pointer (some ⟨H, 0, none⟩)] [bl H 308 (hpV c (.slice lad y.list.length lcap) y), Row (.slice lad y.list.length lcap) 314 2 y.list.length (y.list.flatMap entV)] fun r L => r = .tuple ⟨[]⟩ ∧ L = [HpE H c y.read] := (hread_t H c y).ent Ent.hp
theorem hentry_raw (H : Nat) (c : Cfg) (hc : Small c) (y : Hm) (lad : Option Addr) (lcap : Nat) (hl : y.list.length ≤ 1000000) (k : Nat) (hk : k ≤ 1000001) : Tri Tryz.prog 183 #[.pointer (some ⟨H, 0, none⟩), .int .i64 (k : Int)] [bl H 308 (hpV c (.slice lad y.list.length lcap) y), Row (.slice lad y.list.length lcap) 314 2 y.list.length (y.list.flatMap entV)] fun r L => r = .tuple ⟨[]⟩ ∧ L = [HpE H c (y.entry c k)] := (hentry_t H c hc y hl k hk).ent Ent.hp
theorem hopen_raw (H : Nat) (c : Cfg) (hc : Small c) (y : Hm) (lad : Option Addr) (lcap : Nat) : RTri Tryz.prog 326 #[.pointer (some ⟨H, 0, none⟩)] [bl H 308 (hpV c (.slice lad y.list.length lcap) y), Row (.slice lad y.list.length lcap) 314 2 y.list.length (y.list.flatMap entV)] (.tuple ⟨[.int .i64 (c.at 4 y.owner 0), .agg ⟨[.int .u64 1, .int .u64 (y.seq : Int)]⟩]⟩) := (hopen_r H c hc y).ent Ent.hp
set_option maxHeartbeats 2000000 in
theorem htell_t (H : Nat) (c : Cfg) (hc : Small c) (y : Hm) (hi : Hinv c y) (o : Out) : Tri Tryz.prog 324 #[.pointer (some ⟨H, 0, none⟩), .agg ⟨o.v⟩] [HpE H c y] fun r L => r = .tuple ⟨[]⟩ ∧ L = [HpE H c (y.tell c o)] := by
  have hnx := hi.nx
  have hll := hi.l
  have hcap := hc.cap
  have hln := hi.ln
  have hn1 := hi.n1
  have hkk := hi.k
  obtain ⟨⟨wv, ws⟩, ok⟩ := o
  unfold Out.v
  refine Tri.ex_out ?_
  rintro ⟨lad, lcap⟩
  unfold hpL
  dsimp only
  have hop := hopen_raw H c hc y lad lcap
  have hce := cell_eq ⟨wv, ws⟩ y.seq
  dsimp only at hce
  have hcp := cap_r c hc c.fr rfl
  have htk := take_h c (.slice lad y.list.length lcap) y
  unfold Hm.tell
  dsimp only
  rcases (by omega : y.next = 0 ∨ y.next = 1 ∨ y.next = 2 ∨ y.next = 3 ∨ y.next = 4 ∨ y.next = 5 ∨ y.next = 6 ∨ y.next = 7 ∨ y.next = 8) with e | e | e | e | e | e | e | e | e
  · rw [if_pos e]
    have hr := hread_raw H c { y with n := if c.cap < (wv : Int) then c.cap else (wv : Int) } lad lcap
    try dsimp only at hr
    refine Tri.of_body (vs := [_, _]) Tryz.func324 rfl rfl fun w0 F => ?_
    repeat' (first | refine Ga ?_ | (refine Gb ?_; intro b) | (refine Gd ?_; intro g cap rest hcap) | (refine Gc ?_; intro ad cap) | (refine St.draw (id := 5) [(0, 0), (1, 0), (2, 1), (3, 0), (4, 0), (5, 0), (6, 1), (7, 1), (8, 0), (9, 0), (10, 0), (11, 0), (12, 0), (13, 3)] [13] mixed (by kernel_rfl) ?_) | (refine St.draw (id := 8) [(0, 0), (1, 0), (2, 0), (3, 0), (4, 1), (5, 0), (6, 1), (7, 1), (8, 0), (9, 1), (10, 0), (11, 2), (12, 3), (13, 0), (14, 0), (15, 3)] [12, 15] mixed (by kernel_rfl) ?_) | (refine St.draw (id := 16) [(0, 0), (1, 0), (2, 0), (3, 0), (4, 1), (5, 0), (6, 0), (7, 0), (8, 1), (9, 0), (10, 0), (11, 0), (12, 1), (13, 0), (14, 0), (15, 1), (16, 1), (17, 0), (18, 0), (19, 0), (20, 0), (21, 0), (22, 0), (23, 3)] [23] mixed (by kernel_rfl) ?_) | (refine St.draw (id := 21) [(0, 0), (1, 1), (2, 0), (3, 0), (4, 0), (5, 1), (6, 0)] [] mixed (by kernel_rfl) ?_)| refine Gl hop ?_ | refine Gl hcp ?_ | (refine Gt hr ?_; rintro _ _ ⟨rfl, rfl⟩) | (refine Ge ?_ ?_ <;> (intro h; try (exfalso; omega))) | fail)
    all_goals first | (exfalso; omega) | skip
    refine St.f1 Tryz.func324 ⟨_, ⟨rfl, rfl⟩, Ent.go⟩
  · rw [if_neg (by omega), if_pos e]
    have hln := hln e
    have hpl := place_r ws
    have hr := fun lad lcap => hread_raw H c { y with list := y.list ++ [(placeOf ws, wv)] } lad lcap
    try dsimp only at hr
    rw [List.length_append, List.length_singleton, entV_snoc] at hr
    refine Tri.of_body (vs := [_, _]) Tryz.func324 rfl rfl fun w0 F => ?_
    repeat' (first | refine Ga ?_ | (refine Gb ?_; intro b) | (refine Gd ?_; intro g cap rest hcap) | (refine Gc ?_; intro ad cap) | (refine St.draw (id := 5) [(0, 0), (1, 0), (2, 1), (3, 0), (4, 0), (5, 0), (6, 1), (7, 1), (8, 0), (9, 0), (10, 0), (11, 0), (12, 0), (13, 3)] [13] mixed (by kernel_rfl) ?_) | (refine St.draw (id := 8) [(0, 0), (1, 0), (2, 0), (3, 0), (4, 1), (5, 0), (6, 1), (7, 1), (8, 0), (9, 1), (10, 0), (11, 2), (12, 3), (13, 0), (14, 0), (15, 3)] [12, 15] mixed (by kernel_rfl) ?_) | (refine St.draw (id := 16) [(0, 0), (1, 0), (2, 0), (3, 0), (4, 1), (5, 0), (6, 0), (7, 0), (8, 1), (9, 0), (10, 0), (11, 0), (12, 1), (13, 0), (14, 0), (15, 1), (16, 1), (17, 0), (18, 0), (19, 0), (20, 0), (21, 0), (22, 0), (23, 3)] [23] mixed (by kernel_rfl) ?_) | (refine St.draw (id := 21) [(0, 0), (1, 1), (2, 0), (3, 0), (4, 0), (5, 1), (6, 0)] [] mixed (by kernel_rfl) ?_)| refine Gl hop ?_ | refine Gl hpl ?_ | (refine Gt (hr _ _) ?_; rintro _ _ ⟨rfl, rfl⟩) | (refine Ge ?_ ?_ <;> (intro h; try (exfalso; omega))) | fail)
    all_goals first | (exfalso; omega) | skip
    refine St.f1 Tryz.func324 ⟨_, ⟨rfl, rfl⟩, Ent.go⟩
  · rw [if_neg (by omega), if_neg (by omega), if_pos e]
    have he := hentry_raw H c hc y lad lcap hll 0 (Nat.zero_le _)
    have hu := fun is => hunless_t H c (y.entry c 0) is
    refine Tri.of_body (vs := [_, _]) Tryz.func324 rfl rfl fun w0 F => ?_
    repeat' (first | refine Ga ?_ | (refine Gb ?_; intro b) | (refine Gd ?_; intro g cap rest hcap) | (refine Gc ?_; intro ad cap) | (refine St.draw (id := 5) [(0, 0), (1, 0), (2, 1), (3, 0), (4, 0), (5, 0), (6, 1), (7, 1), (8, 0), (9, 0), (10, 0), (11, 0), (12, 0), (13, 3)] [13] mixed (by kernel_rfl) ?_) | (refine St.draw (id := 8) [(0, 0), (1, 0), (2, 0), (3, 0), (4, 1), (5, 0), (6, 1), (7, 1), (8, 0), (9, 1), (10, 0), (11, 2), (12, 3), (13, 0), (14, 0), (15, 3)] [12, 15] mixed (by kernel_rfl) ?_) | (refine St.draw (id := 16) [(0, 0), (1, 0), (2, 0), (3, 0), (4, 1), (5, 0), (6, 0), (7, 0), (8, 1), (9, 0), (10, 0), (11, 0), (12, 1), (13, 0), (14, 0), (15, 1), (16, 1), (17, 0), (18, 0), (19, 0), (20, 0), (21, 0), (22, 0), (23, 3)] [23] mixed (by kernel_rfl) ?_) | (refine St.draw (id := 21) [(0, 0), (1, 1), (2, 0), (3, 0), (4, 0), (5, 1), (6, 0)] [] mixed (by kernel_rfl) ?_)| refine Gl hop ?_ | (refine Gt he ?_; rintro _ _ ⟨rfl, rfl⟩) | (refine Gt (hu _) ?_; rintro _ _ ⟨rfl, rfl⟩) | (refine Ge ?_ ?_ <;> (intro h; try (exfalso; omega))) | fail)
    all_goals first | (exfalso; omega) | skip
    rw [hce]
    refine St.f1 Tryz.func324 ⟨_, ⟨rfl, rfl⟩, Ent.go⟩
  · rw [if_neg (by omega), if_neg (by omega), if_neg (by omega), if_pos e]
    refine Tri.of_body (vs := [_, _]) Tryz.func324 rfl rfl fun w0 F => ?_
    repeat' (first | refine Ga ?_ | (refine Gb ?_; intro b) | (refine Gd ?_; intro g cap rest hcap) | (refine Gc ?_; intro ad cap) | (refine St.draw (id := 5) [(0, 0), (1, 0), (2, 1), (3, 0), (4, 0), (5, 0), (6, 1), (7, 1), (8, 0), (9, 0), (10, 0), (11, 0), (12, 0), (13, 3)] [13] mixed (by kernel_rfl) ?_) | (refine St.draw (id := 8) [(0, 0), (1, 0), (2, 0), (3, 0), (4, 1), (5, 0), (6, 1), (7, 1), (8, 0), (9, 1), (10, 0), (11, 2), (12, 3), (13, 0), (14, 0), (15, 3)] [12, 15] mixed (by kernel_rfl) ?_) | (refine St.draw (id := 16) [(0, 0), (1, 0), (2, 0), (3, 0), (4, 1), (5, 0), (6, 0), (7, 0), (8, 1), (9, 0), (10, 0), (11, 0), (12, 1), (13, 0), (14, 0), (15, 1), (16, 1), (17, 0), (18, 0), (19, 0), (20, 0), (21, 0), (22, 0), (23, 3)] [23] mixed (by kernel_rfl) ?_) | (refine St.draw (id := 21) [(0, 0), (1, 1), (2, 0), (3, 0), (4, 0), (5, 1), (6, 0)] [] mixed (by kernel_rfl) ?_)| refine Gl hop ?_ | (refine Ge ?_ ?_ <;> (intro h; try (exfalso; omega))) | fail)
    all_goals first | (exfalso; omega) | skip
    refine St.f1 Tryz.func324 ⟨_, ⟨rfl, rfl⟩, ?_⟩
    exact Ent.trans Ent.go (Ent.hp (ad := lad) (cap := lcap) (y := { y with held := -1, next := 4 }))
  · rw [if_neg (by omega), if_neg (by omega), if_neg (by omega), if_neg (by omega), if_pos e]
    have hk := hkk (by omega)
    have hat := Hm.at_eq hk.1 hk.2
    have hw := what_r c hc y.at_.1
    refine Tri.of_body (vs := [_, _]) Tryz.func324 rfl rfl fun w0 F => ?_
    refine St.conv ?_ (Sub.refl _) (Ent.of_take (p := Row (.slice lad y.list.length lcap) 314 2 y.list.length (y.list.flatMap entV)) Take.go)
    refine St.rowF (by omega) fun g cap rest hv hrf => ?_
    injection hv with hv1 hv2 hv3
    subst hv1 hv3
    have hsh : ∀ (h' : Hm), h'.list = y.list → ∀ {M : List HProp}, Ent (bl H 308 (hpV c (.slice (some ⟨g, 0, none⟩) y.list.length lcap) h') :: bl g 314 (y.list.flatMap entV ++ rest) :: M) (HpE H c h' :: M) := fun h' e1 M => by
      refine Ent.trans ?_ (Ent.hp (ad := some ⟨g, 0, none⟩) (cap := lcap) (y := h'))
      rw [e1]
      exact Ent.trans (Ent.of_take (p := bl g 314 (y.list.flatMap entV ++ rest)) Take.go) (Ent.trans (Ent.rowF hrf) Ent.go)
    have hop2 := (hopen_r H c hc y).ent (hsh y rfl (M := []))
    obtain ⟨hn0, hn1⟩ := ent_at (l := y.list) (k := y.k.toNat) (by omega) rest
    rw [← hat, show ((y.k.toNat : Nat) : Int).toNat = y.k.toNat by omega] at hn0 hn1
    have hu := fun is => (hunless_t H c { y with held := (c.what y.at_.1).2.1, next := 5 } is).ent (hsh { y with held := (c.what y.at_.1).2.1, next := 5 } rfl (M := []))
    try dsimp only at hu
    repeat' (first | refine Ga ?_ | (refine Gb ?_; intro b) | (refine Gd ?_; intro g cap rest hcap) | (refine Gc ?_; intro ad cap) | (refine St.draw (id := 5) [(0, 0), (1, 0), (2, 1), (3, 0), (4, 0), (5, 0), (6, 1), (7, 1), (8, 0), (9, 0), (10, 0), (11, 0), (12, 0), (13, 3)] [13] mixed (by kernel_rfl) ?_) | (refine St.draw (id := 8) [(0, 0), (1, 0), (2, 0), (3, 0), (4, 1), (5, 0), (6, 1), (7, 1), (8, 0), (9, 1), (10, 0), (11, 2), (12, 3), (13, 0), (14, 0), (15, 3)] [12, 15] mixed (by kernel_rfl) ?_) | (refine St.draw (id := 16) [(0, 0), (1, 0), (2, 0), (3, 0), (4, 1), (5, 0), (6, 0), (7, 0), (8, 1), (9, 0), (10, 0), (11, 0), (12, 1), (13, 0), (14, 0), (15, 1), (16, 1), (17, 0), (18, 0), (19, 0), (20, 0), (21, 0), (22, 0), (23, 3)] [23] mixed (by kernel_rfl) ?_) | (refine St.draw (id := 21) [(0, 0), (1, 1), (2, 0), (3, 0), (4, 0), (5, 1), (6, 0)] [] mixed (by kernel_rfl) ?_)| refine Gl hop2 ?_ | refine Gl hw ?_ | (refine Gt (hu _) ?_; rintro _ _ ⟨rfl, rfl⟩) | (refine Ge ?_ ?_ <;> (intro h; try (exfalso; omega))) | fail)
    all_goals first | (exfalso; omega) | skip
    rw [hce]
    refine St.f1 Tryz.func324 ⟨_, ⟨rfl, rfl⟩, Ent.go⟩
  · rw [if_neg (by omega), if_neg (by omega), if_neg (by omega), if_neg (by omega), if_neg (by omega), if_pos e]
    have hk := hkk (by omega)
    have e1 : ((y.k + 1).toNat : Int) = y.k + 1 := by omega
    have he := hentry_raw H c hc { y with cell := ⟨wv, ws⟩, next := 6 } lad lcap hll (y.k + 1).toNat (by omega)
    rw [e1] at he
    try dsimp only at he
    by_cases hle : y.seq ≤ ws
    · rw [if_pos hle]
      refine Tri.of_body (vs := [_, _]) Tryz.func324 rfl rfl fun w0 F => ?_
      repeat' (first | refine Ga ?_ | (refine Gb ?_; intro b) | (refine Gd ?_; intro g cap rest hcap) | (refine Gc ?_; intro ad cap) | (refine St.draw (id := 5) [(0, 0), (1, 0), (2, 1), (3, 0), (4, 0), (5, 0), (6, 1), (7, 1), (8, 0), (9, 0), (10, 0), (11, 0), (12, 0), (13, 3)] [13] mixed (by kernel_rfl) ?_) | (refine St.draw (id := 8) [(0, 0), (1, 0), (2, 0), (3, 0), (4, 1), (5, 0), (6, 1), (7, 1), (8, 0), (9, 1), (10, 0), (11, 2), (12, 3), (13, 0), (14, 0), (15, 3)] [12, 15] mixed (by kernel_rfl) ?_) | (refine St.draw (id := 16) [(0, 0), (1, 0), (2, 0), (3, 0), (4, 1), (5, 0), (6, 0), (7, 0), (8, 1), (9, 0), (10, 0), (11, 0), (12, 1), (13, 0), (14, 0), (15, 1), (16, 1), (17, 0), (18, 0), (19, 0), (20, 0), (21, 0), (22, 0), (23, 3)] [23] mixed (by kernel_rfl) ?_) | (refine St.draw (id := 21) [(0, 0), (1, 1), (2, 0), (3, 0), (4, 0), (5, 1), (6, 0)] [] mixed (by kernel_rfl) ?_)| refine Gl hop ?_ | (refine Gt he ?_; rintro _ _ ⟨rfl, rfl⟩) | (refine Ge ?_ ?_ <;> (intro h; try (exfalso; omega))) | fail)
      all_goals first | (exfalso; omega) | skip
      refine St.f1 Tryz.func324 ⟨_, ⟨rfl, rfl⟩, Ent.go⟩
    · rw [if_neg hle]
      clear he
      refine Tri.of_body (vs := [_, _]) Tryz.func324 rfl rfl fun w0 F => ?_
      repeat' (first | refine Ga ?_ | (refine Gb ?_; intro b) | (refine Gd ?_; intro g cap rest hcap) | (refine Gc ?_; intro ad cap) | (refine St.draw (id := 5) [(0, 0), (1, 0), (2, 1), (3, 0), (4, 0), (5, 0), (6, 1), (7, 1), (8, 0), (9, 0), (10, 0), (11, 0), (12, 0), (13, 3)] [13] mixed (by kernel_rfl) ?_) | (refine St.draw (id := 8) [(0, 0), (1, 0), (2, 0), (3, 0), (4, 1), (5, 0), (6, 1), (7, 1), (8, 0), (9, 1), (10, 0), (11, 2), (12, 3), (13, 0), (14, 0), (15, 3)] [12, 15] mixed (by kernel_rfl) ?_) | (refine St.draw (id := 16) [(0, 0), (1, 0), (2, 0), (3, 0), (4, 1), (5, 0), (6, 0), (7, 0), (8, 1), (9, 0), (10, 0), (11, 0), (12, 1), (13, 0), (14, 0), (15, 1), (16, 1), (17, 0), (18, 0), (19, 0), (20, 0), (21, 0), (22, 0), (23, 3)] [23] mixed (by kernel_rfl) ?_) | (refine St.draw (id := 21) [(0, 0), (1, 1), (2, 0), (3, 0), (4, 0), (5, 1), (6, 0)] [] mixed (by kernel_rfl) ?_)| refine Gl hop ?_ | (refine Ge ?_ ?_ <;> (intro h; try (exfalso; omega))) | fail)
      all_goals first | (exfalso; omega) | skip
      refine St.f1 Tryz.func324 ⟨_, ⟨rfl, rfl⟩, ?_⟩
      exact Ent.trans Ent.go (Ent.hp (ad := lad) (cap := lcap) (y := { y with cell := ⟨wv, ws⟩, next := 6 }))
  · rw [if_neg (by omega), if_neg (by omega), if_neg (by omega), if_neg (by omega), if_neg (by omega), if_neg (by omega), if_pos e]
    have hk := hkk (by omega)
    have e1 : ((y.k + 1).toNat : Int) = y.k + 1 := by omega
    have he := hentry_raw H c hc y lad lcap hll (y.k + 1).toNat (by omega)
    rw [e1] at he
    refine Tri.of_body (vs := [_, _]) Tryz.func324 rfl rfl fun w0 F => ?_
    repeat' (first | refine Ga ?_ | (refine Gb ?_; intro b) | (refine Gd ?_; intro g cap rest hcap) | (refine Gc ?_; intro ad cap) | (refine St.draw (id := 5) [(0, 0), (1, 0), (2, 1), (3, 0), (4, 0), (5, 0), (6, 1), (7, 1), (8, 0), (9, 0), (10, 0), (11, 0), (12, 0), (13, 3)] [13] mixed (by kernel_rfl) ?_) | (refine St.draw (id := 8) [(0, 0), (1, 0), (2, 0), (3, 0), (4, 1), (5, 0), (6, 1), (7, 1), (8, 0), (9, 1), (10, 0), (11, 2), (12, 3), (13, 0), (14, 0), (15, 3)] [12, 15] mixed (by kernel_rfl) ?_) | (refine St.draw (id := 16) [(0, 0), (1, 0), (2, 0), (3, 0), (4, 1), (5, 0), (6, 0), (7, 0), (8, 1), (9, 0), (10, 0), (11, 0), (12, 1), (13, 0), (14, 0), (15, 1), (16, 1), (17, 0), (18, 0), (19, 0), (20, 0), (21, 0), (22, 0), (23, 3)] [23] mixed (by kernel_rfl) ?_) | (refine St.draw (id := 21) [(0, 0), (1, 1), (2, 0), (3, 0), (4, 0), (5, 1), (6, 0)] [] mixed (by kernel_rfl) ?_)| refine Gl hop ?_ | (refine Gt he ?_; rintro _ _ ⟨rfl, rfl⟩) | (refine Ge ?_ ?_ <;> (intro h; try (exfalso; omega))) | fail)
    all_goals first | (exfalso; omega) | skip
    refine St.f1 Tryz.func324 ⟨_, ⟨rfl, rfl⟩, Ent.go⟩
  · rw [if_neg (by omega), if_neg (by omega), if_neg (by omega), if_neg (by omega), if_neg (by omega), if_neg (by omega), if_neg (by omega), if_pos e]
    refine Tri.of_body (vs := [_, _]) Tryz.func324 rfl rfl fun w0 F => ?_
    repeat' (first | refine Ga ?_ | (refine Gb ?_; intro b) | (refine Gd ?_; intro g cap rest hcap) | (refine Gc ?_; intro ad cap) | (refine St.draw (id := 5) [(0, 0), (1, 0), (2, 1), (3, 0), (4, 0), (5, 0), (6, 1), (7, 1), (8, 0), (9, 0), (10, 0), (11, 0), (12, 0), (13, 3)] [13] mixed (by kernel_rfl) ?_) | (refine St.draw (id := 8) [(0, 0), (1, 0), (2, 0), (3, 0), (4, 1), (5, 0), (6, 1), (7, 1), (8, 0), (9, 1), (10, 0), (11, 2), (12, 3), (13, 0), (14, 0), (15, 3)] [12, 15] mixed (by kernel_rfl) ?_) | (refine St.draw (id := 16) [(0, 0), (1, 0), (2, 0), (3, 0), (4, 1), (5, 0), (6, 0), (7, 0), (8, 1), (9, 0), (10, 0), (11, 0), (12, 1), (13, 0), (14, 0), (15, 1), (16, 1), (17, 0), (18, 0), (19, 0), (20, 0), (21, 0), (22, 0), (23, 3)] [23] mixed (by kernel_rfl) ?_) | (refine St.draw (id := 21) [(0, 0), (1, 1), (2, 0), (3, 0), (4, 0), (5, 1), (6, 0)] [] mixed (by kernel_rfl) ?_)| refine Gl hop ?_ | (refine Ge ?_ ?_ <;> (intro h; try (exfalso; omega))) | fail)
    all_goals first | (exfalso; omega) | skip
    refine St.f1 Tryz.func324 ⟨_, ⟨rfl, rfl⟩, ?_⟩
    exact Ent.trans Ent.go (Ent.hp (ad := lad) (cap := lcap) (y := { y with next := 8 }))
  · rw [if_neg (by omega), if_neg (by omega), if_neg (by omega), if_neg (by omega), if_neg (by omega), if_neg (by omega), if_neg (by omega), if_neg (by omega)]
    refine Tri.of_body (vs := [_, _]) Tryz.func324 rfl rfl fun w0 F => ?_
    repeat' (first | refine Ga ?_ | (refine Gb ?_; intro b) | (refine Gd ?_; intro g cap rest hcap) | (refine Gc ?_; intro ad cap) | (refine St.draw (id := 5) [(0, 0), (1, 0), (2, 1), (3, 0), (4, 0), (5, 0), (6, 1), (7, 1), (8, 0), (9, 0), (10, 0), (11, 0), (12, 0), (13, 3)] [13] mixed (by kernel_rfl) ?_) | (refine St.draw (id := 8) [(0, 0), (1, 0), (2, 0), (3, 0), (4, 1), (5, 0), (6, 1), (7, 1), (8, 0), (9, 1), (10, 0), (11, 2), (12, 3), (13, 0), (14, 0), (15, 3)] [12, 15] mixed (by kernel_rfl) ?_) | (refine St.draw (id := 16) [(0, 0), (1, 0), (2, 0), (3, 0), (4, 1), (5, 0), (6, 0), (7, 0), (8, 1), (9, 0), (10, 0), (11, 0), (12, 1), (13, 0), (14, 0), (15, 1), (16, 1), (17, 0), (18, 0), (19, 0), (20, 0), (21, 0), (22, 0), (23, 3)] [23] mixed (by kernel_rfl) ?_) | (refine St.draw (id := 21) [(0, 0), (1, 1), (2, 0), (3, 0), (4, 0), (5, 1), (6, 0)] [] mixed (by kernel_rfl) ?_)| refine Gl hop ?_ | (refine Ge ?_ ?_ <;> (intro h; try (exfalso; omega))) | fail)
    all_goals first | (exfalso; omega) | skip
    refine St.f1 Tryz.func324 ⟨_, ⟨rfl, rfl⟩, ?_⟩
    exact Ent.trans Ent.go (Ent.hp (ad := lad) (cap := lcap) (y := y))
/-- a thread does its own transaction -/
theorem hown_t (c : Cfg) (hc : Small c) (who : Int) (seq : Nat) (list : List (Int × Nat)) (hl : list.length ≤ 1000000) (ad : Option Addr) (cap : Nat) : Tri Tryz.prog 135 #[.agg ⟨c.m⟩, .int .i64 who, .int .u64 (seq : Int), .slice ad list.length cap] [Row (.slice ad list.length cap) 314 2 list.length (list.flatMap entV)]
    fun r L => ∃ H, r = .pointer (some ⟨H, 0, none⟩) ∧ L = [HpE H c (Hm.own c who seq list)] := by
  have he := fun H lad lcap => hentry_raw H c hc ⟨who, who, seq, list, 0, 0, -1, ⟨0, 0⟩, 0⟩ lad lcap hl 0 (Nat.zero_le _)
  try dsimp only at he
  have hone : (list.flatMap entV).all one = true := entV_one list
  refine Tri.of_body (vs := [_, _, _, _]) Tryz.func135 rfl rfl fun w0 F => ?_
  refine St.rowC (fun hv h0 hx => ?_) (fun g lcp rest hv hrf => ?_)
  · injection hv with hv1 hv2 hv3
    subst hv1 hv3
    obtain rfl := List.eq_nil_of_length_eq_zero h0
    repeat' (first | refine Ga ?_ | (refine Gb ?_; intro b) | (refine Gd ?_; intro g cap rest hcap) | (refine Gc ?_; intro ad cap) | (refine St.draw (id := 1) [(0, 1), (1, 0), (2, 0), (3, 0), (4, 0), (5, 0), (6, 0), (7, 2), (8, 0)] [] mixed (by kernel_rfl) ?_) | (refine Gt (he _ _ _) ?_; rintro _ _ ⟨rfl, rfl⟩) | (refine Ge ?_ ?_ <;> (intro h; try (exfalso; omega))) | fail)
    (apply StD.v0; rfl; (apply OpV.appendZ; rfl; rfl); rfl)
    repeat' (first | refine Ga ?_ | (refine Gb ?_; intro b) | (refine Gd ?_; intro g cap rest hcap) | (refine Gc ?_; intro ad cap) | (refine St.draw (id := 1) [(0, 1), (1, 0), (2, 0), (3, 0), (4, 0), (5, 0), (6, 0), (7, 2), (8, 0)] [] mixed (by kernel_rfl) ?_) | (refine Ge ?_ ?_ <;> (intro h; try (exfalso; omega))) | fail)
    refine StL.conv ?_ (Sub.refl _) (Ent.row_nil 314 2)
    repeat' (first | refine Ga ?_ | (refine Gb ?_; intro b) | (refine Gd ?_; intro g cap rest hcap) | (refine Gc ?_; intro ad cap) | (refine St.draw (id := 1) [(0, 1), (1, 0), (2, 0), (3, 0), (4, 0), (5, 0), (6, 0), (7, 2), (8, 0)] [] mixed (by kernel_rfl) ?_) | (refine Gt (he _ _ _) ?_; rintro _ _ ⟨rfl, rfl⟩) | (refine Ge ?_ ?_ <;> (intro h; try (exfalso; omega))) | fail)
    refine St.d1 Tryz.func135 ⟨_, ⟨_, rfl, rfl⟩, Ent.go⟩
  · injection hv with hv1 hv2 hv3
    subst hv1 hv3
    have htk : TakeN (list.length * 2) (list.flatMap entV ++ rest) (list.flatMap entV) := by rw [← hrf.len]; exact TakeN.app _ _
    repeat' (first | refine Ga ?_ | (refine Gb ?_; intro b) | (refine Gd ?_; intro g cap rest hcap) | (refine Gc ?_; intro ad cap) | (refine St.draw (id := 1) [(0, 1), (1, 0), (2, 0), (3, 0), (4, 0), (5, 2), (6, 0), (7, 2), (8, 0)] [] mixed (by kernel_rfl) ?_) | (refine Gt (he _ _ _) ?_; rintro _ _ ⟨rfl, rfl⟩) | (refine Gu (he _ _ _) ?_; rintro _ _ ⟨rfl, rfl⟩; refine ⟨Ent.go, ?_⟩) | (refine Ge ?_ ?_ <;> (intro h; try (exfalso; omega))) | fail)
    (apply StD.ok2; rfl; (apply OpOk.appendNl; rfl; rfl; (focus (repeat first | exact ReadsC.here RdC.bl | exact ReadsC.here (by assumption) | apply ReadsC.there)); (focus (first | assumption | (repeat constructor))); (focus (first | assumption | (repeat constructor))); assumption; rfl; rfl; omega; omega); rfl; rintro _ _ ⟨ad, cap, rfl, rfl⟩; refine ⟨Ent.go, ?_⟩)
    repeat' (first | refine Ga ?_ | (refine Gb ?_; intro b) | (refine Gd ?_; intro g cap rest hcap) | (refine Gc ?_; intro ad cap) | (refine St.draw (id := 1) [(0, 1), (1, 0), (2, 0), (3, 0), (4, 0), (5, 2), (6, 0), (7, 2), (8, 0)] [] mixed (by kernel_rfl) ?_) | (refine Gt (he _ _ _) ?_; rintro _ _ ⟨rfl, rfl⟩) | (refine Gu (he _ _ _) ?_; rintro _ _ ⟨rfl, rfl⟩; refine ⟨Ent.go, ?_⟩) | (refine Ge ?_ ?_ <;> (intro h; try (exfalso; omega))) | fail)
    refine St.d1 Tryz.func135 ⟨_, ⟨_, rfl, rfl⟩, Ent.go⟩
end Go.Proofs.YtemaaenipjinaaaGreat
