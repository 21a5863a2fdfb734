/-
  An assertion taken as it is: what holds of its memory can be read of it. Package tumblerref07: the document's numbers are the program's. Package tumblerref07: where a thing stands is where the program has it. What a thread does, as far as replies go: a tape of replies, and a machine that is fed with them. Package tumblerref09, in plain terms: a view, as far as replies go; it does what the program's does. Package tumblerref09: Do, Load, Store, load, Cell, Live, Word. Package tumblerref09: Cell, Live, Word. Package tumblerref09: Live, Word. Package tumblerref08: Get. Package tumblerref08: All. Package tumblerref08: Put. Package tumblerref10: put, Top, End. Package tumblerref10: Give, Take, names. Package build: Rows, Entries, as what can be read of them; package tumblerlaw14: as; package tumblerref08: Same. Package tumblerlaw14: what a transaction writes is written; where nothing was asked for; told.
-/
import Derived.Test.YthmbgodcpgkkeaaGreatTwk
import Derived.Test.YthmbgodcpgkkeaaGreatRowg
import Derived.Test.YthmbgodcpgkkeaaGreatVw
import Derived.Test.YthmbgodcpgkkeaaGreatBa
import Derived.Test.YthmbgodcpgkkeaaGreatBk
import Derived.Test.YthmbgodcpgkkeaaGreatWi
section
namespace Go.Proofs.YthmbgodcpgkkeaaGreat
/-- just this memory -/
def frz (H : Hp) : HProp := fun h => h = H
theorem sat_frz {p : HProp} {L : List HProp} {h : Hp} (hs : Sat (p :: L) h) : ∃ H, p H ∧ Sat (frz H :: L) h := by
  rw [sat_cons] at hs
  obtain ⟨h1, h2, hd, hu, hp, hL⟩ := hs
  exact ⟨h1, hp, sat_cons.2 ⟨h1, h2, hd, hu, rfl, hL⟩⟩
theorem RdC.frz {H : Hp} {L : List HProp} {b : Nat} {l : List Value} (hs : Sat L H) (r : ReadsC L b l) : RdC (Go.Proofs.YthmbgodcpgkkeaaGreat.frz H) b l :=
  RdC.of_sat (p := Go.Proofs.YthmbgodcpgkkeaaGreat.frz H) (fun k hk => by rw [show k = H from hk]; exact hs) r
theorem star_sat {L : List HProp} {H : Hp} (h : star L H) : Sat L H := by
  obtain ⟨_, h⟩ := h
  exact h
theorem sat_mem {L : List HProp} {p : HProp} {H : Hp} (hs : Sat L H) (hp : p ∈ L) : ∃ M, Sat (p :: M) H := by
  obtain ⟨A, B, rfl⟩ := List.append_of_mem hp
  have h : Ent (A ++ p :: B) (p :: (A ++ B)) := Ent.mid'
  unfold Ent at h
  exact ⟨_, h _ hs⟩
/-- a slice within it can be read -/
theorem ListR.frz {α : Type} {f : α → List Value} {v : Value} {e sz n : Nat} {xs : List α} {L : List HProp} {H : Hp} (hn : xs.length = n) (hs : Sat L H) (hp : Row v e sz n (xs.flatMap f) ∈ L) : ListR f (Go.Proofs.YthmbgodcpgkkeaaGreat.frz H) v xs := by
  obtain ⟨M, hs⟩ := sat_mem hs hp
  obtain ⟨R, hR, hs⟩ := sat_rowL hn hs
  exact hR.weak fun b l hr => RdC.frz hs (.here hr)
/-! drawn regions with stores -/
end Go.Proofs.YthmbgodcpgkkeaaGreat
end
section
namespace Go.Proofs.YthmbgodcpgkkeaaGreat
set_option maxRecDepth 100000
end Go.Proofs.YthmbgodcpgkkeaaGreat
end
section
namespace Go.Proofs.YthmbgodcpgkkeaaGreat
set_option maxRecDepth 100000
end Go.Proofs.YthmbgodcpgkkeaaGreat
end
section
namespace Go.Proofs.YthmbgodcpgkkeaaGreat
set_option maxRecDepth 100000
end Go.Proofs.YthmbgodcpgkkeaaGreat
end
section
namespace Go.Proofs.YthmbgodcpgkkeaaGreat
set_option maxRecDepth 100000
/-! a tape that asks for something stays -/
/-! the machine -/
end Go.Proofs.YthmbgodcpgkkeaaGreat
end
section
namespace Go.Proofs.YthmbgodcpgkkeaaGreat
set_option maxRecDepth 100000
end Go.Proofs.YthmbgodcpgkkeaaGreat
end
section
namespace Go.Proofs.YthmbgodcpgkkeaaGreat
set_option maxRecDepth 100000
end Go.Proofs.YthmbgodcpgkkeaaGreat
end
section
namespace Go.Proofs.YthmbgodcpgkkeaaGreat
set_option maxRecDepth 100000
end Go.Proofs.YthmbgodcpgkkeaaGreat
end
section
namespace Go.Proofs.YthmbgodcpgkkeaaGreat
set_option maxRecDepth 100000
end Go.Proofs.YthmbgodcpgkkeaaGreat
end
section
namespace Go.Proofs.YthmbgodcpgkkeaaGreat
set_option maxRecDepth 100000
end Go.Proofs.YthmbgodcpgkkeaaGreat
end
section
namespace Go.Proofs.YthmbgodcpgkkeaaGreat
set_option maxRecDepth 100000
end Go.Proofs.YthmbgodcpgkkeaaGreat
end
section
namespace Go.Proofs.YthmbgodcpgkkeaaGreat
set_option maxRecDepth 100000
end Go.Proofs.YthmbgodcpgkkeaaGreat
end
section
namespace Go.Proofs.YthmbgodcpgkkeaaGreat
set_option maxRecDepth 100000
def u1V (x : Nat) : List Value := [.int .u64 (x : Int)]
end Go.Proofs.YthmbgodcpgkkeaaGreat
end
section
namespace Go.Proofs.YthmbgodcpgkkeaaGreat
set_option maxRecDepth 100000
theorem Tri.frz_out {P : Program} {f : FuncId} {args : Array Value} {L : List HProp} {Φ Q : Value → List HProp → Prop} (h : Tri P f args L Φ)
    (hq : ∀ v L', Φ v L' → ∃ A M, Ent L' (A :: M) ∧ ∀ H, Sat M H → Q v [A, Go.Proofs.YthmbgodcpgkkeaaGreat.frz H]) : Tri P f args L Q := by
  unfold Tri at *
  intro w F hs
  refine (h w F hs).mono ?_
  rintro e' w' ⟨v, L', he, hv, hs', ho⟩
  obtain ⟨A, M, hE, hQ⟩ := hq v L' hv
  have h1 : Ent (L' ++ F) (A :: (M ++ F)) := Ent.app hE
  have h2 : Ent (A :: (M ++ F)) (A :: star M :: F) := Ent.cons (Ent.star_in M)
  have h3 := h1.trans h2
  unfold Ent at h3
  have hs2 : Sat (A :: star M :: F) (hpOf w') := h3 _ hs'
  obtain ⟨H, hM, hs3⟩ := sat_frz hs2.swap
  exact ⟨v, _, he, hQ H (star_sat hM), hs3.swap, ho⟩
theorem u64s_flat14 (l : List Nat) : u64s l = l.flatMap u1V := by
  induction l with
  | nil => rfl
  | cons x l ih => rw [List.flatMap_cons, ← ih]; rfl
theorem brows_z (B : Nat) (c : Cfg) (hc : Small c) (pv : Value) (q : HProp) (progs : Progs) (m : Bm) (hi : Binv c progs m) : Tri Tryz.prog 44 #[.pointer (some ⟨B, 0, none⟩)] [Bd B c pv q progs m]
    fun r L => ∃ R ad cap rs, rs.map (·.1) = m.rows ∧ ListR rowV R (.slice ad rs.length cap) rs ∧ (∀ x ∈ rs, ListR u1V R (.slice x.2.1 x.1.news.length x.2.2) x.1.news) ∧ r = .slice ad rs.length cap ∧ L = [Bd B c pv q progs m, R] := by
  refine Tri.frz_out (brows_t B c hc pv q progs m hi) ?_
  rintro v L' ⟨ad, cap, rs, hrs, rfl, rfl⟩
  have hl : rs.length = m.rows.length := by rw [← hrs, List.length_map]
  refine ⟨_, Row (.slice ad m.rows.length cap) 128 5 m.rows.length (rs.flatMap rowV) :: (rs.map rowP ++ []), Ent.cons (Ent.cons Ent.star_out), fun H hH => ?_⟩
  refine ⟨_, ad, cap, rs, hrs, ?_, fun x hx => ?_, by rw [hl], rfl⟩
  · rw [hl]
    exact ListR.frz hl hH (List.mem_cons_self ..)
  · refine ListR.frz (e := 22) (sz := 1) (n := x.1.news.length) rfl hH (List.mem_cons_of_mem _ (List.mem_append_left _ ?_))
    rw [← u64s_flat14]
    exact List.mem_map_of_mem hx
theorem bentries_z (B : Nat) (c : Cfg) (hc : Small c) (pv : Value) (q : HProp) (progs : Progs) (m : Bm) (hi : Binv c progs m) : Tri Tryz.prog 47 #[.pointer (some ⟨B, 0, none⟩)] [Bd B c pv q progs m]
    fun r L => ∃ R ad cap, ListR entV R (.slice ad (entriesOf c m.e.puts).length cap) (entriesOf c m.e.puts) ∧ r = .slice ad (entriesOf c m.e.puts).length cap ∧ L = [Bd B c pv q progs m, R] := by
  refine Tri.frz_out (bentries_t B c hc pv q progs m hi) ?_
  rintro v L' ⟨ad, cap, rfl, rfl⟩
  exact ⟨_, _, Ent.refl _, fun H hH => ⟨_, ad, cap, ListR.frz rfl hH (List.mem_cons_self ..), rfl, rfl⟩⟩
set_option maxHeartbeats 2000000 in
theorem as14_t {q : HProp} {ad : Option Addr} {n cap : Nat} {xs : List (Int × Nat)} (hx : ListR entV q (.slice ad n cap) xs) (hn : xs.length ≤ 1000000) : Tri Tryz.prog 46 #[.slice ad n cap] [q]
    fun r L => ∃ R oa oc, ListR entV R (.slice oa xs.length oc) xs ∧ r = .slice oa xs.length oc ∧ L = [R, q] := by
  obtain rfl : n = xs.length := hx.len
  refine Tri.of_body (vs := [_]) Tryz.func46 rfl rfl fun w0 F => ?_
  repeat' (first | refine Ga ?_ | (refine Gb ?_; intro b) | (refine Gd ?_; intro g cap rest hcap) | (refine Gc ?_; intro ad cap)  | (refine Ge ?_ ?_ <;> (intro h; try (exfalso; omega))) | fail)
  all_goals first | (exfalso; omega) | skip
  refine St.conv ?_ (Sub.refl _) (Ent.trans (Ent.of_take (p := bl b 225 []) Take.go) (Ent.row_bl (n := 0) (sz := 2) rfl (Nat.zero_le _)))
  refine St.loopY (Lr := ?Lr1) (ι := { x : Nat × Option Addr × Nat // x.1 ≤ xs.length }) (fun x => xs.length - x.1.1) (fun x => [(9, .int .i64 (x.1.1 : Int)), (3, .slice x.1.2.1 x.1.1 x.1.2.2)]) (fun x => [Row (.slice x.1.2.1 x.1.1 x.1.2.2) 225 2 x.1.1 ((xs.take x.1.1).flatMap entV)]) ⟨(0, some ⟨b, 0, none⟩, 0), Nat.zero_le _⟩ ?hE1 ?hL1 ?round1
  case hE1 => exact Sub.go
  case hL1 => exact Takes.go
  case round1 =>
    rintro ⟨⟨k, wad, wcap⟩, hk⟩ IH; dsimp only at hk IH ⊢
    by_cases hlt : k < xs.length
    · obtain ⟨ab, ao, al, al1, rfl, hra9, hda, hta⟩ := hx.at' entV_len k hlt
      have e3 : (xs.take (k + 1)).flatMap entV = (xs.take k).flatMap entV ++ entV xs[k] := by
        rw [List.take_succ_eq_append_getElem hlt, List.flatMap_append, List.flatMap_cons, List.flatMap_nil, List.append_nil]
      generalize xs[k] = x at hta e3
      obtain ⟨x1, x2⟩ := x
      unfold entV at hta
      repeat' (first | refine Ga ?_ | (refine Gb ?_; intro b) | (refine Gd ?_; intro g cap rest hcap) | (refine Gc ?_; intro ad cap)  | (refine Ge ?_ ?_ <;> (intro h; try (exfalso; omega))) | fail)
      all_goals first | (exfalso; omega) | skip
      refine IH ⟨(k + 1, ad, cap), hlt⟩ (by show xs.length - (k + 1) < xs.length - k; omega) ?_ ?_
      · exact Sub.go
      · dsimp only
        rw [e3]
        exact Ent.go
    · obtain rfl : k = xs.length := by omega
      clear IH
      rw [List.take_length]
      repeat' (first | refine Ga ?_ | (refine Gb ?_; intro b) | (refine Gd ?_; intro g cap rest hcap) | (refine Gc ?_; intro ad cap)  | (refine Ge ?_ ?_ <;> (intro h; try (exfalso; omega))) | fail)
      all_goals first | (exfalso; omega) | skip
      refine St.conv ?_ (Sub.refl _) (Ent.of_take (p := Row (.slice wad xs.length wcap) 225 2 xs.length (xs.flatMap entV)) Take.go)
      refine St.rowL rfl fun R2 hR2 => ?_
      exact St.d1 Tryz.func46 ⟨_, ⟨R2, wad, wcap, hR2, rfl, rfl⟩, Ent.go⟩
section
variable {qa qb : HProp} {va vb : Value}
set_option maxHeartbeats 1000000 in
theorem same8o_r {xs : List (Int × Nat)} (ha : ListR entV qa va xs) (hb : ListR entV qb vb xs) (hn : xs.length ≤ 1000000) : RTri Tryz.prog 45 #[va, vb] [qa, qb] (.bool true) := by
  refine RTri.of_reads fun p hp => ?_
  replace ha := ha.weak fun b l h => RdC.of_sat hp (ReadsC.here h)
  replace hb := hb.weak fun b l h => RdC.of_sat hp (ReadsC.there (ReadsC.here h))
  obtain ⟨aad, acp, rfl, _⟩ := id ha
  obtain ⟨bad, bcp, rfl, _⟩ := id hb
  refine Tri.of_body (vs := [_, _]) Tryz.func45 rfl rfl fun w0 F => ?_
  repeat' (first | refine Ga ?_ | (refine Gb ?_; intro b) | (refine Gd ?_; intro g cap rest hcap) | (refine Gc ?_; intro ad cap) | (refine St.draw (id := 6) [(0, 0), (1, 0), (2, 0), (3, 1), (4, 0), (5, 0), (6, 0), (7, 1), (8, 0)] [] mixed (by kernel_rfl) ?_) | (refine Ge ?_ ?_ <;> (intro h; try (exfalso; omega))) | fail)
  all_goals first | (exfalso; omega) | skip
  refine St.loopY (Lr := ?Lr1) (ι := { x : Nat // x ≤ xs.length }) (fun x => xs.length - x.1) (fun x => [(5, .int .i64 (x.1 : Int))]) (fun _ => []) ⟨0, Nat.zero_le _⟩ ?hE1 ?hL1 ?round1
  case hE1 => exact Sub.go
  case hL1 => exact Takes.go
  case round1 =>
    rintro ⟨k, hk⟩ IH; dsimp only at hk IH ⊢
    by_cases hlt : k < xs.length
    · obtain ⟨ab, ao, al, al1, rfl, hra, hda, hta⟩ := ha.at' entV_len k hlt
      obtain ⟨bb, bo, bl9, bl1, rfl, hrb, hdb, htb⟩ := hb.at' entV_len k hlt
      generalize xs[k] = x at hta htb
      obtain ⟨x1, x2⟩ := x
      unfold entV at hta htb
      repeat' (first | refine Ga ?_ | (refine Gb ?_; intro b) | (refine Gd ?_; intro g cap rest hcap) | (refine Gc ?_; intro ad cap) | (refine St.draw (id := 6) [(0, 0), (1, 0), (2, 0), (3, 1), (4, 0), (5, 0), (6, 0), (7, 1), (8, 0)] [] mixed (by kernel_rfl) ?_) | (refine Ge ?_ ?_ <;> (intro h; try (exfalso; omega))) | fail)
      all_goals first | (exfalso; omega) | skip
      all_goals first | (exfalso; simp at h; done) | skip
      refine IH ⟨k + 1, hlt⟩ (by show xs.length - (k + 1) < xs.length - k; omega) ?_ ?_
      · exact Sub.go
      · exact Ent.go
    · obtain rfl : k = xs.length := by omega
      clear IH
      repeat' (first | refine Ga ?_ | (refine Gb ?_; intro b) | (refine Gd ?_; intro g cap rest hcap) | (refine Gc ?_; intro ad cap) | (refine St.draw (id := 6) [(0, 0), (1, 0), (2, 0), (3, 1), (4, 0), (5, 0), (6, 0), (7, 1), (8, 0)] [] mixed (by kernel_rfl) ?_) | (refine Ge ?_ ?_ <;> (intro h; try (exfalso; omega))) | fail)
      all_goals first | (exfalso; omega) | skip
      exact St.d1 Tryz.func45 ⟨_, ⟨rfl, rfl⟩, Ent.go⟩
end
end Go.Proofs.YthmbgodcpgkkeaaGreat
end
section
namespace Go.Proofs.YthmbgodcpgkkeaaGreat
set_option maxRecDepth 100000
theorem and_le_j (a : Int) (m : Nat) (hm : m < 9223372036854775808) : 0 ≤ IntKind.i64.wrap ((BitVec.ofInt IntKind.i64.bits a &&& BitVec.ofInt IntKind.i64.bits m).toNat : Int) ∧ IntKind.i64.wrap ((BitVec.ofInt IntKind.i64.bits a &&& BitVec.ofInt IntKind.i64.bits m).toNat : Int) ≤ m := by
  have h1 : (BitVec.ofInt IntKind.i64.bits a &&& BitVec.ofInt IntKind.i64.bits m).toNat ≤ m := by
    rw [BitVec.toNat_and]
    refine Nat.le_trans Nat.and_le_right ?_
    rw [BitVec.toNat_ofInt]
    have : (2 : Nat) ^ IntKind.i64.bits = 18446744073709551616 := rfl
    rw [this]
    omega
  generalize (BitVec.ofInt IntKind.i64.bits a &&& BitVec.ofInt IntKind.i64.bits m).toNat = n at h1
  have : IntKind.i64.wrap (n : Int) = n := by simp [IntKind.wrap, IntKind.bits, IntKind.signed]; omega
  rw [this]
  omega
/-- a thread asks for a program -/
structure Aq where
  who : Int
  prog : Int
  a0 : Nat
  a1 : Nat
  a2 : Nat
  a3 : Nat
def Aq.v (a : Aq) : List Value := [.int .i64 a.who, .int .i64 a.prog, .int .u64 (a.a0 : Int), .int .u64 (a.a1 : Int), .int .u64 (a.a2 : Int), .int .u64 (a.a3 : Int)]
theorem Aq.v_len (a : Aq) : a.v.length = 6 := rfl
def i64C (z : Int) : List Value := [.int .i64 z]
theorem i64C_len (z : Int) : (i64C z).length = 1 := rfl
/-- rounds that can be read -/
def RoundsG (q : HProp) (v : Value) (rounds : List (List Aq)) : Prop :=
  ∃ pad pcap, v = .slice pad rounds.length pcap ∧ rounds.length ≤ 9223372036854775807 ∧ ∀ (i : Nat) (h : i < rounds.length), ∃ b o l cv, pad = some ⟨b, o, none⟩ ∧ RdC q b l ∧ NthN (o + (i : Int).toNat * 1) l cv ∧ ListR Aq.v q cv rounds[i]
/-- between rounds -/
structure RN (c : Cfg) (n : Nat) (M : Pm) (ms : Ms) : Prop where
  st : M.st.length = 8
  tr : M.tr.length ≤ 20000 * n
  mem : ∃ fs ls, MemH c M.cs n fs ls ms.roots ms.blocks
theorem RN.want {c : Cfg} {n : Nat} {M : Pm} {ms : Ms} (hc : Small c) (h : RN c n M ms) {who : Int} (hw : 0 ≤ who ∧ who < c.threads) (prog : Nat) {args : List Nat} (h4 : args.length = 4) (tag : Nat) : RN c n (M.want c who prog args tag) ms := by
  obtain ⟨fs, ls, hm⟩ := h.mem
  exact ⟨h.st, h.tr, fs, ls, hm.want hc hw prog h4 tag⟩
theorem pit_st {c : Cfg} (hc : Small c) (hf : 0 ≤ c.fuel ∧ c.fuel ≤ 1000) {progs : Progs} {who : Int} {M : Pm} {seq : Nat} (hst : M.st.length = 8) (k : Nat) : (pit c progs who (M, Bm.new who seq) k).1.st.length = 8 ∧ (pit c progs who (M, Bm.new who seq) k).1.tr.length ≤ M.tr.length + k ∧ Binv c progs (pit c progs who (M, Bm.new who seq) k).2 := by
  obtain ⟨h1, h2, h3, h4⟩ := pit_inv (who := who) hc hf (s := (M, Bm.new who seq)) (Binv.new hc who seq (progs := progs)) hst k
  exact ⟨h2, h4, h1⟩
/-- what a transaction has come to, and what stands behind it once it is written -/
structure Planned (q : Tq) (M M2 : Pm) (m : Bm) (ms2 : Ms) : Prop where
  st : M2.st.length = 8
  tr : M2.tr.length ≤ M.tr.length + 20000
  inv : Binv q.c q.progs m
  s : m.b.s = 1
  cf : Cf q.c q.progs q.cs q.ms m.rows ms2
  whos : m.rows.map (·.who) = ((List.range q.c.threads.toNat).map fun k : Nat => (k : Int)).filter (pendB q.c q.cs)
  tags : ∀ r ∈ m.rows, r.tag = (annC q.c q.cs r.who).seq
  rcs : ∀ r ∈ m.rows, 0 ≤ r.rc ∧ r.rc ≤ 100
  done : Bdone q m.rows (putEs (q.n + 1) (entriesOf q.c m.e.puts) M2.cs) ms2
  triv : (∀ u : Int, 0 ≤ u → u < q.c.threads → pendB q.c q.cs u = false) → M2.cs = q.cs ∧ m.rows = [] ∧ m.e.puts = endP q.c q.c.cap.toNat q.p0 q.P0
theorem plan_is {q : Tq} (hq : Tok q) {M : Pm} (hM : M.cs = q.cs) (hst : M.st.length = 8) : ∃ N ms2, N ≤ 20000 ∧ (∀ k ≤ N, ((pit q.c q.progs q.who (M, Bm.new q.who q.n) k).2.ask q.c).2 = decide (k < N)) ∧ Planned q M (pit q.c q.progs q.who (M, Bm.new q.who q.n) N).1 (pit q.c q.progs q.who (M, Bm.new q.who q.n) N).2 ms2 := by
  obtain ⟨N, hN, hak, hbi, hfin⟩ := plan_fin hq hM hst
  obtain ⟨P, v, ms2, hs, hb, he, hmb⟩ := hbi.fin hq hfin
  obtain ⟨h1, h2, h3⟩ := pit_st (who := q.who) (progs := q.progs) (seq := q.n) hq.hc hq.fu' hst N
  refine ⟨N, ms2, hN, hak, ⟨h1, by omega, h3, hs, hb.cf, hb.whos, hb.tags, fun r hr => (hb.told r hr).2, ?_, fun hn => ?_⟩⟩
  · rw [he]; exact hb.done hq hmb
  · have hr : (pit q.c q.progs q.who (M, Bm.new q.who q.n) N).2.rows = [] := by
      have := hb.whos
      rw [List.filter_eq_nil_iff.2] at this
      · exact List.map_eq_nil_iff.1 this
      · intro x hx
        obtain ⟨k, hk, rfl⟩ := List.mem_map.1 hx
        have := List.mem_range.1 hk
        rw [hn k (by omega) (by omega)]; decide
    obtain ⟨e1, e2⟩ := hb.triv hr
    exact ⟨hmb.same hn, hr, by rw [he, e1, e2]⟩
/-- nothing but what becomes of limbo -/
def KkR (c : Cfg) (P : List (Int × Nat)) : Prop := ∀ x ∈ P, 11 ≤ (c.what x.1).1 ∧ (c.what x.1).1 ≤ 15
section
variable {c : Cfg} {P : List (Int × Nat)} {room : Nat}
theorem KkR.put (h : KkR c P) {a : Int} (ha : 11 ≤ (c.what a).1 ∧ (c.what a).1 ≤ 15) (v : Nat) : KkR c (putP room P a v) := by
  unfold putP
  split
  · exact h
  · intro x hx
    rcases List.mem_append.1 hx with hx | hx
    · exact h x hx
    · rw [List.mem_singleton.1 hx]; exact ha
theorem what_k (hc : Small c) {kind i : Int} (hk : 11 ≤ kind ∧ kind ≤ 15) (hi : 0 ≤ i ∧ i < (c.cnt kind).1 ∧ (0 : Int) ≤ 0 ∧ 0 < (c.cnt kind).2) : 11 ≤ (c.what (c.at kind i 0)).1 ∧ (c.what (c.at kind i 0)).1 ≤ 15 := by
  rw [at_rest hc (by omega) ⟨hi.1, hi.2.1⟩ ⟨hi.2.2.1, hi.2.2.2⟩]
  exact hk
theorem setGo_kk (hc : Small c) {names : List Nat} : ∀ (l : List Nat) (k n : Nat) (s : SetS), s.nt = (n : Int) → (∀ b ∈ l, (b : Int) < c.blocks) → ((n + l.length : Nat) : Int) ≤ c.blocks → s.kept ≤ k → ((k + l.length : Nat) : Int) ≤ c.limit → KkR c s.puts → KkR c (setGo c room names k l s).puts
  | [], k, n, s, _, _, _, _, _, h => h
  | b :: l, k, n, s, hn, hbl, hnb, hk, hkl, h => by
    rw [List.length_cons] at hnb hkl
    have hb := hbl b (List.mem_cons_self ..)
    have hbl' : ∀ x ∈ l, (x : Int) < c.blocks := fun x hx => hbl x (List.mem_cons_of_mem _ hx)
    rw [setGo]
    by_cases h0 : cnt names ((b : Int) + 1) = 0
    · have e1 : setStep c room names k b s = ⟨s.kept, (n : Int) + 1, putP room (putP room s.puts (c.at 11 b 0) 0) (c.at 13 n 0) b⟩ := by
        unfold setStep relP
        rw [if_neg (by omega), if_pos h0, if_pos (by omega), hn]
      rw [e1]
      exact setGo_kk hc l (k + 1) (n + 1) _ (by simp) hbl' (by omega) (by dsimp only; omega) (by omega) ((h.put (what_k hc (by decide) (in11 hb)) 0).put (what_k hc (by decide) (in13 (by omega))) b)
    · have e1 : setStep c room names k b s = ⟨s.kept + 1, n, if s.kept ≠ k then putP room s.puts (c.at 15 s.kept 0) b else s.puts⟩ := by
        unfold setStep
        rw [if_neg (by omega), if_neg h0, hn]
      have hput := h.put (room := room) (what_k hc (by decide) (in15 (c := c) (b := s.kept) (by omega))) b
      rw [e1]
      by_cases hkk : s.kept = k
      · rw [if_neg (by simpa using hkk)]
        exact setGo_kk hc l (k + 1) n _ rfl hbl' (by omega) (by dsimp only; omega) (by omega) h
      · rw [if_pos hkk]
        exact setGo_kk hc l (k + 1) n _ rfl hbl' (by omega) (by dsimp only; omega) (by omega) hput
theorem triv_kinds {q : Tq} (hq : Tok q) : ∀ e ∈ entriesOf q.c (endP q.c q.c.cap.toNat q.p0 q.P0), 11 ≤ (q.c.what e.1).1 ∧ (q.c.what e.1).1 ≤ 15 := by
  have hc := hq.hc
  have hP : KkR q.c q.P0 := by
    have hfz := hq.mem.rep.fsz
    have hlz := hq.mem.rep.lsz
    have hcnt := hq.mem.rep.cnt
    unfold Tq.P0 Tq.p1 set1
    rw [pool1_eq hc]
    exact setGo_kk hc q.ls 0 q.fs.length _ rfl (fun b hb => (hq.mem.rep.limbo b hb).1) (by omega) (Nat.le_refl _) (by omega) fun x hx => by cases hx
  have hE : KkR q.c (endP q.c q.c.cap.toNat q.p0 q.P0) := by
    unfold endP
    split
    · split
      · exact hP
      · exact hP.put (what_k hc (by decide) (in12 q.c)) _
    · refine KkR.put ?_ (what_k hc (by decide) (in14 q.c)) _
      split
      · exact hP
      · exact hP.put (what_k hc (by decide) (in12 q.c)) _
  intro e he
  have h1 := (List.mem_filter.1 he).1
  obtain ⟨x, hx, ex⟩ := keysP_mem (List.mem_map.2 ⟨e, h1, rfl⟩)
  rw [← ex]
  exact hE x hx
end
end Go.Proofs.YthmbgodcpgkkeaaGreat
end
