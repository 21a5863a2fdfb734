/-
  A program of the document's, fed with replies that were all asked for. A pool that was told replies, and settled, in plain terms: its numbers are small. Packages tumblerref10, tumblerref14, in plain terms: a transaction, as far as replies go. ExecPlays, in plain terms: programs one behind the other, and what the document says of each.
-/
import Derived.Test.YthmbgodcpgkkeaaGreatVr
import Derived.Test.YthmbgodcpgkkeaaGreatNc
import Derived.Test.YthmbgodcpgkkeaaGreatExi
section
namespace Go.Proofs.YthmbgodcpgkkeaaGreat
set_option maxRecDepth 100000
theorem XX_ask (c : Cfg) (room : Nat) (code : List Ins) (m : Xm) : (XX c room code).ask m = m.ask c := rfl
theorem XX_tell (c : Cfg) (room : Nat) (code : List Ins) (m : Xm) (o : Out) : (XX c room code).tell m o = m.tell c room code o := rfl
section
variable {c : Cfg} {os : List Out} {room : Nat} {code : List Ins} {P0 : List (Int × Nat)} {nt0 nl0 : Int}
theorem rplay_at (hS : Start c P0 nt0 nl0) (hf : 0 ≤ c.fuel) (args : List Nat) (ha4 : args.length = 4) {rv : Rv} {v : Vw} (hv : VR rv v) (h0 : v.step = 0) (hns : v.s ≠ 2) (hg : Vgo v) (hvb : 0 ≤ v.block ∧ v.block ≤ 1000) (p : Po) (hnt : p.nt = nt0) (hnl : p.nl = nl0)
    (hall : ∀ i, i < os.length → ((fedM (XX c room code) os (Xm.start c room code v p P0 args) i).ask c).2 = true) {m : Xm} (hm : m = fedM (XX c room code) os (Xm.start c room code v p P0 args) os.length) :
    ((rplay c os room code args rv nt0 nl0 P0 (.live 0)).1 = .live os.length ∧ (m.ask c).2 = false ∧ (m.ask c).1 = op0 ∧ XP (rplay c os room code args rv nt0 nl0 P0 (.live 0)).2 m P0 nt0 nl0 ∧ ∃ j, Xr c code P0 nt0 nl0 j m) ∨
    ((m.ask c).2 = true ∧ m.x.s = 0 ∧ (rplay c os room code args rv nt0 nl0 P0 (.live 0)).1 = ⟨os.length, (m.ask c).1, true⟩ ∧ (rplay c os room code args rv nt0 nl0 P0 (.live 0)).2.s = 0) := by
  obtain ⟨m', k, hf1, h⟩ := play_sim (os := os) (room := room) (code := code) hS hf args ha4 hv h0 hns hg hvb p hnt hnl (Nat.zero_le _)
  obtain ⟨rfl, hask⟩ := fed_at hf1 (Xm.start c room code v p P0 args) rfl
  have hkl := hf1.len (Nat.zero_le _)
  rcases h with ⟨h1, h2, h3⟩ | ⟨rfl, h2, h3, h4⟩
  · have hs := h2.s.2
    have hno : (fedM (XX c room code) os (Xm.start c room code v p P0 args) k).ask c = (op0, false) := by
      unfold Xm.ask
      rw [if_pos (by omega)]
      rfl
    have hk : k = os.length := by
      rcases Nat.lt_or_ge k os.length with hlt | hge
      · have := hall k hlt
        rw [hno] at this; cases this
      · omega
    subst hk
    subst hm
    exact .inl ⟨h1, by rw [hno], by rw [hno], h2, h3⟩
  · subst hm
    rw [XX_ask] at h2 h3
    refine .inr ⟨h2, ?_, h3, h4⟩
    refine Decidable.byContradiction fun hs => ?_
    unfold Xm.ask at h2
    rw [if_pos hs] at h2
    cases h2
end
end Go.Proofs.YthmbgodcpgkkeaaGreat
end
section
namespace Go.Proofs.YthmbgodcpgkkeaaGreat
structure PoOk (n : Nat) (p : Po) : Prop where
  next : 0 ≤ p.next ∧ p.next ≤ n
  names : p.names.length ≤ n
  limbo : p.limbo.length ≤ n
  wt : 0 ≤ p.wt ∧ p.wt ≤ 64
  wl : 0 ≤ p.wl ∧ p.wl ≤ 520
  nt : 0 ≤ p.nt ∧ p.nt ≤ 64
  nl : 0 ≤ p.nl ∧ p.nl ≤ 520
theorem PoOk.new (seq : Nat) : PoOk 0 (Po.new seq) := by constructor <;> simp [Po.new]
theorem PoOk.fin {c : Cfg} {n : Nat} {p : Po} (h : PoOk n p) : PoOk n (p.fin c) := by
  unfold Po.fin; split
  · exact ⟨h.next, h.names, h.limbo, h.wt, h.wl, h.wt, h.wl⟩
  · exact h
theorem PoOk.tell {c : Cfg} (hc : Small c) {n : Nat} {p : Po} (h : PoOk n p) (o : Out) : PoOk (n + 1) (p.tell c o) := by
  have h1 := h.next; have h2 := h.names; have h3 := h.limbo; have h4 := hc.limit; have h5 := hc.b0; have h6 := hc.b1
  unfold Po.tell
  split
  · exact ⟨⟨h1.1, by omega⟩, by omega, by omega, h.wt, h.wl, h.nt, h.nl⟩
  split
  · exact PoOk.fin ⟨⟨by dsimp only; omega, by dsimp only; omega⟩, by simp; omega, by dsimp only; omega, h.wt, h.wl, h.nt, h.nl⟩
  split
  · exact ⟨⟨h1.1, by dsimp only; omega⟩, by dsimp only; omega, by dsimp only; omega, h.wt, h.wl, h.nt, h.nl⟩
  split
  · exact PoOk.fin ⟨⟨by dsimp only; omega, by dsimp only; omega⟩, by dsimp only; omega, by dsimp only; omega, minI_le (by omega) (by omega) (by omega), h.wl, h.nt, h.nl⟩
  split
  · exact PoOk.fin ⟨⟨by dsimp only; omega, by dsimp only; omega⟩, by dsimp only; omega, by dsimp only; omega, h.wt, minI_le (by omega) (by omega) (by omega), h.nt, h.nl⟩
  · exact PoOk.fin ⟨⟨by dsimp only; omega, by dsimp only; omega⟩, by dsimp only; omega, by simp; omega, h.wt, h.wl, h.nt, h.nl⟩
end Go.Proofs.YthmbgodcpgkkeaaGreat
end
section
namespace Go.Proofs.YthmbgodcpgkkeaaGreat
set_option maxRecDepth 100000
/-- a pool that was read -/
structure Rp where
  named : List Nat
  limbo : List Nat
  wt : Int
  wl : Int
def rnamed (c : Cfg) (os : List Out) : Nat → Nat → List Nat → Tp → Tp × List Nat
  | 0, _, l, t => (t, l)
  | k + 1, u, l, t => rnamed c os k (u + 1) (l ++ [(tdo os t (mop 0 (c.at 3 u 0) 0)).2.was.val]) (tdo os t (mop 0 (c.at 3 u 0) 0)).1
def rlimbo (c : Cfg) (os : List Out) (seq : Nat) : Nat → Nat → List Nat → Tp → Tp × (List Nat × Int)
  | 0, _, l, t => (t, (l, 1))
  | n + 1, k, l, t => if (tdo os t (mop 0 (c.at 15 k 0) 0)).1.need = true then ((tdo os t (mop 0 (c.at 15 k 0) 0)).1, (l, 0)) else if seq < (tdo os t (mop 0 (c.at 15 k 0) 0)).2.was.seq then ((tdo os t (mop 0 (c.at 15 k 0) 0)).1, (l, 2)) else rlimbo c os seq n (k + 1) (l ++ [(tdo os t (mop 0 (c.at 15 k 0) 0)).2.was.val]) (tdo os t (mop 0 (c.at 15 k 0) 0)).1
def rread3 (c : Cfg) (os : List Out) (seq : Nat) (l : List Nat) (top lim : Nat) (t : Tp) : Tp × (Rp × Int) :=
  ((rlimbo c os seq (minI lim c.limit).toNat 0 [] t).1, (⟨l, (rlimbo c os seq (minI lim c.limit).toNat 0 [] t).2.1, minI top c.blocks, minI lim c.limit⟩, (rlimbo c os seq (minI lim c.limit).toNat 0 [] t).2.2))
def rread2 (c : Cfg) (os : List Out) (seq : Nat) (l : List Nat) (top : Nat) (t : Tp) : Tp × (Rp × Int) :=
  if (tdo os t (mop 0 (c.at 14 0 0) 0)).1.need = true then ((tdo os t (mop 0 (c.at 14 0 0) 0)).1, (⟨l, [], 0, 0⟩, 0)) else if seq < (tdo os t (mop 0 (c.at 14 0 0) 0)).2.was.seq then ((tdo os t (mop 0 (c.at 14 0 0) 0)).1, (⟨l, [], 0, 0⟩, 2)) else rread3 c os seq l top (tdo os t (mop 0 (c.at 14 0 0) 0)).2.was.val (tdo os t (mop 0 (c.at 14 0 0) 0)).1
def rread1 (c : Cfg) (os : List Out) (seq : Nat) (l : List Nat) (t : Tp) : Tp × (Rp × Int) :=
  if (tdo os t (mop 0 (c.at 12 0 0) 0)).1.need = true then ((tdo os t (mop 0 (c.at 12 0 0) 0)).1, (⟨l, [], 0, 0⟩, 0)) else if seq < (tdo os t (mop 0 (c.at 12 0 0) 0)).2.was.seq then ((tdo os t (mop 0 (c.at 12 0 0) 0)).1, (⟨l, [], 0, 0⟩, 2)) else rread2 c os seq l (tdo os t (mop 0 (c.at 12 0 0) 0)).2.was.val (tdo os t (mop 0 (c.at 12 0 0) 0)).1
def rread (c : Cfg) (os : List Out) (seq : Nat) (t : Tp) : Tp × (Rp × Int) := rread1 c os seq (rnamed c os c.threads.toNat 0 [] t).2 (rnamed c os c.threads.toNat 0 [] t).1
theorem rnamed_dead {os : List Out} {t : Tp} (h : t.need = true) (c : Cfg) : ∀ (k u : Nat) (l : List Nat), (rnamed c os k u l t).1 = t
  | 0, _, _ => rfl
  | k + 1, u, l => by unfold rnamed; rw [tdo_dead h]; exact rnamed_dead h c k _ _
theorem rread1_dead {os : List Out} {t : Tp} (h : t.need = true) (c : Cfg) (seq : Nat) (l : List Nat) : rread1 c os seq l t = (t, (⟨l, [], 0, 0⟩, 0)) := by unfold rread1; rw [tdo_dead h, if_pos h]
def XPo (c : Cfg) : Mch Po := ⟨Po.ask c, Po.tell c⟩
theorem XPo_ask (c : Cfg) (p : Po) : (XPo c).ask p = p.ask c := rfl
theorem XPo_tell (c : Cfg) (p : Po) (o : Out) : (XPo c).tell p o = p.tell c o := rfl
/-- a pool that reads slots -/
def Po.nm (seq u : Nat) (l : List Nat) : Po := ⟨seq, u, l, 0, 0, 0, 0, [], 0⟩
/-- a pool that was read, as the document's -/
structure PR (c : Cfg) (x : Rp × Int) (p : Po) : Prop where
  s : p.s = x.2
  s2 : x.2 = 1 ∨ x.2 = 2
  ok : x.2 = 1 → p.names = x.1.named ∧ p.limbo = x.1.limbo ∧ p.wt = x.1.wt ∧ p.wl = x.1.wl ∧ p.nt = x.1.wt ∧ p.nl = x.1.wl
theorem minI_nn (a : Nat) {b : Int} (h : 0 ≤ b) : 0 ≤ minI (a : Int) b := by unfold minI; split <;> omega
section
variable {c : Cfg} {os : List Out}
theorem rnamed_sim (hc : Small c) (seq : Nat) : ∀ (k u : Nat) (l : List Nat) {n : Nat}, n ≤ os.length → u + k = c.threads.toNat → Sim (XPo c) os (rnamed c os k u l) (fun l' p' _ => p' = Po.nm seq c.threads.toNat l') (fun _ _ => True) (Po.nm seq u l) n
  | 0, u, l, n, hn, hu => by
    have e : u = c.threads.toNat := by omega
    subst e
    exact Sim.ret (a := l) rfl
  | k + 1, u, l, n, hn, hu => by
    have ht := hc.t0
    have hask : (XPo c).ask (Po.nm seq u l) = (mop 0 (c.at 3 u 0) 0, true) := by
      rw [XPo_ask]
      unfold Po.ask Po.nm
      rw [if_neg (fun e => e rfl), if_pos (by dsimp only; omega)]
    refine ((Sim.do hask hn).bind hn (S := fun o t => rnamed c os k (u + 1) (l ++ [o.was.val]) t) (fun o t h => rnamed_dead h c _ _ _) (fun _ _ _ _ _ => trivial) (fun o p' j hj hjn e => ?_)).eq rfl
    obtain ⟨rfl, rfl, hk2, ho⟩ := e
    have e : (XPo c).tell (Po.nm seq u l) o = Po.nm seq (u + 1) (l ++ [o.was.val]) := by
      rw [XPo_tell]
      unfold Po.tell Po.nm Po.fin
      rw [if_neg (fun e => e rfl), if_pos (by dsimp only; omega), if_neg (by dsimp only; omega)]
      rfl
    rw [e]
    exact rnamed_sim hc seq k (u + 1) _ hk2 (by omega)
theorem rlimbo_sim (hc : Small c) (seq : Nat) (nm : List Nat) (wt wl : Int) (hwl : 0 ≤ wl) : ∀ (k i : Nat) (l : List Nat) {p : Po} {n : Nat}, n ≤ os.length → l.length = i → ((i : Int) + k = wl) → (k = 0 → p = ⟨seq, c.threads + 2 + i, nm, wt, wl, wt, wl, l, 1⟩) → (k ≠ 0 → p = ⟨seq, c.threads + 2 + i, nm, wt, wl, 0, 0, l, 0⟩) →
    Sim (XPo c) os (rlimbo c os seq k i l) (fun x p' _ => PR c (⟨nm, x.1, wt, wl⟩, x.2) p') (fun x _ => x.2 = 0) p n
  | 0, i, l, p, n, hn, hl, hk, h0, _ => by
    rw [h0 rfl]
    exact Sim.ret (a := (l, 1)) ⟨rfl, .inl rfl, fun _ => ⟨rfl, rfl, rfl, rfl, rfl, rfl⟩⟩
  | k + 1, i, l, p, n, hn, hl, hk, _, h1 => by
    have ht := hc.t0
    rw [h1 (by omega)]
    have hask : (XPo c).ask ⟨seq, c.threads + 2 + i, nm, wt, wl, 0, 0, l, 0⟩ = (mop 0 (c.at 15 i 0) 0, true) := by
      rw [XPo_ask]
      unfold Po.ask
      dsimp only
      rw [if_neg (fun e => e rfl), if_neg (by omega), if_neg (by omega), if_neg (by omega), show c.threads + 2 + (i : Int) - c.threads - 2 = i by omega]
    refine ((Sim.do hask hn).bind hn (S := fun o t => if t.need = true then (t, (l, 0)) else if seq < o.was.seq then (t, (l, 2)) else rlimbo c os seq k (i + 1) (l ++ [o.was.val]) t) (fun o t h => by rw [if_pos h]) (fun _ _ t h _ => by rw [if_pos h]) (fun o p' j hj hjn e => ?_)).eq rfl
    obtain ⟨rfl, rfl, hk2, ho⟩ := e
    rw [XPo_tell]
    unfold Po.tell
    dsimp only
    have t1 : ¬ (c.threads + 2 + (i : Int) < c.threads) := by omega
    have t2 : ¬ (c.threads + 2 + (i : Int) = c.threads) := by omega
    have t3 : ¬ (c.threads + 2 + (i : Int) = c.threads + 1) := by omega
    have hnd : ¬ (Tp.live (n + 1)).need = true := Bool.false_ne_true
    rw [if_neg (fun e => e rfl), if_neg t1]
    by_cases hs : seq < o.was.seq
    · rw [if_pos hs]
      refine (Sim.ret (a := (l, 2)) ⟨rfl, .inr rfl, fun e => absurd (show (2 : Int) = 1 from e) (by decide)⟩).eq ?_
      rw [if_neg hnd, if_pos hs]
    · rw [if_neg hs, if_neg t2, if_neg t3]
      refine (rlimbo_sim hc seq nm wt wl hwl k (i + 1) (l ++ [o.was.val]) hk2 (by rw [List.length_append, hl]; rfl) (by omega) (fun hz => ?_) (fun hz => ?_)).eq ?_
      · unfold Po.fin
        dsimp only
        rw [if_pos ⟨by omega, by rw [List.length_append, hl, List.length_singleton]; omega⟩, Int.natCast_add, show c.threads + 2 + (i : Int) + 1 = c.threads + 2 + ((i : Int) + (1 : Nat)) by omega]
      · unfold Po.fin
        dsimp only
        rw [if_neg (fun e => by have e := e.2; rw [List.length_append, hl, List.length_singleton] at e; omega), Int.natCast_add, show c.threads + 2 + (i : Int) + 1 = c.threads + 2 + ((i : Int) + (1 : Nat)) by omega]
      · rw [if_neg hnd, if_neg hs]
theorem rread_sim (hc : Small c) (seq : Nat) {n : Nat} (hn : n ≤ os.length) : Sim (XPo c) os (rread c os seq) (fun x p' _ => PR c x p') (fun x _ => x.2 = 0) (Po.new seq) n := by
  have ht := hc.t0
  have hlm := hc.limit
  refine ((rnamed_sim hc seq c.threads.toNat 0 [] hn (by omega)).bind hn (S := fun l t => rread1 c os seq l t) (fun l t h => by rw [rread1_dead h]) (fun l _ t h _ => by rw [rread1_dead h]) (fun l p' j hj hjn e => ?_)).eq rfl
  subst e
  have hask : (XPo c).ask (Po.nm seq c.threads.toNat l) = (mop 0 (c.at 12 0 0) 0, true) := by
    rw [XPo_ask]
    unfold Po.ask Po.nm
    dsimp only
    rw [if_neg (fun e => e rfl), if_neg (by omega), if_pos (by omega)]
  refine ((Sim.do hask hjn).bind hjn (S := fun o t => if t.need = true then (t, ((⟨l, [], 0, 0⟩ : Rp), (0 : Int))) else if seq < o.was.seq then (t, (⟨l, [], 0, 0⟩, 2)) else rread2 c os seq l o.was.val t) (fun o t h => by rw [if_pos h]) (fun _ _ t h _ => by rw [if_pos h]) (fun o p' i hi hin e => ?_)).eq rfl
  obtain ⟨rfl, rfl, hi2, ho⟩ := e
  have hnd : ¬ (Tp.live (j + 1)).need = true := Bool.false_ne_true
  rw [XPo_tell]
  unfold Po.tell Po.nm
  dsimp only
  have t1 : ¬ ((c.threads.toNat : Int) < c.threads) := by omega
  have t2 : (c.threads.toNat : Int) = c.threads := by omega
  rw [if_neg (fun e => e rfl), if_neg t1]
  by_cases hs : seq < o.was.seq
  · rw [if_pos hs]
    refine (Sim.ret (a := (⟨l, [], 0, 0⟩, 2)) ⟨rfl, .inr rfl, fun e => absurd (show (2 : Int) = 1 from e) (by decide)⟩).eq ?_
    rw [if_neg hnd, if_pos hs]
  rw [if_neg hs, if_pos t2]
  have ef : Po.fin c ⟨seq, (c.threads.toNat : Int) + 1, l, minI o.was.val c.blocks, 0, 0, 0, [], 0⟩ = ⟨seq, c.threads + 1, l, minI o.was.val c.blocks, 0, 0, 0, [], 0⟩ := by
    unfold Po.fin
    dsimp only
    rw [if_neg (by omega), t2]
  rw [ef]
  have hask : (XPo c).ask ⟨seq, c.threads + 1, l, minI o.was.val c.blocks, 0, 0, 0, [], 0⟩ = (mop 0 (c.at 14 0 0) 0, true) := by
    rw [XPo_ask]
    unfold Po.ask
    dsimp only
    rw [if_neg (fun e => e rfl), if_neg (by omega), if_neg (by omega), if_pos rfl]
  have hnd2 : ¬ (Tp.live (j + 1 + 1)).need = true := Bool.false_ne_true
  refine ((Sim.do hask hi2).bind hi2 (S := fun o2 t => if t.need = true then (t, ((⟨l, [], 0, 0⟩ : Rp), (0 : Int))) else if seq < o2.was.seq then (t, (⟨l, [], 0, 0⟩, 2)) else rread3 c os seq l o.was.val o2.was.val t) (fun o t h => by rw [if_pos h]) (fun _ _ t h _ => by rw [if_pos h]) (fun o2 p' i hi hin e => ?_)).eq (by rw [if_neg hnd, if_neg hs]; rfl)
  obtain ⟨rfl, rfl, hi3, ho2⟩ := e
  rw [XPo_tell]
  unfold Po.tell
  dsimp only
  rw [if_neg (fun e => e rfl), if_neg (by omega)]
  by_cases hs2 : seq < o2.was.seq
  · rw [if_pos hs2]
    refine (Sim.ret (a := (⟨l, [], 0, 0⟩, 2)) ⟨rfl, .inr rfl, fun e => absurd (show (2 : Int) = 1 from e) (by decide)⟩).eq ?_
    rw [if_neg hnd2, if_pos hs2]
  rw [if_neg hs2, if_neg (by omega), if_pos rfl]
  have hw := minI_nn o2.was.val hlm.1
  refine (((rlimbo_sim (os := os) hc seq l (minI o.was.val c.blocks) (minI o2.was.val c.limit) hw (minI o2.was.val c.limit).toNat 0 [] (p := Po.fin c ⟨seq, c.threads + 1 + 1, l, minI o.was.val c.blocks, minI o2.was.val c.limit, 0, 0, [], 0⟩) hi3 rfl (by omega) (fun hz => ?_) (fun hz => ?_)).bind hi3 (S := fun x t => (t, (⟨l, x.1, minI o.was.val c.blocks, minI o2.was.val c.limit⟩, x.2))) (fun _ _ _ => rfl) (fun _ _ _ _ e => e) (fun x p' i hi hin e => Sim.ret e))).eq (by rw [if_neg hnd2, if_neg hs2]; rfl)
  · unfold Po.fin
    dsimp only
    rw [if_pos ⟨by omega, by rw [List.length_nil]; omega⟩]
    rw [show c.threads + 1 + 1 = c.threads + 2 + ((0 : Nat) : Int) by omega]
  · unfold Po.fin
    dsimp only
    rw [if_neg (fun e => by have e := e.2; rw [List.length_nil] at e; omega)]
    rw [show c.threads + 1 + 1 = c.threads + 2 + ((0 : Nat) : Int) by omega]
end
end Go.Proofs.YthmbgodcpgkkeaaGreat
end
section
namespace Go.Proofs.YthmbgodcpgkkeaaGreat
set_option maxRecDepth 100000
theorem fedM_take {M : Type} (X : Mch M) (l : List Out) (m : M) {i : Nat} (hi : i ≤ l.length) : ∀ j, j ≤ i → fedM X (l.take i) m j = fedM X l m j
  | 0, _ => rfl
  | j + 1, h => by
    rw [fedM, fedM, fedM_take X l m hi j (by omega)]
    congr 1
    rw [List.getD_eq_getElem?_getD, List.getD_eq_getElem?_getD, List.getElem?_take, if_pos (by omega)]
/-- a pool that was told all replies -/
theorem Po.tell_stop {c : Cfg} {p : Po} (h : p.s ≠ 0) (o : Out) : p.tell c o = p := by
  unfold Po.tell
  rw [if_pos h]
theorem pool_stay {c : Cfg} {os : List Out} {m : Po} {k : Nat} (h : (fedM (XPo c) os m k).s ≠ 0) : ∀ j, k ≤ j → fedM (XPo c) os m j = fedM (XPo c) os m k := by
  intro j hj
  induction j with
  | zero => rw [show k = 0 by omega]
  | succ j ih =>
    by_cases hk : k = j + 1
    · rw [hk]
    · have ih := ih (by omega)
      rw [fedM, XPo_tell, ih, Po.tell_stop h]
theorem pool_at {c : Cfg} {os : List Out} (hc : Small c) (seq : Nat) (h1 : (rread c os seq (.live 0)).2.2 = 1) : PR c (rread c os seq (.live 0)).2 (fedM (XPo c) os (Po.new seq) os.length) := by
  obtain ⟨p', k, hf, h⟩ := rread_sim (os := os) hc seq (Nat.zero_le _)
  obtain ⟨rfl, _⟩ := fed_at hf (Po.new seq) rfl
  have hk := hf.len (Nat.zero_le _)
  rcases h with ⟨_, h⟩ | ⟨_, _, _, h⟩
  · rw [pool_stay (by have := h.s; omega) _ hk]
    exact h
  · omega
theorem setStep_val (c : Cfg) (hb : c.blocks ≤ 1000) (room : Nat) (names : List Nat) (k b : Nat) (s : SetS) (h : ∀ p ∈ s.puts, p.2 < 18446744073709551616) : ∀ p ∈ (setStep c room names k b s).puts, p.2 < 18446744073709551616 := by
  unfold setStep
  split
  · exact h
  rename_i hlt
  have hb : b < 18446744073709551616 := by omega
  split
  · unfold relP
    dsimp only
    split
    · exact putP_val (putP_val h z64) hb
    · exact putP_val h z64
  · dsimp only
    split
    · exact putP_val h hb
    · exact h
theorem setGo_val (c : Cfg) (hb : c.blocks ≤ 1000) (room : Nat) (names : List Nat) : ∀ (l : List Nat) (k : Nat) (s : SetS), (∀ p ∈ s.puts, p.2 < 18446744073709551616) → ∀ p ∈ (setGo c room names k l s).puts, p.2 < 18446744073709551616
  | [], _, _, h => h
  | b :: l, k, s, h => setGo_val c hb room names l (k + 1) _ (setStep_val c hb room names k b s h)
theorem Start.settled2 {c : Cfg} (hc : Small c) (hf : c.fuel ≤ 1000) (room : Nat) {n : Nat} (hn : n ≤ 60) {p : Po} (h : PoOk n p) :
    Start c (setGo c room p.names 0 p.limbo ⟨0, p.nt, []⟩).puts (p.settled c room []).nt (p.settled c room []).nl ∧ (setGo c room p.names 0 p.limbo ⟨0, p.nt, []⟩).puts.length ≤ 120 := by
  have h1 := setGo_ok hc room p.names p.limbo 0 ⟨0, p.nt, []⟩ h.nt
  have h2 := h.limbo
  dsimp only [List.length_nil] at h1
  exact ⟨⟨hc, hf, by omega, ⟨h1.1.1, by show (setGo _ _ _ _ _ _).nt ≤ 1000; omega⟩, ⟨by show (0 : Int) ≤ ((setGo _ _ _ _ _ _).kept : Int); omega, by show ((setGo _ _ _ _ _ _).kept : Int) ≤ 1000; omega⟩⟩, by omega⟩
section
variable {c : Cfg} {os : List Out} {room : Nat} {code : List Ins} {args : List Nat}
theorem RI.go (hos : ∀ o ∈ os, o.was.val < 18446744073709551616) {N : Nat} {nt0 nl0 : Int} (hr : rightB code = true) (hcv : ∀ i ∈ code, i.imm < 18446744073709551616) (ha : ∀ x ∈ args, x < 18446744073709551616) (hb : c.blocks ≤ 1000) : ∀ (k : Nat) {r : Rr} {t : Tp}, RI c code.length N nt0 nl0 r → RI c code.length N nt0 nl0 (rgo c os room code args k r t).2
  | 0, _, _, h => h
  | k + 1, r, t, h => by
    unfold rgo
    split
    · rename_i hs
      exact RI.go hos hr hcv ha hb k (h.step hos room rfl hr hcv args ha hb hs.1 t)
    · exact h
theorem rplay_val (hos : ∀ o ∈ os, o.was.val < 18446744073709551616) (hcv : ∀ i ∈ code, i.imm < 18446744073709551616) (ha : ∀ x ∈ args, x < 18446744073709551616) (hb : c.blocks ≤ 1000) (hf : 0 ≤ c.fuel) {puts : List (Int × Nat)} (hp : ∀ p ∈ puts, p.2 < 18446744073709551616) (v : Rv) (nt nl : Int) (hnt : 0 ≤ nt) (t : Tp) : ∀ p ∈ (rplay c os room code args v nt nl puts t).2.puts, p.2 < 18446744073709551616 := by
  unfold rplay
  by_cases hr : rightB code = true
  · rw [if_pos hr]
    obtain ⟨h0, _, _⟩ := right_at hr
    have hi := RI.init (c := c) (n := code.length) (nt0 := nt) (nl0 := nl) hos hf hp h0 v hnt
    have hg := RI.go (room := room) hos hr hcv ha hb (c.fuel.toNat + 1) (t := t) hi
    dsimp only
    unfold Rr.undo
    split
    · exact hp
    · exact hg.pv
  · rw [if_neg hr]
    exact hp
/-- behind a program: that which the next one begins with -/
theorem Xr.next {P0 : List (Int × Nat)} {nt0 nl0 : Int} {n : Nat} {m : Xm} (hS : Start c P0 nt0 nl0) (hl : P0.length ≤ 900000) (h : Xr c code P0 nt0 nl0 n m) : Start c m.puts m.p.nt m.p.nl ∧ m.puts.length ≤ P0.length + 64 := by
  obtain ⟨_, h1, h2, _, _, _, ⟨l, e, hle, _⟩, _⟩ := h.num hS
  have hw := hS.small.w1
  have hw0 := hS.small.w0
  have hlen : m.puts.length ≤ P0.length + 64 := by rw [e, List.length_append]; omega
  exact ⟨⟨hS.small, hS.f1, by omega, h1, h2⟩, hlen⟩
/-- a program that was told replies, all of which it asked for -/
theorem Xr.fed {P0 : List (Int × Nat)} {nt0 nl0 : Int} (hS : Start c P0 nt0 nl0) {m : Xm} (h : Xr c code P0 nt0 nl0 0 m) : ∀ k, (∀ i, i < k → ((fedM (XX c room code) os m i).ask c).2 = true) → Xr c code P0 nt0 nl0 k (fedM (XX c room code) os m k)
  | 0, _ => h
  | k + 1, ha => by
    have ih := Xr.fed hS h k (fun i hi => ha i (by omega))
    have hk := ha k (by omega)
    have hs : (fedM (XX c room code) os m k).x.s = 0 := by
      refine Decidable.byContradiction fun hs => ?_
      unfold Xm.ask at hk
      rw [if_pos hs] at hk
      cases hk
    rw [fedM, XX_tell]
    exact (ih.tell hS room hs _).2.2
end
end Go.Proofs.YthmbgodcpgkkeaaGreat
end
