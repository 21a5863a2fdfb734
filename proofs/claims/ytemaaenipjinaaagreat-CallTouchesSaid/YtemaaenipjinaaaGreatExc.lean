/-
  Package exec: goOn, fetch.
-/
import Derived.Test.YtemaaenipjinaaaGreatExb
namespace Go.Proofs.YtemaaenipjinaaaGreat
def Xs.bN (c : Cfg) (x : Xs) : Nat := (x.block c).1.toNat
theorem Xs.bN_eq (c : Cfg) (x : Xs) : (x.block c).1 = (x.bN c : Int) := by
  unfold Xs.bN Xs.block
  split
  · rfl
  · dsimp only; omega
def Xm.goOn (c : Cfg) (room : Nat) (m : Xm) (val : Nat) : Xm :=
  if m.x.i.op = 9 ∨ m.x.i.op = 11 ∨ m.x.i.op = 12 then { m with x := { m.x with regs := m.x.regs.set m.x.i.a.toNat val } } else
  if m.x.i.op = 15 then m.taken c room val else
  if m.x.i.op = 13 ∨ m.x.i.op = 14 then (if (m.pay c).2 then { (m.pay c).1 with puts := putP room (m.pay c).1.puts (c.at 16 (m.x.block c).1 (m.x.block c).2.1) (m.x.reg m.x.i.a) } else (m.pay c).1) else
  if m.x.i.op = 16 then (if (m.pay c).2 then { (m.pay c).1 with p := { (m.pay c).1.p with nl := (giveP c room (m.pay c).1.p.nl (m.pay c).1.puts (m.x.bN c)).1 }, puts := (giveP c room (m.pay c).1.p.nl (m.pay c).1.puts (m.x.bN c)).2 } else (m.pay c).1) else m
theorem Xm.pay_news (c : Cfg) (m : Xm) : (m.pay c).1.news = m.news := by unfold Xm.pay Xm.fail; split <;> rfl
theorem Xm.pay_t {c : Cfg} {m : Xm} (h : (m.pay c).2 = true) : (m.pay c).1 = { m with x := { m.x with writes := m.x.writes + costs m.x.i.op } } := by
  unfold Xm.pay at *; split at h
  · cases h
  · rename_i h1; rw [if_neg h1]
theorem Xm.pay_f {c : Cfg} {m : Xm} (h : (m.pay c).2 = false) : (m.pay c).1 = m.fail 42 0 := by
  unfold Xm.pay at *; split at h
  · rename_i h1; rw [if_pos h1]
  · cases h
set_option maxHeartbeats 1000000 in
set_option maxRecDepth 100000 in
theorem xgoOn_t (X V Pb W room : Nat) (c : Cfg) (hc : Small c) (cv : Value) (m : Xm) (hm : Xok m) (val : Nat) :
    Tri Tryz.prog 245 #[.pointer (some ⟨X, 0, none⟩), .int .u64 (val : Int)] [XeE X c cv V Pb W m.x m.news, Pl Pb c m.p, Ws W room m.puts]
      fun r L => r = .tuple ⟨[]⟩ ∧ L = [XeE X c cv V Pb W (m.goOn c room val).x (m.goOn c room val).news, Pl Pb c (m.goOn c room val).p, Ws W room (m.goOn c room val).puts] := by
  have htak := xtaken_t X V Pb W room c hc cv m hm val
  refine Tri.ex_out ?_
  rintro ⟨nad, ncap⟩
  have ha0 := hm.i.a0; have ha1 := hm.i.a1
  have hlen := hm.len
  unfold Xm.goOn
  by_cases h1 : m.x.i.op = 9 ∨ m.x.i.op = 11 ∨ m.x.i.op = 12
  · rw [if_pos h1]
    dsimp only
    have hsr := ex_setreg c cv V Pb W (.slice nad m.news.length ncap) m.x hm.regs ha0 ha1 val
    refine Tri.of_body (vs := [_, _]) Tryz.func245 rfl rfl fun w0 F => ?_
    repeat' (first | refine Ga ?_ | (refine Gb ?_; intro b) | (refine Gd ?_; intro g cap rest hcap) | (refine Gc ?_; intro ad cap) | (refine St.draw (id := 5) [(0, 0), (1, 0), (2, 1), (3, 0), (4, 0), (5, 0), (6, 0), (7, 3)] [7] mixed (by kernel_rfl) ?_) | (refine St.draw (id := 12) [(0, 0), (1, 0), (2, 0), (3, 1), (4, 0), (5, 0), (6, 0), (7, 1), (8, 0), (9, 0), (10, 1), (11, 0), (12, 0), (13, 1), (14, 0), (15, 0), (16, 0), (17, 1), (18, 3)] [18] mixed (by kernel_rfl) ?_) | (refine St.draw (id := 16) [(0, 0), (1, 0), (2, 0), (3, 1), (4, 0), (5, 0), (6, 0), (7, 1), (8, 0), (9, 3)] [9] mixed (by kernel_rfl) ?_) | (refine Ge ?_ ?_ <;> (intro h; try (exfalso; omega))) | fail)
    all_goals
      refine St.f1 Tryz.func245 ⟨_, ⟨rfl, rfl⟩, ?_⟩
      exact Ent.trans Ent.go (Ent.ex_in (Ls := xeL X c cv V Pb W { m.x with regs := m.x.regs.set m.x.i.a.toNat val } m.news) (nad, ncap))
  · rw [if_neg h1]
    by_cases h2 : m.x.i.op = 15
    · rw [if_pos h2]
      have htak := htak.ent (L := [bl X 344 (exV c cv V Pb W (.slice nad m.news.length ncap) m.x), Row (.slice nad m.news.length ncap) 22 1 m.news.length (u64s m.news), Pl Pb c m.p, Ws W room m.puts]) (Ent.ex_in (Ls := xeL X c cv V Pb W m.x m.news) (nad, ncap))
      refine Tri.of_body (vs := [_, _]) Tryz.func245 rfl rfl fun w0 F => ?_
      repeat' (first | refine Ga ?_ | (refine Gb ?_; intro b) | (refine Gd ?_; intro g cap rest hcap) | (refine Gc ?_; intro ad cap) | (refine St.draw (id := 5) [(0, 0), (1, 0), (2, 1), (3, 0), (4, 0), (5, 0), (6, 0), (7, 3)] [7] mixed (by kernel_rfl) ?_) | (refine St.draw (id := 12) [(0, 0), (1, 0), (2, 0), (3, 1), (4, 0), (5, 0), (6, 0), (7, 1), (8, 0), (9, 0), (10, 1), (11, 0), (12, 0), (13, 1), (14, 0), (15, 0), (16, 0), (17, 1), (18, 3)] [18] mixed (by kernel_rfl) ?_) | (refine St.draw (id := 16) [(0, 0), (1, 0), (2, 0), (3, 1), (4, 0), (5, 0), (6, 0), (7, 1), (8, 0), (9, 3)] [9] mixed (by kernel_rfl) ?_) | (refine Gt htak ?_; rintro _ _ ⟨rfl, rfl⟩) | (refine Ge ?_ ?_ <;> (intro h; try (exfalso; omega))) | fail)
      refine St.f1 Tryz.func245 ⟨_, ⟨rfl, rfl⟩, ?_⟩
      exact Ent.go
    · rw [if_neg h2]
      have hbl := xblock_r X V Pb W c hc cv (.slice nad m.news.length ncap) m.x hm.i
      have hpay := xpay_t X V Pb W room c hc cv (.slice nad m.news.length ncap) m hm.mark (by omega) ⟨hm.w0, hm.w1⟩
      have hpn := m.pay_news c
      by_cases h3 : m.x.i.op = 13 ∨ m.x.i.op = 14
      · rw [if_pos h3]
        cases hp : (m.pay c).2 with
        | false =>
          rw [hp] at hpay
          rw [if_neg (by decide)]
          refine Tri.of_body (vs := [_, _]) Tryz.func245 rfl rfl fun w0 F => ?_
          repeat' (first | refine Ga ?_ | (refine Gb ?_; intro b) | (refine Gd ?_; intro g cap rest hcap) | (refine Gc ?_; intro ad cap) | (refine St.draw (id := 5) [(0, 0), (1, 0), (2, 1), (3, 0), (4, 0), (5, 0), (6, 0), (7, 3)] [7] mixed (by kernel_rfl) ?_) | (refine St.draw (id := 12) [(0, 0), (1, 0), (2, 0), (3, 1), (4, 0), (5, 0), (6, 0), (7, 1), (8, 0), (9, 0), (10, 1), (11, 0), (12, 0), (13, 1), (14, 0), (15, 0), (16, 0), (17, 1), (18, 3)] [18] mixed (by kernel_rfl) ?_) | (refine St.draw (id := 16) [(0, 0), (1, 0), (2, 0), (3, 1), (4, 0), (5, 0), (6, 0), (7, 1), (8, 0), (9, 3)] [9] mixed (by kernel_rfl) ?_)| refine Gl hbl ?_ | (refine Gt hpay ?_; rintro _ _ ⟨rfl, rfl⟩) | (refine Ge ?_ ?_ <;> (intro h; try (exfalso; omega))) | fail)
          all_goals
            refine St.f1 Tryz.func245 ⟨_, ⟨rfl, rfl⟩, ?_⟩
            rw [hpn]
            exact Ent.trans Ent.go (Ent.ex_in (Ls := xeL X c cv V Pb W (m.pay c).1.x m.news) (nad, ncap))
        | true =>
          rw [hp] at hpay
          rw [if_pos rfl]
          rw [Xm.pay_t hp] at hpay ⊢
          dsimp only at hpay ⊢
          have hat := at_r c hc 16 (m.x.block c).1 (m.x.block c).2.1
          have hrg : NthN _ _ (Value.int .u64 ((m.x.reg m.x.i.a : Nat) : Int)) := ex_reg c cv V Pb W (.slice nad m.news.length ncap) { m.x with writes := m.x.writes + costs m.x.i.op } ha0 ha1
          have hput := wput_t W room m.puts (c.at 16 (m.x.block c).1 (m.x.block c).2.1) (m.x.reg m.x.i.a) (by omega)
          have htk := take_x c cv V Pb W (.slice nad m.news.length ncap) { m.x with writes := m.x.writes + costs m.x.i.op }
          refine Tri.of_body (vs := [_, _]) Tryz.func245 rfl rfl fun w0 F => ?_
          repeat' (first | refine Ga ?_ | (refine Gb ?_; intro b) | (refine Gd ?_; intro g cap rest hcap) | (refine Gc ?_; intro ad cap) | (refine St.draw (id := 5) [(0, 0), (1, 0), (2, 1), (3, 0), (4, 0), (5, 0), (6, 0), (7, 3)] [7] mixed (by kernel_rfl) ?_) | (refine St.draw (id := 12) [(0, 0), (1, 0), (2, 0), (3, 1), (4, 0), (5, 0), (6, 0), (7, 1), (8, 0), (9, 0), (10, 1), (11, 0), (12, 0), (13, 1), (14, 0), (15, 0), (16, 0), (17, 1), (18, 3)] [18] mixed (by kernel_rfl) ?_) | (refine St.draw (id := 16) [(0, 0), (1, 0), (2, 0), (3, 1), (4, 0), (5, 0), (6, 0), (7, 1), (8, 0), (9, 3)] [9] mixed (by kernel_rfl) ?_)| refine Gl hbl ?_ | refine Gl hat ?_ | (refine Gt hpay ?_; rintro _ _ ⟨rfl, rfl⟩) | (refine Gt hput ?_; rintro _ _ ⟨rfl, rfl⟩) | (refine Ge ?_ ?_ <;> (intro h; try (exfalso; omega))) | fail)
          all_goals
            refine St.f1 Tryz.func245 ⟨_, ⟨rfl, rfl⟩, ?_⟩
            exact Ent.trans Ent.go (Ent.ex_in (Ls := xeL X c cv V Pb W { m.x with writes := m.x.writes + costs m.x.i.op } m.news) (nad, ncap))
      · rw [if_neg h3]
        by_cases h4 : m.x.i.op = 16
        · rw [if_pos h4]
          rw [Xs.bN_eq] at hbl
          cases hp : (m.pay c).2 with
          | false =>
            rw [hp] at hpay
            rw [if_neg (by decide)]
            refine Tri.of_body (vs := [_, _]) Tryz.func245 rfl rfl fun w0 F => ?_
            repeat' (first | refine Ga ?_ | (refine Gb ?_; intro b) | (refine Gd ?_; intro g cap rest hcap) | (refine Gc ?_; intro ad cap) | (refine St.draw (id := 5) [(0, 0), (1, 0), (2, 1), (3, 0), (4, 0), (5, 0), (6, 0), (7, 3)] [7] mixed (by kernel_rfl) ?_) | (refine St.draw (id := 12) [(0, 0), (1, 0), (2, 0), (3, 1), (4, 0), (5, 0), (6, 0), (7, 1), (8, 0), (9, 0), (10, 1), (11, 0), (12, 0), (13, 1), (14, 0), (15, 0), (16, 0), (17, 1), (18, 3)] [18] mixed (by kernel_rfl) ?_) | (refine St.draw (id := 16) [(0, 0), (1, 0), (2, 0), (3, 1), (4, 0), (5, 0), (6, 0), (7, 1), (8, 0), (9, 3)] [9] mixed (by kernel_rfl) ?_)| refine Gl hbl ?_ | (refine Gt hpay ?_; rintro _ _ ⟨rfl, rfl⟩) | (refine Ge ?_ ?_ <;> (intro h; try (exfalso; omega))) | fail)
            all_goals
              refine St.f1 Tryz.func245 ⟨_, ⟨rfl, rfl⟩, ?_⟩
              rw [hpn]
              exact Ent.trans Ent.go (Ent.ex_in (Ls := xeL X c cv V Pb W (m.pay c).1.x m.news) (nad, ncap))
          | true =>
            rw [hp] at hpay
            rw [if_pos rfl]
            rw [Xm.pay_t hp] at hpay ⊢
            dsimp only at hpay ⊢
            have hgv := pgive_t Pb W room c hc m.p m.puts (m.x.bN c) (by omega) hm.nl0
            refine Tri.of_body (vs := [_, _]) Tryz.func245 rfl rfl fun w0 F => ?_
            repeat' (first | refine Ga ?_ | (refine Gb ?_; intro b) | (refine Gd ?_; intro g cap rest hcap) | (refine Gc ?_; intro ad cap) | (refine St.draw (id := 5) [(0, 0), (1, 0), (2, 1), (3, 0), (4, 0), (5, 0), (6, 0), (7, 3)] [7] mixed (by kernel_rfl) ?_) | (refine St.draw (id := 12) [(0, 0), (1, 0), (2, 0), (3, 1), (4, 0), (5, 0), (6, 0), (7, 1), (8, 0), (9, 0), (10, 1), (11, 0), (12, 0), (13, 1), (14, 0), (15, 0), (16, 0), (17, 1), (18, 3)] [18] mixed (by kernel_rfl) ?_) | (refine St.draw (id := 16) [(0, 0), (1, 0), (2, 0), (3, 1), (4, 0), (5, 0), (6, 0), (7, 1), (8, 0), (9, 3)] [9] mixed (by kernel_rfl) ?_)| refine Gl hbl ?_ | (refine Gt hpay ?_; rintro _ _ ⟨rfl, rfl⟩) | (refine Gt hgv ?_; rintro _ _ ⟨rfl, rfl⟩) | (refine Ge ?_ ?_ <;> (intro h; try (exfalso; omega))) | fail)
            all_goals
              refine St.f1 Tryz.func245 ⟨_, ⟨rfl, rfl⟩, ?_⟩
              exact Ent.trans Ent.go (Ent.ex_in (Ls := xeL X c cv V Pb W { m.x with writes := m.x.writes + costs m.x.i.op } m.news) (nad, ncap))
        · rw [if_neg h4]
          refine Tri.of_body (vs := [_, _]) Tryz.func245 rfl rfl fun w0 F => ?_
          repeat' (first | refine Ga ?_ | (refine Gb ?_; intro b) | (refine Gd ?_; intro g cap rest hcap) | (refine Gc ?_; intro ad cap) | (refine St.draw (id := 5) [(0, 0), (1, 0), (2, 1), (3, 0), (4, 0), (5, 0), (6, 0), (7, 3)] [7] mixed (by kernel_rfl) ?_) | (refine St.draw (id := 12) [(0, 0), (1, 0), (2, 0), (3, 1), (4, 0), (5, 0), (6, 0), (7, 1), (8, 0), (9, 0), (10, 1), (11, 0), (12, 0), (13, 1), (14, 0), (15, 0), (16, 0), (17, 1), (18, 3)] [18] mixed (by kernel_rfl) ?_) | (refine St.draw (id := 16) [(0, 0), (1, 0), (2, 0), (3, 1), (4, 0), (5, 0), (6, 0), (7, 1), (8, 0), (9, 3)] [9] mixed (by kernel_rfl) ?_) | (refine Ge ?_ ?_ <;> (intro h; try (exfalso; omega))) | fail)
          refine St.f1 Tryz.func245 ⟨_, ⟨rfl, rfl⟩, ?_⟩
          exact Ent.trans Ent.go (Ent.ex_in (Ls := xeL X c cv V Pb W m.x m.news) (nad, ncap))
end Go.Proofs.YtemaaenipjinaaaGreat
