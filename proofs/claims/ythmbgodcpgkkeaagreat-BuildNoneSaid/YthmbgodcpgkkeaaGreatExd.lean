/-
  Package exec: fetch, fresh, root, touch.
-/
import Derived.Test.YthmbgodcpgkkeaaGreatExc
namespace Go.Proofs.YthmbgodcpgkkeaaGreat
def xmL (X V Pb W room : Nat) (c : Cfg) (cv : Value) (m : Xm) : List HProp := [XeE X c cv V Pb W m.x m.news, bl V 215 (viewV c m.v), Pl Pb c m.p, Ws W room m.puts]
/-- the same, opened -/
def xmO (X V Pb W room : Nat) (c : Cfg) (cv : Value) (m : Xm) (nad : Option Addr) (ncap : Nat) : List HProp := [bl X 221 (exV c cv V Pb W (.slice nad m.news.length ncap) m.x), Row (.slice nad m.news.length ncap) 22 1 m.news.length (u64s m.news), bl V 215 (viewV c m.v), Pl Pb c m.p, Ws W room m.puts]
theorem xmO_in {X V Pb W room : Nat} {c : Cfg} {cv : Value} {m : Xm} {nad : Option Addr} {ncap : Nat} {F : List HProp} : Ent (xmO X V Pb W room c cv m nad ncap ++ F) (xmL X V Pb W room c cv m ++ F) := Ent.ex_in (Ls := xeL X c cv V Pb W m.x m.news) (nad, ncap)
/-- behind a method: the same thing, turned into m' -/
def xmQ (X V Pb W room : Nat) (c : Cfg) (cv : Value) (m' : Xm) (r : Value) (L : List HProp) : Prop := r = .tuple ⟨[]⟩ ∧ L = xmL X V Pb W room c cv m'
theorem xgoOn_o (X V Pb W room : Nat) (c : Cfg) (hc : Small c) (cv : Value) (m : Xm) (hm : Xok m) (val : Nat) (nad : Option Addr) (ncap : Nat) :
    Tri Tryz.prog 195 #[.pointer (some ⟨X, 0, none⟩), .int .u64 (val : Int)] [bl X 221 (exV c cv V Pb W (.slice nad m.news.length ncap) m.x), Row (.slice nad m.news.length ncap) 22 1 m.news.length (u64s m.news), Pl Pb c m.p, Ws W room m.puts]
      fun r L => r = .tuple ⟨[]⟩ ∧ L = [XeE X c cv V Pb W (m.goOn c room val).x (m.goOn c room val).news, Pl Pb c (m.goOn c room val).p, Ws W room (m.goOn c room val).puts] :=
  (xgoOn_t X V Pb W room c hc cv m hm val).ent (Ent.ex_in (Ls := xeL X c cv V Pb W m.x m.news) (nad, ncap))
theorem Xm.taken_v (c : Cfg) (room : Nat) (m : Xm) (b : Nat) : (m.taken c room b).v = m.v := by unfold Xm.taken Xm.fail; split <;> rfl
theorem Xm.pay_v (c : Cfg) (m : Xm) : (m.pay c).1.v = m.v := by unfold Xm.pay Xm.fail; split <;> rfl
theorem Xm.goOn_v (c : Cfg) (room : Nat) (m : Xm) (val : Nat) : (m.goOn c room val).v = m.v := by
  unfold Xm.goOn
  repeat' split
  all_goals first | rfl | exact Xm.taken_v .. | exact Xm.pay_v ..
def Xm.fetch (c : Cfg) (room : Nat) (m : Xm) (a : Int) : Xm := match mget (allP m.puts) a with
  | some val => m.goOn c room val
  | none => { m with v := m.v.cell c a, x := { m.x with waits := true } }
set_option maxHeartbeats 1000000 in
set_option maxRecDepth 100000 in
theorem xfetch_o (X V Pb W room : Nat) (c : Cfg) (hc : Small c) (cv : Value) (m : Xm) (hm : Xok m) (a : Int) (nad : Option Addr) (ncap : Nat) :
    Tri Tryz.prog 283 #[.pointer (some ⟨X, 0, none⟩), .int .i64 a] (xmO X V Pb W room c cv m nad ncap) (xmQ X V Pb W room c cv (m.fetch c room a)) := by
  have hget := wget_r W room m.puts a
  unfold Xm.fetch
  cases hg : mget (allP m.puts) a with
  | some val =>
    rw [hg] at hget
    have hgo := xgoOn_o X V Pb W room c hc cv m hm val nad ncap
    have hv := m.goOn_v c room val
    dsimp only
    refine Tri.of_body (vs := [_, _]) Tryz.func283 rfl rfl fun w0 F => ?_
    repeat' (first | refine Ga ?_ | (refine Gb ?_; intro b) | (refine Gd ?_; intro g cap rest hcap) | (refine Gc ?_; intro ad cap) | refine Gl hget ?_ | (refine Gt hgo ?_; rintro _ _ ⟨rfl, rfl⟩) | (refine Ge ?_ ?_ <;> (intro h; try (exfalso; omega))) | fail)
    refine St.d1 Tryz.func283 ⟨_, ⟨rfl, rfl⟩, ?_⟩
    unfold xmL
    rw [hv]
    exact Ent.go
  | none =>
    rw [hg] at hget
    have hce := vcell_t c hc V m.v a
    dsimp only
    refine Tri.of_body (vs := [_, _]) Tryz.func283 rfl rfl fun w0 F => ?_
    repeat' (first | refine Ga ?_ | (refine Gb ?_; intro b) | (refine Gd ?_; intro g cap rest hcap) | (refine Gc ?_; intro ad cap) | refine Gl hget ?_ | (refine Gt hce ?_; rintro _ _ ⟨rfl, rfl⟩) | (refine Ge ?_ ?_ <;> (intro h; try (exfalso; omega))) | fail)
    refine St.f1 Tryz.func283 ⟨_, ⟨rfl, rfl⟩, ?_⟩
    refine Ent.trans ?_ (xmO_in (nad := nad) (ncap := ncap))
    exact Ent.go
def Xm.fresh (c : Cfg) (room : Nat) (m : Xm) : Xm := if (m.pay c).2 then (if ((m.pay c).1.p.top c).2 then (m.pay c).1.fetch c room ((m.pay c).1.p.top c).1 else (m.pay c).1.fail 43 0) else (m.pay c).1
theorem Xok.pay {c : Cfg} {m : Xm} (hm : Xok m) (hw : m.x.writes ≤ 999000) (h : (m.pay c).2 = true) : Xok (m.pay c).1 := by
  rw [Xm.pay_t h]
  have := costs_le m.x.i.op
  have h0 := hm.w0
  exact ⟨hm.mark, hm.len, by dsimp only; omega, by dsimp only; omega, hm.nt0, hm.nt1, hm.nl0, hm.nl1, hm.news, hm.regs, hm.args, hm.i⟩
set_option maxHeartbeats 1000000 in
set_option maxRecDepth 100000 in
theorem xfresh_o (X V Pb W room : Nat) (c : Cfg) (hc : Small c) (cv : Value) (m : Xm) (hm : Xok m) (hw : m.x.writes ≤ 999000) (nad : Option Addr) (ncap : Nat) :
    Tri Tryz.prog 248 #[.pointer (some ⟨X, 0, none⟩)] (xmO X V Pb W room c cv m nad ncap) (xmQ X V Pb W room c cv (m.fresh c room)) := by
  have hlen := hm.len
  have hpay := xpay_t X V Pb W room c hc cv (.slice nad m.news.length ncap) m hm.mark (by omega) ⟨hm.w0, hm.w1⟩
  have hpn := m.pay_news c
  have hpv := m.pay_v c
  unfold Xm.fresh
  cases hp : (m.pay c).2 with
  | false =>
    rw [hp] at hpay
    rw [if_neg (by decide)]
    refine Tri.of_body (vs := [_]) Tryz.func248 rfl rfl fun w0 F => ?_
    repeat' (first | refine Ga ?_ | (refine Gb ?_; intro b) | (refine Gd ?_; intro g cap rest hcap) | (refine Gc ?_; intro ad cap)  | (refine Gt hpay ?_; rintro _ _ ⟨rfl, rfl⟩) | (refine Ge ?_ ?_ <;> (intro h; try (exfalso; omega))) | fail)
    refine St.d1 Tryz.func248 ⟨_, ⟨rfl, rfl⟩, ?_⟩
    refine Ent.trans ?_ (xmO_in (nad := nad) (ncap := ncap))
    unfold xmO
    rw [hpn, hpv]
    exact Ent.go
  | true =>
    rw [hp] at hpay
    rw [if_pos rfl]
    have hok := hm.pay hw hp
    clear hpn hpv
    rw [Xm.pay_t hp] at hpay hok ⊢
    dsimp only at hpay
    have htop := ptop_r Pb c hc m.p ⟨hm.nt0, hm.nt1⟩
    cases ht : (m.p.top c).2 with
    | false =>
      rw [ht] at htop
      rw [if_neg (by decide)]
      have hf := xfail_t X V Pb W room c cv (.slice nad m.news.length ncap) { m.x with writes := m.x.writes + costs m.x.i.op } m.p m.puts 43 0 hm.mark (by omega)
      refine Tri.of_body (vs := [_]) Tryz.func248 rfl rfl fun w0 F => ?_
      repeat' (first | refine Ga ?_ | (refine Gb ?_; intro b) | (refine Gd ?_; intro g cap rest hcap) | (refine Gc ?_; intro ad cap) | refine Gl htop ?_ | (refine Gt hpay ?_; rintro _ _ ⟨rfl, rfl⟩) | (refine Gt hf ?_; rintro _ _ ⟨rfl, rfl⟩) | (refine Ge ?_ ?_ <;> (intro h; try (exfalso; omega))) | fail)
      refine St.d1 Tryz.func248 ⟨_, ⟨rfl, rfl⟩, ?_⟩
      refine Ent.trans ?_ (xmO_in (nad := nad) (ncap := ncap))
      exact Ent.go
    | true =>
      rw [ht] at htop
      rw [if_pos rfl]
      have hf := xfetch_o X V Pb W room c hc cv { m with x := { m.x with writes := m.x.writes + costs m.x.i.op } } hok (m.p.top c).1 nad ncap
      unfold xmQ at hf
      refine Tri.of_body (vs := [_]) Tryz.func248 rfl rfl fun w0 F => ?_
      repeat' (first | refine Ga ?_ | (refine Gb ?_; intro b) | (refine Gd ?_; intro g cap rest hcap) | (refine Gc ?_; intro ad cap) | refine Gl htop ?_ | (refine Gt hpay ?_; rintro _ _ ⟨rfl, rfl⟩) | (refine Gt hf ?_; rintro _ _ ⟨rfl, rfl⟩) | (refine Ge ?_ ?_ <;> (intro h; try (exfalso; omega))) | fail)
      refine St.f1 Tryz.func248 ⟨_, ⟨rfl, rfl⟩, ?_⟩
      exact Ent.go
def Xm.root (c : Cfg) (room : Nat) (m : Xm) : Xm :=
  if 16 ≤ m.x.reg m.x.i.b then m.fail 44 0 else
  if m.x.i.op = 10 then (if (m.pay c).2 then { (m.pay c).1 with puts := putP room (m.pay c).1.puts (c.at 10 (m.x.reg m.x.i.b) 0) (m.x.reg m.x.i.a) } else (m.pay c).1) else m.fetch c room (c.at 10 (m.x.reg m.x.i.b) 0)
set_option maxHeartbeats 1000000 in
set_option maxRecDepth 100000 in
theorem xroot_o (X V Pb W room : Nat) (c : Cfg) (hc : Small c) (cv : Value) (m : Xm) (hm : Xok m) (nad : Option Addr) (ncap : Nat) :
    Tri Tryz.prog 246 #[.pointer (some ⟨X, 0, none⟩)] (xmO X V Pb W room c cv m nad ncap) (xmQ X V Pb W room c cv (m.root c room)) := by
  have hlen := hm.len
  have hpay := xpay_t X V Pb W room c hc cv (.slice nad m.news.length ncap) m hm.mark (by omega) ⟨hm.w0, hm.w1⟩
  have hpn := m.pay_news c
  have hpv := m.pay_v c
  have htk := take_x c cv V Pb W (.slice nad m.news.length ncap) m.x
  have ha0 := hm.i.a0; have ha1 := hm.i.a1; have hb0 := hm.i.b0; have hb1 := hm.i.b1
  have hrb : NthN _ _ (Value.int .u64 ((m.x.reg m.x.i.b : Nat) : Int)) := ex_reg c cv V Pb W (.slice nad m.news.length ncap) m.x hb0 hb1
  have hat := at_r c hc 10 (m.x.reg m.x.i.b) 0
  unfold Xm.root
  by_cases h1 : 16 ≤ m.x.reg m.x.i.b
  · rw [if_pos h1]
    have hf := xfail_t X V Pb W room c cv (.slice nad m.news.length ncap) m.x m.p m.puts 44 0 hm.mark (by omega)
    refine Tri.of_body (vs := [_]) Tryz.func246 rfl rfl fun w0 F => ?_
    repeat' (first | refine Ga ?_ | (refine Gb ?_; intro b) | (refine Gd ?_; intro g cap rest hcap) | (refine Gc ?_; intro ad cap) | (refine St.draw (id := 0) [(0, 0), (1, 0), (2, 0), (3, 0), (4, 0), (5, 1), (6, 0), (7, 0), (8, 0), (9, 1), (10, 0)] [] mixed (by kernel_rfl) ?_) | (refine St.draw (id := 6) [(0, 0), (1, 0), (2, 0), (3, 1), (4, 0), (5, 0), (6, 0), (7, 0), (8, 0), (9, 0), (10, 1), (11, 0), (12, 0), (13, 0), (14, 1), (15, 3)] [15] mixed (by kernel_rfl) ?_) | (refine Gt hf ?_; rintro _ _ ⟨rfl, rfl⟩) | (refine Ge ?_ ?_ <;> (intro h; try (exfalso; omega))) | fail)
    refine St.d1 Tryz.func246 ⟨_, ⟨rfl, rfl⟩, ?_⟩
    refine Ent.trans ?_ (xmO_in (nad := nad) (ncap := ncap))
    exact Ent.go
  · rw [if_neg h1]
    by_cases h2 : m.x.i.op = 10
    · rw [if_pos h2]
      cases hp : (m.pay c).2 with
      | false =>
        rw [hp] at hpay
        rw [if_neg (by decide)]
        refine Tri.of_body (vs := [_]) Tryz.func246 rfl rfl fun w0 F => ?_
        repeat' (first | refine Ga ?_ | (refine Gb ?_; intro b) | (refine Gd ?_; intro g cap rest hcap) | (refine Gc ?_; intro ad cap) | (refine St.draw (id := 0) [(0, 0), (1, 0), (2, 0), (3, 0), (4, 0), (5, 1), (6, 0), (7, 0), (8, 0), (9, 1), (10, 0)] [] mixed (by kernel_rfl) ?_) | (refine St.draw (id := 6) [(0, 0), (1, 0), (2, 0), (3, 1), (4, 0), (5, 0), (6, 0), (7, 0), (8, 0), (9, 0), (10, 1), (11, 0), (12, 0), (13, 0), (14, 1), (15, 3)] [15] mixed (by kernel_rfl) ?_)| refine Gl hat ?_ | (refine Gt hpay ?_; rintro _ _ ⟨rfl, rfl⟩) | (refine Ge ?_ ?_ <;> (intro h; try (exfalso; omega))) | fail)
        refine St.d1 Tryz.func246 ⟨_, ⟨rfl, rfl⟩, ?_⟩
        refine Ent.trans ?_ (xmO_in (nad := nad) (ncap := ncap))
        unfold xmO
        rw [hpn, hpv]
        exact Ent.go
      | true =>
        rw [hp] at hpay
        rw [if_pos rfl]
        clear hpn hpv
        rw [Xm.pay_t hp] at hpay ⊢
        dsimp only at hpay
        have hra : NthN _ _ (Value.int .u64 ((m.x.reg m.x.i.a : Nat) : Int)) := ex_reg c cv V Pb W (.slice nad m.news.length ncap) { m.x with writes := m.x.writes + costs m.x.i.op } ha0 ha1
        have hput := wput_t W room m.puts (c.at 10 (m.x.reg m.x.i.b) 0) (m.x.reg m.x.i.a) (by omega)
        refine Tri.of_body (vs := [_]) Tryz.func246 rfl rfl fun w0 F => ?_
        repeat' (first | refine Ga ?_ | (refine Gb ?_; intro b) | (refine Gd ?_; intro g cap rest hcap) | (refine Gc ?_; intro ad cap) | (refine St.draw (id := 0) [(0, 0), (1, 0), (2, 0), (3, 0), (4, 0), (5, 1), (6, 0), (7, 0), (8, 0), (9, 1), (10, 0)] [] mixed (by kernel_rfl) ?_) | (refine St.draw (id := 6) [(0, 0), (1, 0), (2, 0), (3, 1), (4, 0), (5, 0), (6, 0), (7, 0), (8, 0), (9, 0), (10, 1), (11, 0), (12, 0), (13, 0), (14, 1), (15, 3)] [15] mixed (by kernel_rfl) ?_)| refine Gl hat ?_ | (refine Gt hpay ?_; rintro _ _ ⟨rfl, rfl⟩) | (refine Gt hput ?_; rintro _ _ ⟨rfl, rfl⟩) | (refine Ge ?_ ?_ <;> (intro h; try (exfalso; omega))) | fail)
        refine St.d1 Tryz.func246 ⟨_, ⟨rfl, rfl⟩, ?_⟩
        refine Ent.trans ?_ (xmO_in (nad := nad) (ncap := ncap))
        exact Ent.go
    · rw [if_neg h2]
      have hf := xfetch_o X V Pb W room c hc cv m hm (c.at 10 (m.x.reg m.x.i.b) 0) nad ncap
      unfold xmQ at hf
      refine Tri.of_body (vs := [_]) Tryz.func246 rfl rfl fun w0 F => ?_
      repeat' (first | refine Ga ?_ | (refine Gb ?_; intro b) | (refine Gd ?_; intro g cap rest hcap) | (refine Gc ?_; intro ad cap) | (refine St.draw (id := 0) [(0, 0), (1, 0), (2, 0), (3, 0), (4, 0), (5, 1), (6, 0), (7, 0), (8, 0), (9, 1), (10, 0)] [] mixed (by kernel_rfl) ?_) | (refine St.draw (id := 6) [(0, 0), (1, 0), (2, 0), (3, 1), (4, 0), (5, 0), (6, 0), (7, 0), (8, 0), (9, 0), (10, 1), (11, 0), (12, 0), (13, 0), (14, 1), (15, 3)] [15] mixed (by kernel_rfl) ?_)| refine Gl hat ?_ | (refine Gt hf ?_; rintro _ _ ⟨rfl, rfl⟩) | (refine Ge ?_ ?_ <;> (intro h; try (exfalso; omega))) | fail)
      refine St.f1 Tryz.func246 ⟨_, ⟨rfl, rfl⟩, ?_⟩
      exact Ent.go
def Xm.touch (c : Cfg) (room : Nat) (m : Xm) : Xm :=
  if (m.x.block c).2.2 = false ∨ ((mget (allP m.puts) (c.at 11 (m.x.block c).1 0)).isSome = true ∧ (mget (allP m.puts) (c.at 11 (m.x.block c).1 0)).getD 0 ≠ 1) then m.fail 44 0 else
  if readsB m.x.i.op then (match mget (allP m.puts) (c.at 16 (m.x.block c).1 (m.x.block c).2.1) with
    | some val => m.goOn c room val
    | none => { m with v := m.v.word c (m.x.block c).1 (m.x.block c).2.1, x := { m.x with waits := true } }) else
  if (mget (allP m.puts) (c.at 11 (m.x.block c).1 0)).isSome then m.goOn c room 0 else { m with v := m.v.live c (m.x.block c).1, x := { m.x with waits := true } }
set_option maxHeartbeats 1000000 in
set_option maxRecDepth 100000 in
theorem xtouch_o (X V Pb W room : Nat) (c : Cfg) (hc : Small c) (cv : Value) (m : Xm) (hm : Xok m) (nad : Option Addr) (ncap : Nat) :
    Tri Tryz.prog 247 #[.pointer (some ⟨X, 0, none⟩)] (xmO X V Pb W room c cv m nad ncap) (xmQ X V Pb W room c cv (m.touch c room)) := by
  have hlen := hm.len
  have htk := take_x c cv V Pb W (.slice nad m.news.length ncap) m.x
  have hbl := xblock_r X V Pb W c hc cv (.slice nad m.news.length ncap) m.x hm.i
  have h11 := at_r c hc 11 (m.x.block c).1 0
  have h16 := at_r c hc 16 (m.x.block c).1 (m.x.block c).2.1
  have hg1 := wget_r W room m.puts (c.at 11 (m.x.block c).1 0)
  have hg2 := wget_r W room m.puts (c.at 16 (m.x.block c).1 (m.x.block c).2.1)
  have hrd := xreads_r m.x.i.op
  have hwd := vword_t c hc V m.v (m.x.block c).1 (m.x.block c).2.1
  have hlv := vlive_t c hc V m.v (m.x.block c).1
  have hf := xfail_t X V Pb W room c cv (.slice nad m.news.length ncap) m.x m.p m.puts 44 0 hm.mark (by omega)
  have hgo0 := xgoOn_o X V Pb W room c hc cv m hm 0 nad ncap
  have hgo := fun val => xgoOn_o X V Pb W room c hc cv m hm val nad ncap
  have hgv := m.goOn_v c room
  unfold Xm.touch
  generalize m.x.block c = bw at *
  obtain ⟨b, w, ok⟩ := bw
  dsimp only at *
  cases ok with
  | false =>
    rw [if_pos (.inl rfl)]
    refine Tri.of_body (vs := [_]) Tryz.func247 rfl rfl fun w0 F => ?_
    repeat' (first | refine Ga ?_ | (refine Gb ?_; intro b) | (refine Gd ?_; intro g cap rest hcap) | (refine Gc ?_; intro ad cap) | (refine St.draw (id := 1) [(0, 0), (1, 0), (2, 0), (3, 1), (4, 0), (5, 0), (6, 0), (7, 1), (8, 0), (9, 1), (10, 1), (11, 0), (12, 0), (13, 0), (14, 0), (15, 0)] [] mixed (by kernel_rfl) ?_) | (refine St.draw (id := 5) [(0, 0), (1, 0), (2, 0), (3, 1), (4, 0), (5, 0), (6, 0), (7, 1), (8, 0), (9, 0), (10, 1), (11, 1), (12, 0), (13, 0), (14, 0), (15, 0), (16, 0)] [] mixed (by kernel_rfl) ?_)| refine Gl hbl ?_ | refine Gl h11 ?_ | refine Gl hg1 ?_ | (refine Gt hf ?_; rintro _ _ ⟨rfl, rfl⟩) | (refine Ge ?_ ?_ <;> (intro h; try (exfalso; omega))) | fail)
    refine St.d1 Tryz.func247 ⟨_, ⟨rfl, rfl⟩, ?_⟩
    refine Ent.trans ?_ (xmO_in (nad := nad) (ncap := ncap))
    exact Ent.go
  | true =>
    cases hk : mget (allP m.puts) (c.at 11 b 0) with
    | none =>
      rw [hk] at hg1
      rw [if_neg (by simp)]
      cases hr : readsB m.x.i.op with
      | true =>
        rw [hr] at hrd
        rw [if_pos rfl]
        cases hg : mget (allP m.puts) (c.at 16 b w) with
        | some val =>
          rw [hg] at hg2
          have hgo := hgo val
          dsimp only
          refine Tri.of_body (vs := [_]) Tryz.func247 rfl rfl fun w0 F => ?_
          repeat' (first | refine Ga ?_ | (refine Gb ?_; intro b) | (refine Gd ?_; intro g cap rest hcap) | (refine Gc ?_; intro ad cap) | (refine St.draw (id := 1) [(0, 0), (1, 0), (2, 0), (3, 1), (4, 0), (5, 0), (6, 0), (7, 1), (8, 0), (9, 1), (10, 1), (11, 0), (12, 0), (13, 0), (14, 0), (15, 0)] [] mixed (by kernel_rfl) ?_) | (refine St.draw (id := 5) [(0, 0), (1, 0), (2, 0), (3, 1), (4, 0), (5, 0), (6, 0), (7, 1), (8, 0), (9, 0), (10, 1), (11, 1), (12, 0), (13, 0), (14, 0), (15, 0), (16, 0)] [] mixed (by kernel_rfl) ?_)| refine Gl hbl ?_ | refine Gl h11 ?_ | refine Gl hg1 ?_ | refine Gl hrd ?_ | refine Gl h16 ?_ | refine Gl hg2 ?_ | (refine Gt hgo ?_; rintro _ _ ⟨rfl, rfl⟩) | (refine Ge ?_ ?_ <;> (intro h; try (exfalso; omega))) | fail)
          refine St.d1 Tryz.func247 ⟨_, ⟨rfl, rfl⟩, ?_⟩
          unfold xmL
          rw [hgv]
          exact Ent.go
        | none =>
          rw [hg] at hg2
          dsimp only
          refine Tri.of_body (vs := [_]) Tryz.func247 rfl rfl fun w0 F => ?_
          repeat' (first | refine Ga ?_ | (refine Gb ?_; intro b) | (refine Gd ?_; intro g cap rest hcap) | (refine Gc ?_; intro ad cap) | (refine St.draw (id := 1) [(0, 0), (1, 0), (2, 0), (3, 1), (4, 0), (5, 0), (6, 0), (7, 1), (8, 0), (9, 1), (10, 1), (11, 0), (12, 0), (13, 0), (14, 0), (15, 0)] [] mixed (by kernel_rfl) ?_) | (refine St.draw (id := 5) [(0, 0), (1, 0), (2, 0), (3, 1), (4, 0), (5, 0), (6, 0), (7, 1), (8, 0), (9, 0), (10, 1), (11, 1), (12, 0), (13, 0), (14, 0), (15, 0), (16, 0)] [] mixed (by kernel_rfl) ?_)| refine Gl hbl ?_ | refine Gl h11 ?_ | refine Gl hg1 ?_ | refine Gl hrd ?_ | refine Gl h16 ?_ | refine Gl hg2 ?_ | (refine Gt hwd ?_; rintro _ _ ⟨rfl, rfl⟩) | (refine Ge ?_ ?_ <;> (intro h; try (exfalso; omega))) | fail)
          refine St.d1 Tryz.func247 ⟨_, ⟨rfl, rfl⟩, ?_⟩
          refine Ent.trans ?_ (xmO_in (nad := nad) (ncap := ncap))
          exact Ent.go
      | false =>
        rw [hr] at hrd
        rw [if_neg (by decide)]
        rw [if_neg (by decide)]
        refine Tri.of_body (vs := [_]) Tryz.func247 rfl rfl fun w0 F => ?_
        repeat' (first | refine Ga ?_ | (refine Gb ?_; intro b) | (refine Gd ?_; intro g cap rest hcap) | (refine Gc ?_; intro ad cap) | (refine St.draw (id := 1) [(0, 0), (1, 0), (2, 0), (3, 1), (4, 0), (5, 0), (6, 0), (7, 1), (8, 0), (9, 1), (10, 1), (11, 0), (12, 0), (13, 0), (14, 0), (15, 0)] [] mixed (by kernel_rfl) ?_) | (refine St.draw (id := 5) [(0, 0), (1, 0), (2, 0), (3, 1), (4, 0), (5, 0), (6, 0), (7, 1), (8, 0), (9, 0), (10, 1), (11, 1), (12, 0), (13, 0), (14, 0), (15, 0), (16, 0)] [] mixed (by kernel_rfl) ?_)| refine Gl hbl ?_ | refine Gl h11 ?_ | refine Gl hg1 ?_ | refine Gl hrd ?_ | (refine Gt hlv ?_; rintro _ _ ⟨rfl, rfl⟩) | (refine Ge ?_ ?_ <;> (intro h; try (exfalso; omega))) | fail)
        refine St.f1 Tryz.func247 ⟨_, ⟨rfl, rfl⟩, ?_⟩
        refine Ent.trans ?_ (xmO_in (nad := nad) (ncap := ncap))
        exact Ent.go
    | some life =>
      rw [hk] at hg1
      by_cases hl1 : life = 1
      · subst hl1
        rw [if_neg (by simp)]
        cases hr : readsB m.x.i.op with
        | true =>
          rw [hr] at hrd
          rw [if_pos rfl]
          cases hg : mget (allP m.puts) (c.at 16 b w) with
          | some val =>
            rw [hg] at hg2
            have hgo := hgo val
            dsimp only
            refine Tri.of_body (vs := [_]) Tryz.func247 rfl rfl fun w0 F => ?_
            repeat' (first | refine Ga ?_ | (refine Gb ?_; intro b) | (refine Gd ?_; intro g cap rest hcap) | (refine Gc ?_; intro ad cap) | (refine St.draw (id := 1) [(0, 0), (1, 0), (2, 0), (3, 1), (4, 0), (5, 0), (6, 0), (7, 1), (8, 0), (9, 1), (10, 1), (11, 0), (12, 0), (13, 0), (14, 0), (15, 0)] [] mixed (by kernel_rfl) ?_) | (refine St.draw (id := 5) [(0, 0), (1, 0), (2, 0), (3, 1), (4, 0), (5, 0), (6, 0), (7, 1), (8, 0), (9, 0), (10, 1), (11, 1), (12, 0), (13, 0), (14, 0), (15, 0), (16, 0)] [] mixed (by kernel_rfl) ?_)| refine Gl hbl ?_ | refine Gl h11 ?_ | refine Gl hg1 ?_ | refine Gl hrd ?_ | refine Gl h16 ?_ | refine Gl hg2 ?_ | (refine Gt hgo ?_; rintro _ _ ⟨rfl, rfl⟩) | (refine Ge ?_ ?_ <;> (intro h; try (exfalso; omega))) | fail)
            refine St.d1 Tryz.func247 ⟨_, ⟨rfl, rfl⟩, ?_⟩
            unfold xmL
            rw [hgv]
            exact Ent.go
          | none =>
            rw [hg] at hg2
            dsimp only
            refine Tri.of_body (vs := [_]) Tryz.func247 rfl rfl fun w0 F => ?_
            repeat' (first | refine Ga ?_ | (refine Gb ?_; intro b) | (refine Gd ?_; intro g cap rest hcap) | (refine Gc ?_; intro ad cap) | (refine St.draw (id := 1) [(0, 0), (1, 0), (2, 0), (3, 1), (4, 0), (5, 0), (6, 0), (7, 1), (8, 0), (9, 1), (10, 1), (11, 0), (12, 0), (13, 0), (14, 0), (15, 0)] [] mixed (by kernel_rfl) ?_) | (refine St.draw (id := 5) [(0, 0), (1, 0), (2, 0), (3, 1), (4, 0), (5, 0), (6, 0), (7, 1), (8, 0), (9, 0), (10, 1), (11, 1), (12, 0), (13, 0), (14, 0), (15, 0), (16, 0)] [] mixed (by kernel_rfl) ?_)| refine Gl hbl ?_ | refine Gl h11 ?_ | refine Gl hg1 ?_ | refine Gl hrd ?_ | refine Gl h16 ?_ | refine Gl hg2 ?_ | (refine Gt hwd ?_; rintro _ _ ⟨rfl, rfl⟩) | (refine Ge ?_ ?_ <;> (intro h; try (exfalso; omega))) | fail)
            refine St.d1 Tryz.func247 ⟨_, ⟨rfl, rfl⟩, ?_⟩
            refine Ent.trans ?_ (xmO_in (nad := nad) (ncap := ncap))
            exact Ent.go
        | false =>
          rw [hr] at hrd
          rw [if_neg (by decide)]
          rw [if_pos (by rfl)]
          refine Tri.of_body (vs := [_]) Tryz.func247 rfl rfl fun w0 F => ?_
          repeat' (first | refine Ga ?_ | (refine Gb ?_; intro b) | (refine Gd ?_; intro g cap rest hcap) | (refine Gc ?_; intro ad cap) | (refine St.draw (id := 1) [(0, 0), (1, 0), (2, 0), (3, 1), (4, 0), (5, 0), (6, 0), (7, 1), (8, 0), (9, 1), (10, 1), (11, 0), (12, 0), (13, 0), (14, 0), (15, 0)] [] mixed (by kernel_rfl) ?_) | (refine St.draw (id := 5) [(0, 0), (1, 0), (2, 0), (3, 1), (4, 0), (5, 0), (6, 0), (7, 1), (8, 0), (9, 0), (10, 1), (11, 1), (12, 0), (13, 0), (14, 0), (15, 0), (16, 0)] [] mixed (by kernel_rfl) ?_)| refine Gl hbl ?_ | refine Gl h11 ?_ | refine Gl hg1 ?_ | refine Gl hrd ?_ | (refine Gt hgo0 ?_; rintro _ _ ⟨rfl, rfl⟩) | (refine Ge ?_ ?_ <;> (intro h; try (exfalso; omega))) | fail)
          refine St.d1 Tryz.func247 ⟨_, ⟨rfl, rfl⟩, ?_⟩
          unfold xmL
          rw [hgv]
          exact Ent.go
      · rw [Option.getD_some, Option.isSome_some] at hg1
        have hl2 : ¬ ((life : Nat) : Int) = 1 := by omega
        rw [if_pos (.inr ⟨rfl, hl1⟩)]
        refine Tri.of_body (vs := [_]) Tryz.func247 rfl rfl fun w0 F => ?_
        repeat' (first | refine Ga ?_ | (refine Gb ?_; intro b) | (refine Gd ?_; intro g cap rest hcap) | (refine Gc ?_; intro ad cap) | (refine St.draw (id := 1) [(0, 0), (1, 0), (2, 0), (3, 1), (4, 0), (5, 0), (6, 0), (7, 1), (8, 0), (9, 1), (10, 1), (11, 0), (12, 0), (13, 0), (14, 0), (15, 0)] [] mixed (by kernel_rfl) ?_) | (refine St.draw (id := 5) [(0, 0), (1, 0), (2, 0), (3, 1), (4, 0), (5, 0), (6, 0), (7, 1), (8, 0), (9, 0), (10, 1), (11, 1), (12, 0), (13, 0), (14, 0), (15, 0), (16, 0)] [] mixed (by kernel_rfl) ?_)| refine Gl hbl ?_ | refine Gl h11 ?_ | refine Gl hg1 ?_ | (refine Gt hf ?_; rintro _ _ ⟨rfl, rfl⟩) | (refine Ge ?_ ?_ <;> (intro h; try (exfalso; omega))) | fail)
        refine St.d1 Tryz.func247 ⟨_, ⟨rfl, rfl⟩, ?_⟩
        refine Ent.trans ?_ (xmO_in (nad := nad) (ncap := ncap))
        exact Ent.go
end Go.Proofs.YthmbgodcpgkkeaaGreat
