/-
  Package exec, over sealed memory.
-/
import Derived.Test.YtipnljhelbjmaaaGreatExk
namespace Go.Proofs.YtipnljhelbjmaaaGreat
/-- a program that runs, sealed -/
def Xe (X : Nat) (c : Cfg) (cv : Value) (V Pb W : Nat) (x : Xs) (news : List Nat) : HProp := XeE X c cv V Pb W x news
def xsL (X V Pb W room : Nat) (c : Cfg) (cv : Value) (m : Xm) (q : HProp) : List HProp := [Xe X c cv V Pb W m.x m.news, bl V 153 (viewV c m.v), Pl Pb c m.p, Ws W room m.puts, q]
theorem xnew_s (V Pb W room : Nat) (c : Cfg) (hc : Small c) (cv : Value) (q : HProp) (code : List Ins) (hv : InsR q cv code) (v : Vw) (p : Po) (puts : List (Int × Nat)) (args : List Nat) (hlen : puts.length ≤ 1000000000)
    (I : Xm → Prop) (hI : rightB code = true → RunInv c room code I) (hm : rightB code = true → I (Xm.init v p puts args)) :
    Tri Tryz.prog 19 #[.agg ⟨c.m⟩, cv, .agg ⟨g4 args⟩, .pointer (some ⟨V, 0, none⟩), .pointer (some ⟨Pb, 0, none⟩), .pointer (some ⟨W, 0, none⟩)] [bl V 153 (viewV c v), Pl Pb c p, Ws W room puts, q]
      fun r L => ∃ X, r = .pointer (some ⟨X, 0, none⟩) ∧ L = xsL X V Pb W room c cv (Xm.start c room code v p puts args) q := xnew_t V Pb W room c hc cv q code hv v p puts args hlen I hI hm
theorem xask_s (X V Pb W : Nat) (c : Cfg) (hc : Small c) (cv : Value) (m : Xm) (hb : 0 ≤ m.v.block ∧ m.v.block ≤ 1000000) : RTri Tryz.prog 21 #[.pointer (some ⟨X, 0, none⟩)] [Xe X c cv V Pb W m.x m.news, bl V 153 (viewV c m.v)] (.tuple ⟨[.agg ⟨(m.ask c).1.v⟩, .bool (m.ask c).2]⟩) := xask_r X V Pb W c hc cv m hb
theorem xstatus_s (X V Pb W : Nat) (c : Cfg) (cv : Value) (m : Xm) : RTri Tryz.prog 22 #[.pointer (some ⟨X, 0, none⟩)] [Xe X c cv V Pb W m.x m.news] (.int .i64 m.x.s) := xstatus_r X V Pb W c cv m
theorem xtell_s (X V Pb W room : Nat) (c : Cfg) (hc : Small c) (cv : Value) (q : HProp) (code : List Ins) (hcode : rightB code = true) (hv : InsR q cv code) (I : Xm → Prop) (hI : RunInv c room code I) (m : Xm) (o : Out) (hm : m.x.s = 0 → I { m with v := m.v.tell o }) :
    Tri Tryz.prog 27 #[.pointer (some ⟨X, 0, none⟩), .agg ⟨o.v⟩] (xsL X V Pb W room c cv m q) fun r L => r = .tuple ⟨[]⟩ ∧ L = xsL X V Pb W room c cv (m.tell c room code o) q := xtell_t X V Pb W room c hc cv q code hcode hv I hI m o hm
theorem xresult_s (X V Pb W : Nat) (c : Cfg) (cv : Value) (m : Xm) (hn : m.news.length ≤ 1000000) : Tri Tryz.prog 23 #[.pointer (some ⟨X, 0, none⟩)] [Xe X c cv V Pb W m.x m.news]
    fun r L => ∃ ad cap, r = .tuple ⟨[.agg ⟨[.int .i64 m.x.rc, .int .u64 (m.x.rv : Int)]⟩, .slice ad m.news.length cap]⟩ ∧ L = [Xe X c cv V Pb W m.x m.news, Row (.slice ad m.news.length cap) 22 1 m.news.length (u64s m.news)] := xresult_t X V Pb W c cv m hn
attribute [irreducible] Xe
end Go.Proofs.YtipnljhelbjmaaaGreat
