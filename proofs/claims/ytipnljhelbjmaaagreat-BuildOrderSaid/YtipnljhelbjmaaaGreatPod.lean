/-
  Package pool, over sealed memory.
-/
import Derived.Test.YtipnljhelbjmaaaGreatPoc
namespace Go.Proofs.YtipnljhelbjmaaaGreat
def Pl (Pb : Nat) (c : Cfg) (p : Po) : HProp := PlE Pb c p
theorem pnew_t (c : Cfg) (seq : Nat) : Tri Tryz.prog 11 #[.agg ⟨c.m⟩, .int .u64 (seq : Int)] [] fun r L => ∃ Pb, r = .pointer (some ⟨Pb, 0, none⟩) ∧ L = [Pl Pb c (Po.new seq)] := pnew_tE c seq
theorem pback_t (Pb : Nat) (c : Cfg) (p : Po) (t l : Int) : Tri Tryz.prog 108 #[.pointer (some ⟨Pb, 0, none⟩), .agg ⟨[.int .i64 t, .int .i64 l]⟩] [Pl Pb c p] fun r L => r = .tuple ⟨[]⟩ ∧ L = [Pl Pb c { p with nt := t, nl := l }] := pback_tE Pb c p t l
theorem ptop_r (Pb : Nat) (c : Cfg) (hc : Small c) (p : Po) (ht : 0 ≤ p.nt ∧ p.nt ≤ 1000000) : RTri Tryz.prog 155 #[.pointer (some ⟨Pb, 0, none⟩)] [Pl Pb c p] (.tuple ⟨[.int .i64 (p.top c).1, .bool (p.top c).2]⟩) := ptop_rE Pb c hc p ht
theorem pask_r (Pb : Nat) (c : Cfg) (hc : Small c) (p : Po) (hn : 0 ≤ p.next ∧ p.next ≤ 1000000) : RTri Tryz.prog 85 #[.pointer (some ⟨Pb, 0, none⟩)] [Pl Pb c p] (.tuple ⟨[.agg ⟨(p.ask c).1.v⟩, .bool (p.ask c).2]⟩) := pask_rE Pb c hc p hn
theorem ptell_t (Pb : Nat) (c : Cfg) (hc : Small c) (p : Po) (o : Out) (hn : 0 ≤ p.next ∧ p.next ≤ 1000000) (hna : p.names.length ≤ 1000000) (hli : p.limbo.length ≤ 1000000) : Tri Tryz.prog 12 #[.pointer (some ⟨Pb, 0, none⟩), .agg ⟨o.v⟩] [Pl Pb c p] fun r L => r = .tuple ⟨[]⟩ ∧ L = [Pl Pb c (p.tell c o)] := ptell_tE Pb c hc p o hn hna hli
theorem ptake_t (Pb W room : Nat) (c : Cfg) (hc : Small c) (p : Po) (puts : List (Int × Nat)) (b : Nat) (hlen : puts.length + 9 ≤ 1000000000) (ht : 0 ≤ p.nt ∧ p.nt ≤ 1000000) :
    Tri Tryz.prog 157 #[.pointer (some ⟨Pb, 0, none⟩), .pointer (some ⟨W, 0, none⟩), .int .i64 (b : Int)] [Pl Pb c p, Ws W room puts]
      fun r L => r = .tuple ⟨[]⟩ ∧ L = [Pl Pb c { p with nt := (takeP c room p.nt puts b).1 }, Ws W room (takeP c room p.nt puts b).2] := ptake_tE Pb W room c hc p puts b hlen ht
theorem pgive_t (Pb W room : Nat) (c : Cfg) (hc : Small c) (p : Po) (puts : List (Int × Nat)) (b : Nat) (hlen : puts.length + 2 ≤ 1000000000) (ht : 0 ≤ p.nl) :
    Tri Tryz.prog 133 #[.pointer (some ⟨Pb, 0, none⟩), .pointer (some ⟨W, 0, none⟩), .int .i64 (b : Int)] [Pl Pb c p, Ws W room puts]
      fun r L => r = .tuple ⟨[]⟩ ∧ L = [Pl Pb c { p with nl := (giveP c room p.nl puts b).1 }, Ws W room (giveP c room p.nl puts b).2] := pgive_tE Pb W room c hc p puts b hlen ht
theorem psettle_t (Pb W room : Nat) (c : Cfg) (hc : Small c) (p : Po) (puts : List (Int × Nat)) (hnt : 0 ≤ p.nt) (hll : p.limbo.length ≤ 1000000) (hlen : puts.length + 2 * p.limbo.length ≤ 1000000000) :
    Tri Tryz.prog 15 #[.pointer (some ⟨Pb, 0, none⟩), .pointer (some ⟨W, 0, none⟩)] [Pl Pb c p, Ws W room puts]
      fun r L => r = .tuple ⟨[]⟩ ∧ L = [Pl Pb c (p.settled c room puts), Ws W room (setGo c room p.names 0 p.limbo ⟨0, p.nt, puts⟩).puts] := psettle_tE Pb W room c hc p puts hnt hll hlen
theorem pStatus_r (Pb : Nat) (c : Cfg) (p : Po) : RTri Tryz.prog 120 #[.pointer (some ⟨Pb, 0, none⟩)] [Pl Pb c p] (.int .i64 p.s) := pStatus_rE Pb c p
theorem pMark_r (Pb : Nat) (c : Cfg) (p : Po) : RTri Tryz.prog 26 #[.pointer (some ⟨Pb, 0, none⟩)] [Pl Pb c p] (.agg ⟨[.int .i64 p.nt, .int .i64 p.nl]⟩) := pMark_rE Pb c p
attribute [irreducible] Pl
end Go.Proofs.YtipnljhelbjmaaaGreat
