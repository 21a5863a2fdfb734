/-
  Package tumblerlaw20: run of a name that is none.
-/
import Derived.Test.YtphheopbngdhhaaGreatDoorQb
namespace Go.Proofs.YtphheopbngdhhaaGreatDoor
set_option maxRecDepth 100000
set_option maxHeartbeats 1000000 in
theorem mrun_no (S : Nat) (ms : Ms) (qc q : HProp) (cv : Value) (hcv : ListR Ins.v qc cv []) (args : List Nat) (fuel wr : Int) (pad : Option Addr) (pn pcap : Nat) :
    Tri Tryz.prog 30 #[.pointer (some ⟨S, 0, none⟩), cv, .agg ⟨g4 args⟩, .int .i64 fuel, .int .i64 wr, .slice pad pn pcap] [MsE S ms, qc, q]
      fun v L => v = .agg ⟨[.int .i64 30, .int .u64 0, .int .i64 0, .int .i64 0, .slice none 0 0]⟩ ∧ L = [MsE S ms, qc, q] := by
  have hins : InsR qc cv [] := by
    obtain ⟨ad, cap, h1, _, h2⟩ := hcv
    exact ⟨ad, cap, h1, h2⟩
  have hri := right_rr qc cv [] hins
  rw [show rightB [] = false by kernel_rfl] at hri
  obtain ⟨cad, ccap, rfl, _, hcv⟩ := hcv
  unfold g4
  refine Tri.of_body (vs := [_, _, _, _, _, _]) Tryz.func30 rfl rfl fun w0 F => ?_
  repeat' (first | refine Ga ?_ | (refine Gb ?_; intro b) | (refine Gd ?_; intro g cap rest hcap) | (refine Gc ?_; intro ad cap) | (refine St.draw (id := 3) [(0, 0), (2, 1), (3, 0), (4, 0), (1, 2), (5, 0), (6, 2), (7, 0)] [] mixed (by kernel_rfl) ?_)| refine Gl hri ?_ | (refine Ge ?_ ?_ <;> (intro h; try (exfalso; omega))) | fail)
  refine St.d1 Tryz.func30 ⟨_, ⟨rfl, rfl⟩, Ent.go⟩
set_option maxHeartbeats 1000000 in
theorem lrun_no (S : Nat) (m : Ms) (hm : MsOk m) (root arg : Nat) : Tri Tryz.prog 25 #[.pointer (some ⟨S, 0, none⟩), bs (nmB 6), .int .u64 (root : Int), .int .u64 (arg : Int)] [MsE S m]
    fun v L => v = .agg ⟨[.int .i64 30, .int .u64 0, .int .i64 0, .int .i64 0, .slice none 0 0]⟩ ∧ L = [MsE S m] := by
  have hpr := qprog_t ⟨⟨nmB 6⟩⟩
  rw [show nmOf (⟨⟨nmB 6⟩⟩ : ByteArray).data.toList = 6 by kernel_rfl] at hpr
  have hsp := spare_t S m hm
  rw [← u64V_flat] at hsp
  have hnil : qcd 6 = [] := rfl
  rw [hnil] at hpr
  refine Tri.of_body (vs := [_, _, _, _]) Tryz.func25 rfl rfl fun w0 F => ?_
  repeat' (first | refine St.halt 2 ?_ |refine Ga ?_ | (refine Gb ?_; intro b) | (refine Gd ?_; intro g cap rest hcap) | (refine Gc ?_; intro ad cap)  | (refine Gt hpr ?_; rintro _ _ ⟨cad, ccap, rfl, rfl⟩) | (refine Ge ?_ ?_ <;> (intro h; try (exfalso; omega))) | fail)
  apply Halt.go
  refine St.conv ?_ (Sub.refl _) (Ent.of_take (p := Row (.slice cad ([] : List Ins).length ccap) 129 5 ([] : List Ins).length (([] : List Ins).flatMap Ins.v)) Take.go)
  refine St.rowL rfl (fun qc hqc => ?_)
  apply St.seq
  apply St.region
  repeat' (first | refine Ga ?_ | (refine Gb ?_; intro b) | (refine Gd ?_; intro g cap rest hcap) | (refine Gc ?_; intro ad cap)  | (refine Gt hsp ?_; rintro _ _ ⟨pad, pcap, rfl, rfl⟩) | (refine Ge ?_ ?_ <;> (intro h; try (exfalso; omega))) | fail)
  (apply StL.v; (apply OpV.buildA; (focus (repeat (first | rfl | constructor))); (focus (repeat (first | exact Fill.nil | (apply Fill.cons; exact ⟨rfl, rfl⟩; rfl; (focus (first | assumption | (repeat constructor)))))))); rfl)
  repeat' (first | refine Ga ?_ | (refine Gb ?_; intro b) | (refine Gd ?_; intro g cap rest hcap) | (refine Gc ?_; intro ad cap)  | (refine Gt hsp ?_; rintro _ _ ⟨pad, pcap, rfl, rfl⟩) | (refine Ge ?_ ?_ <;> (intro h; try (exfalso; omega))) | fail)
  refine StL.rowL rfl (fun q hq => ?_)
  have hrun := mrun_no S m qc q _ hqc [root, arg, 0, 0] 400 64 pad (spareM m.blocks).length pcap
  unfold g4 at hrun
  repeat' (first | refine Ga ?_ | (refine Gb ?_; intro b) | (refine Gd ?_; intro g cap rest hcap) | (refine Gc ?_; intro ad cap)  | (refine Gt hrun ?_; rintro _ _ ⟨rfl, rfl⟩) | (refine Ge ?_ ?_ <;> (intro h; try (exfalso; omega))) | fail)
  refine St.d1 Tryz.func25 ⟨_, ⟨rfl, rfl⟩, ?_⟩
  exact Ent.go
end Go.Proofs.YtphheopbngdhhaaGreatDoor
