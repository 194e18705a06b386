/- The law on sums, walked. -/
import Derived.Test.YtdkdmclbhcbfeaaDoorLa
import Derived.Test.YtdkdmclbhcbfeaaDoorOf
namespace Go.Proofs.YtdkdmclbhcbfeaaDoor.Nu
open Go.RowKit Go.Proofs.YtdkdmclbhcbfeaaDoor.Fl Go.Proofs.YtdkdmclbhcbfeaaDoorW.PrintWords Go.Proofs.YtdkdmclbhcbfeaaDoorW.PrintLast Go.Proofs.YtdkdmclbhcbfeaaDoorW.PrintMore
set_option linter.unusedVariables false
set_option linter.unusedSimpArgs false
theorem mul_comm_bits (a b : Nat) : arithV .mul a b = arithV .mul b a := by
  unfold arithV
  have h : ∀ x y : Ieee.Datum, x.product y = y.product x := by
    intro x y
    cases x <;> cases y <;> simp [Ieee.Datum.product, Bool.xor_comm, Nat.mul_comm, Int.add_comm]
  have : floatBits .mul .f64 a b = floatBits .mul .f64 b a := by
    show ((Ieee.double.read a).product (Ieee.double.read b)).map Ieee.double.write = ((Ieee.double.read b).product (Ieee.double.read a)).map Ieee.double.write
    rw [h]
  rw [this]
set_option maxHeartbeats 3200000 in
set_option maxRecDepth 100000 in
theorem sums_walk (A : Option Addr) (len cap : Nat) (l : List Nat) (a b : Nat) (w : World) (hr : RowF w A len l) (hs : len * 8 ≤ 140737488351232) (wa : (Lit.float .f64 a).wf = true) (wb : (Lit.float .f64 b).wf = true) (hT : Tabs w) : Calls Tryd.prog 5 #[.slice A len cap, .float .f64 a, .float .f64 b] w fun e w' => e = .returned (.bool true) ∧ Below w.heap.size w w' := by
  have ha := wf_lt wa
  have hb := wf_lt wb
  obtain rfl : l.length = len := hr.1
  have hC := hr.C (by omega)
  have H0 := Lib.hid (fixed_calls w hT)
  have H1 := Lib.hid (fun W (h : Below w.heap.size w W) => sum_calls A cap l W (Kd.C_below hC h) (by omega))
  have H2 := Lib.hid (fun w => bits_calls (sumV l 0) w)
  have H3 := Lib.hid (fun W (h : Below w.heap.size w W) => rsum_calls A cap l W (Kd.C_below hC h) (by omega))
  have H4 := Lib.hid (fun w => times_calls a b w)
  have H5 := Lib.hid (fun w => bits_calls (arithV .mul a b) w)
  have H6 := Lib.hid (fun w => times_calls b a w)
  rw [mul_comm_bits b a] at H6
  have HA := Lib.hid (fun W => arith (P := Tryd.prog) .mul (.inr rfl) 22 a b W)
  have HG := Lib.hid (fun r (hg : Gives .mul a b r) W => (show Calls Tryd.prog 17 #[.float .f64 r] W fun e w' => e = .returned (.int .u64 (arithV .mul a b : Nat)) ∧ W = w' from by rw [← gives_one hg]; exact rone_calls r hg.1 W))
  generalize l.length = n at H1 H3 hs ⊢
  generalize sumV l 0 = s at H1 H2 H3
  generalize arithV .mul a b = p at H4 H5 H6 HG
  clear ha hb wa wb hT hr hC
  go_enter Tryd.func5, Tryd.ntmps5
  go_wp2_with fail
  refine H0.out.mono ?_
  rintro e w1 ⟨rfl, hb⟩
  have B1 := Lib.hid hb
  clear hb H0
  go_wp2_with fail
  refine (H1.out _ B1.out).mono ?_
  rintro e w2 ⟨rfl, hb⟩
  have B2 := Lib.hid (B1.out.trans (hb.mono B1.out.size))
  clear hb H1
  go_wp2_with fail
  refine (H2.out _).mono ?_
  rintro e w' ⟨rfl, rfl⟩
  go_wp2_with fail
  refine (H3.out _ B2.out).mono ?_
  rintro e w3 ⟨rfl, hb⟩
  have B3 := Lib.hid (B2.out.trans (hb.mono B2.out.size))
  clear hb H3
  go_wp2_with fail
  refine (H4.out _).mono ?_
  rintro e w4 ⟨rfl, hb⟩
  have B4 := Lib.hid (B3.out.trans (hb.mono B3.out.size))
  clear hb
  obtain ⟨r, w5, hrun, hb5, hg⟩ := HA.out w4
  have HGr := Lib.hid (fun W => HG.out r hg W)
  have B5 := Lib.hid (B4.out.trans (hb5.mono B4.out.size))
  clear hb5 hg HA HG
  go_wp2_with fail
  refine (H5.out _).mono ?_
  rintro e w' ⟨rfl, rfl⟩
  go_wp2_with fail
  refine (HGr.out _).mono ?_
  rintro e w' ⟨rfl, rfl⟩
  go_wp2_with fail
  refine (H4.out _).mono ?_
  rintro e w6 ⟨rfl, hb⟩
  have B6 := Lib.hid (B5.out.trans (hb.mono B5.out.size))
  clear hb
  go_wp2_with fail
  refine (H5.out _).mono ?_
  rintro e w' ⟨rfl, rfl⟩
  go_wp2_with fail
  refine (H6.out _).mono ?_
  rintro e w7 ⟨rfl, hb⟩
  have B7 := Lib.hid (B6.out.trans (hb.mono B6.out.size))
  clear hb
  go_wp2_with fail
  refine (H5.out _).mono ?_
  rintro e w' ⟨rfl, rfl⟩
  go_wp2
  go_ret
  exact ⟨by simp, B7.out⟩
end Go.Proofs.YtdkdmclbhcbfeaaDoor.Nu
