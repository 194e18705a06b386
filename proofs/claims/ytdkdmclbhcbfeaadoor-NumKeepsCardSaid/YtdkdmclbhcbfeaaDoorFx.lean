/- The chapter's examples hold. -/
import Derived.Test.YtdkdmclbhcbfeaaDoorVl
namespace Go.Proofs.YtdkdmclbhcbfeaaDoor.Nu
open Go.RowKit Go.Proofs.YtdkdmclbhcbfeaaDoor.Fl Go.Proofs.YtdkdmclbhcbfeaaDoorW.PrintWords Go.Proofs.YtdkdmclbhcbfeaaDoorW.PrintLast Go.Proofs.YtdkdmclbhcbfeaaDoorW.PrintMore
set_option linter.unusedVariables false
set_option linter.unusedSimpArgs false
set_option maxHeartbeats 6400000 in
set_option maxRecDepth 100000 in
theorem fixed_calls (w : World) (hT : Tabs w) : Calls Tryd.prog 12 #[] w fun e w' => e = .returned (.bool true) ∧ Below w.heap.size w w' := by
  have HT := Lib.hid hT
  have C1 := Lib.hid (fun w => minus_calls w)
  have C2 := Lib.hid (fun w => int_calls 4612811918334230528 (by decide) w)
  have C3 := Lib.hid (fun w => int_calls 4615063718147915776 (by decide) w)
  have C4 := Lib.hid (fun w => int_calls 4890946611321988160 (by decide) w)
  have C5 := Lib.hid (parse_calls ⟨#[51, 102, 102, 48, 48, 48, 48, 48, 48, 48, 48, 48, 48, 48, 48, 48]⟩ (by decide) w hT)
  have C6 := Lib.hid (fun w => kind_calls 9223372036854775808 (by decide) w)
  have C7 := Lib.hid (fun w => compare_calls 9223372036854775808 0 (by decide) (by decide) w)
  have C8 := Lib.hid (fun w => kind_calls 0 (by decide) w)
  have C9 := Lib.hid (fun w => times_calls 4611686018427387904 4613937818241073152 w)
  have C10 := Lib.hid (fun w => one_calls 4617315517961601024 w)
  rw [v_i1] at C2
  rw [v_i2] at C3
  rw [v_i3] at C4
  rw [v_q1] at C5
  rw [v_k1] at C6
  rw [v_c1] at C7
  rw [v_k2] at C8
  rw [v_t1] at C9
  rw [v_one] at C10
  clear hT
  go_enter Tryd.func12, Tryd.ntmps12
  go_wp2_with fail
  refine (C1.out _).mono ?_
  rintro e w' ⟨rfl, rfl⟩
  go_wp2_with fail
  refine (C2.out _).mono ?_
  rintro e w' ⟨rfl, rfl⟩
  go_wp2_with fail
  refine (C3.out _).mono ?_
  rintro e w' ⟨rfl, rfl⟩
  go_wp2_with fail
  refine (C4.out _).mono ?_
  rintro e w' ⟨rfl, rfl⟩
  go_wp2_with fail
  refine C5.out.mono ?_
  rintro e w1 ⟨rfl, hb1⟩
  have B1 := Lib.hid hb1
  clear hb1 C1 C2 C3 C4 C5
  go_wp2_with fail
  refine (C6.out _).mono ?_
  rintro e w' ⟨rfl, rfl⟩
  go_wp2_with fail
  refine (C7.out _).mono ?_
  rintro e w' ⟨rfl, rfl⟩
  go_wp2_with fail
  refine (b_least w1).mono ?_
  rintro e w2 ⟨rfl, hb2⟩
  have B2 := Lib.hid (B1.out.trans (hb2.mono B1.out.size))
  clear hb2 B1
  go_wp2_with fail
  refine (C6.out _).mono ?_
  rintro e w' ⟨rfl, rfl⟩
  have q1 : (FloatKind.f64.format.order 4611686018427387904 4611686018427387904 == some Ordering.eq) = true := by decide +kernel
  have q2 : (FloatKind.f64.format.order 4618441417868443648 4618441417868443648 == some Ordering.eq) = true := by decide +kernel
  have q3 : (FloatKind.f64.format.order 4607182418800017408 4607182418800017408 == some Ordering.eq) = true := by decide +kernel
  have q4 : (FloatKind.f64.format.order 4617315517961601024 4617315517961601024 == some Ordering.eq) = true := by decide +kernel
  go_wp2_with fail
  refine (b_great w2).mono ?_
  rintro e w3 ⟨rfl, hb2⟩
  have B3 := Lib.hid (B2.out.trans (hb2.mono B2.out.size))
  clear hb2 B2
  go_wp2_with fail
  refine (b_sum w3).mono ?_
  rintro e w4 ⟨rfl, hb2⟩
  have B4 := Lib.hid (B3.out.trans (hb2.mono B3.out.size))
  clear hb2 B3
  go_wp2_with fail
  refine (C8.out _).mono ?_
  rintro e w' ⟨rfl, rfl⟩
  go_wp2_with fail
  refine (C9.out _).mono ?_
  rintro e w5 ⟨rfl, hb2⟩
  have B5 := Lib.hid (B4.out.trans (hb2.mono B4.out.size))
  have HP := Lib.hid (print_calls 9223372036854775808 (by decide) w5 (HT.out.below B5.out).tz)
  rw [v_p1] at HP
  clear hb2 B4
  go_wp2_with fail
  refine HP.out.mono ?_
  rintro e w6 ⟨rfl, hb2⟩
  have B6 := Lib.hid (B5.out.trans (hb2.mono B5.out.size))
  clear hb2 B5
  go_wp2_with fail
  refine (b_sort w6).mono ?_
  rintro e w7 ⟨⟨A, c, rfl⟩, hb2⟩
  have B7 := Lib.hid (B6.out.trans (hb2.mono B6.out.size))
  clear hb2 B6
  go_wp2_with fail
  refine (C10.out _).mono ?_
  rintro e w' ⟨rfl, rfl⟩
  go_wp2
  go_ret
  exact ⟨rfl, B7.out⟩
end Go.Proofs.YtdkdmclbhcbfeaaDoor.Nu
