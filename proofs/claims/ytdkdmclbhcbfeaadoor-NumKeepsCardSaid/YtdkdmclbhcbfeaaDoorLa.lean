/- The laws on kinds and order, walked. -/
import Derived.Test.YtdkdmclbhcbfeaaDoorFx
import Derived.Test.YtdkdmclbhcbfeaaDoorE
namespace Go.Proofs.YtdkdmclbhcbfeaaDoor.Nu
open Go.RowKit Go.Proofs.YtdkdmclbhcbfeaaDoor.Fl Go.Proofs.YtdkdmclbhcbfeaaDoorW.PrintWords Go.Proofs.YtdkdmclbhcbfeaaDoorW.PrintLast Go.Proofs.YtdkdmclbhcbfeaaDoorW.PrintMore
set_option linter.unusedVariables false
set_option linter.unusedSimpArgs false
theorem wf_lt {a : Nat} (h : (Lit.float .f64 a).wf = true) : a < 18446744073709551616 := of_decide_eq_true h
theorem cmp3_cases (a b : Nat) : cmp3 a b = -1 ∨ cmp3 a b = 0 ∨ cmp3 a b = 1 := by
  unfold cmp3
  repeat' split
  all_goals simp
set_option maxHeartbeats 3200000 in
set_option maxRecDepth 100000 in
theorem kinds_walk (a b : Nat) (w : World) (wa : (Lit.float .f64 a).wf = true) (wb : (Lit.float .f64 b).wf = true) (hT : Tabs w) : Calls Tryd.prog 3 #[.float .f64 a, .float .f64 b] w fun e w' => e = .returned (.bool true) ∧ Below w.heap.size w w' := by
  have ha := wf_lt wa
  have hb := wf_lt wb
  have H0 := Lib.hid (fixed_calls w hT)
  have H1 := Lib.hid (fun w => kind_calls a ha w)
  have H2 := Lib.hid (fun w => rkind_calls a ha w)
  have H3 := Lib.hid (fun w => one_calls a w)
  have H4 := Lib.hid (fun w => bits_calls (oneN a) w)
  have H5 := Lib.hid (fun w => rone_calls a ha w)
  have H6 := Lib.hid (fun w => compare_calls a b ha hb w)
  have H7 := Lib.hid (fun w => rcompare_calls a b ha hb w)
  have H8 := Lib.hid (fun w => compare_calls b a hb ha w)
  have H9 := Lib.hid (fun w => compare_calls a a ha ha w)
  have HC := cmp3_cases a b
  rw [cmp3_neg] at H8
  rw [cmp3_self] at H9
  generalize cmp3 a b = c at H6 H7 H8 HC
  generalize kind a = k at H1 H2
  generalize oneN a = o at H3 H4 H5
  clear ha hb wa wb hT
  have HC2 := Lib.hid HC
  go_enter Tryd.func3, Tryd.ntmps3
  clear HC
  go_wp2_with fail
  refine H0.out.mono ?_
  rintro e w1 ⟨rfl, hb⟩
  have HB := Lib.hid hb
  clear hb H0
  have HC := HC2.out
  rcases HC with rfl | rfl | rfl
  all_goals (
    clear HC2
    (try simp only [Int.neg_neg, Int.neg_zero] at H8)
    go_wp2_with fail
    refine (H1.out _).mono ?_
    rintro e w' ⟨rfl, rfl⟩
    go_wp2_with fail
    refine (H2.out _).mono ?_
    rintro e w' ⟨rfl, rfl⟩
    go_wp2_with fail
    refine (H3.out _).mono ?_
    rintro e w' ⟨rfl, rfl⟩
    go_wp2_with fail
    refine (H4.out _).mono ?_
    rintro e w' ⟨rfl, rfl⟩
    go_wp2_with fail
    refine (H5.out _).mono ?_
    rintro e w' ⟨rfl, rfl⟩
    go_wp2_with fail
    refine (H6.out _).mono ?_
    rintro e w' ⟨rfl, rfl⟩
    go_wp2_with fail
    refine (H7.out _).mono ?_
    rintro e w' ⟨rfl, rfl⟩
    go_wp2_with fail
    refine (H8.out _).mono ?_
    rintro e w' ⟨rfl, rfl⟩
    go_wp2_with fail
    refine (H6.out _).mono ?_
    rintro e w' ⟨rfl, rfl⟩
    go_wp2_with fail
    refine (H9.out _).mono ?_
    rintro e w' ⟨rfl, rfl⟩
    go_wp2
    go_ret
    exact ⟨by simp, HB.out⟩)
end Go.Proofs.YtdkdmclbhcbfeaaDoor.Nu
