/- The order of numbers, walked. -/
import Derived.Test.YtdkdmclbhcbfeaaDoorA
namespace Go.Proofs.YtdkdmclbhcbfeaaDoor.Nu
set_option linter.unusedVariables false
set_option linter.unusedSimpArgs false
open Go.RowKit Go.Proofs.YtdkdmclbhcbfeaaDoor.Fl
theorem compare_calls (a b : Nat) (ha : a < 18446744073709551616) (hb : b < 18446744073709551616) (w : World) : Calls Tryd.prog 18 #[.float .f64 a, .float .f64 b] w fun e w' => e = .returned (.int .i64 (cmp3 a b)) ∧ w = w' := by
  have H1 := Lib.hid (fun w => kind_calls a ha w)
  have H2 := Lib.hid (fun w => kind_calls b hb w)
  have hR := Lib.hid (show (if kind a < kind b ∨ kind a = kind b ∧ (FloatKind.f64.format.order a b == some Ordering.lt) = true then (-1 : Int) else if kind b < kind a ∨ (FloatKind.f64.format.order a b == some Ordering.gt) = true then 1 else 0) = cmp3 a b from cmp_eq a b)
  generalize cmp3 a b = R at hR ⊢
  generalize kind a = j at H1 hR ⊢
  generalize kind b = k at H2 hR ⊢
  go_enter Tryd.func18, Tryd.ntmps18
  go_wp2_with (go_at_call 13; (first | (with_reducible refine (H1.out _).mono ?_) | (with_reducible refine (H2.out _).mono ?_)); rintro e w' ⟨rfl, rfl⟩)
  all_goals go_ret
  all_goals refine ⟨?_, rfl⟩
  all_goals rw [← hR.out]
  all_goals congr 2
  all_goals (repeat' split)
  all_goals first | rfl | (exfalso; simp_all; done) | (exfalso; simp_all; omega)
theorem one_int (b : Nat) : (if 9218868437227405312 < (rung b : Int) then ((9221120237041090561 : Int)) else b) = ((oneN b : Nat) : Int) := by
  unfold oneN nan
  by_cases c : 9218868437227405312 < rung b
  · rw [if_pos (by omega), if_pos (by simpa using c)]; rfl
  · rw [if_neg (by omega), if_neg (by simpa using c)]
theorem one_lt {b : Nat} (hb : b < 18446744073709551616) : oneN b < 18446744073709551616 := by unfold oneN; split <;> omega
theorem one_rung (b : Nat) : nan b = decide (9218868437227405312 < rung (oneN b)) := by
  unfold oneN nan
  by_cases c : 9218868437227405312 < rung b
  · rw [if_pos (by simpa using c), decide_eq_true c]; decide
  · rw [if_neg (by simpa using c), decide_eq_false c]
theorem kind_one (b : Nat) (hb : b < 18446744073709551616) : kind b = if 9218868437227405312 < (rung (oneN b) : Int) then 9 else if 9223372036854775808 ≤ ((oneN b : Nat) : Int) then 9 - kindP (rung (oneN b)) else kindP (rung (oneN b)) := by
  have h1 := one_rung b
  unfold kind
  by_cases c : 9218868437227405312 < rung (oneN b)
  · rw [decide_eq_true c] at h1; rw [if_pos h1, if_pos (by omega)]
  · rw [decide_eq_false c] at h1; have e : oneN b = b := by unfold oneN; rw [h1]; rfl
    rw [e] at c ⊢
    rw [if_neg (by rw [h1]; decide), if_neg (show ¬ 9218868437227405312 < (rung b : Int) by omega), sg_eq hb]
    by_cases c2 : 9223372036854775808 ≤ (b : Int)
    · rw [if_pos c2, if_pos (by rw [beq_iff_eq]; omega)]
    · rw [if_neg c2, if_neg (by rw [beq_iff_eq]; omega)]
theorem kindP_int (r : Nat) : kindP r = if (r : Int) = 9218868437227405312 then 8 else if (4503599627370496 : Int) ≤ r then 7 else if (0 : Int) < r then 6 else 5 := by
  unfold kindP; repeat' split
  all_goals omega
theorem rank_one (b : Nat) (hb : b < 18446744073709551616) : ((rank b : Nat) : Int) = if kind b = 9 then 18446744073709551615 else if 9223372036854775808 ≤ ((oneN b : Nat) : Int) then 9223372036854775808 - (((oneN b : Nat) : Int) - 9223372036854775808) - 1 else 9223372036854775808 + ((oneN b : Nat) : Int) := by
  have hk : kind b = 9 ↔ nan b = true := by
    unfold kind
    have p1 : ∀ r, 5 ≤ kindP r ∧ kindP r ≤ 8 := by intro r; unfold kindP; split <;> (try split) <;> (try split) <;> omega
    have := p1 (rung b)
    cases h : nan b with
    | true => simp
    | false => simp only [Bool.false_eq_true, if_false, iff_false]; split <;> omega
  unfold rank
  by_cases c : nan b = true
  · rw [if_pos c, if_pos (hk.2 c)]; rfl
  · rw [if_neg c, if_neg (fun e => c (hk.1 e))]
    have e : oneN b = b := by unfold oneN; rw [if_neg c]
    have hr : rung b ≤ 9218868437227405312 := by unfold nan at c; simpa using c
    rw [e, sg_eq hb]
    by_cases c2 : 9223372036854775808 ≤ (b : Int)
    · rw [if_pos (by rw [beq_iff_eq]; omega), if_pos c2]; unfold rung at hr ⊢; omega
    · rw [if_neg (by rw [beq_iff_eq]; omega), if_neg c2]; unfold rung at hr ⊢; omega
theorem cmp3_int (a b : Nat) : (if ((rank a : Nat) : Int) < ((rank b : Nat) : Int) then (-1 : Int) else if ((rank b : Nat) : Int) < ((rank a : Nat) : Int) then 1 else 0) = cmp3 a b := by
  unfold cmp3; repeat' split
  all_goals omega
/-! the document's -/
theorem rone_calls (b : Nat) (hb : b < 18446744073709551616) (w : World) : Calls Tryd.prog 17 #[.float .f64 b] w fun e w' => e = .returned (.int .u64 (oneN b : Nat)) ∧ w = w' := by
  have h := tobits
  have k1 := u64_and63 (b : Int) (by omega) (by omega)
  have k2 : (b : Int) % 9223372036854775808 = (rung b : Int) := by unfold rung; omega
  rw [k2] at k1
  clear k2
  have hR := Lib.hid (one_int b)
  generalize ((oneN b : Nat) : Int) = R at hR ⊢
  go_enter Tryd.func17, Tryd.ntmps17
  go_wp2
  all_goals go_ret
  all_goals refine ⟨?_, rfl⟩
  all_goals rw [← hR.out]
  all_goals first | (rw [if_pos (by omega)]; rfl) | (rw [if_neg (by omega)]; rfl)
theorem rkind_calls (b : Nat) (hb : b < 18446744073709551616) (w : World) : Calls Tryd.prog 14 #[.float .f64 b] w fun e w' => e = .returned (.int .i64 (kind b)) ∧ w = w' := by
  have H := Lib.hid (fun w => rone_calls b hb w)
  have ho := one_lt hb
  have hk := kind_one b hb
  have hP := kindP_int (rung (oneN b))
  generalize kind b = K at hk ⊢
  generalize kindP (rung (oneN b)) = P at hk hP
  subst hP
  have k1 := u64_and63 ((oneN b : Nat) : Int) (by omega) (by omega)
  have k2 : ((oneN b : Nat) : Int) % 9223372036854775808 = (rung (oneN b) : Int) := by unfold rung; omega
  rw [k2] at k1
  clear k2
  generalize (rung (oneN b) : Int) = r at k1 hk
  have hR := Lib.hid hk
  clear hk
  have ho' : (0 : Int) ≤ ((oneN b : Nat) : Int) := by omega
  have ho2 : ((oneN b : Nat) : Int) < 18446744073709551616 := by omega
  generalize ((oneN b : Nat) : Int) = o at k1 H hR ho' ho2
  clear ho
  go_enter Tryd.func14, Tryd.ntmps14
  go_wp2_with (go_at_call 17; refine (H.out _).mono ?_; rintro e w' ⟨rfl, rfl⟩)
  all_goals go_ret
  all_goals refine ⟨?_, rfl⟩
  all_goals rw [hR.out]
  all_goals congr 2
  all_goals (repeat' split)
  all_goals first | rfl | omega | (exfalso; simp_all; done) | (exfalso; simp_all; omega)
theorem rrank_calls (b : Nat) (hb : b < 18446744073709551616) (w : World) : Calls Tryd.prog 39 #[.float .f64 b] w fun e w' => e = .returned (.int .u64 (rank b : Nat)) ∧ w = w' := by
  have H := Lib.hid (fun w => rone_calls b hb w)
  have HK := Lib.hid (fun w => rkind_calls b hb w)
  have ho := one_lt hb
  have hR := rank_one b hb
  generalize ((rank b : Nat) : Int) = R at hR ⊢
  generalize kind b = k at hR HK
  have ho' : (0 : Int) ≤ ((oneN b : Nat) : Int) := by omega
  have ho2 : ((oneN b : Nat) : Int) < 18446744073709551616 := by omega
  generalize ((oneN b : Nat) : Int) = o at H hR ho' ho2
  clear ho
  have hR := Lib.hid hR
  go_enter Tryd.func39, Tryd.ntmps39
  go_wp2_with (first | (go_at_call 17; refine (H.out _).mono ?_; rintro e w' ⟨rfl, rfl⟩) | (go_at_call 14; refine (HK.out _).mono ?_; rintro e w' ⟨rfl, rfl⟩))
  all_goals go_ret
  all_goals refine ⟨?_, rfl⟩
  all_goals rw [hR.out]
  all_goals congr 2
  all_goals (repeat' split)
  all_goals first | rfl | omega | (exfalso; simp_all; done) | (exfalso; simp_all; omega)
theorem rcompare_calls (a b : Nat) (ha : a < 18446744073709551616) (hb : b < 18446744073709551616) (w : World) : Calls Tryd.prog 19 #[.float .f64 a, .float .f64 b] w fun e w' => e = .returned (.int .i64 (cmp3 a b)) ∧ w = w' := by
  have H1 := Lib.hid (fun w => rrank_calls a ha w)
  have H2 := Lib.hid (fun w => rrank_calls b hb w)
  have hR := Lib.hid (cmp3_int a b)
  generalize cmp3 a b = R at hR ⊢
  generalize ((rank a : Nat) : Int) = j at H1 hR ⊢
  generalize ((rank b : Nat) : Int) = k at H2 hR ⊢
  go_enter Tryd.func19, Tryd.ntmps19
  go_wp2_with (go_at_call 39; (first | (with_reducible refine (H1.out _).mono ?_) | (with_reducible refine (H2.out _).mono ?_)); rintro e w' ⟨rfl, rfl⟩)
  all_goals go_ret
  all_goals refine ⟨?_, rfl⟩
  all_goals rw [← hR.out]
  all_goals congr 2
  all_goals (repeat' split)
  all_goals first | rfl | omega | (exfalso; simp_all; done) | (exfalso; simp_all; omega)
end Go.Proofs.YtdkdmclbhcbfeaaDoor.Nu
