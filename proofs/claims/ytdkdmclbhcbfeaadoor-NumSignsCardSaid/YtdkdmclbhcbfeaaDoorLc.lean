/- The law on opposites, walked. -/
import Derived.Test.YtdkdmclbhcbfeaaDoorLa
namespace Go.Proofs.YtdkdmclbhcbfeaaDoor.Nu
open Go.RowKit Go.Proofs.YtdkdmclbhcbfeaaDoor.Fl Go.Proofs.YtdkdmclbhcbfeaaDoorW.PrintWords Go.Proofs.YtdkdmclbhcbfeaaDoorW.PrintLast Go.Proofs.YtdkdmclbhcbfeaaDoorW.PrintMore
set_option linter.unusedVariables false
set_option linter.unusedSimpArgs false
def negN (b : Nat) : Nat := Go.Op.negFloat .f64 b
theorem neg_eq (b : Nat) : negN b = b ^^^ 2 ^ 63 := rfl
theorem neg_lo {b : Nat} (h : b < 2 ^ 63) : negN b = 2 ^ 63 + b := by
  rw [neg_eq]
  apply Nat.eq_of_testBit_eq
  intro i
  rw [Nat.testBit_xor, Nat.testBit_two_pow]
  rcases Nat.lt_trichotomy i 63 with hi | hi | hi
  · rw [Nat.testBit_two_pow_add_gt hi, decide_eq_false (by omega), Bool.xor_false]
  · subst hi
    rw [Nat.testBit_two_pow_add_eq, decide_eq_true rfl, Bool.xor_true]
  · have hp : 2 ^ 64 ≤ 2 ^ i := Nat.pow_le_pow_right (by decide) hi
    have h64 : 2 ^ 63 + b < 2 ^ 64 := by rw [show (2 : Nat) ^ 64 = 2 ^ 63 + 2 ^ 63 by decide]; omega
    rw [Nat.testBit_lt_two_pow (Nat.lt_of_lt_of_le h64 hp), Nat.testBit_lt_two_pow (show b < 2 ^ i from Nat.lt_of_lt_of_le (Nat.lt_of_le_of_lt (Nat.le_add_left _ _) h64) hp), decide_eq_false (by omega)]
    rfl
theorem neg_neg (b : Nat) : negN (negN b) = b := by
  rw [neg_eq, neg_eq, Nat.xor_assoc, Nat.xor_self, Nat.xor_zero]
theorem neg_hi {b : Nat} (h : 9223372036854775808 ≤ b) (h2 : b < 18446744073709551616) : negN b = b - 9223372036854775808 := by
  obtain ⟨c, rfl⟩ : ∃ c, b = 9223372036854775808 + c := ⟨b - 9223372036854775808, by omega⟩
  have hc : c < 2 ^ 63 := by rw [show (2 : Nat) ^ 63 = 9223372036854775808 by decide]; omega
  have := neg_neg c
  rw [neg_lo hc, show (2 : Nat) ^ 63 = 9223372036854775808 by decide] at this
  rw [this]
  omega
theorem neg_val {b : Nat} (h : b < 18446744073709551616) : negN b < 18446744073709551616 ∧ rung (negN b) = rung b ∧ sg (negN b) = !sg b := by
  rcases Nat.lt_or_ge b 9223372036854775808 with hb | hb
  · rw [neg_lo (by rw [show (2 : Nat) ^ 63 = 9223372036854775808 by decide]; exact hb), show (2 : Nat) ^ 63 = 9223372036854775808 by decide]
    refine ⟨by omega, by unfold rung; omega, ?_⟩
    unfold sg
    rw [show (9223372036854775808 + b) / 9223372036854775808 % 2 = 1 by omega, show b / 9223372036854775808 % 2 = 0 by omega]
    rfl
  · rw [neg_hi hb h]
    refine ⟨by omega, by unfold rung; omega, ?_⟩
    unfold sg
    rw [show (b - 9223372036854775808) / 9223372036854775808 % 2 = 0 by omega, show b / 9223372036854775808 % 2 = 1 by omega]
    rfl
theorem kindP_range (r : Nat) : 5 ≤ kindP r ∧ kindP r ≤ 8 := by
  unfold kindP
  repeat' split
  all_goals omega
theorem kind_neg {b : Nat} (h : b < 18446744073709551616) : kind (negN b) = if nan b = true then 9 else 9 - kind b := by
  obtain ⟨_, h1, h2⟩ := neg_val h
  unfold kind nan
  rw [h1, h2]
  cases hs : sg b <;> simp <;> (repeat' split) <;> omega
theorem kind_nine (b : Nat) : kind b = 9 ↔ nan b = true := by
  have := kindP_range (rung b)
  unfold kind
  repeat' split
  all_goals simp_all
  all_goals omega
theorem kind_range (b : Nat) : 1 ≤ kind b ∧ kind b ≤ 9 := by
  have := kindP_range (rung b)
  unfold kind
  repeat' split
  all_goals omega
theorem rank_neg {b : Nat} (h : b < 18446744073709551616) (hn : nan b = false) : rank (negN b) + rank b = 18446744073709551615 := by
  obtain ⟨_, h1, h2⟩ := neg_val h
  have hr : rung b < 9223372036854775808 := by unfold rung; omega
  unfold rank
  have hn2 : nan (negN b) = false := by unfold nan at hn ⊢; rw [h1]; exact hn
  rw [hn, hn2, h1, h2]
  cases hs : sg b <;> simp <;> omega
theorem cmp3_opp {a b : Nat} (ha : a < 18446744073709551616) (hb : b < 18446744073709551616) (na : nan a = false) (nb : nan b = false) : cmp3 (negN a) (negN b) = cmp3 b a := by
  have h1 := rank_neg ha na
  have h2 := rank_neg hb nb
  unfold cmp3
  repeat' split
  all_goals omega
set_option maxHeartbeats 3200000 in
set_option maxRecDepth 100000 in
theorem signs_walk (a b : Nat) (w : World) (wa : (Lit.float .f64 a).wf = true) (wb : (Lit.float .f64 b).wf = true) (hT : Tabs w) : Calls Tryd.prog 10 #[.float .f64 a, .float .f64 b] w fun e w' => e = .returned (.bool true) ∧ Below w.heap.size w w' := by
  have ha := wf_lt wa
  have hb := wf_lt wb
  have H0 := Lib.hid (fixed_calls w hT)
  have H1 := Lib.hid (fun w => kind_calls a ha w)
  have H2 := Lib.hid (fun w => kind_calls b hb w)
  have H3 := Lib.hid (fun w => kind_calls (negN a) (neg_val ha).1 w)
  have H4 := Lib.hid (fun w => kind_calls (negN b) (neg_val hb).1 w)
  have H5 := Lib.hid (fun w => compare_calls (negN a) (negN b) (neg_val ha).1 (neg_val hb).1 w)
  have H6 := Lib.hid (fun w => compare_calls b a hb ha w)
  have H7 := Lib.hid (fun w => bits_calls a w)
  have F1 := kind_neg ha
  have F2 := kind_neg hb
  have F3 := kind_nine a
  have F4 := kind_nine b
  have F5 := fun na nb => cmp3_opp ha hb na nb
  have r1 : ∀ w, (Go.Op.unary .neg (.float .f64 a)).run Tryd.prog w = .ok (.float .f64 (negN a)) w := fun _ => rfl
  have r2 : ∀ w, (Go.Op.unary .neg (.float .f64 b)).run Tryd.prog w = .ok (.float .f64 (negN b)) w := fun _ => rfl
  have r3 : ∀ w, (Go.Op.unary .neg (.float .f64 (negN a))).run Tryd.prog w = .ok (.float .f64 a) w := fun _ => by show Result.ok (Value.float .f64 (negN (negN a))) _ = _; rw [neg_neg]
  clear wa wb hT
  go_enter Tryd.func10, Tryd.ntmps10
  go_wp2_with fail
  refine H0.out.mono ?_
  rintro e w1 ⟨rfl, hb⟩
  have HB := Lib.hid hb
  clear hb H0
  cases na : nan a with
  | true =>
    rw [na, if_pos rfl] at F1
    rw [F3.2 na] at H1
    rw [F1] at H3
    clear na F1 F2 F3 F4 F5
    go_wp2_with fail
    refine (H1.out _).mono ?_
    rintro e w' ⟨rfl, rfl⟩
    go_wp2_with fail
    refine (H3.out _).mono ?_
    rintro e w' ⟨rfl, rfl⟩
    go_wp2
    go_ret
    exact ⟨rfl, HB.out⟩
  | false =>
    have ka : ¬ kind a = 9 := by intro h; rw [F3.1 h] at na; cases na
    have kr := kind_range a
    rw [na] at F1
    simp only [Bool.false_eq_true, if_false] at F1
    rw [F1] at H3
    cases nb : nan b with
    | true =>
      rw [nb, if_pos rfl] at F2
      rw [F4.2 nb] at H2
      rw [F2] at H4
      generalize kind a = k at H1 H3 ka kr
      have k1 : (k == 9) = false := by rw [beq_eq_false_iff_ne]; exact ka
      have k2 : (9 - k == 9) = false := by rw [beq_eq_false_iff_ne]; omega
      clear na nb F1 F2 F3 F4 F5 ka
      go_wp2_with fail
      refine (H1.out _).mono ?_
      rintro e w' ⟨rfl, rfl⟩
      go_wp2_with fail
      refine (H2.out _).mono ?_
      rintro e w' ⟨rfl, rfl⟩
      go_wp2_with fail
      refine (H3.out _).mono ?_
      rintro e w' ⟨rfl, rfl⟩
      go_wp2_with fail
      refine (H4.out _).mono ?_
      rintro e w' ⟨rfl, rfl⟩
      go_wp2
      go_ret
      exact ⟨rfl, HB.out⟩
    | false =>
      have kb : ¬ kind b = 9 := by intro h; rw [F4.1 h] at nb; cases nb
      have F6 := F5 na nb
      rw [F6] at H5
      generalize kind a = k at H1 H3 ka kr
      generalize kind b = l at H2 kb
      generalize cmp3 b a = c at H5 H6
      have k1 : (k == 9) = false := by rw [beq_eq_false_iff_ne]; exact ka
      have l1 : (l == 9) = false := by rw [beq_eq_false_iff_ne]; exact kb
      clear na nb F1 F2 F3 F4 F5 F6 ka kb
      go_wp2_with fail
      refine (H1.out _).mono ?_
      rintro e w' ⟨rfl, rfl⟩
      go_wp2_with fail
      refine (H2.out _).mono ?_
      rintro e w' ⟨rfl, rfl⟩
      go_wp2_with fail
      refine (H3.out _).mono ?_
      rintro e w' ⟨rfl, rfl⟩
      go_wp2_with fail
      refine (H1.out _).mono ?_
      rintro e w' ⟨rfl, rfl⟩
      go_wp2_with fail
      refine (H5.out _).mono ?_
      rintro e w' ⟨rfl, rfl⟩
      go_wp2_with fail
      refine (H6.out _).mono ?_
      rintro e w' ⟨rfl, rfl⟩
      go_wp2_with fail
      refine (H7.out _).mono ?_
      rintro e w' ⟨rfl, rfl⟩
      go_wp2_with fail
      refine (H7.out _).mono ?_
      rintro e w' ⟨rfl, rfl⟩
      go_wp2
      go_ret
      exact ⟨by simp, HB.out⟩
end Go.Proofs.YtdkdmclbhcbfeaaDoor.Nu
