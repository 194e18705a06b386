/- The walks of num's small functions: kinds, the one NaN, the order. -/
import Derived.Test.YtdkdmclbhcbfeaaDoorRows
import Derived.Test.YtdkdmclbhcbfeaaDoorFl
import Derived.WalkKit
import Derived.WalkSpells
import Derived.WalkLawsBesides
import Derived.Deep.QuietTactic
import Derived.BigQuiet
import Derived.Deep.DeepCutAuto
import Derived.Deep.RegionHeld3
import Derived.KernelRfl
import Derived.Lib.Hide
import Derived.Laws.BitsLemmas
import Derived.Laws.FloatArith
namespace Go.Proofs.YtdkdmclbhcbfeaaDoor.Nu
set_option linter.unusedVariables false
set_option linter.unusedSimpArgs false
open Go.RowKit Go.Proofs.YtdkdmclbhcbfeaaDoor.Fl
theorem frombits (n : Int) (w : World) : (callFunc 38 #[.int .u64 n]).run Tryd.prog w = .ok (.value (.float .f64 n.toNat)) w := by kernel_rfl
theorem tobits (n : Nat) (w : World) : (callFunc 35 #[.float .f64 n]).run Tryd.prog w = .ok (.value (.int .u64 n)) w := by kernel_rfl
theorem nanB_eq (b : Nat) : (FloatKind.f64.format.order b b != some Ordering.eq) = nan b := by
  show (Ieee.double.order b b != some Ordering.eq) = nan b
  cases h : nan b with
  | true => rw [order_nan b b (.inl h)]; rfl
  | false => rw [order_eq b b h h, c_eq]; rfl
theorem isnan_calls (b : Nat) (w : World) : Calls Tryd.prog 37 #[.float .f64 b] w fun e w' => e = .returned (.bool (nan b)) ∧ w = w' := by
  rw [← nanB_eq]
  go_enter Tryd.func37, Tryd.ntmps37
  go_wp2
  go_ret
  exact ⟨rfl, rfl⟩
theorem one_calls (b : Nat) (w : World) : Calls Tryd.prog 16 #[.float .f64 b] w fun e w' => e = .returned (.float .f64 (oneN b)) ∧ w = w' := by
  have h := frombits
  have H := Lib.hid (fun w => isnan_calls b w)
  unfold oneN
  cases hb : nan b with
  | true =>
    rw [hb] at H
    clear hb
    go_enter Tryd.func16, Tryd.ntmps16
    go_wp2_with (go_at_call 37; refine (H.out _).mono ?_; rintro e w' ⟨rfl, rfl⟩)
    go_ret
    exact ⟨rfl, rfl⟩
  | false =>
    rw [hb] at H
    clear hb
    go_enter Tryd.func16, Tryd.ntmps16
    go_wp2_with (go_at_call 37; refine (H.out _).mono ?_; rintro e w' ⟨rfl, rfl⟩)
    go_ret
    exact ⟨rfl, rfl⟩
theorem bits_calls (b : Nat) (w : World) : Calls Tryd.prog 15 #[.float .f64 b] w fun e w' => e = .returned (.int .u64 (b : Int)) ∧ w = w' := by
  have h := tobits
  go_enter Tryd.func15, Tryd.ntmps15
  go_wp2
  go_ret
  exact ⟨rfl, rfl⟩
theorem wraps_u64 (n : Int) (h₀ : 0 ≤ n) (h₁ : n < 2 ^ 64) : IntKind.u64.wrap n = n := by
  have : IntKind.u64.wrap n = n % 18446744073709551616 := by simp [IntKind.wrap, IntKind.bits, IntKind.signed]
  rw [this]; omega
theorem u64_mask (i : Nat) (hi : i ≤ 64) (x : Int) (h0 : 0 ≤ x) (h1 : x < 18446744073709551616) : Go.bits .and .u64 x (2 ^ i - 1) = x % 2 ^ i := bits_mask .u64 64 (by decide) wraps_u64 i hi x h0 h1
theorem u64_and11 (x : Int) (h0 : 0 ≤ x) (h1 : x < 18446744073709551616) : Go.bits .and .u64 x 2047 = x % 2048 := u64_mask 11 (by decide) x h0 h1
theorem u64_and52 (x : Int) (h0 : 0 ≤ x) (h1 : x < 18446744073709551616) : Go.bits .and .u64 x 4503599627370495 = x % 4503599627370496 := u64_mask 52 (by decide) x h0 h1
theorem u64_and63 (x : Int) (h0 : 0 ≤ x) (h1 : x < 18446744073709551616) : Go.bits .and .u64 x 9223372036854775807 = x % 9223372036854775808 := u64_mask 63 (by decide) x h0 h1
theorem sg_eq {b : Nat} (hb : b < 18446744073709551616) : sg b = ((b : Int) / 9223372036854775808 == 1) := by
  unfold sg; rw [Bool.eq_iff_iff]; simp only [beq_iff_eq]; omega
theorem kind_calls (b : Nat) (hb : b < 18446744073709551616) (w : World) : Calls Tryd.prog 13 #[.float .f64 b] w fun e w' => e = .returned (.int .i64 (kind b)) ∧ w = w' := by
  have h := tobits
  have H := Lib.hid (fun w => isnan_calls b w)
  unfold kind
  cases hn : nan b with
  | true =>
    rw [hn] at H
    clear hn
    go_enter Tryd.func13, Tryd.ntmps13
    go_wp2_with (go_at_call 37; refine (H.out _).mono ?_; rintro e w' ⟨rfl, rfl⟩)
    go_ret
    exact ⟨rfl, rfl⟩
  | false =>
    rw [hn] at H
    have hn' : rung b ≤ 9218868437227405312 := by have := of_decide_eq_false hn; omega
    clear hn
    rw [if_neg (by decide), sg_eq hb]
    have k1 := u64_and11 ((b : Int) / 4503599627370496) (by omega) (by omega)
    have k2 := u64_and52 (b : Int) (by omega) (by omega)
    have hr : rung b = (b : Int) % 9223372036854775808 := by unfold rung; omega
    have hx : (b : Int) / 4503599627370496 % 2048 = (rung b : Int) / 4503599627370496 := by omega
    have hy : (b : Int) % 4503599627370496 = (rung b : Int) % 4503599627370496 := by omega
    rw [hx] at k1
    rw [hy] at k2
    clear hx hy hr
    have kp : kindP (rung b) = if (rung b : Int) / 4503599627370496 = 2047 then 8 else if (rung b : Int) / 4503599627370496 = 0 then (if (rung b : Int) % 4503599627370496 = 0 then 5 else 6) else 7 := by
      unfold kindP; repeat' split
      all_goals omega
    rw [kp]
    clear kp hn'
    generalize (rung b : Int) / 4503599627370496 = x at k1 ⊢
    generalize (rung b : Int) % 4503599627370496 = y at k2 ⊢
    cases c0 : ((b : Int) / 9223372036854775808 == 1) <;> by_cases c1 : x = 2047
    · subst c1
      go_enter Tryd.func13, Tryd.ntmps13
      go_wp2_with (go_at_call 37; refine (H.out _).mono ?_; rintro e w' ⟨rfl, rfl⟩)
      go_ret
      exact ⟨by simp [*], rfl⟩
    · have d1 : (x == 2047) = false := by simp [c1]
      by_cases c2 : x = 0
      · subst c2
        by_cases c3 : y = 0
        · subst c3
          go_enter Tryd.func13, Tryd.ntmps13
          go_wp2_with (go_at_call 37; refine (H.out _).mono ?_; rintro e w' ⟨rfl, rfl⟩)
          go_ret
          exact ⟨by simp [*], rfl⟩
        · have d3 : (y == 0) = false := by simp [c3]
          go_enter Tryd.func13, Tryd.ntmps13
          go_wp2_with (go_at_call 37; refine (H.out _).mono ?_; rintro e w' ⟨rfl, rfl⟩)
          go_ret
          exact ⟨by simp [*], rfl⟩
      · have d2 : (x == 0) = false := by simp [c2]
        go_enter Tryd.func13, Tryd.ntmps13
        go_wp2_with (go_at_call 37; refine (H.out _).mono ?_; rintro e w' ⟨rfl, rfl⟩)
        go_ret
        exact ⟨by simp [*], rfl⟩
    · subst c1
      go_enter Tryd.func13, Tryd.ntmps13
      go_wp2_with (go_at_call 37; refine (H.out _).mono ?_; rintro e w' ⟨rfl, rfl⟩)
      go_ret
      exact ⟨by simp [*], rfl⟩
    · have d1 : (x == 2047) = false := by simp [c1]
      by_cases c2 : x = 0
      · subst c2
        by_cases c3 : y = 0
        · subst c3
          go_enter Tryd.func13, Tryd.ntmps13
          go_wp2_with (go_at_call 37; refine (H.out _).mono ?_; rintro e w' ⟨rfl, rfl⟩)
          go_ret
          exact ⟨by simp [*], rfl⟩
        · have d3 : (y == 0) = false := by simp [c3]
          go_enter Tryd.func13, Tryd.ntmps13
          go_wp2_with (go_at_call 37; refine (H.out _).mono ?_; rintro e w' ⟨rfl, rfl⟩)
          go_ret
          exact ⟨by simp [*], rfl⟩
      · have d2 : (x == 0) = false := by simp [c2]
        go_enter Tryd.func13, Tryd.ntmps13
        go_wp2_with (go_at_call 37; refine (H.out _).mono ?_; rintro e w' ⟨rfl, rfl⟩)
        go_ret
        exact ⟨by simp [*], rfl⟩
end Go.Proofs.YtdkdmclbhcbfeaaDoor.Nu
