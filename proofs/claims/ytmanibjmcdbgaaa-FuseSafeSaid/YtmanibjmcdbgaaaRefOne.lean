/- The document's own One. -/
import Derived.Test.YtmanibjmcdbgaaaFloat
namespace Go.Proofs.Ytmanibjmcdbgaaa
set_option linter.unusedVariables false
set_option linter.unusedSimpArgs false
open Go.RowKit

theorem order_self (b : Nat) : nanB b = decide (9218868437227405312 < b % 9223372036854775808) := by
  have e1 : FloatKind.f64.format.signWeight = 9223372036854775808 := by decide +kernel
  have e2 : FloatKind.f64.format.infRung = 9218868437227405312 := by decide +kernel
  have e3 : FloatKind.f64.format.binade = 4503599627370496 := by decide +kernel
  unfold nanB Ieee.Format.order Ieee.Format.read
  rw [e1, e2, e3]
  dsimp only
  by_cases h1 : b % 9223372036854775808 < 4503599627370496
  · rw [if_pos h1]
    simp [Ieee.Datum.order]
    omega
  · rw [if_neg h1]
    by_cases h2 : b % 9223372036854775808 < 9218868437227405312
    · rw [if_pos h2]
      simp [Ieee.Datum.order]
      omega
    · rw [if_neg h2]
      by_cases h3 : b % 9223372036854775808 = 9218868437227405312
      · rw [if_pos h3]
        simp [Ieee.Datum.order]
        omega
      · rw [if_neg h3]
        have h4 : 9218868437227405312 < b % 9223372036854775808 := by omega
        simp [Ieee.Datum.order, h4]
theorem lowBits (b : Nat) (hb : b < 18446744073709551616) : bits .and .u64 (b : Int) 9223372036854775807 = ((b % 9223372036854775808 : Nat) : Int) := by
  rw [show (9223372036854775807 : Int) = ((9223372036854775807 : Nat) : Int) from rfl, bits_and_u64_nat _ _ hb (by decide)]
  have h := Nat.and_two_pow_sub_one_eq_mod b 63
  exact congrArg Int.ofNat h
theorem refOne_calls (b : Nat) (wb : (Lit.float .f64 b).wf = true) (w : World) : Calls Try.prog 21 #[.float .f64 b] w fun e w' => e = .returned (.int .u64 (oneB b)) ∧ w = w' := by
  have h := tobits
  have wb' : b < 18446744073709551616 := by simpa [Lit.wf] using wb
  have hl := lowBits b wb'
  unfold oneB
  rw [order_self]
  clear wb wb'
  by_cases hb : 9218868437227405312 < b % 9223372036854775808
  · rw [if_pos (by simpa using hb)]
    have hd : decide ((9218868437227405312 : Int) < ((b % 9223372036854775808 : Nat) : Int)) = true := by simp; omega
    generalize ((b % 9223372036854775808 : Nat) : Int) = m at hl hd
    clear hb
    go_enter Try.func21, Try.ntmps21
    go_wp2
    go_ret
    exact ⟨rfl, rfl⟩
  · rw [if_neg (by simpa using hb)]
    have hd : decide ((9218868437227405312 : Int) < ((b % 9223372036854775808 : Nat) : Int)) = false := by simp; omega
    generalize ((b % 9223372036854775808 : Nat) : Int) = m at hl hd
    clear hb
    go_enter Try.func21, Try.ntmps21
    go_wp2
    go_ret
    exact ⟨rfl, rfl⟩
end Go.Proofs.Ytmanibjmcdbgaaa
