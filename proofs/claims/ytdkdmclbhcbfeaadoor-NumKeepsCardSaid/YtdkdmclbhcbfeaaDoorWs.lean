/- The nearest whole number by a number's exponent and fraction. No program in sight. -/
import Derived.Test.YtdkdmclbhcbfeaaDoorWr
namespace Go.Proofs.YtdkdmclbhcbfeaaDoor.Fl
set_option linter.unusedVariables false
set_option linter.unusedSimpArgs false
open Ieee
theorem roundE_shift {M P c : Nat} (h : c + P = 1074) : roundE (M * 2 ^ P) = M / 2 ^ c + (decide (2 ^ c < 2 * (M % 2 ^ c)) || (decide (2 ^ c = 2 * (M % 2 ^ c)) && decide (M / 2 ^ c % 2 = 1))).toNat := by
  have e3 : U = 2 ^ c * 2 ^ P := (U_add h).symm
  have hp : 0 < 2 ^ P := Nat.two_pow_pos _
  have a1 : (2 ^ c * 2 ^ P < 2 * (M % 2 ^ c * 2 ^ P)) ↔ 2 ^ c < 2 * (M % 2 ^ c) := by rw [← Nat.mul_assoc]; exact Nat.mul_lt_mul_right hp
  have a2 : (2 ^ c * 2 ^ P = 2 * (M % 2 ^ c * 2 ^ P)) ↔ 2 ^ c = 2 * (M % 2 ^ c) := by rw [← Nat.mul_assoc]; exact Nat.mul_right_cancel_iff hp
  unfold roundE
  rw [e3, Nat.mul_div_mul_right _ _ hp, Nat.mul_mod_mul_right, decide_eq_decide.2 a1, decide_eq_decide.2 a2]
theorem roundE_whole (a : Nat) : roundE (a * U) = a := by
  have hu := U_pos
  unfold roundE
  rw [Nat.mul_div_cancel _ hu, Nat.mul_mod_left]
  generalize U = X at hu ⊢
  rw [decide_eq_false (by omega), decide_eq_false (by omega)]
  simp
theorem roundE_zero {a : Nat} (h : 2 * a < U) : roundE a = 0 := by
  unfold roundE
  generalize U = X at h ⊢
  have h1 : a < X := by omega
  rw [Nat.div_eq_of_lt h1, Nat.mod_eq_of_lt h1, decide_eq_false (by omega), decide_eq_false (by omega)]
  rfl
theorem roundE_ge (a : Nat) : a / U ≤ roundE a := Nat.le_add_right _ _
/-- far below a half -/
theorem whole_small {x : Nat} (h : rung x / 4503599627370496 < 1022) : wholeN x = 0 := by
  have hV : V (rung x) < V 4602678819172646912 := V_mono (by omega)
  obtain ⟨k, hk⟩ : ∃ k, k = 1021 := ⟨_, rfl⟩
  have e : V 4602678819172646912 = 4503599627370496 * 2 ^ k := by
    unfold V
    rw [if_neg (by decide), show (4602678819172646912 / 4503599627370496 - 1 : Nat) = k by rw [hk]]
  have eU : U = 9007199254740992 * 2 ^ k := by rw [show (9007199254740992 : Nat) = 2 ^ 53 from rfl]; exact (U_add (by omega)).symm
  refine roundE_zero ?_
  rw [eU]
  rw [e] at hV
  generalize 2 ^ k = X at *
  omega
/-- far above what an int64 can hold -/
theorem whole_great {x : Nat} (h : 1087 ≤ rung x / 4503599627370496) : 18446744073709551616 ≤ wholeN x := by
  have hV : V 4895412794951729152 ≤ V (rung x) := V_le (by omega)
  obtain ⟨k, hk⟩ : ∃ k, k = 1086 := ⟨_, rfl⟩
  have e : V 4895412794951729152 = 4503599627370496 * 2 ^ k := by
    unfold V
    rw [if_neg (by decide), show (4895412794951729152 / 4503599627370496 - 1 : Nat) = k by rw [hk]]
  have e2 : V 4895412794951729152 = 18446744073709551616 * U := by rw [e, U_up (show k = 12 + 1074 by omega), ← Nat.mul_assoc]
  refine Nat.le_trans ?_ (roundE_ge _)
  rw [Nat.le_div_iff_mul_le U_pos, ← e2]
  exact hV
theorem V_exp {x q : Nat} (hq : rung x / 4503599627370496 = q) (h1 : 1 ≤ q) : V (rung x) = (4503599627370496 + rung x % 4503599627370496) * 2 ^ (q - 1) := by
  unfold V; rw [if_neg (by omega), hq]
theorem whole_up {x e : Nat} (hq : rung x / 4503599627370496 = 1075 + e) : wholeN x = (4503599627370496 + rung x % 4503599627370496) * 2 ^ e := by
  unfold wholeN
  rw [V_exp hq (by omega), U_up (show 1075 + e - 1 = e + 1074 by omega), ← Nat.mul_assoc, roundE_whole]
theorem whole_down {x c : Nat} (hq : rung x / 4503599627370496 + c = 1075) (h1 : 1 ≤ c) (h2 : c ≤ 53) :
    wholeN x = (4503599627370496 + rung x % 4503599627370496) / 2 ^ c + (decide (2 ^ c < 2 * ((4503599627370496 + rung x % 4503599627370496) % 2 ^ c)) || (decide (2 ^ c = 2 * ((4503599627370496 + rung x % 4503599627370496) % 2 ^ c)) && decide ((4503599627370496 + rung x % 4503599627370496) / 2 ^ c % 2 = 1))).toNat := by
  unfold wholeN
  rw [V_exp rfl (by omega)]
  exact roundE_shift (by omega)
end Go.Proofs.YtdkdmclbhcbfeaaDoor.Fl
