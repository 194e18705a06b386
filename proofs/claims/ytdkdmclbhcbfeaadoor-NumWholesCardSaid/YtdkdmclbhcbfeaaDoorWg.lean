/- A number that is exactly at hand is written as it is, at any place; whole numbers and a quarter more. -/
import Derived.Test.YtdkdmclbhcbfeaaDoorWs
import Derived.Test.YtdkdmclbhcbfeaaDoorC
namespace Go.Proofs.YtdkdmclbhcbfeaaDoor.Fl
set_option linter.unusedVariables false
set_option linter.unusedSimpArgs false
open Go Ieee
theorem write_gen (s : Bool) (n Q : Nat) (hn : n ≠ 0) (hd : n.log2 ≤ 52 ∨ 2 ^ (n.log2 - 52) ∣ n) (hm : n.log2 + Q ≤ 2097) (hl : 52 ≤ n.log2 + Q) :
    ∃ r, double.write (.number s n (-1074 + (Q : Int))) = (if s = true then 9223372036854775808 + r else r) ∧ r < 9218868437227405312 ∧ V r = n * 2 ^ Q ∧ 4503599627370496 ≤ r := by
  have l1 := Nat.log2_self_le hn
  have l2 : n < 2 ^ (n.log2 + 1) := Nat.lt_log2_self
  obtain ⟨d, hdd⟩ : ∃ d, d = n.log2 := ⟨_, rfl⟩
  rw [← hdd] at l1 l2 hd hm hl
  obtain ⟨P, hP⟩ : ∃ P : Int, P = -1074 + (Q : Int) := ⟨_, rfl⟩
  -- the digits that are kept
  obtain ⟨q, hq, hqe, hq2⟩ : ∃ q, 4503599627370496 ≤ q ∧ q < 9007199254740992 ∧ (Toward.even.cut s (n <<< (P - (P + (d : Int) - 52)).toNat) ((P + (d : Int) - 52) - P).toNat = q ∧ q * 2 ^ (d + Q - 52) = n * 2 ^ Q) := by
    by_cases c : d ≤ 52
    · have e1 : (P - (P + (d : Int) - 52)).toNat = 52 - d := by omega
      have e2 : ((P + (d : Int) - 52) - P).toNat = 0 := by omega
      have e3 : 2 ^ d * 2 ^ (52 - d) = 4503599627370496 := by rw [← Nat.pow_add, show d + (52 - d) = 52 by omega]
      have e4 : 2 ^ (d + 1) * 2 ^ (52 - d) = 9007199254740992 := by rw [← Nat.pow_add, show d + 1 + (52 - d) = 53 by omega]
      refine ⟨n * 2 ^ (52 - d), ?_, ?_, ?_, ?_⟩
      · rw [← e3]; exact Nat.mul_le_mul_right _ l1
      · rw [← e4]; exact Nat.mul_lt_mul_of_pos_right l2 (Nat.two_pow_pos _)
      · rw [e1, e2, cut_exact _ _ _ 0 (by simp) (by omega), Nat.shiftLeft_eq, Nat.pow_zero, Nat.div_one]
      · rw [Nat.mul_assoc, ← Nat.pow_add, show 52 - d + (d + Q - 52) = Q by omega]
    · have hdv := hd.resolve_left c
      have e1 : (P - (P + (d : Int) - 52)).toNat = 0 := by omega
      have e2 : ((P + (d : Int) - 52) - P).toNat = d - 52 := by omega
      obtain ⟨q, hq⟩ := hdv
      have hp : 0 < 2 ^ (d - 52) := Nat.two_pow_pos _
      have e3 : 2 ^ (d - 52) * 4503599627370496 = 2 ^ d := by rw [show (4503599627370496 : Nat) = 2 ^ 52 from rfl, ← Nat.pow_add, show d - 52 + 52 = d by omega]
      have e4 : 2 ^ (d - 52) * 9007199254740992 = 2 ^ (d + 1) := by rw [show (9007199254740992 : Nat) = 2 ^ 53 from rfl, ← Nat.pow_add, show d - 52 + 53 = d + 1 by omega]
      refine ⟨q, ?_, ?_, ?_, ?_⟩
      · rw [← e3, hq] at l1; exact Nat.le_of_mul_le_mul_left l1 hp
      · rw [← e4] at l2; rw [hq] at l2; exact Nat.lt_of_mul_lt_mul_left l2
      · rw [e1, e2, Nat.shiftLeft_zero, cut_exact _ _ _ _ ⟨q, hq⟩ (by omega), hq, Nat.mul_div_cancel_left _ hp]
      · rw [hq, Nat.mul_comm _ q, Nat.mul_assoc, ← Nat.pow_add, show d - 52 + Q = d + Q - 52 by omega]
  refine ⟨(d + Q - 52) * 4503599627370496 + q, ?_, by omega, ?_, by omega⟩
  · rw [← hP]
    show double.nearest s n P = _
    unfold Format.nearest
    rw [if_neg hn, lp, bn, ir, fb]
    have e1 : max (P + (n.log2 : Int) - ((52 : Nat) : Int)) (-1074) = P + (d : Int) - 52 := by rw [← hdd]; omega
    simp only [e1]
    rw [hq2.1]
    have e2 : (P + (d : Int) - 52 - -1074).toNat = d + Q - 52 := by omega
    rw [e2, Nat.min_eq_left (by omega)]
    unfold Format.word
    rw [sw]
  · unfold V
    rw [if_neg (by omega), show ((d + Q - 52) * 4503599627370496 + q) / 4503599627370496 - 1 = d + Q - 52 by omega, show 4503599627370496 + ((d + Q - 52) * 4503599627370496 + q) % 4503599627370496 = q by omega]
    exact hq2.2
theorem log2_mul (a k : Nat) (ha : a ≠ 0) : (a * 2 ^ k).log2 = a.log2 + k := by
  induction k with
  | zero => simp
  | succ k ih =>
    rw [Nat.pow_succ, ← Nat.mul_assoc, Nat.mul_comm _ 2, Nat.log2_two_mul (Nat.mul_ne_zero ha (Nat.ne_of_gt (Nat.two_pow_pos k))), ih]
    omega
theorem V_inj {r s : Nat} (h : V r = V s) : r = s := by
  rcases Nat.lt_trichotomy r s with h1 | h1 | h1
  · have := V_mono h1; omega
  · exact h1
  · have := V_mono h1; omega
end Go.Proofs.YtdkdmclbhcbfeaaDoor.Fl
