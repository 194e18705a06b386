/- A whole number that a float64 has just so is written just so. No program in sight. -/
import Derived.Test.YtdkdmclbhcbfeaaDoorFl
namespace Go.Proofs.YtdkdmclbhcbfeaaDoor.Fl
set_option linter.unusedVariables false
set_option linter.unusedSimpArgs false
open Ieee
def twos : Nat → Nat
  | 0 => 1
  | n + 1 => twos n * 2
theorem twos_eq (n : Nat) : twos n = 2 ^ n := by
  induction n with
  | zero => rfl
  | succ n ih => rw [twos, ih, Nat.pow_succ]
/-- the least places of one -/
def U : Nat := twos 1074
theorem U_add {a b : Nat} (h : a + b = 1074) : 2 ^ a * 2 ^ b = U := by unfold U; rw [← h, twos_eq, Nat.pow_add]
theorem twos_up (b c : Nat) : 2 ^ (b + c) = 2 ^ b * twos c := by rw [twos_eq, Nat.pow_add]
theorem U_up {a b : Nat} (h : a = b + 1074) : 2 ^ a = 2 ^ b * U := by
  obtain ⟨c, hc⟩ : ∃ c, c = 1074 := ⟨_, rfl⟩
  unfold U
  rw [← hc] at h ⊢
  subst h
  exact twos_up b c
theorem twos_pos (n : Nat) : 0 < twos n := by rw [twos_eq]; exact Nat.two_pow_pos _
theorem U_pos : 0 < U := twos_pos 1074
theorem fb : double.fractionBits = 52 := rfl
/-- nothing is dropped -/
theorem cut_exact (way : Toward) (s : Bool) (n drop : Nat) (h : 2 ^ drop ∣ n) (hd : drop ≤ n.log2 + 2) : way.cut s n drop = n / 2 ^ drop := by
  unfold Toward.cut
  have e1 : min drop (n.log2 + 2) = drop := Nat.min_eq_left hd
  have e2 : 1 <<< drop = 2 ^ drop := by rw [Nat.shiftLeft_eq, Nat.one_mul]
  have e3 : n % 2 ^ drop = 0 := Nat.mod_eq_zero_of_dvd h
  have e4 : 0 < 2 ^ drop := Nat.two_pow_pos _
  simp only [e1, e2, e3]
  cases way <;> simp
  all_goals omega
theorem write_exact (s : Bool) (n : Nat) (hn : n ≠ 0) (hd : n.log2 ≤ 52 ∨ 2 ^ (n.log2 - 52) ∣ n) (hm : n.log2 ≤ 1023) :
    ∃ r, double.write (.number s n 0) = (if s = true then 9223372036854775808 + r else r) ∧ r < 9218868437227405312 ∧ V r = n * U := by
  have l1 := Nat.log2_self_le hn
  have l2 : n < 2 ^ (n.log2 + 1) := Nat.lt_log2_self
  obtain ⟨d, hdd⟩ : ∃ d, d = n.log2 := ⟨_, rfl⟩
  rw [← hdd] at l1 l2 hd hm
  -- the digits that are kept
  obtain ⟨q, hq, hqe, hq2⟩ : ∃ q, 4503599627370496 ≤ q ∧ q < 9007199254740992 ∧ (Toward.even.cut s (n <<< ((0 : Int) - ((d : Int) - 52)).toNat) (((d : Int) - 52) - 0).toNat = q ∧ q * 2 ^ (d + 1022) = n * U) := by
    by_cases c : d ≤ 52
    · have e1 : ((0 : Int) - ((d : Int) - 52)).toNat = 52 - d := by omega
      have e2 : (((d : Int) - 52) - 0).toNat = 0 := by omega
      have e3 : 2 ^ d * 2 ^ (52 - d) = 4503599627370496 := by rw [← Nat.pow_add, show d + (52 - d) = 52 by omega]
      have e4 : 2 ^ (d + 1) * 2 ^ (52 - d) = 9007199254740992 := by rw [← Nat.pow_add, show d + 1 + (52 - d) = 53 by omega]
      refine ⟨n * 2 ^ (52 - d), ?_, ?_, ?_, ?_⟩
      · rw [← e3]; exact Nat.mul_le_mul_right _ l1
      · rw [← e4]; exact Nat.mul_lt_mul_of_pos_right l2 (Nat.two_pow_pos _)
      · rw [e1, e2, cut_exact _ _ _ 0 (by simp) (by omega), Nat.shiftLeft_eq, Nat.pow_zero, Nat.div_one]
      · rw [Nat.mul_assoc, U_add (by omega)]
    · have hdv := hd.resolve_left c
      have e1 : ((0 : Int) - ((d : Int) - 52)).toNat = 0 := by omega
      have e2 : (((d : Int) - 52) - 0).toNat = d - 52 := by omega
      obtain ⟨q, hq⟩ := hdv
      have hp : 0 < 2 ^ (d - 52) := Nat.two_pow_pos _
      have e3 : 2 ^ (d - 52) * 4503599627370496 = 2 ^ d := by rw [show (4503599627370496 : Nat) = 2 ^ 52 from rfl, ← Nat.pow_add, show d - 52 + 52 = d by omega]
      have e4 : 2 ^ (d - 52) * 9007199254740992 = 2 ^ (d + 1) := by rw [show (9007199254740992 : Nat) = 2 ^ 53 from rfl, ← Nat.pow_add, show d - 52 + 53 = d + 1 by omega]
      refine ⟨q, ?_, ?_, ?_, ?_⟩
      · rw [← e3, hq] at l1; exact Nat.le_of_mul_le_mul_left l1 hp
      · rw [← e4] at l2; rw [hq] at l2; exact Nat.lt_of_mul_lt_mul_left l2
      · rw [e1, e2, Nat.shiftLeft_zero, cut_exact _ _ _ _ ⟨q, hq⟩ (by omega), hq, Nat.mul_div_cancel_left _ hp]
      · rw [hq, Nat.mul_comm _ q, Nat.mul_assoc, U_up (show d + 1022 = d - 52 + 1074 by omega)]
  refine ⟨(d + 1022) * 4503599627370496 + q, ?_, by omega, ?_⟩
  · show double.nearest s n 0 = _
    unfold Format.nearest
    rw [if_neg hn, lp, bn, ir, fb]
    have e1 : max ((0 : Int) + (n.log2 : Int) - ((52 : Nat) : Int)) (-1074) = (d : Int) - 52 := by rw [← hdd]; omega
    simp only [e1]
    rw [hq2.1]
    have e2 : ((d : Int) - 52 - -1074).toNat = d + 1022 := by omega
    rw [e2, Nat.min_eq_left (by omega)]
    unfold Format.word
    rw [sw]
  · unfold V
    rw [if_neg (by omega), show ((d + 1022) * 4503599627370496 + q) / 4503599627370496 - 1 = d + 1022 by omega, show 4503599627370496 + ((d + 1022) * 4503599627370496 + q) % 4503599627370496 = q by omega]
    exact hq2.2
/-- the nearest whole number of a / 2^1074, the even one of two -/
def roundE (a : Nat) : Nat := a / U + (decide (U < 2 * (a % U)) || (decide (U = 2 * (a % U)) && decide (a / U % 2 = 1))).toNat
theorem cut_parts (m p : Nat) : ∃ g l : Nat, 0 < g ∧ (∀ (way : Toward) (s : Bool), way.cut s (m <<< (-1074 + (p : Int)).toNat) (-(-1074 + (p : Int))).toNat =
      l / g + (match way with | .even => decide (g < 2 * (l % g)) || (g == 2 * (l % g) && l / g % 2 == 1) | .down => s && l % g != 0 | .up => !s && l % g != 0 | .zero => false : Bool).toNat) ∧
    (l / g = m * 2 ^ p / U) ∧ (g < 2 * (l % g) ↔ U < 2 * (m * 2 ^ p % U)) ∧ (g = 2 * (l % g) ↔ U = 2 * (m * 2 ^ p % U)) := by
  by_cases c : 1074 ≤ p
  · have e1 : (-1074 + (p : Int)).toNat = p - 1074 := by omega
    have e2 : (-(-1074 + (p : Int))).toNat = 0 := by omega
    have e3 : m * 2 ^ p = m * 2 ^ (p - 1074) * U := by rw [Nat.mul_assoc, U_up (show p = p - 1074 + 1074 by omega)]
    have hp : 0 < U := U_pos
    rw [e1, e2, e3]
    generalize U = X at hp ⊢
    refine ⟨1, m * 2 ^ (p - 1074), by decide, fun way s => ?_, ?_, ?_, ?_⟩
    · unfold Toward.cut
      simp only [Nat.zero_min, Nat.shiftLeft_zero, Nat.shiftLeft_eq]
      cases way <;> rfl
    · rw [Nat.div_one, Nat.mul_div_cancel _ hp]
    · rw [Nat.mul_mod_left, Nat.mod_one]; omega
    · rw [Nat.mul_mod_left, Nat.mod_one]; omega
  · have e1 : (-1074 + (p : Int)).toNat = 0 := by omega
    have e2 : (-(-1074 + (p : Int))).toNat = 1074 - p := by omega
    have e3 : U = 2 ^ (1074 - p) * 2 ^ p := (U_add (by omega)).symm
    have hp : 0 < 2 ^ p := Nat.two_pow_pos _
    have hD : 0 < 2 ^ (1074 - p) := Nat.two_pow_pos _
    rw [e1, e2, e3, Nat.shiftLeft_zero, Nat.mul_div_mul_right _ _ hp, Nat.mul_mod_mul_right]
    by_cases c2 : 1074 - p ≤ m.log2 + 2
    · refine ⟨2 ^ (1074 - p), m, hD, fun way s => ?_, rfl, ?_, ?_⟩
      · unfold Toward.cut
        simp only [Nat.min_eq_left c2, Nat.shiftLeft_eq, Nat.one_mul]
        cases way <;> rfl
      · rw [← Nat.mul_assoc]; exact (Nat.mul_lt_mul_right hp).symm
      · rw [← Nat.mul_assoc]; exact (Nat.mul_right_cancel_iff hp).symm
    · have hl : m < 2 ^ (m.log2 + 1) := Nat.lt_log2_self
      have hg : 2 ^ (m.log2 + 2) = 2 * 2 ^ (m.log2 + 1) := by rw [Nat.pow_succ, Nat.mul_comm]
      have hle : 2 ^ (m.log2 + 2) ≤ 2 ^ (1074 - p) := Nat.pow_le_pow_right (by decide) (by omega)
      refine ⟨2 ^ (m.log2 + 2), m, Nat.two_pow_pos _, fun way s => ?_, ?_, ?_, ?_⟩
      · unfold Toward.cut
        simp only [Nat.min_eq_right (Nat.le_of_not_le c2), Nat.shiftLeft_eq, Nat.one_mul]
        cases way <;> rfl
      · rw [Nat.div_eq_of_lt (by omega), Nat.div_eq_of_lt (by omega)]
      · rw [← Nat.mul_assoc, Nat.mul_lt_mul_right hp, Nat.mod_eq_of_lt (show m < 2 ^ (m.log2 + 2) by omega), Nat.mod_eq_of_lt (show m < 2 ^ (1074 - p) by omega)]; omega
      · rw [← Nat.mul_assoc, Nat.mul_right_cancel_iff hp, Nat.mod_eq_of_lt (show m < 2 ^ (m.log2 + 2) by omega), Nat.mod_eq_of_lt (show m < 2 ^ (1074 - p) by omega)]; omega
theorem cut_even (s : Bool) (m p : Nat) : Toward.even.cut s (m <<< (-1074 + (p : Int)).toNat) (-(-1074 + (p : Int))).toNat = roundE (m * 2 ^ p) := by
  obtain ⟨g, l, _, h1, h2, h3, h4⟩ := cut_parts m p
  rw [h1]
  unfold roundE
  rw [h2]
  refine congrArg (fun b : Bool => m * 2 ^ p / U + b.toNat) ?_
  rw [Bool.eq_iff_iff]
  simp only [Bool.or_eq_true, Bool.and_eq_true, decide_eq_true_eq, beq_iff_eq, h3, h4]
theorem cut_zero (s : Bool) (m p : Nat) : Toward.zero.cut s (m <<< (-1074 + (p : Int)).toNat) (-(-1074 + (p : Int))).toNat = m * 2 ^ p / U := by
  obtain ⟨g, l, _, h1, h2, h3, h4⟩ := cut_parts m p
  rw [h1, h2]
  rfl
/-- the whole number that a number is rounded to -/
def wholeN (b : Nat) : Nat := roundE (V (rung b))
theorem val_word (s : Bool) (r : Nat) (hr : r < 9218868437227405312) : sg (if s = true then 9223372036854775808 + r else r) = s ∧ rung (if s = true then 9223372036854775808 + r else r) = r ∧ nan (if s = true then 9223372036854775808 + r else r) = false ∧ (if s = true then 9223372036854775808 + r else r) < 18446744073709551616 := by
  cases s
  · simp only [Bool.false_eq_true, if_false]
    have e : rung r = r := by unfold rung; omega
    refine ⟨?_, e, ?_, by omega⟩
    · unfold sg; rw [Bool.eq_iff_iff]; simp; omega
    · unfold nan; rw [e, decide_eq_false (by omega)]
  · simp only [if_true]
    have e : rung (9223372036854775808 + r) = r := by unfold rung; omega
    refine ⟨?_, e, ?_, by omega⟩
    · unfold sg; rw [Bool.eq_iff_iff]; simp; omega
    · unfold nan; rw [e, decide_eq_false (by omega)]
theorem round_le {m p : Nat} (hp : p < 1074) : roundE (m * 2 ^ p) ≤ m / 2 + 1 := by
  have e3 : U = 2 ^ (1074 - p) * 2 ^ p := (U_add (by omega)).symm
  have h2 : 2 ≤ 2 ^ (1074 - p) := by
    have := Nat.pow_le_pow_right (show 0 < 2 by decide) (show 1 ≤ 1074 - p by omega)
    simpa using this
  unfold roundE
  rw [e3, Nat.mul_div_mul_right _ _ (Nat.two_pow_pos _)]
  have h1 : m / 2 ^ (1074 - p) ≤ m / 2 := Nat.div_le_div_left h2 (by decide)
  have hb : ∀ b : Bool, b.toNat ≤ 1 := by intro b; cases b <;> decide
  exact Nat.add_le_add h1 (hb _)
/-- what is rounded can be written -/
theorem round_fits {m p : Nat} (hm : m < 9007199254740992) (hp : p ≤ 2045) (hn : roundE (m * 2 ^ p) ≠ 0) : ((roundE (m * 2 ^ p)).log2 ≤ 52 ∨ 2 ^ ((roundE (m * 2 ^ p)).log2 - 52) ∣ roundE (m * 2 ^ p)) ∧ (roundE (m * 2 ^ p)).log2 ≤ 1023 := by
  by_cases c : p < 1074
  · have h := round_le (m := m) c
    have h3 : roundE (m * 2 ^ p) < 2 ^ 53 := by omega
    have h4 : (roundE (m * 2 ^ p)).log2 < 53 := (Nat.log2_lt hn).2 h3
    exact ⟨.inl (by omega), by omega⟩
  · have e3 : m * 2 ^ p = m * 2 ^ (p - 1074) * U := by rw [Nat.mul_assoc, U_up (show p = p - 1074 + 1074 by omega)]
    have e : roundE (m * 2 ^ p) = m * 2 ^ (p - 1074) := by
      unfold roundE
      rw [e3, Nat.mul_div_cancel _ U_pos, Nat.mul_mod_left]
      have hu := U_pos
      generalize U = X at hu ⊢
      rw [decide_eq_false (by omega), decide_eq_false (by omega)]
      simp
    rw [e] at hn ⊢
    have hm0 : m ≠ 0 := by rintro rfl; simp at hn
    have hl : m.log2 < 53 := (Nat.log2_lt hm0).2 hm
    have hl2 : (m * 2 ^ (p - 1074)).log2 = m.log2 + (p - 1074) := by
      have k1 := Nat.log2_self_le hm0
      have k2 : m < 2 ^ (m.log2 + 1) := Nat.lt_log2_self
      have q1 : 2 ^ (m.log2 + (p - 1074)) ≤ m * 2 ^ (p - 1074) := by rw [Nat.pow_add]; exact Nat.mul_le_mul_right _ k1
      have q2 : m * 2 ^ (p - 1074) < 2 ^ (m.log2 + (p - 1074) + 1) := by
        rw [show m.log2 + (p - 1074) + 1 = m.log2 + 1 + (p - 1074) by omega, Nat.pow_add 2 (m.log2 + 1)]
        exact Nat.mul_lt_mul_of_pos_right k2 (Nat.two_pow_pos _)
      have r1 := (Nat.le_log2 hn).2 q1
      have r2 := (Nat.log2_lt hn).2 q2
      omega
    refine ⟨.inr ?_, by omega⟩
    rw [hl2]
    exact Nat.dvd_trans (Nat.pow_dvd_pow 2 (by omega)) (Nat.dvd_mul_left _ _)
theorem read_fin {b : Nat} (h : rung b < 9218868437227405312) : ∃ m p : Nat, double.read b = .number (sg b) m (-1074 + (p : Int)) ∧ m * 2 ^ p = V (rung b) ∧ m < 9007199254740992 ∧ p ≤ 2045 := by
  rw [read_eq]; unfold V
  by_cases h1 : rung b < 4503599627370496
  · rw [if_pos h1, if_pos h1]; exact ⟨rung b, 0, by simp, by simp, by omega, by omega⟩
  · rw [if_neg h1, if_pos h, if_neg h1]; exact ⟨_, _, rfl, rfl, by omega, by omega⟩
/-- the word of the nearest whole number -/
theorem whole_word (b : Nat) (h : rung b < 9218868437227405312) : ∃ R, double.write ((double.read b).integral .even) = R ∧ sg R = sg b ∧ rung R < 9218868437227405312 ∧ nan R = false ∧ R < 18446744073709551616 ∧ V (rung R) = wholeN b * U := by
  obtain ⟨m, p, e1, e2, e3, e4⟩ := read_fin h
  rw [e1]
  show ∃ R, double.write (.number (sg b) (Toward.even.cut (sg b) (m <<< (-1074 + (p : Int)).toNat) (-(-1074 + (p : Int))).toNat) 0) = R ∧ _
  rw [cut_even, e2]
  show ∃ R, double.write (.number (sg b) (wholeN b) 0) = R ∧ _
  by_cases hn : wholeN b = 0
  · rw [hn]
    have v := val_word (sg b) 0 (by decide)
    refine ⟨_, rfl, ?_⟩
    have e : double.write (.number (sg b) 0 0) = if sg b = true then 9223372036854775808 + 0 else 0 := by
      show double.nearest (sg b) 0 0 = _
      unfold Format.nearest Format.word
      rw [if_pos rfl, sw]
    rw [e]
    exact ⟨v.1, by rw [v.2.1]; decide, v.2.2.1, v.2.2.2, by rw [v.2.1, V_zero, Nat.zero_mul]⟩
  · have hf := round_fits e3 e4 (by rw [e2]; exact hn)
    rw [e2] at hf
    obtain ⟨r, w1, w2, w3⟩ := write_exact (sg b) (wholeN b) hn hf.1 hf.2
    have v := val_word (sg b) r w2
    exact ⟨_, w1, v.1, by rw [v.2.1]; exact w2, v.2.2.1, v.2.2.2, by rw [v.2.1]; exact w3⟩
/-- a number cut towards nought -/
theorem toInt_zero (b : Nat) (h : rung b < 9218868437227405312) : (double.read b).toInt .zero = some (if sg b = true then -((V (rung b) / U : Nat) : Int) else ((V (rung b) / U : Nat) : Int)) := by
  obtain ⟨m, p, e1, e2, e3, e4⟩ := read_fin h
  rw [e1]
  show some (signed (sg b) (Toward.zero.cut (sg b) (m <<< (-1074 + (p : Int)).toNat) (-(-1074 + (p : Int))).toNat) 0) = _
  rw [cut_zero, e2, signed_eq, Nat.pow_zero, Nat.mul_one]
end Go.Proofs.YtdkdmclbhcbfeaaDoor.Fl
