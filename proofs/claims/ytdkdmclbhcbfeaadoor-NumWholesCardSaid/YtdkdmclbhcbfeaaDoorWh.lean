/- Whole numbers, a quarter more, and nothing more. -/
import Derived.Test.YtdkdmclbhcbfeaaDoorWg
import Derived.Test.YtdkdmclbhcbfeaaDoorD
import Derived.Laws.Cover2
namespace Go.Proofs.YtdkdmclbhcbfeaaDoor.Nu
set_option linter.unusedVariables false
set_option linter.unusedSimpArgs false
open Go Ieee Go.Proofs.YtdkdmclbhcbfeaaDoor.Fl
/-- float64(m) -/
def fN (m : Int) : Nat := floatOfInt .f64 m
theorem fN_write (m : Int) : fN m = double.write (.number (decide (m < 0)) m.natAbs 0) := rfl
theorem word_back {f : Nat} (h : f < 18446744073709551616) : (if sg f = true then 9223372036854775808 + rung f else rung f) = f := by
  unfold sg rung
  by_cases c : f < 9223372036854775808
  · rw [show f / 9223372036854775808 % 2 = 0 by omega]; simp; omega
  · rw [show f / 9223372036854775808 % 2 = 1 by omega]; simp; omega
structure Wn (m : Int) (f : Nat) : Prop where
  lt : f < 18446744073709551616
  nn : nan f = false
  fin : rung f < 9218868437227405312
  v : V (rung f) = m.natAbs * U
  s : m ≠ 0 → sg f = decide (m < 0)
theorem fN_wn (m : Int) (h1 : -4503599627370496 ≤ m) (h2 : m ≤ 4503599627370496) : Wn m (fN m) := by
  rw [fN_write]
  by_cases h0 : m = 0
  · subst h0
    exact ⟨by decide, by decide, by decide, by rw [show double.write (.number (decide ((0 : Int) < 0)) (0 : Int).natAbs 0) = 0 by decide, show rung 0 = 0 by decide, V_zero]; simp, fun h => absurd rfl h⟩
  · have hn : m.natAbs ≠ 0 := by omega
    have hl : m.natAbs.log2 ≤ 52 := by
      have := (Nat.log2_lt hn).2 (show m.natAbs < 2 ^ 53 by rw [show (2 : Nat) ^ 53 = 9007199254740992 by decide]; omega)
      omega
    obtain ⟨r, e, hr, hV⟩ := write_exact (decide (m < 0)) m.natAbs hn (.inl hl) (by omega)
    rw [e]
    obtain ⟨a1, a2, a3, a4⟩ := val_word (decide (m < 0)) r hr
    exact ⟨a4, a3, by rw [a2]; exact hr, by rw [a2]; exact hV, fun _ => a1⟩
theorem intV_of {f : Nat} {m : Int} (hn : nan f = false) (hf : rung f < 9218868437227405312) (hw : wholeN f = m.natAbs) (hs : m ≠ 0 → sg f = decide (m < 0)) (h1 : -4503599627370496 ≤ m) (h2 : m ≤ 4503599627370496) : intV f = (m, 0) := by
  have hz : intZ f = m := by
    unfold intZ
    rw [hw]
    by_cases h0 : m = 0
    · subst h0; simp
    · rw [hs h0]
      by_cases hm : m < 0
      · rw [if_pos (by simpa using hm)]; omega
      · rw [if_neg (by simpa using hm)]; omega
  unfold intV
  rw [hn, hz, if_neg (by simp), if_neg (by omega), if_neg (by omega)]
theorem int_whole {m : Int} {f : Nat} (h : Wn m f) (h1 : -4503599627370496 ≤ m) (h2 : m ≤ 4503599627370496) : intV f = (m, 0) :=
  intV_of h.nn h.fin (by unfold wholeN; rw [h.v, roundE_whole]) h.s h1 h2
theorem sum_zero {m : Int} {f : Nat} (h : Wn m f) (h0 : m ≠ 0) : floatBits .add .f64 0 f = some f ∧ floatBits .add .f64 f 0 = some f := by
  obtain ⟨M, p, e, hv, hM, hp⟩ := read_fin h.fin
  have hVV := h.v
  have hM0 : M ≠ 0 := by
    intro e0
    rw [e0, Nat.zero_mul, hVV] at hv
    have := Nat.mul_eq_zero.1 hv.symm
    have := U_pos
    omega
  have hl : M.log2 ≤ 52 := by
    have := (Nat.log2_lt hM0).2 (show M < 2 ^ 53 by rw [show (2 : Nat) ^ 53 = 9007199254740992 by decide]; exact hM)
    omega
  have hp2 : 52 ≤ p := by
    rcases Nat.lt_or_ge p 52 with c | c
    · exfalso
      rw [hVV] at hv
      have a1 : M * 2 ^ p < 9007199254740992 * 2 ^ 52 := Nat.lt_of_lt_of_le (Nat.mul_lt_mul_of_pos_right hM (Nat.two_pow_pos _)) (Nat.mul_le_mul_left _ (Nat.pow_le_pow_right (by decide) (by omega)))
      obtain ⟨E, hE⟩ : ∃ E, E + 106 = 1074 := ⟨968, rfl⟩
      have a2 : U = 2 ^ E * 2 ^ 106 := (U_add hE).symm
      have a3 : 1 * 2 ^ 106 ≤ U := by rw [a2]; exact Nat.mul_le_mul_right _ (Nat.one_le_two_pow)
      have a4 : 1 * U ≤ m.natAbs * U := Nat.mul_le_mul_right _ (by omega)
      have a5 : (2 : Nat) ^ 106 = 9007199254740992 * 2 ^ 53 := by decide
      have a6 : (2 : Nat) ^ 52 < 2 ^ 53 := by decide
      omega
    · exact c
  have hn : M * 2 ^ p ≠ 0 := Nat.mul_ne_zero hM0 (Nat.ne_of_gt (Nat.two_pow_pos p))
  obtain ⟨r, er, hr, hV, _⟩ := write_gen (sg f) (M * 2 ^ p) 0 hn (.inr (by rw [log2_mul _ _ hM0]; exact Nat.dvd_trans (Nat.pow_dvd_pow 2 (show M.log2 + p - 52 ≤ p by omega)) (Nat.dvd_mul_left _ _))) (by rw [log2_mul _ _ hM0]; omega) (by rw [log2_mul _ _ hM0]; omega)
  rw [Nat.pow_zero, Nat.mul_one, hv] at hV
  have hrr := V_inj hV
  rw [hrr, word_back h.lt] at er
  have e0 : double.read 0 = .number false 0 (-1074) := by decide
  obtain ⟨N, hN⟩ : ∃ N, N = M * 2 ^ p := ⟨_, rfl⟩
  have b1 : ((-1074 : Int) + (p : Int) - -1074).toNat = p := by omega
  have b2 : min (-1074 : Int) (-1074 + (p : Int)) = -1074 := by omega
  have b3 : min (-1074 + (p : Int)) (-1074 : Int) = -1074 := by omega
  have b4 : ((-1074 : Int) - -1074).toNat = 0 := by decide
  have b5 : (-1074 : Int) + ((0 : Nat) : Int) = -1074 := by decide
  rw [b5] at er
  have hsig : signed (sg f) M p ≠ 0 ∧ (decide (signed (sg f) M p < 0)) = sg f ∧ (signed (sg f) M p).natAbs = M * 2 ^ p := by
    have hN0 : N ≠ 0 := by rw [hN]; exact hn
    rw [signed_eq, ← hN]
    clear hN er e hv
    cases sg f
    · simp; omega
    · simp; omega
  have hz : signed false 0 0 = 0 := by decide
  obtain ⟨s1, s2, s3⟩ := hsig
  constructor
  · show ((double.read 0).sum (double.read f)).map double.write = some f
    rw [e, e0]
    simp only [Datum.sum, b1, b2, b4, hz, Int.zero_add]
    rw [if_neg s1, s2, s3, Option.map_some, er]
  · show ((double.read f).sum (double.read 0)).map double.write = some f
    rw [e, e0]
    simp only [Datum.sum, b1, b3, b4, hz, Int.add_zero]
    rw [if_neg s1, s2, s3, Option.map_some, er]
theorem quarter_read : double.read 4598175219545276416 = .number false 4503599627370496 (-54) := by decide
theorem quarter_nat {m : Int} {N : Nat} (hN : N = (4 * m + 1).natAbs) : N / 4 + (decide (4 < 2 * (N % 4)) || (decide (4 = 2 * (N % 4)) && decide (N / 4 % 2 = 1))).toNat = m.natAbs := by
  by_cases hm : m < 0
  · have : N % 4 = 3 := by omega
    rw [this]
    simp
    omega
  · have : N % 4 = 1 := by omega
    rw [this]
    simp
    omega
/-- a quarter more -/
theorem add_quarter {m : Int} {f : Nat} (h : Wn m f) (h1 : -1125899906842624 ≤ m) (h2 : m ≤ 1125899906842624) (hz : m = 0 → f = 0) : ∃ g, floatBits .add .f64 f 4598175219545276416 = some g ∧ g < 18446744073709551616 ∧ intV g = (m, 0) := by
  obtain ⟨M, p, e, hv, hM, hp⟩ := read_fin h.fin
  obtain ⟨E, hE⟩ : ∃ E, E = 1072 := ⟨_, rfl⟩
  have hU : U = 2 ^ E * 2 ^ 2 := (U_add (by omega)).symm
  obtain ⟨D, hD⟩ : ∃ D, D = 1020 := ⟨_, rfl⟩
  obtain ⟨B, hB⟩ : ∃ B, B = min p D := ⟨_, rfl⟩
  obtain ⟨N, hN⟩ : ∃ N, N = (4 * m + 1).natAbs := ⟨_, rfl⟩
  have hN0 : N ≠ 0 := by omega
  -- the sum
  have b1 : min (-1074 + (p : Int)) (-54) = -1074 + (B : Int) := by omega
  have b2 : ((-1074 : Int) + (p : Int) - (-1074 + (B : Int))).toNat = p - B := by omega
  have b3 : ((-54 : Int) - (-1074 + (B : Int))).toNat = D - B := by omega
  obtain ⟨T, hT⟩ : ∃ T : Int, T = signed (sg f) M (p - B) + signed false 4503599627370496 (D - B) := ⟨_, rfl⟩
  have hval : T * (2 ^ B : Nat) = (4 * m + 1) * (2 ^ E : Nat) := by
    have e1 : M * 2 ^ (p - B) * 2 ^ B = m.natAbs * U := by rw [Nat.mul_assoc, ← Nat.pow_add, show p - B + B = p by omega, hv, h.v]
    have e2 : 4503599627370496 * 2 ^ (D - B) * 2 ^ B = 2 ^ E := by
      rw [Nat.mul_assoc, ← Nat.pow_add, show D - B + B = D by omega, show (4503599627370496 : Nat) = 2 ^ 52 by decide, ← Nat.pow_add, show 52 + D = E by omega]
    rw [hT, signed_eq, signed_eq, Int.add_mul]
    have e3 : ((4503599627370496 * 2 ^ (D - B) : Nat) : Int) * ((2 ^ B : Nat) : Int) = ((2 ^ E : Nat) : Int) := by rw [← Int.natCast_mul, e2]
    have e4 : ((M * 2 ^ (p - B) : Nat) : Int) * ((2 ^ B : Nat) : Int) = (m.natAbs : Int) * ((2 ^ E : Nat) : Int) * 4 := by
      rw [← Int.natCast_mul, e1, hU, Int.natCast_mul, Int.natCast_mul, Int.mul_assoc]
      rfl
    simp only [Bool.false_eq_true, if_false]
    rw [e3]
    by_cases h0 : m = 0
    · subst h0
      rw [hz rfl]
      simp only [show sg 0 = false by decide, Bool.false_eq_true, if_false]
      rw [e4]
      simp
    · rw [h.s h0]
      by_cases hm : m < 0
      · rw [if_pos (by simpa using hm), Int.neg_mul, e4]
        have e5 : (m.natAbs : Int) = -m := by omega
        rw [e5, Int.add_mul, Int.one_mul, Int.neg_mul, Int.neg_mul, Int.neg_neg]
        rw [Int.mul_comm 4 m, Int.mul_assoc m 4, Int.mul_comm 4, ← Int.mul_assoc]
      · rw [if_neg (by simpa using hm), e4]
        have e5 : (m.natAbs : Int) = m := by omega
        rw [e5, Int.add_mul, Int.one_mul]
        rw [Int.mul_comm 4 m, Int.mul_assoc m 4, Int.mul_comm 4, ← Int.mul_assoc]
  have hT2 : T = (4 * m + 1) * ((2 ^ (E - B) : Nat) : Int) := by
    have hB0 : ((2 ^ B : Nat) : Int) ≠ 0 := by have := Nat.two_pow_pos B; omega
    apply Int.eq_of_mul_eq_mul_right hB0
    rw [hval, Int.mul_assoc, ← Int.natCast_mul, ← Nat.pow_add, show E - B + B = E by omega]
  have hP0 : (0 : Int) < ((2 ^ (E - B) : Nat) : Int) := by have := Nat.two_pow_pos (E - B); omega
  have hTn : T.natAbs = N * 2 ^ (E - B) := by rw [hT2, Int.natAbs_mul, Int.natAbs_natCast, hN]
  have hT0 : T ≠ 0 := by
    intro e0
    rw [e0] at hTn
    have := Nat.mul_eq_zero.1 hTn.symm
    have := Nat.two_pow_pos (E - B)
    omega
  have hTs : decide (T < 0) = decide (m < 0) := by
    apply decide_eq_decide.2
    rw [hT2]
    constructor
    · intro hh
      by_cases c : m < 0
      · exact c
      · exfalso
        have := Int.mul_nonneg (show (0 : Int) ≤ 4 * m + 1 by omega) (Int.le_of_lt hP0)
        omega
    · intro hh
      have := Int.mul_neg_of_neg_of_pos (show 4 * m + 1 < 0 by omega) hP0
      exact this
  have hl : N.log2 ≤ 52 := by
    have := (Nat.log2_lt hN0).2 (show N < 2 ^ 53 by rw [show (2 : Nat) ^ 53 = 9007199254740992 by decide]; omega)
    omega
  have hlog : (N * 2 ^ (E - B)).log2 = N.log2 + (E - B) := log2_mul _ _ hN0
  obtain ⟨r, er, hr, hV, _⟩ := write_gen (decide (m < 0)) (N * 2 ^ (E - B)) B (Nat.mul_ne_zero hN0 (Nat.ne_of_gt (Nat.two_pow_pos _))) (.inr (by rw [hlog]; exact Nat.dvd_trans (Nat.pow_dvd_pow 2 (show N.log2 + (E - B) - 52 ≤ E - B by omega)) (Nat.dvd_mul_left _ _))) (by rw [hlog]; omega) (by rw [hlog]; omega)
  rw [Nat.mul_assoc, ← Nat.pow_add, show E - B + B = E by omega] at hV
  obtain ⟨a1, a2, a3, a4⟩ := val_word (decide (m < 0)) r hr
  refine ⟨if decide (m < 0) = true then 9223372036854775808 + r else r, ?_, a4, ?_⟩
  · show ((double.read f).sum (double.read 4598175219545276416)).map double.write = _
    rw [e, quarter_read]
    simp only [Datum.sum, b1, b2, b3]
    rw [← hT, if_neg hT0, hTn, hTs, Option.map_some, er]
  · refine intV_of a3 (by rw [a2]; exact hr) ?_ (fun _ => a1) (by omega) (by omega)
    unfold wholeN
    rw [a2, hV, roundE_shift (show 2 + E = 1074 by omega)]
    rw [show (2 : Nat) ^ 2 = 4 by decide]
    exact quarter_nat hN
end Go.Proofs.YtdkdmclbhcbfeaaDoor.Nu
