/- A number of 128 bits divided by one of 64: the whole. -/
import Derived.Test.YtccicjiadahmnaaDoorDivQ
import Derived.Lib.BitFns
namespace Go.Proofs.YtccicjiadahmnaaDoor.DivP
open Go.RowKit Go.Proofs.YtccicjiadahmnaaDoor Go.Proofs.YtccicjiadahmnaaDoor.D Go.Proofs.YtccicjiadahmnaaDoorW.PrintWords Go.Proofs.YtccicjiadahmnaaDoorW.PrintLast Go.Proofs.YtccicjiadahmnaaDoorW.PrintMore
set_option linter.unusedVariables false

theorem and_mask {x : Int} (h0 : 0 ≤ x) (h1 : x < 18446744073709551616) : Go.bits .and .u64 x 4294967295 = x % 4294967296 := by
  obtain ⟨n, rfl⟩ := Int.eq_ofNat_of_zero_le h0
  have := Go.u64_and_nat n 4294967295 (by omega) (by decide)
  rw [show ((4294967295 : Nat) : Int) = 4294967295 from rfl] at this
  rw [this, show (4294967295 : Nat) = 2 ^ 32 - 1 by decide, Nat.and_two_pow_sub_one_eq_mod]
  omega
theorem or_add {a b : Int} {s : Nat} (ha : 0 ≤ a) (ha1 : a * 2 ^ s < 18446744073709551616) (hb : 0 ≤ b) (hb1 : b < 2 ^ s) (hs : s ≤ 64) : Go.bits .or .u64 (a * 2 ^ s) b = a * 2 ^ s + b := by
  obtain ⟨m, rfl⟩ := Int.eq_ofNat_of_zero_le ha
  obtain ⟨n, rfl⟩ := Int.eq_ofNat_of_zero_le hb
  have e : ((m : Int) * 2 ^ s) = ((2 ^ s * m : Nat) : Int) := by rw [Int.natCast_mul, Int.natCast_pow, Int.mul_comm]; rfl
  have hn : n < 2 ^ s := by have : ((2 : Int) ^ s) = ((2 ^ s : Nat) : Int) := by rw [Int.natCast_pow]; rfl
                            omega
  have hp : (2 : Nat) ^ s ≤ 2 ^ 64 := Nat.pow_le_pow_right (by decide) hs
  rw [e] at ha1 ⊢
  rw [Go.u64_or_nat _ _ (by omega) (by have : (2 : Nat) ^ 64 = 18446744073709551616 := by decide
                                       omega), ← Nat.two_pow_add_eq_or_of_lt hn]
  omega
theorem log_len (y : Nat) (h0 : 0 < y) (h1 : y < 18446744073709551616) : ∃ k, k ≤ 63 ∧ Lib.bitLen y = k + 1 ∧ 2 ^ k ≤ y ∧ y < 2 ^ (k + 1) := by
  refine ⟨Nat.log2 y, ?_, ?_, Nat.log2_self_le (by omega), Nat.lt_log2_self⟩
  · have := (Nat.log2_lt (show y ≠ 0 by omega) (k := 64)).2 (by simpa using h1)
    omega
  · have a := Nat.log2_self_le (show y ≠ 0 by omega)
    have b := Nat.lt_log2_self (n := y)
    rw [Lib.bitLen_shift (Nat.log2 y) y a (by simpa using h1)]
    have : y / 2 ^ Nat.log2 y = 1 := by
      rw [Nat.pow_succ] at b
      exact Nat.div_eq_of_lt_le (by omega) (by omega)
    rw [this]
    rfl

theorem div_ok (hi lo y : Int) (h0 : 0 ≤ hi) (hy : hi < y) (y1 : y < 18446744073709551616) (l0 : 0 ≤ lo) (l1 : lo < 18446744073709551616) :
    ∃ k, bits_Div64.f k hi lo y = some ((hi * 18446744073709551616 + lo) / y, (hi * 18446744073709551616 + lo) % y) := by
  unfold bits_Div64.f
  by_cases hz : hi = 0
  · subst hz
    refine ⟨0, ?_⟩
    rw [if_neg (by omega), if_neg (by omega), if_pos rfl]
    have e : IntKind.u64.wrap (Int.tdiv lo y) = lo / y := by
      rw [Int.tdiv_eq_ediv_of_nonneg l0]
      exact w64 (Int.ediv_nonneg l0 (by omega)) (by have := Int.ediv_le_self y l0; omega)
    rw [e, Int.tmod_eq_emod_of_nonneg l0, Int.zero_mul, Int.zero_add]
  obtain ⟨yn, rfl⟩ := Int.eq_ofNat_of_zero_le (show 0 ≤ y by omega)
  obtain ⟨b, hb, hbl, p1, p2⟩ := log_len yn (by omega) (by omega)
  have hlz : bits_LeadingZeros64.f (yn : Int) = some ((63 - b : Nat) : Int) := by
    unfold bits_LeadingZeros64.f
    rw [if_pos ⟨by omega, by omega⟩, Int.toNat_natCast, hbl]
    congr 1
    omega
  generalize hs : 63 - b = s at hlz
  have hb' : b = 63 - s := by omega
  have hs63 : s ≤ 63 := by omega
  have hsp : (2 : Nat) ^ b * 2 ^ s = 9223372036854775808 := by rw [← Nat.pow_add, show b + s = 63 by omega]
  have e1 : IntKind.u64.wrap ((s : Nat) : Int) = s := w64 (by omega) (by omega)
  have e2 : IntKind.u64.wrap (64 - (s : Int)) = 64 - s := w64 (by omega) (by omega)
  obtain ⟨S, hS⟩ : ∃ S : Int, S = 2 ^ s := ⟨_, rfl⟩
  have hSn : S = ((2 ^ s : Nat) : Int) := by rw [hS, Int.natCast_pow]; rfl
  have hS1 : 1 ≤ S := by rw [hSn]; have := Nat.one_le_two_pow (n := s); omega
  obtain ⟨T, hT⟩ : ∃ T : Int, T = 2 ^ (64 - s) := ⟨_, rfl⟩
  have hST : S * T = 18446744073709551616 := by rw [hS, hT, ← Int.pow_add, show s + (64 - s) = 64 by omega]; first | done | decide
  have hT1 : 1 ≤ T := by rw [hT]; have := Nat.one_le_two_pow (n := 64 - s); have e : ((2 : Int) ^ (64 - s)) = ((2 ^ (64 - s) : Nat) : Int) := by rw [Int.natCast_pow]; rfl
                         omega
  have hmin : min ((s : Int)).toNat 64 = s := by omega
  have shl_ : ∀ x : Int, shl .u64 x s = IntKind.u64.wrap (x * S) := fun x => by
    show IntKind.u64.wrap (x * 2 ^ min ((s : Int)).toNat 64) = _
    rw [hS, hmin]
  have shr_ : ∀ x : Int, shr .u64 x s = x / S := fun x => by
    show x / 2 ^ min ((s : Int)).toNat 64 = _
    rw [hS, hmin]
  -- the divisor, moved up
  obtain ⟨v, hv⟩ : ∃ v : Int, v = yn * S := ⟨_, rfl⟩
  have hv1 : 9223372036854775808 ≤ v := by
    rw [hv, hSn, ← Int.natCast_mul]
    have : 2 ^ b * 2 ^ s ≤ yn * 2 ^ s := Nat.mul_le_mul_right _ p1
    rw [hsp] at this
    generalize yn * 2 ^ s = Z at this ⊢
    omega
  have hv2 : v < 18446744073709551616 := by
    rw [hv, hSn, ← Int.natCast_mul]
    have : yn * 2 ^ s < 2 ^ (b + 1) * 2 ^ s := Nat.mul_lt_mul_of_pos_right p2 (Nat.two_pow_pos s)
    rw [Nat.pow_succ, Nat.mul_right_comm, hsp] at this
    generalize yn * 2 ^ s = Z at this ⊢
    omega
  have hhv : hi * S < v := by rw [hv]; exact Int.mul_lt_mul_of_pos_right hy (by omega)
  have hh0 : 0 ≤ hi * S := Int.mul_nonneg h0 (by omega)
  have ev : shl .u64 (yn : Int) s = v := by rw [shl_, ← hv]; exact w64 (by omega) hv2
  have eh : shl .u64 hi s = hi * S := by rw [shl_]; exact w64 hh0 (by omega)
  obtain ⟨L, hL⟩ : ∃ L : Int, L = (lo * S) % 18446744073709551616 := ⟨_, rfl⟩
  have eL : shl .u64 lo s = L := by rw [shl_, w64m, hL]
  have L0 : 0 ≤ L := by rw [hL]; omega
  have L1 : L < 18446744073709551616 := by rw [hL]; omega
  have er : shr .u64 lo (64 - (s : Int)) = lo / T := by
    show lo / 2 ^ min ((64 - (s : Int))).toNat 64 = _
    rw [hT, show min ((64 - (s : Int))).toNat 64 = 64 - s by omega]
  have hdiv : lo * S / 18446744073709551616 = lo / T := by
    rw [← hST, Int.mul_comm lo S]
    exact Int.mul_ediv_mul_of_pos _ _ (by omega)
  have hloS := Int.mul_ediv_add_emod (lo * S) 18446744073709551616
  rw [hdiv, ← hL] at hloS
  have hlT0 : 0 ≤ lo / T := Int.ediv_nonneg l0 (by omega)
  have hlT : lo / T < S := (Int.ediv_lt_iff_lt_mul (by omega)).2 (by rw [hST]; exact l1)
  obtain ⟨u, hu⟩ : ∃ u : Int, u = hi * S + lo / T := ⟨_, rfl⟩
  have eu : Go.bits .or .u64 (hi * S) (lo / T) = u := by
    rw [hu, hS]
    exact or_add h0 (by rw [← hS]; omega) hlT0 (by rw [← hS]; exact hlT) (by omega)
  have hul : u < v := by
    -- hi + 1 ≤ y
    have : (hi + 1) * S ≤ yn * S := Int.mul_le_mul_of_nonneg_right (by omega) (by omega)
    rw [one_more, ← hv] at this
    omega
  have hu0 : 0 ≤ u := by omega
  obtain ⟨H, hH⟩ : ∃ H : Int, H = v / 4294967296 := ⟨_, rfl⟩
  obtain ⟨l, hl⟩ : ∃ l : Int, l = v % 4294967296 := ⟨_, rfl⟩
  have hvs : v = H * 4294967296 + l := by omega
  obtain ⟨n1, hn1⟩ : ∃ n : Int, n = L / 4294967296 := ⟨_, rfl⟩
  obtain ⟨n0, hn0⟩ : ∃ n : Int, n = L % 4294967296 := ⟨_, rfl⟩
  have hLs : L = n1 * 4294967296 + n0 := by omega
  have F1 : Half u H l n1 := ⟨by omega, by omega, by omega, by omega, by omega, by omega, hu0, by omega⟩
  obtain ⟨g1, hr1⟩ := first_guess F1
  obtain ⟨Q1, m1, R1, k1⟩ := loop0 F1 v s n0 2 _ _ g1 (by omega) (by have := g1.r0; omega)
  obtain ⟨q1e, r1e⟩ := right_eq (by omega) R1
  have hQ1 : Q1 < 4294967296 := big_q (h := H) (l := l) (u := u) (n := n1) (by omega) (by omega) R1.1 (by omega)
  rw [← hvs] at r1e q1e
  obtain ⟨u1, hu1⟩ : ∃ u1 : Int, u1 = u * 4294967296 + n1 - Q1 * v := ⟨_, rfl⟩
  rw [← hu1] at r1e
  have u10 : 0 ≤ u1 := by rw [r1e]; exact Int.emod_nonneg _ (by omega)
  have u11 : u1 < v := by rw [r1e]; exact Int.emod_lt_of_pos _ (by omega)
  have F0 : Half u1 H l n0 := ⟨by omega, by omega, by omega, by omega, by omega, by omega, u10, by omega⟩
  obtain ⟨g0, hr0⟩ := first_guess F0
  obtain ⟨Q0, m0, R0, k0⟩ := loop1 F0 v s Q1 2 _ _ g0 (by omega) (by have := g0.r0; omega)
  obtain ⟨q0e, r0e⟩ := right_eq (by omega) R0
  have hQ0 : Q0 < 4294967296 := big_q (h := H) (l := l) (u := u1) (n := n0) (by omega) (by omega) R0.1 (by omega)
  rw [← hvs] at r0e q0e
  obtain ⟨R, hR⟩ : ∃ R : Int, R = u1 * 4294967296 + n0 - Q0 * v := ⟨_, rfl⟩
  rw [← hR] at r0e
  have R00 : 0 ≤ R := by rw [r0e]; exact Int.emod_nonneg _ (by omega)
  have R01 : R < v := by rw [r0e]; exact Int.emod_lt_of_pos _ (by omega)
  have qd1 : IntKind.u64.wrap (Int.tdiv u H) = u / H := by
    rw [Int.tdiv_eq_ediv_of_nonneg hu0]; exact w64 g1.q0 (q_small g1 (by omega) (by omega))
  have qd0 : IntKind.u64.wrap (Int.tdiv u1 H) = u1 / H := by
    rw [Int.tdiv_eq_ediv_of_nonneg u10]; exact w64 g0.q0 (q_small g0 (by omega) (by omega))
  have wq1 : IntKind.u64.wrap (u - IntKind.u64.wrap (u / H * H)) = u - u / H * H := by
    have := g1.r0; have := g1.sum
    have : 0 ≤ u / H * H := Int.mul_nonneg g1.q0 (by omega)
    rw [w64 (x := u / H * H) (by omega) (by omega)]; exact w64 (by omega) (by omega)
  have wq0 : IntKind.u64.wrap (u1 - IntKind.u64.wrap (u1 / H * H)) = u1 - u1 / H * H := by
    have := g0.r0; have := g0.sum
    have : 0 ≤ u1 / H * H := Int.mul_nonneg g0.q0 (by omega)
    rw [w64 (x := u1 / H * H) (by omega) (by omega)]; exact w64 (by omega) (by omega)
  have wu1 : IntKind.u64.wrap (IntKind.u64.wrap (IntKind.u64.wrap (u * 4294967296) + n1) - IntKind.u64.wrap (Q1 * v)) = u1 := by
    simp only [w64m]
    generalize Q1 * v = X at hu1
    omega
  have wR : IntKind.u64.wrap (IntKind.u64.wrap (IntKind.u64.wrap (u1 * 4294967296) + n0) - IntKind.u64.wrap (Q0 * v)) = R := by
    simp only [w64m]
    generalize Q0 * v = X at hR
    omega
  refine ⟨m0 + 1 + m1, ?_⟩
  rw [if_neg (by omega), if_neg (by omega), if_neg hz, hlz]
  simp only [Option.bind_some]
  rw [e1, e2, if_pos (by omega), if_pos (by omega), ev, eh, eL, er, eu, ← hH, if_neg (by omega), and_mask (by omega) hv2, ← hl, ← hn1, and_mask L0 L1, ← hn0, qd1, wq1, k1 (m0 + 1)]
  simp only [bits_Div64.j2]
  rw [if_neg (by omega), wu1, qd0, wq0, show m0 = 0 + m0 by omega, k0 0]
  unfold outOf
  have q0nn := R0.2.2
  have q1nn := R1.2.2
  rw [if_pos (by omega), wR, w64 (x := Q1 * 4294967296) (by omega) (by omega), w64 (x := Q1 * 4294967296 + Q0) (by omega) (by omega)]
  rw [shr_]
  -- the whole, times S
  obtain ⟨P, hP⟩ : ∃ P : Int, P = hi * 18446744073709551616 + lo := ⟨_, rfl⟩
  rw [← hP]
  have hPS : P * S = (Q1 * 4294967296 + Q0) * (yn * S) + R := by
    have a1 : P * S = hi * S * 18446744073709551616 + lo * S := by rw [hP, Int.add_mul, Int.mul_right_comm]
    have a2 : (Q1 * 4294967296 + Q0) * v = Q1 * v * 4294967296 + Q0 * v := by rw [Int.add_mul, Int.mul_right_comm]
    rw [← hv, a1, a2]
    clear a1 a2 hP
    generalize Q1 * v = X at *
    generalize Q0 * v = Y at *
    generalize hi * S = Z at *
    generalize lo * S = W at *
    omega
  have hR2 : R = (P - (Q1 * 4294967296 + Q0) * yn) * S := by
    rw [Int.sub_mul, hPS, Int.mul_assoc]; omega
  have hRS : R / S = P - (Q1 * 4294967296 + Q0) * yn := by rw [hR2]; exact Int.mul_ediv_cancel _ (by omega)
  have hr0' : 0 ≤ P - (Q1 * 4294967296 + Q0) * yn := by rw [← hRS]; exact Int.ediv_nonneg R00 (by omega)
  have hr1' : P - (Q1 * 4294967296 + Q0) * yn < yn := by
    rw [← hRS]; exact (Int.ediv_lt_iff_lt_mul (by omega)).2 (by rw [← hv]; exact R01)
  have hq : (Q1 * 4294967296 + Q0) = P / yn := by
    have a1 : (Q1 * 4294967296 + Q0) ≤ P / yn := (Int.le_ediv_iff_mul_le (by omega)).2 (by omega)
    have a2 : P / yn < (Q1 * 4294967296 + Q0) + 1 := (Int.ediv_lt_iff_lt_mul (by omega)).2 (by rw [one_more]; omega)
    omega
  have e := Int.mul_ediv_add_emod P yn
  rw [hRS, hq]
  rw [hq] at hr0'
  congr 2
  rw [Int.mul_comm] at e
  omega
end Go.Proofs.YtccicjiadahmnaaDoor.DivP
