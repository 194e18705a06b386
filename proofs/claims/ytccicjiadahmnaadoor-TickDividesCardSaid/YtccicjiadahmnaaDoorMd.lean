/- A product, divided: the parts, and the reckoning. -/
import Derived.Test.YtccicjiadahmnaaDoorSubs
import Derived.Test.YtccicjiadahmnaaDoorDivR
namespace Go.Proofs.YtccicjiadahmnaaDoor.Hd
set_option linter.unusedVariables false
set_option linter.unusedSimpArgs false
open Go.RowKit Go.Proofs.YtccicjiadahmnaaDoorW.PrintWords

def absI (n : Int) : Int := if n < 0 then -n else n
theorem absI_range {n : Int} (h : inR n) : 0 ≤ absI n ∧ absI n ≤ 9223372036854775808 := by unfold absI inR at *; split <;> omega
theorem size_ok (n : Int) (h : inR n) (w : World) : Calls Tryd.prog 40 #[.int .i64 n] w fun e w' => e = .returned (.tuple #[.int .u64 (absI n), .bool (decide (n < 0))]) ∧ w = w' := by
  by_cases hn : n < 0
  · have e : absI n = -n := by unfold absI; rw [if_pos hn]
    have hw : IntKind.u64.wrap (-IntKind.u64.wrap n) = -n := by rw [DivP.w64m, DivP.w64m]; unfold inR at h; omega
    rw [e, decide_eq_true hn]
    obtain ⟨M, hM⟩ : ∃ M, M = -n := ⟨_, rfl⟩
    rw [← hM] at hw ⊢
    clear e hM
    go_enter Tryd.func40, Tryd.ntmps40
    go_wp2
    go_ret2
    exact ⟨rfl, rfl⟩
  · have e : absI n = n := by unfold absI; rw [if_neg hn]
    have hw : IntKind.u64.wrap n = n := by rw [DivP.w64m]; unfold inR at h; omega
    rw [e, decide_eq_false hn]
    clear e
    go_enter Tryd.func40, Tryd.ntmps40
    go_wp2
    go_ret2
    exact ⟨rfl, rfl⟩
theorem signed_neg (m : Int) (h0 : 0 ≤ m) (h1 : m ≤ 9223372036854775808) (w : World) : Calls Tryd.prog 43 #[.int .u64 m, .bool true] w fun e w' => e = .returned (.int .i64 (-m)) ∧ w = w' := by
  have hw : wrap64 (-(wrap64 m)) = -m := by simp [wrap64]; omega
  obtain ⟨M, hM⟩ : ∃ M, M = -m := ⟨_, rfl⟩
  rw [← hM] at hw ⊢
  clear hM
  go_enter Tryd.func43, Tryd.ntmps43
  go_wp2
  go_ret
  first | exact ⟨rfl, rfl⟩ | exact ⟨congrArg (fun x => Ending.returned (.int .i64 x)) hw, rfl⟩
theorem signed_pos (m : Int) (h0 : 0 ≤ m) (h1 : m < 9223372036854775808) (w : World) : Calls Tryd.prog 43 #[.int .u64 m, .bool false] w fun e w' => e = .returned (.int .i64 m) ∧ w = w' := by
  have hw : wrap64 m = m := by simp [wrap64]; omega
  go_enter Tryd.func43, Tryd.ntmps43
  go_wp2
  go_ret
  first | exact ⟨rfl, rfl⟩ | exact ⟨congrArg (fun x => Ending.returned (.int .i64 x)) hw, rfl⟩
theorem signed_no (m : Int) (b : Bool) (h0 : 0 ≤ m) (h : if b then 9223372036854775808 < m else 9223372036854775808 ≤ m) (w : World) : Calls Tryd.prog 43 #[.int .u64 m, .bool b] w fun e w' => e = .panicked [{ v := beyond, recovered := false }] ∧ w = w' := by
  cases b
  · simp only [Bool.false_eq_true, if_false] at h
    have h1 : ¬ m < 9223372036854775808 := by omega
    clear h
    go_enter Tryd.func43, Tryd.ntmps43
    go_wp2
    exact ⟨rfl, rfl, rfl⟩
  · simp only [if_true] at h
    have h1 : ¬ m ≤ 9223372036854775808 := by omega
    clear h
    go_enter Tryd.func43, Tryd.ntmps43
    go_wp2
    exact ⟨rfl, rfl, rfl⟩
theorem mul_ok (x y : Int) (x0 : 0 ≤ x) (x1 : x < 18446744073709551616) (y0 : 0 ≤ y) (y1 : y < 18446744073709551616) (w : World) :
    Calls Tryd.prog 41 #[.int .u64 x, .int .u64 y] w fun e w' => e = .returned (.tuple #[.int .u64 (x * y / 18446744073709551616), .int .u64 (x * y % 18446744073709551616)]) ∧ w = w' := by
  obtain ⟨a, rfl⟩ := Int.eq_ofNat_of_zero_le x0
  obtain ⟨b, rfl⟩ := Int.eq_ofNat_of_zero_le y0
  refine (Tryd.bits_Mul64 a b (by omega) (by omega) w).mono fun e w' ⟨he, hw⟩ => ⟨?_, hw.symm⟩
  rw [he, ← Int.natCast_mul]
  rfl
theorem div_calls (hi lo y : Int) (h0 : 0 ≤ hi) (hy : hi < y) (y1 : y < 18446744073709551616) (l0 : 0 ≤ lo) (l1 : lo < 18446744073709551616) (w : World) :
    Calls Tryd.prog 42 #[.int .u64 hi, .int .u64 lo, .int .u64 y] w fun e w' => e = .returned (.tuple #[.int .u64 ((hi * 18446744073709551616 + lo) / y), .int .u64 ((hi * 18446744073709551616 + lo) % y)]) ∧ Drawn0 w w' := by
  obtain ⟨k, hk⟩ := DivP.div_ok hi lo y h0 hy y1 l0 l1
  exact D.bits_Div64.calls k _ _ _ _ _ w hk

/-- A product, divided downwards. -/
def mdv (a b c : Int) : Int := a * b / c
theorem absI_mul (a b : Int) : absI a * absI b = if (decide (a < 0) == decide (b < 0)) then a * b else -(a * b) := by
  unfold absI
  by_cases ha : a < 0 <;> by_cases hb : b < 0 <;> simp [ha, hb, Int.neg_mul, Int.mul_neg]
/-- The quotient, out of sizes. -/
theorem mdv_sign (a b c : Int) (hc : 0 < c) : mdv a b c = if (decide (a < 0) == decide (b < 0)) then absI a * absI b / c else if absI a * absI b % c = 0 then -(absI a * absI b / c) else -(absI a * absI b / c) - 1 := by
  rw [absI_mul]
  unfold mdv
  by_cases h : (decide (a < 0) == decide (b < 0)) = true
  · rw [if_pos h, if_pos h]
  · rw [if_neg h, if_neg h]
    generalize a * b = X
    have e1 := Int.mul_ediv_add_emod X c
    have e2 := Int.mul_ediv_add_emod (-X) c
    have m1 := Int.emod_nonneg X (show c ≠ 0 by omega)
    have m2 := Int.emod_lt_of_pos X hc
    have m3 := Int.emod_nonneg (-X) (show c ≠ 0 by omega)
    have m4 := Int.emod_lt_of_pos (-X) hc
    -- c * (X / c + -X / c) = - (r1 + r2)
    have e3 : c * (X / c + -X / c) = -(X % c + -X % c) := by rw [Int.mul_add]; omega
    generalize X / c = q at *
    generalize -X / c = p at *
    generalize X % c = r at *
    generalize -X % c = s at *
    by_cases hs : s = 0
    · rw [if_pos hs]
      have : -c < c * (q + p) ∧ c * (q + p) ≤ 0 := by omega
      have hz : q + p = 0 := by
        rcases Int.lt_or_le (q + p) 0 with h1 | h1
        · have h2 : c * (q + p) ≤ c * (-1) := Int.mul_le_mul_of_nonneg_left (by omega) (by omega)
          omega
        · rcases Int.lt_or_le 0 (q + p) with h2 | h2
          · have h3 : c * 1 ≤ c * (q + p) := Int.mul_le_mul_of_nonneg_left (by omega) (by omega)
            omega
          · omega
      omega
    · rw [if_neg hs]
      have : -(2 * c) < c * (q + p) ∧ c * (q + p) < 0 := by omega
      have hz : q + p = -1 := by
        rcases Int.lt_or_le (q + p) (-1) with h1 | h1
        · have h2 : c * (q + p) ≤ c * (-2) := Int.mul_le_mul_of_nonneg_left (by omega) (by omega)
          omega
        · rcases Int.lt_or_le (-1) (q + p) with h2 | h2
          · have h3 : c * 0 ≤ c * (q + p) := Int.mul_le_mul_of_nonneg_left (by omega) (by omega)
            omega
          · omega
      omega
end Go.Proofs.YtccicjiadahmnaaDoor.Hd
