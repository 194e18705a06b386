/- The nearest whole number, walked. -/
import Derived.Test.YtdkdmclbhcbfeaaDoorB
import Derived.Test.YtdkdmclbhcbfeaaDoorWr
import Derived.Below
namespace Go.Proofs.YtdkdmclbhcbfeaaDoor.Nu
set_option linter.unusedVariables false
set_option linter.unusedSimpArgs false
open Go.RowKit Go.Proofs.YtdkdmclbhcbfeaaDoor.Fl
theorem round_run (x : Nat) (w : World) : (callFunc 43 #[.float .f64 x]).run Tryd.prog w = ((Go.Extern.MathFloor.toIntegral "math.RoundToEven" .even #[.float .f64 x]) >>= fun v => pure (.value v)).run Tryd.prog w := by kernel_rfl
theorem integral_num (n : String) (way : Ieee.Toward) (x : Nat) (s : Bool) (m : Nat) (p : Int) (e : FloatKind.f64.decode x = .number s m p) : Go.Extern.MathFloor.toIntegral n way #[.float .f64 x] = pure (.float .f64 (FloatKind.f64.encode ((Ieee.Datum.number s m p).integral way))) := by
  conv => lhs; whnf
  rw [e]
theorem integral_inf (n : String) (way : Ieee.Toward) (x : Nat) (s : Bool) (e : FloatKind.f64.decode x = .infinity s) : Go.Extern.MathFloor.toIntegral n way #[.float .f64 x] = pure (.float .f64 (FloatKind.f64.encode (.infinity s))) := by
  conv => lhs; whnf
  rw [e]
  rfl
theorem round_fin (x : Nat) (hx : rung x < 9218868437227405312) : ∃ R, (∀ w : World, (callFunc 43 #[.float .f64 x]).run Tryd.prog w = .ok (.value (.float .f64 R)) w) ∧ sg R = sg x ∧ rung R < 9218868437227405312 ∧ nan R = false ∧ R < 18446744073709551616 ∧ V (rung R) = wholeN x * U := by
  obtain ⟨R, e, h⟩ := whole_word x hx
  refine ⟨R, fun w => ?_, h⟩
  obtain ⟨m, p, e1, _⟩ := read_fin hx
  rw [round_run, integral_num _ _ _ _ _ _ e1]
  rw [e1] at e
  have e' : FloatKind.f64.encode ((Ieee.Datum.number (sg x) m (-1074 + (p : Int))).integral .even) = R := e
  rw [e']
  rfl
theorem round_inf (x : Nat) (h64 : x < 18446744073709551616) (hx : rung x = 9218868437227405312) (w : World) : (callFunc 43 #[.float .f64 x]).run Tryd.prog w = .ok (.value (.float .f64 x)) w := by
  rw [round_run, integral_inf _ _ _ _ (read_inf hx)]
  have e : FloatKind.f64.encode (.infinity (sg x)) = x := by
    show Ieee.double.word (sg x) Ieee.double.infRung = x
    unfold Ieee.Format.word
    rw [sw, ir, sg_eq h64]
    unfold rung at hx
    by_cases c : 9223372036854775808 ≤ (x : Int)
    · rw [if_pos (by rw [beq_iff_eq]; omega)]; omega
    · rw [if_neg (by rw [beq_iff_eq]; omega)]; omega
  rw [e]
  rfl
/-- the nearest whole number, and what is told of it -/
def intZ (b : Nat) : Int := if sg b = true then -(wholeN b : Int) else (wholeN b : Int)
def intV (b : Nat) : Int × Int := if nan b = true then (0, 3) else if rung b = 9218868437227405312 then (0, 4) else if intZ b < -9223372036854775808 ∨ 9223372036854775808 ≤ intZ b then (0, 4) else (intZ b, 0)
theorem val_R {R x : Nat} (h1 : sg R = sg x) (h2 : V (rung R) = wholeN x * U) : val R = intZ x * (U : Int) := by
  unfold val intZ
  rw [h1, h2]
  split
  · rw [Int.neg_mul, Int.natCast_mul]
  · rw [Int.natCast_mul]
theorem V_of {r k j : Nat} (h : ¬ r < 4503599627370496) (hk : r / 4503599627370496 - 1 = k + j) : V r = (4503599627370496 + r % 4503599627370496) * 2 ^ k * twos j := by
  unfold V
  rw [if_neg h, hk, twos_up, ← Nat.mul_assoc]
theorem V_c : V 4890909195324358656 = 9223372036854775808 * U := by
  have h := V_of (r := 4890909195324358656) (k := 11) (j := 1074) (by decide) (by decide)
  rw [show (4503599627370496 + 4890909195324358656 % 4503599627370496) * 2 ^ 11 = 9223372036854775808 by decide] at h
  have hU : U = twos 1074 := by unfold U; rfl
  rw [hU]
  generalize twos 1074 = X at h ⊢
  exact h
theorem val_lo : val 14114281232179134464 = -9223372036854775808 * (U : Int) := by
  unfold val
  have e : rung 14114281232179134464 = 4890909195324358656 := by decide
  rw [if_pos (by decide), e, V_c, Int.natCast_mul, Int.neg_mul]
  rfl
theorem val_hi : val 4890909195324358656 = 9223372036854775808 * (U : Int) := by
  unfold val
  have e : rung 4890909195324358656 = 4890909195324358656 := by decide
  rw [if_neg (by decide), e, V_c, Int.natCast_mul]
  rfl
theorem lo_order {R : Nat} (h : nan R = false) {z : Int} (hv : val R = z * (U : Int)) : (FloatKind.f64.format.order R 14114281232179134464 == some Ordering.lt) = decide (z < -9223372036854775808) := by
  have e := ltF_eq (b := 14114281232179134464) h (by decide)
  show ltF R 14114281232179134464 = _
  have hU : (0 : Int) < (U : Int) := by have := U_pos; omega
  rw [e, hv, val_lo]
  apply decide_eq_decide.2
  exact ⟨fun h => Int.lt_of_mul_lt_mul_right h (Int.le_of_lt hU), fun h => Int.mul_lt_mul_of_pos_right h hU⟩
theorem hi_gt {R : Nat} (h : nan R = false) {z : Int} (hv : val R = z * (U : Int)) : (FloatKind.f64.format.order R 4890909195324358656 == some Ordering.gt) = decide (9223372036854775808 < z) := by
  have e := gtF_eq (b := 4890909195324358656) h (by decide)
  show gtF R 4890909195324358656 = _
  have hU : (0 : Int) < (U : Int) := by have := U_pos; omega
  rw [e, hv, val_hi]
  apply decide_eq_decide.2
  exact ⟨fun h => Int.lt_of_mul_lt_mul_right h (Int.le_of_lt hU), fun h => Int.mul_lt_mul_of_pos_right h hU⟩
theorem hi_eq {R : Nat} (h : nan R = false) {z : Int} (hv : val R = z * (U : Int)) : (FloatKind.f64.format.order R 4890909195324358656 == some Ordering.eq) = decide (z = 9223372036854775808) := by
  show (Ieee.double.order R 4890909195324358656 == some Ordering.eq) = _
  have hU : (0 : Int) < (U : Int) := by have := U_pos; omega
  rw [order_eq _ _ h (by decide), hv, val_hi]
  generalize (U : Int) = X at hU
  by_cases c : z = 9223372036854775808
  · subst c; rw [c_eq, decide_eq_true rfl]; rfl
  · rw [decide_eq_false c]
    rcases Int.lt_trichotomy z 9223372036854775808 with h1 | h1 | h1
    · rw [c_lt (Int.mul_lt_mul_of_pos_right h1 hU)]; rfl
    · exact absurd h1 c
    · rw [c_gt (Int.mul_lt_mul_of_pos_right h1 hU)]; rfl
theorem toInt_R {R x : Nat} (hR : rung R < 9218868437227405312) (h1 : sg R = sg x) (h2 : V (rung R) = wholeN x * U) (hz : -9223372036854775808 ≤ intZ x ∧ intZ x < 9223372036854775808) (w : World) :
    (Go.convert 22 2 (.float .f64 R)).run Tryd.prog w = .ok (.int .i64 (intZ x)) w := by
  have e := toInt_zero R hR
  rw [h1, h2, Nat.mul_div_cancel _ U_pos] at e
  have e' : (FloatKind.f64.decode R).toInt .zero = some (intZ x) := e
  refine run_convert_float_int w 22 2 .f64 .i64 R _ (by rw [Tryd.underlying22]; rfl) Tryd.underlying2 ?_
  unfold floatToIntVal
  rw [e']
  show (if _ ∧ _ then _ else _) = _
  rw [if_pos ⟨by have : IntKind.i64.min = -9223372036854775808 := (by decide); omega, by have : IntKind.i64.max = 9223372036854775807 := (by decide); omega⟩]
set_option maxRecDepth 100000 in
theorem int_calls (x : Nat) (h64 : x < 18446744073709551616) (w : World) : Calls Tryd.prog 29 #[.float .f64 x] w fun e w' => e = .returned (.tuple #[.int .i64 (intV x).1, .int .i64 (intV x).2]) ∧ w = w' := by
  have H := Lib.hid (fun w => isnan_calls x w)
  unfold intV
  cases hn : nan x with
  | true =>
    rw [hn] at H
    clear hn
    go_enter Tryd.func29, Tryd.ntmps29
    go_wp2_with (go_at_call 37; refine (H.out _).mono ?_; rintro e w' ⟨rfl, rfl⟩)
    go_ret2
    exact ⟨by simp, rfl⟩
  | false =>
    rw [hn] at H
    have hle : rung x ≤ 9218868437227405312 := by have := of_decide_eq_false hn; omega
    rw [if_neg (by decide)]
    by_cases ci : rung x = 9218868437227405312
    · rw [if_pos ci]
      have hrun := round_inf x h64 ci
      have hv : val x = if sg x = true then -(V 9218868437227405312 : Int) else V 9218868437227405312 := by unfold val; rw [ci]
      have hb : V 4890909195324358656 < V 9218868437227405312 := V_mono (by decide)
      have vl : val 14114281232179134464 = -(V 4890909195324358656 : Int) := by
        unfold val
        have e : rung 14114281232179134464 = 4890909195324358656 := by decide
        rw [if_pos (by decide), e]
      have vh : val 4890909195324358656 = (V 4890909195324358656 : Int) := by
        unfold val
        have e : rung 4890909195324358656 = 4890909195324358656 := by decide
        rw [if_neg (by decide), e]
      have e1 := ltF_eq (b := 14114281232179134464) hn (by decide)
      have e2 := gtF_eq (b := 4890909195324358656) hn (by decide)
      rw [hv, vl] at e1
      rw [hv, vh] at e2
      generalize V 4890909195324358656 = v1 at hb e1 e2
      generalize V 9218868437227405312 = v2 at hb e1 e2
      cases hs : sg x with
      | true =>
        rw [hs, if_pos rfl, decide_eq_true (by omega)] at e1
        have o1 : (FloatKind.f64.format.order x 14114281232179134464 == some Ordering.lt) = true := e1
        clear e1 e2 hv vl vh hb ci hle hn hs
        go_enter Tryd.func29, Tryd.ntmps29
        go_wp2_with (go_at_call 37; refine (H.out _).mono ?_; rintro e w' ⟨rfl, rfl⟩)
        go_ret2
        exact ⟨by first | rfl | simp, rfl⟩
      | false =>
        rw [hs, if_neg (by decide), decide_eq_false (by omega)] at e1
        rw [hs, if_neg (by decide), decide_eq_true (by omega)] at e2
        have o1 : (FloatKind.f64.format.order x 14114281232179134464 == some Ordering.lt) = false := e1
        have o2 : (FloatKind.f64.format.order x 4890909195324358656 == some Ordering.gt) = true := e2
        clear e1 e2 hv vl vh hb ci hle hn hs
        go_enter Tryd.func29, Tryd.ntmps29
        go_wp2_with (go_at_call 37; refine (H.out _).mono ?_; rintro e w' ⟨rfl, rfl⟩)
        go_ret2
        exact ⟨by first | rfl | simp, rfl⟩
    · rw [if_neg ci]
      obtain ⟨R, hrun, g1, g2, g3, g4, g5⟩ := round_fin x (by omega)
      have hv := val_R g1 g5
      have o1 := lo_order g3 hv
      by_cases c1 : intZ x < -9223372036854775808
      · rw [if_pos (.inl c1)]
        rw [decide_eq_true c1] at o1
        clear ci hle hn hv
        go_enter Tryd.func29, Tryd.ntmps29
        go_wp2_with (go_at_call 37; refine (H.out _).mono ?_; rintro e w' ⟨rfl, rfl⟩)
        go_ret2
        exact ⟨by simp, rfl⟩
      · rw [decide_eq_false c1] at o1
        have o2 := hi_gt g3 hv
        have o3 := hi_eq g3 hv
        by_cases c2 : 9223372036854775808 < intZ x
        · rw [if_pos (.inr (by omega))]
          rw [decide_eq_true c2] at o2
          clear ci hle hn hv c1
          go_enter Tryd.func29, Tryd.ntmps29
          go_wp2_with (go_at_call 37; refine (H.out _).mono ?_; rintro e w' ⟨rfl, rfl⟩)
          go_ret2
          exact ⟨by first | rfl | simp, rfl⟩
        · rw [decide_eq_false c2] at o2
          by_cases c3 : intZ x = 9223372036854775808
          · rw [if_pos (.inr (by omega))]
            rw [decide_eq_true c3] at o3
            clear c2 c3
            clear ci hle hn hv c1
            go_enter Tryd.func29, Tryd.ntmps29
            go_wp2_with (go_at_call 37; refine (H.out _).mono ?_; rintro e w' ⟨rfl, rfl⟩)
            go_ret2
            exact ⟨by first | rfl | simp, rfl⟩
          · rw [if_neg (by omega)]
            rw [decide_eq_false c3] at o3
            have hc := fun w => toInt_R g2 g1 g5 (by omega) w
            clear c2 c3
            clear ci hle hn hv c1
            go_enter Tryd.func29, Tryd.ntmps29
            go_wp2_with (go_at_call 37; refine (H.out _).mono ?_; rintro e w' ⟨rfl, rfl⟩)
            go_ret2
            exact ⟨by first | rfl | simp, rfl⟩
end Go.Proofs.YtdkdmclbhcbfeaaDoor.Nu
