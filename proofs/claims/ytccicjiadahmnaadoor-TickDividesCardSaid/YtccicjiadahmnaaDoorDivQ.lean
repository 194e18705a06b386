/- The two digits of a quotient, as the library's loops find them. -/
import Derived.Test.YtccicjiadahmnaaDoorDivP
namespace Go.Proofs.YtccicjiadahmnaaDoor.DivP
open Go.RowKit Go.Proofs.YtccicjiadahmnaaDoor Go.Proofs.YtccicjiadahmnaaDoor.D Go.Proofs.YtccicjiadahmnaaDoorW.PrintWords Go.Proofs.YtccicjiadahmnaaDoorW.PrintLast Go.Proofs.YtccicjiadahmnaaDoorW.PrintMore
set_option linter.unusedVariables false
variable {u h l n q r : Int}

theorem mul_small {a b : Int} (a0 : 0 ≤ a) (a1 : a < 4294967296) (b0 : 0 ≤ b) (b1 : b < 4294967296) : 0 ≤ a * b ∧ a * b ≤ 18446744065119617025 :=
  ⟨Int.mul_nonneg a0 b0, by
    have h1 : a * b ≤ 4294967295 * b := Int.mul_le_mul_of_nonneg_right (by omega) b0
    omega⟩
/-- Behind a rest of 2^32 or more the guess is right. -/
theorem right_far (g : Guess u h l n q r) (hh : 2147483648 ≤ h) (l0 : 0 ≤ l) (l1 : l < 4294967296) (n0 : 0 ≤ n) (hu : u < h * 4294967296 + l) (hr : 4294967296 ≤ r) : Right u h l n q := by
  refine right_of g hh l0 ?_ (by omega)
  have hq : q < 4294967296 := by
    rcases Int.lt_or_le q 4294967296 with hlt | hge
    · exact hlt
    · have h1 : 4294967296 * h ≤ q * h := Int.mul_le_mul_of_nonneg_right hge (by omega)
      have hs := g.sum
      omega
  have h2 := mul_small g.q0 hq l0 l1
  omega
theorem q_small (g : Guess u h l n q r) (hh : 2147483648 ≤ h) (hu : u < 18446744073709551616) : q < 18446744073709551616 := by
  have h1 : q * 1 ≤ q * h := Int.mul_le_mul_of_nonneg_left (by omega) g.q0
  have hs := g.sum
  have := g.r0
  omega

structure Half (u h l n : Int) : Prop where
  hh : 2147483648 ≤ h
  h1 : h < 4294967296
  l0 : 0 ≤ l
  l1 : l < 4294967296
  n0 : 0 ≤ n
  n1 : n < 4294967296
  u0 : 0 ≤ u
  uv : u < h * 4294967296 + l

theorem loop0 (H : Half u h l n) (v s n2 : Int) (d : Nat) : ∀ q r, Guess u h l n q r → r < 4294967296 → 4294967296 ≤ r + d * 2147483648 →
    ∃ Q m, Right u h l n Q ∧ ∀ k, bits_Div64.l0 (k + m) v s h l u n n2 q r = bits_Div64.j2 k v s h l u n n2 Q := by
  obtain ⟨hh, h1, l0, l1, n0, n1, u0, uv⟩ := H
  induction d with
  | zero => intro q r g hr hd; omega
  | succ d ih =>
    intro q r g hr hd
    have r0 := g.r0
    have q0 := g.q0
    have qs := q_small g hh (by omega)
    have e1 : IntKind.u64.wrap (r + h) = r + h := w64 (by omega) (by omega)
    have e3 : IntKind.u64.wrap (IntKind.u64.wrap (4294967296 * r) + n) = 4294967296 * r + n := by rw [w64 (x := 4294967296 * r) (by omega) (by omega)]; exact w64 (by omega) (by omega)
    by_cases hb : 4294967296 ≤ q ∨ 4294967296 * r + n < q * l
    · obtain ⟨g2, hq1⟩ := less g uv n1 (by omega) hh l0 hb
      have e2 : IntKind.u64.wrap (q - 1) = q - 1 := w64 (by omega) (by omega)
      have hstep : ∀ k, bits_Div64.l0 (k + 2) v s h l u n n2 q r = if (r + h) ≥ 4294967296 then bits_Div64.j2 k v s h l u n n2 (q - 1) else bits_Div64.l0 k v s h l u n n2 (q - 1) (r + h) := by
        intro k
        simp only [bits_Div64.l0]
        by_cases hq : q ≥ 4294967296
        · rw [if_pos hq]; simp only [bits_Div64.j1]; rw [if_pos trivial, e1, e2]
        · rw [if_neg hq]
          have hm := mul_small q0 (show q < 4294967296 by omega) l0 l1
          have e4 : IntKind.u64.wrap (q * l) = q * l := w64 hm.1 (by omega)
          rw [e3, e4, decide_eq_true (show q * l > 4294967296 * r + n by omega)]
          simp only [bits_Div64.j1]; rw [if_pos trivial, e1, e2]
      by_cases hr2 : 4294967296 ≤ r + h
      · exact ⟨q - 1, 2, right_far g2 hh l0 l1 n0 uv hr2, fun k => by rw [hstep k, if_pos hr2]⟩
      · obtain ⟨Q, m, hR, hm⟩ := ih (q - 1) (r + h) g2 (by omega) (by omega)
        exact ⟨Q, m + 2, hR, fun k => by rw [show k + (m + 2) = k + m + 2 by omega, hstep (k + m), if_neg (by omega)]; exact hm k⟩
    · have hm := mul_small q0 (show q < 4294967296 by omega) l0 l1
      have e4 : IntKind.u64.wrap (q * l) = q * l := w64 hm.1 (by omega)
      refine ⟨q, 2, right_of g hh l0 (by omega) (by omega), fun k => ?_⟩
      simp only [bits_Div64.l0]
      rw [if_neg (by omega), e3, e4, decide_eq_false (show ¬ q * l > 4294967296 * r + n by omega)]
      simp only [bits_Div64.j1]
      rw [if_neg (by decide)]

def outOf (v s u n q1 Q : Int) : Option (Int × Int) := if 0 ≤ s then some (IntKind.u64.wrap (IntKind.u64.wrap (q1 * 4294967296) + Q), shr .u64 (IntKind.u64.wrap (IntKind.u64.wrap (IntKind.u64.wrap (u * 4294967296) + n) - IntKind.u64.wrap (Q * v))) s) else none
theorem loop1 (H : Half u h l n) (v s q1 : Int) (d : Nat) : ∀ q r, Guess u h l n q r → r < 4294967296 → 4294967296 ≤ r + d * 2147483648 →
    ∃ Q m, Right u h l n Q ∧ ∀ k, bits_Div64.l1 (k + m) v s h l n q1 r u q = outOf v s u n q1 Q := by
  obtain ⟨hh, h1, l0, l1, n0, n1, u0, uv⟩ := H
  induction d with
  | zero => intro q r g hr hd; omega
  | succ d ih =>
    intro q r g hr hd
    have r0 := g.r0
    have q0 := g.q0
    have qs := q_small g hh (by omega)
    have e1 : IntKind.u64.wrap (r + h) = r + h := w64 (by omega) (by omega)
    have e3 : IntKind.u64.wrap (IntKind.u64.wrap (4294967296 * r) + n) = 4294967296 * r + n := by rw [w64 (x := 4294967296 * r) (by omega) (by omega)]; exact w64 (by omega) (by omega)
    by_cases hb : 4294967296 ≤ q ∨ 4294967296 * r + n < q * l
    · obtain ⟨g2, hq1⟩ := less g uv n1 (by omega) hh l0 hb
      have e2 : IntKind.u64.wrap (q - 1) = q - 1 := w64 (by omega) (by omega)
      have hstep : ∀ k, bits_Div64.l1 (k + 2) v s h l n q1 r u q = if (r + h) ≥ 4294967296 then outOf v s u n q1 (q - 1) else bits_Div64.l1 k v s h l n q1 (r + h) u (q - 1) := by
        intro k
        simp only [bits_Div64.l1]
        by_cases hq : q ≥ 4294967296
        · rw [if_pos hq]; simp only [bits_Div64.j4]; rw [if_pos trivial, e1, e2]; rfl
        · rw [if_neg hq]
          have hm := mul_small q0 (show q < 4294967296 by omega) l0 l1
          have e4 : IntKind.u64.wrap (q * l) = q * l := w64 hm.1 (by omega)
          rw [e3, e4, decide_eq_true (show q * l > 4294967296 * r + n by omega)]
          simp only [bits_Div64.j4]; rw [if_pos trivial, e1, e2]; rfl
      by_cases hr2 : 4294967296 ≤ r + h
      · exact ⟨q - 1, 2, right_far g2 hh l0 l1 n0 uv hr2, fun k => by rw [hstep k, if_pos hr2]⟩
      · obtain ⟨Q, m, hR, hm⟩ := ih (q - 1) (r + h) g2 (by omega) (by omega)
        exact ⟨Q, m + 2, hR, fun k => by rw [show k + (m + 2) = k + m + 2 by omega, hstep (k + m), if_neg (by omega)]; exact hm k⟩
    · have hm := mul_small q0 (show q < 4294967296 by omega) l0 l1
      have e4 : IntKind.u64.wrap (q * l) = q * l := w64 hm.1 (by omega)
      refine ⟨q, 2, right_of g hh l0 (by omega) (by omega), fun k => ?_⟩
      simp only [bits_Div64.l1]
      rw [if_neg (by omega), e3, e4, decide_eq_false (show ¬ q * l > 4294967296 * r + n by omega)]
      simp only [bits_Div64.j4]
      rw [if_neg (by decide)]; rfl

/-- The first guess. -/
theorem first_guess (H : Half u h l n) : Guess u h l n (u / h) (u - u / h * h) ∧ u - u / h * h < h := by
  obtain ⟨hh, h1, l0, l1, n0, n1, u0, uv⟩ := H
  have e := Int.mul_ediv_add_emod u h
  have m0 := Int.emod_nonneg u (show h ≠ 0 by omega)
  have m1 := Int.emod_lt_of_pos u (show 0 < h by omega)
  rw [Int.mul_comm] at e
  refine ⟨⟨by omega, Int.ediv_nonneg u0 (by omega), by omega, ?_⟩, by omega⟩
  intro t t0 ht
  rw [parts] at ht
  have htl : 0 ≤ t * l := Int.mul_nonneg t0 l0
  rcases Int.lt_or_le (u / h) t with hlt | hge
  · have h2 : (u / h + 1) * h ≤ t * h := Int.mul_le_mul_of_nonneg_right (by omega) (by omega)
    rw [one_more] at h2
    omega
  · exact hge
/-- The right digit is the quotient. -/
theorem right_eq (hv : 0 < h * 4294967296 + l) (hR : Right u h l n q) : q = (u * 4294967296 + n) / (h * 4294967296 + l) ∧ u * 4294967296 + n - q * (h * 4294967296 + l) = (u * 4294967296 + n) % (h * 4294967296 + l) := by
  obtain ⟨a, b, c⟩ := hR
  generalize h * 4294967296 + l = v at *
  generalize u * 4294967296 + n = N at *
  have h1 : q ≤ N / v := (Int.le_ediv_iff_mul_le hv).2 a
  have h2 : N / v < q + 1 := (Int.ediv_lt_iff_lt_mul hv).2 b
  have h3 : q = N / v := by omega
  refine ⟨h3, ?_⟩
  have e := Int.mul_ediv_add_emod N v
  rw [← h3, Int.mul_comm] at e
  omega
end Go.Proofs.YtccicjiadahmnaaDoor.DivP
