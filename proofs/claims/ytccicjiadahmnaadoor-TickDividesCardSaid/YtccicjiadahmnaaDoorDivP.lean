/- A number of 128 bits divided by one of 64: the library's text answers quotient and rest. -/
import Derived.Test.YtccicjiadahmnaaDoorD1
import Derived.Laws.BitsAllLaws
namespace Go.Proofs.YtccicjiadahmnaaDoor.DivP
open Go.RowKit Go.Proofs.YtccicjiadahmnaaDoor Go.Proofs.YtccicjiadahmnaaDoor.D Go.Proofs.YtccicjiadahmnaaDoorW.PrintWords Go.Proofs.YtccicjiadahmnaaDoorW.PrintLast Go.Proofs.YtccicjiadahmnaaDoorW.PrintMore
set_option linter.unusedVariables false

theorem w64 {x : Int} (h0 : 0 ≤ x) (h1 : x < 18446744073709551616) : IntKind.u64.wrap x = x := by
  simp [IntKind.wrap, IntKind.signed, IntKind.bits]; omega
theorem w64m (x : Int) : IntKind.u64.wrap x = x % 18446744073709551616 := by
  simp [IntKind.wrap, IntKind.signed, IntKind.bits]
/-- q times a divisor of two halves. -/
theorem parts (q h l : Int) : q * (h * 4294967296 + l) = q * h * 4294967296 + q * l := by
  rw [Int.mul_add, Int.mul_assoc]
/-- What is still true of a guessed digit: not below the true one. -/
structure Guess (u h l n q r : Int) : Prop where
  sum : u = q * h + r
  q0 : 0 ≤ q
  r0 : 0 ≤ r
  ge : ∀ t : Int, 0 ≤ t → t * (h * 4294967296 + l) ≤ u * 4294967296 + n → t ≤ q
/-- The guess is right. -/
def Right (u h l n q : Int) : Prop := q * (h * 4294967296 + l) ≤ u * 4294967296 + n ∧ u * 4294967296 + n < (q + 1) * (h * 4294967296 + l) ∧ 0 ≤ q

variable {u h l n q r : Int}
theorem one_more (q v : Int) : (q + 1) * v = q * v + v := by rw [Int.add_mul, Int.one_mul]
theorem right_of (g : Guess u h l n q r) (hh : 2147483648 ≤ h) (l0 : 0 ≤ l) (hle : q * l ≤ 4294967296 * r + n) (hv : 0 < h * 4294967296 + l) : Right u h l n q := by
  have hs := g.sum
  have hp := parts q h l
  refine ⟨by rw [hp]; omega, ?_, g.q0⟩
  rcases Int.lt_or_le (u * 4294967296 + n) ((q + 1) * (h * 4294967296 + l)) with hlt | hge
  · exact hlt
  · have := g.ge (q + 1) (by have := g.q0; omega) hge
    omega
theorem big_q (hu : u < h * 4294967296 + l) (n1 : n < 4294967296) {t : Int} (ht : t * (h * 4294967296 + l) ≤ u * 4294967296 + n) (hv : 0 < h * 4294967296 + l) : t < 4294967296 := by
  rcases Int.lt_or_le t 4294967296 with hlt | hge
  · exact hlt
  · have h1 : 4294967296 * (h * 4294967296 + l) ≤ t * (h * 4294967296 + l) := Int.mul_le_mul_of_nonneg_right hge (by omega)
    omega
theorem less (g : Guess u h l n q r) (hu : u < h * 4294967296 + l) (n1 : n < 4294967296) (un0 : 0 ≤ u * 4294967296 + n) (hh : 2147483648 ≤ h) (l0 : 0 ≤ l) (hbad : 4294967296 ≤ q ∨ 4294967296 * r + n < q * l) : Guess u h l n (q - 1) (r + h) ∧ 1 ≤ q := by
  have hv : 0 < h * 4294967296 + l := by omega
  have hlt : ∀ t : Int, 0 ≤ t → t * (h * 4294967296 + l) ≤ u * 4294967296 + n → t ≤ q - 1 := by
    intro t t0 ht
    have h1 := g.ge t t0 ht
    have h2 := big_q hu n1 ht hv
    rcases hbad with hb | hb
    · omega
    · rcases Int.lt_or_le t q with h3 | h3
      · omega
      · obtain rfl : t = q := by omega
        have hp := parts t h l
        have hs := g.sum
        omega
  have hq : 1 ≤ q := by
    have h0 := hlt 0 (by omega) (by rw [Int.zero_mul]; omega)
    omega
  refine ⟨⟨?_, by omega, by have := g.r0; omega, hlt⟩, hq⟩
  have hs := g.sum
  have := one_more (q - 1) h
  rw [show q - 1 + 1 = q by omega] at this
  omega
end Go.Proofs.YtccicjiadahmnaaDoor.DivP
