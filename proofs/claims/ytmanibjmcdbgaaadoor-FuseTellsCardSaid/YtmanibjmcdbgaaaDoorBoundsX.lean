/- What a panic for an index out of range tells, at any index that is not negative. -/
import Derived.Test.YtmanibjmcdbgaaaDoorBounds
namespace Go.Proofs.YtmanibjmcdbgaaaDoor
set_option linter.unusedVariables false
set_option linter.unusedSimpArgs false
open Go.RowKit
def bValX (x : Int) (b : Bool) : Value := .agg #[.int .i64 x, .int .i64 0, .bool b, .int .u8 0]
def bTextX (x : Int) : String := "runtime error: " ++ (("index out of range [%x] with length %y".replace "%x" (toString x)).replace "%y" (toString (0 : Int)))
theorem meth_bX (x : Int) (b : Bool) (w : World) : (method 180 8 (bValX x b) "Error").run Tryd.prog w = .ok (53, bValX x b) w := by kernel_rfl
theorem call_ext (v : Value) (w : World) : (callFunc 53 #[v]).run Tryd.prog w = (do let r ← Extern.RuntimeError.boundsError #[v]; pure (Next.value r) : Sem Next).run Tryd.prog w := by kernel_rfl
theorem bnd (x : Int) (b : Bool) : Extern.RuntimeError.boundsError #[bValX x b] =
    (match (if (b && decide (x < 0)) = true then Extern.RuntimeError.boundsNegErrorFmts else Extern.RuntimeError.boundsErrorFmts)[(0 : Int).toNat]? with
    | some fmt => Extern.RuntimeError.text ("runtime error: " ++ (fmt.replace "%x" (toString (if b = true then x else IntKind.u64.wrap x))).replace "%y" (toString (0 : Int)))
    | none => stuck "boundsError: no such code") := rfl
theorem call_bX (x : Int) (h0 : 0 ≤ x) (h1 : x < 9223372036854775808) (b : Bool) (w : World) : (callFunc 53 #[bValX x b]).run Tryd.prog w = .ok (.value (strVal (bTextX x))) w := by
  rw [call_ext, bnd]
  have hw : IntKind.u64.wrap x = x := by simp [IntKind.wrap, IntKind.bits, IntKind.signed]; omega
  have hx : (b && decide (x < 0)) = false := by simp; omega
  have hi : (if b = true then x else IntKind.u64.wrap x) = x := by rw [hw]; split <;> rfl
  rw [hx, hi]
  rfl
theorem list_size (l : List Char) : (String.ofList l).utf8ByteSize ≤ 4 * l.length := by
  induction l with
  | nil => simp
  | cons c l ih =>
    rw [show c :: l = [c] ++ l from rfl, String.ofList_append, String.utf8ByteSize_append]
    have h : (String.ofList [c]).utf8ByteSize = c.utf8Size := by simp
    have := Char.utf8Size_le_four c
    rw [h, List.length_append, List.length_singleton]
    omega
theorem digits_size (x : Int) (h0 : 0 ≤ x) (h1 : x < 9223372036854775808) : (toString x).utf8ByteSize ≤ 100 := by
  obtain ⟨k, rfl⟩ : ∃ k : Nat, x = k := ⟨x.toNat, by omega⟩
  have h := (Nat.length_toDigits_le_iff (b := 10) (n := k) (k := 20) (by decide) (by decide)).2 (by omega)
  have h2 := list_size (Nat.toDigits 10 k)
  show (String.ofList (Nat.toDigits 10 k)).utf8ByteSize ≤ 100
  omega
theorem bTextX_small (x : Int) (h0 : 0 ≤ x) (h1 : x < 9223372036854775808) : (bTextX x).utf8ByteSize ≤ 100000 ∧ 15 ≤ (bTextX x).utf8ByteSize := by
  unfold bTextX
  have h1 := replace_size ("index out of range [%x] with length %y".replace "%x" (toString x)) "%y" (toString (0 : Int)) (by decide)
  have h2 := replace_size "index out of range [%x] with length %y" "%x" (toString x) (by decide)
  have e1 : (toString (0 : Int)).utf8ByteSize = 1 := by decide
  have e2 : "index out of range [%x] with length %y".utf8ByteSize = 38 := by decide
  have e3 : "runtime error: ".utf8ByteSize = 15 := by decide
  have e4 := digits_size x h0 (by assumption)
  rw [e2] at h2
  rw [e1] at h1
  rw [String.utf8ByteSize_append, e3]
  omega
end Go.Proofs.YtmanibjmcdbgaaaDoor
