/- The one NaN. -/
import Derived.Test.YtmanibjmcdbgaaaDoorBase
import Derived.Laws.FloatBits
import Derived.Laws.FloatArith
namespace Go.Proofs.YtmanibjmcdbgaaaDoor
set_option linter.unusedVariables false
set_option linter.unusedSimpArgs false
open Go.RowKit

/-- Is it no number? -/
def nanB (b : Nat) : Bool := FloatKind.f64.format.order b b != some Ordering.eq
def oneB (b : Nat) : Nat := if nanB b = true then 9221120237041090561 else b

theorem frombits (n : Int) (w : World) : (callFunc 39 #[.int .u64 n]).run Tryd.prog w = .ok (.value (.float .f64 n.toNat)) w := by kernel_rfl

theorem isnan_calls (b : Nat) (w : World) : Calls Tryd.prog 40 #[.float .f64 b] w fun e w' => e = .returned (.bool (nanB b)) ∧ w = w' := by
  go_enter Tryd.func40, Tryd.ntmps40
  go_wp2
  go_ret
  exact ⟨rfl, rfl⟩
theorem nan_calls (w : World) : Calls Tryd.prog 28 #[] w fun e w' => e = .returned (.float .f64 9221120237041090561) ∧ w = w' := by
  have h := frombits
  go_enter Tryd.func28, Tryd.ntmps28
  go_wp2
  go_ret
  exact ⟨rfl, rfl⟩
theorem one_calls (b : Nat) (w : World) : Calls Tryd.prog 30 #[.float .f64 b] w fun e w' => e = .returned (.float .f64 (oneB b)) ∧ w = w' := by
  have h := frombits
  have H := Lib.hid (fun w => isnan_calls b w)
  unfold oneB
  cases hb : nanB b with
  | true =>
    rw [hb] at H
    clear hb
    go_enter Tryd.func30, Tryd.ntmps30
    go_wp2_with (go_at_call 40; refine (H.out _).mono ?_; rintro e w' ⟨rfl, rfl⟩)
    go_ret
    exact ⟨rfl, rfl⟩
  | false =>
    rw [hb] at H
    clear hb
    go_enter Tryd.func30, Tryd.ntmps30
    go_wp2_with (go_at_call 40; refine (H.out _).mono ?_; rintro e w' ⟨rfl, rfl⟩)
    go_ret
    exact ⟨rfl, rfl⟩
theorem nan_one : nanB 9221120237041090561 = true := by decide +kernel
end Go.Proofs.YtmanibjmcdbgaaaDoor
