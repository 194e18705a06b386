/- The NaN, and the negative nought of the examples, walked. -/
import Derived.Test.YtdkdmclbhcbfeaaDoorA
namespace Go.Proofs.YtdkdmclbhcbfeaaDoor.Nu
set_option linter.unusedVariables false
set_option linter.unusedSimpArgs false
open Go.RowKit Go.Proofs.YtdkdmclbhcbfeaaDoor.Fl
theorem nan_calls (w : World) : Calls Tryd.prog 42 #[] w fun e w' => e = .returned (.float .f64 9221120237041090561) ∧ w = w' := by
  have h := frombits
  go_enter Tryd.func42, Tryd.ntmps42
  go_wp2
  go_ret
  exact ⟨rfl, rfl⟩
theorem minus_calls (w : World) : Calls Tryd.prog 36 #[.float .f64 0, .float .f64 13830554455654793216] w fun e w' => e = .returned (.float .f64 9223372036854775808) ∧ w = w' := by
  have h := frombits
  have h2 := tobits
  have e1 : Go.bits .andNot .u64 0 9223372036854775808 = 0 := by decide +kernel
  have e2 : Go.bits .and .u64 13830554455654793216 9223372036854775808 = 9223372036854775808 := by decide +kernel
  have e3 : Go.bits .or .u64 0 9223372036854775808 = 9223372036854775808 := by decide +kernel
  go_enter Tryd.func36, Tryd.ntmps36
  go_wp2
  go_ret
  exact ⟨by first | rfl | (simp; done) | (simp [*]; done), rfl⟩
end Go.Proofs.YtdkdmclbhcbfeaaDoor.Nu
