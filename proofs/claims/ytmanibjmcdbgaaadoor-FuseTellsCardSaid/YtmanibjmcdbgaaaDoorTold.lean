/- What errors tell: the package's own error number 2, and Go's own error of an index out of range. -/
import Derived.Test.YtmanibjmcdbgaaaDoorBase
namespace Go.Proofs.YtmanibjmcdbgaaaDoor
set_option linter.unusedVariables false
set_option linter.unusedSimpArgs false
open Go.RowKit

theorem ta_e1 (n : Int) (w : World) : (Instr.typeAssert (.iface 28 (.int .i64 n)) 20 9 true).run Tryd.prog w = .ok (.tuple #[.string ⟨#[]⟩, .bool false]) w := by kernel_rfl
theorem ta_e2 (n : Int) (w : World) : (Instr.typeAssert (.iface 28 (.int .i64 n)) 20 45 true).run Tryd.prog w = .ok (.tuple #[.iface 28 (.int .i64 n), .bool true]) w :=
  run_typeAssert_hasB Tryd.underlying45 (by kernel_rfl) _ _ w
theorem ta_b1 (v : Value) (w : World) : (Instr.typeAssert (.iface 8 v) 20 9 true).run Tryd.prog w = .ok (.tuple #[.string ⟨#[]⟩, .bool false]) w := by kernel_rfl
theorem ta_b2 (v : Value) (w : World) : (Instr.typeAssert (.iface 8 v) 20 45 true).run Tryd.prog w = .ok (.tuple #[.iface 8 v, .bool true]) w :=
  run_typeAssert_hasB Tryd.underlying45 (by kernel_rfl) _ _ w

theorem errno2 (w : World) : Calls Tryd.prog 10 #[.int .i64 2] w fun e w' => e = .returned (.string ⟨#[101, 114, 114, 110, 111, 32, 50]⟩) ∧ w = w' := by
  go_enter Tryd.func10, Tryd.ntmps10
  go_wp2
  go_ret
  exact ⟨by kernel_rfl, rfl⟩

def eText : ByteArray := ⟨#[101, 114, 114, 111, 114, 32]⟩ ++ ⟨#[101, 114, 114, 110, 111, 32, 50]⟩
theorem meth_e (w : World) : (method 180 28 (.int .i64 2) "Error").run Tryd.prog w = .ok (10, .int .i64 2) w := by kernel_rfl
theorem tells_errno2 : Tells (.iface 28 (.int .i64 2)) eText := by
  intro w
  have h1 := ta_e1 2
  have h2 := ta_e2 2
  have h3 := meth_e
  go_enter Tryd.func24, Tryd.ntmps24
  go_wp2_with (go_at_call 10; refine (errno2 _).mono ?_; rintro e w' ⟨rfl, rfl⟩)
  go_ret
  exact ⟨rfl, Below.refl _ _⟩
end Go.Proofs.YtmanibjmcdbgaaaDoor
