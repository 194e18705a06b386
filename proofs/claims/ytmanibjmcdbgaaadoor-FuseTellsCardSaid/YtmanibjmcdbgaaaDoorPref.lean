/- strings.HasPrefix where the text begins so. -/
import Derived.Test.YtmanibjmcdbgaaaDoorBase
namespace Go.Proofs.YtmanibjmcdbgaaaDoor
set_option linter.unusedVariables false
set_option linter.unusedSimpArgs false
open Go.RowKit
def ePre : ByteArray := ⟨#[101, 114, 114, 111, 114, 32]⟩
theorem pre_cut (T : ByteArray) : (ePre ++ T).extract 0 6 = ePre := by
  have hz : ePre.size = 6 := rfl
  have e1 : ePre.extract 0 6 = ePre := by decide +kernel
  rw [ByteArray.extract_append, hz, e1]
  simp
theorem pref_calls (T : ByteArray) (h : T.size ≤ 200000) (w : World) : Calls Tryd.prog 26 #[.string (⟨#[101, 114, 114, 111, 114, 32]⟩ ++ T), .string ⟨#[101, 114, 114, 111, 114, 32]⟩] w fun e w' => e = .returned (.bool true) ∧ w = w' := by
  have hc := pre_cut T
  have hz : (ePre ++ T).size = 6 + T.size := by rw [ByteArray.size_append]; rfl
  show Calls Tryd.prog _ #[.string (ePre ++ T), .string ePre] w _
  have hz2 : ePre.size = 6 := rfl
  have hd : decide ((6 : Int) ≤ ((6 + T.size : Nat) : Int)) = true := by simp; omega
  generalize ePre ++ T = U at hc hz ⊢
  generalize ePre = V at hc hz2 ⊢
  go_enter Tryd.func26, Tryd.ntmps26
  go_wp2
  all_goals first | (exfalso; omega) | (go_ret; exact ⟨rfl, rfl⟩) | trace_state
theorem hasPref_calls (T : ByteArray) (h : T.size ≤ 200000) (w : World) : Calls Tryd.prog 12 #[.string (⟨#[101, 114, 114, 111, 114, 32]⟩ ++ T), .string ⟨#[101, 114, 114, 111, 114, 32]⟩] w fun e w' => e = .returned (.bool true) ∧ w = w' := by
  have H := Lib.hid (pref_calls T h w)
  go_enter Tryd.func12, Tryd.ntmps12
  go_wp2_with fail
  refine H.out.mono ?_
  rintro e w' ⟨rfl, rfl⟩
  go_wp2
  go_ret
  exact ⟨rfl, rfl⟩
end Go.Proofs.YtmanibjmcdbgaaaDoor
