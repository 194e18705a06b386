/- Sums and differences. -/
import Derived.Test.YtccicjiadahmnaaDoorChk
namespace Go.Proofs.YtccicjiadahmnaaDoor.Hd
set_option linter.unusedVariables false
set_option linter.unusedSimpArgs false
open Go.RowKit

def inR (n : Int) : Prop := -9223372036854775808 ≤ n ∧ n ≤ 9223372036854775807
instance (n : Int) : Decidable (inR n) := by unfold inR; infer_instance
def val (n : Int) : Int := if inR n then n else 0
def err (n : Int) : Int := if inR n then 0 else 4

theorem add_ok (a b : Int) (ha : inR a) (hb : inR b) (hs : inR (a + b)) (w : World) : Calls Tryd.prog 32 #[.int .i64 a, .int .i64 b] w fun e w' => e = .returned (.int .i64 (a + b)) ∧ w = w' := by
  obtain ⟨S, hS⟩ : ∃ S, S = a + b := ⟨_, rfl⟩
  have hw : wrap64 (a + b) = S := by rw [hS]; unfold inR at hs; simp [wrap64]; omega
  rw [← hS]
  by_cases h1 : a < 0 <;> by_cases h2 : b < 0 <;> by_cases h3 : S < 0
  all_goals first | (exfalso; omega) | skip
  all_goals
    unfold inR at ha hb hs
    clear hS ha hb hs
    go_enter Tryd.func32, Tryd.ntmps32
    go_wp2
    all_goals first | (exfalso; omega) | (go_ret; first | exact ⟨rfl, rfl⟩ | exact ⟨congrArg (fun x => Ending.returned (.int .i64 x)) hw, rfl⟩)
theorem add_beyond (a b : Int) (ha : inR a) (hb : inR b) (hs : ¬ inR (a + b)) (w : World) : Calls Tryd.prog 32 #[.int .i64 a, .int .i64 b] w fun e w' => e = .panicked [{ v := beyond, recovered := false }] ∧ w = w' := by
  obtain ⟨S, hS⟩ : ∃ S, S = wrap64 (a + b) := ⟨_, rfl⟩
  unfold inR at ha hb hs
  have hw : wrap64 (a + b) = S := hS.symm
  by_cases h1 : a < 0
  · have h2 : b < 0 := by omega
    have h3 : ¬ S < 0 := by rw [hS]; simp [wrap64]; omega
    clear hS ha hb hs
    go_enter Tryd.func32, Tryd.ntmps32
    go_wp2
    all_goals first | (exfalso; omega) | exact ⟨rfl, rfl, rfl⟩
  · have h2 : ¬ b < 0 := by omega
    have h3 : S < 0 := by rw [hS]; simp [wrap64]; omega
    clear hS ha hb hs
    go_enter Tryd.func32, Tryd.ntmps32
    go_wp2
    all_goals first | (exfalso; omega) | exact ⟨rfl, rfl, rfl⟩
end Go.Proofs.YtccicjiadahmnaaDoor.Hd
