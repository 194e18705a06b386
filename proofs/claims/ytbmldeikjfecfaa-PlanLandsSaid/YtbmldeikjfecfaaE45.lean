/- A part of the proof of the statement PlanLands: words, contracts of functions that it reaches, and what they compute. No condition. -/
import Derived.Test.YtbmldeikjfecfaaE01
import Derived.Test.YtbmldeikjfecfaaE04
import Derived.Test.YtbmldeikjfecfaaE15
import Derived.Test.YtbmldeikjfecfaaE30
import Derived.Test.YtbmldeikjfecfaaE44
set_option linter.unusedVariables false
set_option linter.unusedSimpArgs false
namespace Go.Proofs.Ytbmldeikjfecfaa.T
open Go.RowKit Go.Proofs.YtbmldeikjfecfaaW.PrintWords Go.Proofs.YtbmldeikjfecfaaW.PrintLast Go.Proofs.YtbmldeikjfecfaaW.PrintMore
attribute [local go_sem] max2_int min2_int max_two min_two max_three min_three max_four min_four
attribute [local go_sem] at34_0 at34_1 at34_2 at42_0 at42_1 at42_2 at42_3 at47_0 at47_1 at47_2 at47_3 at47_4
def tocsinlaw15_PlanNext.j0 : Nat → Int → Int → Bool → Int → Int → Int → Int → Int → List (List Int) → List (S40) → List (S63) → Int → Option (Bool)
 | 0, _, _, _, _, _, _, _, _, _, _, _, _ => none
 | k + 1, x1, x7, x54, x317000, x317001, x317002, x317003, x317004, x317005, x317006, x317007, x317008 => if x54 = true then (none) else (if x7 ≥ 1125899906842624 then (some true) else ((plan_Send.f x317000 x317001 x317002 x317003 x317004 x317005 x317006 x317007 x317008 x1 x7).bind fun bt322 => ((plan_Send.f x317000 x317001 x317002 x317003 x317004 x317005 x317006 x317007 x317008 x1 (wrap64 (x7 + 1))).bind fun bt324 => (if bt322.2 = true then (if bt324.2 = true then (if bt322.1 = x7 then (some (bt324.1 == (wrap64 (x7 + x317001)))) else (none)) else (none)) else (none)))))
def tocsinlaw15_PlanNext.f (k : Nat) (a0_0 : Int) (a0_1 : Int) (a0_2 : Int) (a0_3 : Int) (a0_4 : Int) (l0_5 : List (List Int)) (l0_6 : List (S40)) (l0_7 : List (S63)) (a0_8 : Int) (a1 : Int) (a2 : Int) : Option (Bool) := (tocsinlaw15_fixed.f k).bind fun t317 => (if t317 = true then ((plan_Send.f a0_0 a0_1 a0_2 a0_3 a0_4 l0_5 l0_6 l0_7 a0_8 a1 a2).bind fun bt318 => (if bt318.2 = true then (if bt318.1 < a2 then (tocsinlaw15_PlanNext.j0 k a1 bt318.1 true a0_0 a0_1 a0_2 a0_3 a0_4 l0_5 l0_6 l0_7 a0_8) else (if bt318.1 ≥ (wrap64 (a2 + a0_1)) then (tocsinlaw15_PlanNext.j0 k a1 bt318.1 true a0_0 a0_1 a0_2 a0_3 a0_4 l0_5 l0_6 l0_7 a0_8) else (if a0_1 = 0 then (none) else (if 0 ≤ a1 then (if a1 < (l0_6.length : Int) then (if (Int.tmod bt318.1 a0_1) = ((rd_T40 l0_6 a1).f2) then ((tocsinref08_Check.f k a0_0 a0_1 a0_2 a0_3 a0_4 l0_5 l0_6 l0_7 a0_8).bind fun t321 => (tocsinlaw15_PlanNext.j0 k a1 bt318.1 (t321 != 0) a0_0 a0_1 a0_2 a0_3 a0_4 l0_5 l0_6 l0_7 a0_8)) else (tocsinlaw15_PlanNext.j0 k a1 bt318.1 true a0_0 a0_1 a0_2 a0_3 a0_4 l0_5 l0_6 l0_7 a0_8)) else (none)) else (none))))) else (some (bt318.1 == 0)))) else (none))
end Go.Proofs.Ytbmldeikjfecfaa.T
