/- A part of the proof of the statement PlanWaits: words, contracts of functions that it reaches, and what they compute. No condition. -/
import Derived.Test.YtbmldeikjfecfaaU01
import Derived.Test.YtbmldeikjfecfaaU04
import Derived.Test.YtbmldeikjfecfaaU11
set_option linter.unusedVariables false
set_option linter.unusedSimpArgs false
namespace Go.Proofs.Ytbmldeikjfecfaa.T
open Go.RowKit Go.Proofs.YtbmldeikjfecfaaW.PrintWords Go.Proofs.YtbmldeikjfecfaaW.PrintLast Go.Proofs.YtbmldeikjfecfaaW.PrintMore
attribute [local go_sem] max2_int min2_int max_two min_two max_three min_three max_four min_four
attribute [local go_sem] at34_0 at34_1 at34_2 at42_0 at42_1 at42_2 at42_3 at47_0 at47_1 at47_2 at47_3 at47_4
def tocsinref08_Quiet.f (a0_0 : Int) (a0_1 : Int) (a0_2 : Int) (a0_3 : Int) (a0_4 : Int) (l0_5 : List (List Int)) (l0_6 : List (S40)) (l0_7 : List (S63)) (a0_8 : Int) : Option (Int) := (tocsinref08_Spans.f a0_0 a0_1 a0_2 a0_3 a0_4 l0_5 l0_6 l0_7 a0_8).bind fun t149 => (if t149 = true then (some (wrap64 ((wrap64 ((wrap64 (a0_2 + a0_2)) + a0_3)) + (wrap64 (4 * a0_4))))) else (some 0))
def tocsinref08_meet.f (a0 : Int) (a1 : Int) (a2 : Int) (a3 : Int) : Option (Bool) := if (wrap64 (a0 + a1)) ≤ a2 then (some (!true)) else (some (!(decide ((wrap64 (a2 + a3)) ≤ a0))))
end Go.Proofs.Ytbmldeikjfecfaa.T
