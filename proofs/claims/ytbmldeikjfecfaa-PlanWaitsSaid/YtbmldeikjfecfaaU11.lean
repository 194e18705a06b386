/- A part of the proof of the statement PlanWaits: words, contracts of functions that it reaches, and what they compute. No condition. -/
import Derived.Test.YtbmldeikjfecfaaU01
import Derived.Test.YtbmldeikjfecfaaU04
set_option linter.unusedVariables false
set_option linter.unusedSimpArgs false
namespace Go.Proofs.Ytbmldeikjfecfaa.T
open Go.RowKit Go.Proofs.YtbmldeikjfecfaaW.PrintWords Go.Proofs.YtbmldeikjfecfaaW.PrintLast Go.Proofs.YtbmldeikjfecfaaW.PrintMore
attribute [local go_sem] max2_int min2_int max_two min_two max_three min_three max_four min_four
attribute [local go_sem] at34_0 at34_1 at34_2 at42_0 at42_1 at42_2 at42_3 at47_0 at47_1 at47_2 at47_3 at47_4
def tocsinref08_short.f (a0 : Int) : Option (Bool) := if a0 ≥ 0 then (some (decide (a0 ≤ 1048576))) else (some false)
def tocsinref08_Spans.f (a0_0 : Int) (a0_1 : Int) (a0_2 : Int) (a0_3 : Int) (a0_4 : Int) (l0_5 : List (List Int)) (l0_6 : List (S40)) (l0_7 : List (S63)) (a0_8 : Int) : Option (Bool) := if a0_1 ≥ 1 then (if a0_1 ≤ 1073741824 then ((tocsinref08_short.f a0_2).bind fun t140 => (if t140 = true then ((tocsinref08_short.f a0_3).bind fun t141 => (if t141 = true then ((tocsinref08_short.f a0_4).bind fun t142 => (some t142)) else (some false))) else (some false))) else (some false)) else (some false)
end Go.Proofs.Ytbmldeikjfecfaa.T
