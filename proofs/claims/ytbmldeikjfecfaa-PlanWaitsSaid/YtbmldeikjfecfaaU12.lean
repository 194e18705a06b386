/- A part of the proof of the statement PlanWaits: words, contracts of functions that it reaches, and what they compute. No condition. -/
import Derived.Test.YtbmldeikjfecfaaU01
import Derived.Test.YtbmldeikjfecfaaU04
set_option linter.unusedVariables false
set_option linter.unusedSimpArgs false
namespace Go.Proofs.Ytbmldeikjfecfaa.T
open Go.RowKit Go.Proofs.YtbmldeikjfecfaaW.PrintWords Go.Proofs.YtbmldeikjfecfaaW.PrintLast Go.Proofs.YtbmldeikjfecfaaW.PrintMore
attribute [local go_sem] max2_int min2_int max_two min_two max_three min_three max_four min_four
attribute [local go_sem] at34_0 at34_1 at34_2 at42_0 at42_1 at42_2 at42_3 at47_0 at47_1 at47_2 at47_3 at47_4
def tocsinref06_Time.f (a0 : Int) : Option (Int) := if a0 < 64 then (some 512) else (if a0 > 1518 then (some 12144) else (some (wrap64 (a0 * 8))))
def tocsinref08_Times.f (a0_0 : Int) (a0_1 : Int) (a0_2 : Int) (a0_3 : Int) (a0_4 : Int) (l0_5 : List (List Int)) (l0_6 : List (S40)) (l0_7 : List (S63)) (a0_8 : Int) (a1_0 : Int) (a1_1 : Int) (a1_2 : Int) (a1_3 : Int) : Option (Int × Int × Int × Int × Int) := (tocsinref06_Time.f a1_3).bind fun t146 => (some (wrap64 ((wrap64 (a1_2 + t146)) - a0_4), wrap64 ((wrap64 ((wrap64 (a1_2 + t146)) + a0_2)) + a0_4), wrap64 ((wrap64 ((wrap64 ((wrap64 (a1_2 + t146)) + a0_2)) + a0_4)) + a0_4), wrap64 ((wrap64 ((wrap64 ((wrap64 ((wrap64 ((wrap64 (a1_2 + t146)) + a0_2)) + a0_4)) + a0_4)) + t146)) - a0_4), wrap64 ((wrap64 ((wrap64 ((wrap64 ((wrap64 ((wrap64 ((wrap64 (a1_2 + t146)) + a0_2)) + a0_4)) + a0_4)) + t146)) + a0_2)) + a0_4)))
mutual
def tocsinref07_Has.j0 : Nat → Int → Int → Bool → Option (Bool)
 | 0, _, _, _ => none
 | k + 1, x0, x1, x11 => if x11 = true then (some false) else (tocsinref07_Has.l0 k x0 x1 0)
def tocsinref07_Has.l0 : Nat → Int → Int → Int → Option (Bool)
 | 0, _, _, _ => none
 | k + 1, x0, x1, x5 => if x5 < x1 then (tocsinref07_Has.l0 k ((Int.tdiv x0 2) % 4294967296) x1 (wrap64 (x5 + 1))) else (some ((Int.tmod x0 2) == 1))
end
def tocsinref07_Has.f (k : Nat) (a0 : Int) (a1 : Int) : Option (Bool) := if a1 < 0 then (tocsinref07_Has.j0 k a0 a1 true) else (tocsinref07_Has.j0 k a0 a1 (decide (a1 > 5)))
mutual
def tocsinref08_Route.j0 : Nat → Int → Int → Int → Bool → Option (Bool)
 | 0, _, _, _, _ => none
 | k + 1, x0, x1, x2, x29 => if x29 = true then (some false) else (tocsinref08_Route.l0 k x0 x1 x2 1 0)
def tocsinref08_Route.l0 : Nat → Int → Int → Int → Int → Int → Option (Bool)
 | 0, _, _, _, _, _ => none
 | k + 1, x0, x1, x2, x9, x10 => if x10 < x0 then (tocsinref08_Route.l0 k x0 x1 x2 ((x9 * 2) % 4294967296) (wrap64 (x10 + 1))) else (if x2 < x9 then ((tocsinref07_Has.f k x2 x1).bind fun t147 => (some (!t147))) else (some false))
end
def tocsinref08_Route.f (k : Nat) (a0 : Int) (a1 : Int) (a2 : Int) (a3 : Int) : Option (Bool) := if a1 < 0 then (tocsinref08_Route.j0 k a0 a1 a2 true) else (if a1 ≥ a0 then (tocsinref08_Route.j0 k a0 a1 a2 true) else (if a2 = 0 then (tocsinref08_Route.j0 k a0 a1 a2 true) else (if a3 < 64 then (tocsinref08_Route.j0 k a0 a1 a2 true) else (tocsinref08_Route.j0 k a0 a1 a2 (decide (a3 > 1518))))))
end Go.Proofs.Ytbmldeikjfecfaa.T
