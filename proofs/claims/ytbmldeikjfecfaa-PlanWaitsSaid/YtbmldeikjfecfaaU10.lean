/- A part of the proof of the statement PlanWaits: words, contracts of functions that it reaches, and what they compute. No condition. -/
import Derived.Test.YtbmldeikjfecfaaU01
import Derived.Test.YtbmldeikjfecfaaU04
set_option linter.unusedVariables false
set_option linter.unusedSimpArgs false
namespace Go.Proofs.Ytbmldeikjfecfaa.T
open Go.RowKit Go.Proofs.YtbmldeikjfecfaaW.PrintWords Go.Proofs.YtbmldeikjfecfaaW.PrintLast Go.Proofs.YtbmldeikjfecfaaW.PrintMore
attribute [local go_sem] max2_int min2_int max_two min_two max_three min_three max_four min_four
attribute [local go_sem] at34_0 at34_1 at34_2 at42_0 at42_1 at42_2 at42_3 at47_0 at47_1 at47_2 at47_3 at47_4
mutual
def tocsinref08_rows.l0 : Nat → Int → Int → Int → Int → Int → Int → List (List Int) → List (S40) → List (S63) → Int → Option (Bool)
 | 0, _, _, _, _, _, _, _, _, _, _ => none
 | k + 1, x3, x134000, x134001, x134002, x134003, x134004, x134005, x134006, x134007, x134008 => if x3 < (x134005.length : Int) then (if 0 ≤ x3 then (if ((rd_L1 x134005 x3).length : Int) = 2 then (tocsinref08_rows.l1 k x3 0 x134000 x134001 x134002 x134003 x134004 x134005 x134006 x134007 x134008) else (some false)) else (none)) else (some true)
def tocsinref08_rows.l1 : Nat → Int → Int → Int → Int → Int → Int → Int → List (List Int) → List (S40) → List (S63) → Int → Option (Bool)
 | 0, _, _, _, _, _, _, _, _, _, _, _ => none
 | k + 1, x3, x4, x134000, x134001, x134002, x134003, x134004, x134005, x134006, x134007, x134008 => if x4 < 2 then (if 0 ≤ x3 then (if x3 < (x134005.length : Int) then (if 0 ≤ x4 then (if x4 < ((rd_L1 x134005 x3).length : Int) then (if (rd (rd_L1 x134005 x3) x4) < 0 then (some false) else (if (rd (rd_L1 x134005 x3) x4) > x134002 then (some false) else (tocsinref08_rows.l1 k x3 (wrap64 (x4 + 1)) x134000 x134001 x134002 x134003 x134004 x134005 x134006 x134007 x134008))) else (none)) else (none)) else (none)) else (none)) else (tocsinref08_rows.l0 k (wrap64 (x3 + 1)) x134000 x134001 x134002 x134003 x134004 x134005 x134006 x134007 x134008)
end
def tocsinref08_rows.f (k : Nat) (a0_0 : Int) (a0_1 : Int) (a0_2 : Int) (a0_3 : Int) (a0_4 : Int) (l0_5 : List (List Int)) (l0_6 : List (S40)) (l0_7 : List (S63)) (a0_8 : Int) : Option (Bool) := if (l0_5.length : Int) = a0_0 then (tocsinref08_rows.l0 k 0 a0_0 a0_1 a0_2 a0_3 a0_4 l0_5 l0_6 l0_7 a0_8) else (some false)
end Go.Proofs.Ytbmldeikjfecfaa.T
