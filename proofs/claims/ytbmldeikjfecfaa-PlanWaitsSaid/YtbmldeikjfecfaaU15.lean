/- A part of the proof of the statement PlanWaits: words, contracts of functions that it reaches, and what they compute. No condition. -/
import Derived.Test.YtbmldeikjfecfaaU01
import Derived.Test.YtbmldeikjfecfaaU04
import Derived.Test.YtbmldeikjfecfaaU10
import Derived.Test.YtbmldeikjfecfaaU11
import Derived.Test.YtbmldeikjfecfaaU12
import Derived.Test.YtbmldeikjfecfaaU14
set_option linter.unusedVariables false
set_option linter.unusedSimpArgs false
namespace Go.Proofs.Ytbmldeikjfecfaa.T
open Go.RowKit Go.Proofs.YtbmldeikjfecfaaW.PrintWords Go.Proofs.YtbmldeikjfecfaaW.PrintLast Go.Proofs.YtbmldeikjfecfaaW.PrintMore
attribute [local go_sem] max2_int min2_int max_two min_two max_three min_three max_four min_four
attribute [local go_sem] at34_0 at34_1 at34_2 at42_0 at42_1 at42_2 at42_3 at47_0 at47_1 at47_2 at47_3 at47_4
mutual
def tocsinref08_Check.j0 : Nat → Bool → Int → Int → Int → Int → Int → List (List Int) → List (S40) → List (S63) → Int → Option (Int)
 | 0, _, _, _, _, _, _, _, _, _, _ => none
 | k + 1, x13, x177000, x177001, x177002, x177003, x177004, x177005, x177006, x177007, x177008 => if x13 = true then (some 1) else (if x177001 < 1 then (tocsinref08_Check.j1 k true x177000 x177001 x177002 x177003 x177004 x177005 x177006 x177007 x177008) else (tocsinref08_Check.j1 k (decide (x177001 > 1073741824)) x177000 x177001 x177002 x177003 x177004 x177005 x177006 x177007 x177008))
def tocsinref08_Check.j1 : Nat → Bool → Int → Int → Int → Int → Int → List (List Int) → List (S40) → List (S63) → Int → Option (Int)
 | 0, _, _, _, _, _, _, _, _, _, _ => none
 | k + 1, x21, x177000, x177001, x177002, x177003, x177004, x177005, x177006, x177007, x177008 => if x21 = true then (some 2) else ((tocsinref08_Spans.f x177000 x177001 x177002 x177003 x177004 x177005 x177006 x177007 x177008).bind fun t177 => (if t177 = true then ((tocsinref08_rows.f k x177000 x177001 x177002 x177003 x177004 x177005 x177006 x177007 x177008).bind fun t178 => (if t178 = true then (tocsinref08_Check.l0 k 5 x177000 x177001 x177002 x177003 x177004 x177005 x177006 x177007 x177008) else (some 4))) else (some 3)))
def tocsinref08_Check.l0 : Nat → Int → Int → Int → Int → Int → Int → List (List Int) → List (S40) → List (S63) → Int → Option (Int)
 | 0, _, _, _, _, _, _, _, _, _, _ => none
 | k + 1, x3, x177000, x177001, x177002, x177003, x177004, x177005, x177006, x177007, x177008 => if x3 ≤ 8 then ((tocsinref08_entries.f k x177000 x177001 x177002 x177003 x177004 x177005 x177006 x177007 x177008 x3).bind fun t179 => (if t179 = true then (some x3) else (tocsinref08_Check.l0 k (wrap64 (x3 + 1)) x177000 x177001 x177002 x177003 x177004 x177005 x177006 x177007 x177008))) else (if (x177007.length : Int) > 16 then (some 9) else (tocsinref08_Check.l1 k 0 x177000 x177001 x177002 x177003 x177004 x177005 x177006 x177007 x177008))
def tocsinref08_Check.l1 : Nat → Int → Int → Int → Int → Int → Int → List (List Int) → List (S40) → List (S63) → Int → Option (Int)
 | 0, _, _, _, _, _, _, _, _, _, _ => none
 | k + 1, x4, x177000, x177001, x177002, x177003, x177004, x177005, x177006, x177007, x177008 => if x4 < (x177007.length : Int) then (if 0 ≤ x4 then ((tocsinref08_Route.f k x177000 ((rd_T63 x177007 x4).f0) ((rd_T63 x177007 x4).f1) ((rd_T63 x177007 x4).f3)).bind fun t182 => (if t182 = true then (if ((rd_T63 x177007 x4).f2) < 1 then (some 9) else (if ((rd_T63 x177007 x4).f2) > 1073741824 then (some 9) else (tocsinref08_Check.l1 k (wrap64 (x4 + 1)) x177000 x177001 x177002 x177003 x177004 x177005 x177006 x177007 x177008))) else (some 9))) else (none)) else (if x177008 < 1 then (some 10) else (if x177008 > 64 then (some 10) else (some 0)))
end
def tocsinref08_Check.f (k : Nat) (a0_0 : Int) (a0_1 : Int) (a0_2 : Int) (a0_3 : Int) (a0_4 : Int) (l0_5 : List (List Int)) (l0_6 : List (S40)) (l0_7 : List (S63)) (a0_8 : Int) : Option (Int) := if a0_0 < 1 then (tocsinref08_Check.j0 k true a0_0 a0_1 a0_2 a0_3 a0_4 l0_5 l0_6 l0_7 a0_8) else (tocsinref08_Check.j0 k (decide (a0_0 > 6)) a0_0 a0_1 a0_2 a0_3 a0_4 l0_5 l0_6 l0_7 a0_8)
end Go.Proofs.Ytbmldeikjfecfaa.T
