/- A part of the proof of the statement PlanLands: words, contracts of functions that it reaches, and what they compute. No condition. -/
import Derived.Test.YtbmldeikjfecfaaE01
import Derived.Test.YtbmldeikjfecfaaE04
import Derived.Test.YtbmldeikjfecfaaE12
import Derived.Test.YtbmldeikjfecfaaE13
set_option linter.unusedVariables false
set_option linter.unusedSimpArgs false
namespace Go.Proofs.Ytbmldeikjfecfaa.T
open Go.RowKit Go.Proofs.YtbmldeikjfecfaaW.PrintWords Go.Proofs.YtbmldeikjfecfaaW.PrintLast Go.Proofs.YtbmldeikjfecfaaW.PrintMore
attribute [local go_sem] max2_int min2_int max_two min_two max_three min_three max_four min_four
attribute [local go_sem] at34_0 at34_1 at34_2 at42_0 at42_1 at42_2 at42_3 at47_0 at47_1 at47_2 at47_3 at47_4
mutual
def tocsinref08_entries.j0 : Nat → Int → Bool → Int → Int → Int → Int → Int → List (List Int) → List (S40) → List (S63) → Int → Option (Bool)
 | 0, _, _, _, _, _, _, _, _, _, _, _ => none
 | k + 1, x1, x18, x151000, x151001, x151002, x151003, x151004, x151005, x151006, x151007, x151008 => if x18 = true then (some true) else (tocsinref08_entries.l0 k x1 0 x151000 x151001 x151002 x151003 x151004 x151005 x151006 x151007 x151008)
def tocsinref08_entries.l0 : Nat → Int → Int → Int → Int → Int → Int → Int → List (List Int) → List (S40) → List (S63) → Int → Option (Bool)
 | 0, _, _, _, _, _, _, _, _, _, _, _ => none
 | k + 1, x1, x5, x151000, x151001, x151002, x151003, x151004, x151005, x151006, x151007, x151008 => if x5 < (x151006.length : Int) then (if 0 ≤ x5 then (if x1 = 5 then ((tocsinref08_Route.f k x151000 ((rd_T40 x151006 x5).f0) ((rd_T40 x151006 x5).f1) ((rd_T40 x151006 x5).f3)).bind fun t153 => (tocsinref08_entries.j2 k x1 x5 (!t153) x151000 x151001 x151002 x151003 x151004 x151005 x151006 x151007 x151008 ((rd_T40 x151006 x5).f0) ((rd_T40 x151006 x5).f1) ((rd_T40 x151006 x5).f2) ((rd_T40 x151006 x5).f3))) else (tocsinref08_entries.j2 k x1 x5 false x151000 x151001 x151002 x151003 x151004 x151005 x151006 x151007 x151008 ((rd_T40 x151006 x5).f0) ((rd_T40 x151006 x5).f1) ((rd_T40 x151006 x5).f2) ((rd_T40 x151006 x5).f3))) else (none)) else (some false)
def tocsinref08_entries.j2 : Nat → Int → Int → Bool → Int → Int → Int → Int → Int → List (List Int) → List (S40) → List (S63) → Int → Int → Int → Int → Int → Option (Bool)
 | 0, _, _, _, _, _, _, _, _, _, _, _, _, _, _, _, _ => none
 | k + 1, x1, x5, x44, x151000, x151001, x151002, x151003, x151004, x151005, x151006, x151007, x151008, x153000, x153001, x153002, x153003 => if x44 = true then (some true) else (if x1 = 6 then ((tocsinref08_Quiet.f x151000 x151001 x151002 x151003 x151004 x151005 x151006 x151007 x151008).bind fun t154 => (if x153002 < t154 then (tocsinref08_entries.j3 k x1 x5 true x151000 x151001 x151002 x151003 x151004 x151005 x151006 x151007 x151008 x153000 x153001 x153002 x153003) else (if x153002 ≥ x151001 then (tocsinref08_entries.j3 k x1 x5 true x151000 x151001 x151002 x151003 x151004 x151005 x151006 x151007 x151008 x153000 x153001 x153002 x153003) else ((tocsinref08_Times.f x151000 x151001 x151002 x151003 x151004 x151005 x151006 x151007 x151008 x153000 x153001 x153002 x153003).bind fun bt155 => (tocsinref08_entries.j3 k x1 x5 (decide (bt155.2.2.2.2 ≥ x151001)) x151000 x151001 x151002 x151003 x151004 x151005 x151006 x151007 x151008 x153000 x153001 x153002 x153003))))) else (tocsinref08_entries.j3 k x1 x5 false x151000 x151001 x151002 x151003 x151004 x151005 x151006 x151007 x151008 x153000 x153001 x153002 x153003))
def tocsinref08_entries.j3 : Nat → Int → Int → Bool → Int → Int → Int → Int → Int → List (List Int) → List (S40) → List (S63) → Int → Int → Int → Int → Int → Option (Bool)
 | 0, _, _, _, _, _, _, _, _, _, _, _, _, _, _, _, _ => none
 | k + 1, x1, x5, x69, x151000, x151001, x151002, x151003, x151004, x151005, x151006, x151007, x151008, x153000, x153001, x153002, x153003 => if x69 = true then (some true) else (tocsinref08_entries.l1 k x1 x5 0 x151000 x151001 x151002 x151003 x151004 x151005 x151006 x151007 x151008 x153000 x153001 x153002 x153003)
def tocsinref08_entries.l1 : Nat → Int → Int → Int → Int → Int → Int → Int → Int → List (List Int) → List (S40) → List (S63) → Int → Int → Int → Int → Int → Option (Bool)
 | 0, _, _, _, _, _, _, _, _, _, _, _, _, _, _, _, _ => none
 | k + 1, x1, x5, x7, x151000, x151001, x151002, x151003, x151004, x151005, x151006, x151007, x151008, x153000, x153001, x153002, x153003 => if x7 < x5 then (tocsinref08_entries.j5 k x1 x5 x7 (decide (x1 > 6)) x151000 x151001 x151002 x151003 x151004 x151005 x151006 x151007 x151008 x153000 x153001 x153002 x153003) else (tocsinref08_entries.j5 k x1 x5 x7 false x151000 x151001 x151002 x151003 x151004 x151005 x151006 x151007 x151008 x153000 x153001 x153002 x153003)
def tocsinref08_entries.j5 : Nat → Int → Int → Int → Bool → Int → Int → Int → Int → Int → List (List Int) → List (S40) → List (S63) → Int → Int → Int → Int → Int → Option (Bool)
 | 0, _, _, _, _, _, _, _, _, _, _, _, _, _, _, _, _, _ => none
 | k + 1, x1, x5, x7, x76, x151000, x151001, x151002, x151003, x151004, x151005, x151006, x151007, x151008, x153000, x153001, x153002, x153003 => if x76 = true then (if 0 ≤ x7 then (if x7 < (x151006.length : Int) then ((tocsinref06_Time.f x153003).bind fun t162 => ((tocsinref06_Time.f ((rd_T40 x151006 x7).f3)).bind fun t163 => (if x1 = 7 then (if x153000 = ((rd_T40 x151006 x7).f0) then ((tocsinref08_meet.f x153002 t162 ((rd_T40 x151006 x7).f2) t163).bind fun t164 => (tocsinref08_entries.j6 k x1 x5 x7 t162 t163 t164 x151000 x151001 x151002 x151003 x151004 x151005 x151006 x151007 x151008 x153000 x153001 x153002 x153003 ((rd_T40 x151006 x7).f0) ((rd_T40 x151006 x7).f1) ((rd_T40 x151006 x7).f2) ((rd_T40 x151006 x7).f3))) else (tocsinref08_entries.j6 k x1 x5 x7 t162 t163 false x151000 x151001 x151002 x151003 x151004 x151005 x151006 x151007 x151008 x153000 x153001 x153002 x153003 ((rd_T40 x151006 x7).f0) ((rd_T40 x151006 x7).f1) ((rd_T40 x151006 x7).f2) ((rd_T40 x151006 x7).f3))) else (tocsinref08_entries.j6 k x1 x5 x7 t162 t163 false x151000 x151001 x151002 x151003 x151004 x151005 x151006 x151007 x151008 x153000 x153001 x153002 x153003 ((rd_T40 x151006 x7).f0) ((rd_T40 x151006 x7).f1) ((rd_T40 x151006 x7).f2) ((rd_T40 x151006 x7).f3))))) else (none)) else (none)) else (tocsinref08_entries.l0 k x1 (wrap64 (x5 + 1)) x151000 x151001 x151002 x151003 x151004 x151005 x151006 x151007 x151008)
def tocsinref08_entries.j6 : Nat → Int → Int → Int → Int → Int → Bool → Int → Int → Int → Int → Int → List (List Int) → List (S40) → List (S63) → Int → Int → Int → Int → Int → Int → Int → Int → Int → Option (Bool)
 | 0, _, _, _, _, _, _, _, _, _, _, _, _, _, _, _, _, _, _, _, _, _, _, _ => none
 | k + 1, x1, x5, x7, x9, x10, x107, x151000, x151001, x151002, x151003, x151004, x151005, x151006, x151007, x151008, x153000, x153001, x153002, x153003, x162000, x162001, x162002, x162003 => if x107 = true then (some true) else (if x1 = 8 then (if (Go.bits .and .u32 x153001 x162001) = 0 then (tocsinref08_entries.l1 k x1 x5 (wrap64 (x7 + 1)) x151000 x151001 x151002 x151003 x151004 x151005 x151006 x151007 x151008 x153000 x153001 x153002 x153003) else ((tocsinref08_Times.f x151000 x151001 x151002 x151003 x151004 x151005 x151006 x151007 x151008 x153000 x153001 x153002 x153003).bind fun bt165 => ((tocsinref08_Times.f x151000 x151001 x151002 x151003 x151004 x151005 x151006 x151007 x151008 x162000 x162001 x162002 x162003).bind fun bt170 => ((tocsinref08_meet.f bt165.2.2.1 x9 bt170.2.2.1 x10).bind fun t175 => (if t175 = true then (some true) else (tocsinref08_entries.l1 k x1 x5 (wrap64 (x7 + 1)) x151000 x151001 x151002 x151003 x151004 x151005 x151006 x151007 x151008 x153000 x153001 x153002 x153003)))))) else (tocsinref08_entries.l1 k x1 x5 (wrap64 (x7 + 1)) x151000 x151001 x151002 x151003 x151004 x151005 x151006 x151007 x151008 x153000 x153001 x153002 x153003))
end
def tocsinref08_entries.f (k : Nat) (a0_0 : Int) (a0_1 : Int) (a0_2 : Int) (a0_3 : Int) (a0_4 : Int) (l0_5 : List (List Int)) (l0_6 : List (S40)) (l0_7 : List (S63)) (a0_8 : Int) (a1 : Int) : Option (Bool) := if a1 = 5 then (tocsinref08_entries.j0 k a1 (decide ((l0_6.length : Int) > 16)) a0_0 a0_1 a0_2 a0_3 a0_4 l0_5 l0_6 l0_7 a0_8) else (tocsinref08_entries.j0 k a1 false a0_0 a0_1 a0_2 a0_3 a0_4 l0_5 l0_6 l0_7 a0_8)
theorem tocsinref08_entries.mono_l : ∀ k, (∀ y0 y1 y2 y3 y4 y5 y6 y7 y8 y9 y10, LeO (tocsinref08_entries.j0 k y0 y1 y2 y3 y4 y5 y6 y7 y8 y9 y10) (tocsinref08_entries.j0 (k + 1) y0 y1 y2 y3 y4 y5 y6 y7 y8 y9 y10)) ∧ (∀ y0 y1 y2 y3 y4 y5 y6 y7 y8 y9 y10, LeO (tocsinref08_entries.l0 k y0 y1 y2 y3 y4 y5 y6 y7 y8 y9 y10) (tocsinref08_entries.l0 (k + 1) y0 y1 y2 y3 y4 y5 y6 y7 y8 y9 y10)) ∧ (∀ y0 y1 y2 y3 y4 y5 y6 y7 y8 y9 y10 y11 y12 y13 y14 y15, LeO (tocsinref08_entries.j2 k y0 y1 y2 y3 y4 y5 y6 y7 y8 y9 y10 y11 y12 y13 y14 y15) (tocsinref08_entries.j2 (k + 1) y0 y1 y2 y3 y4 y5 y6 y7 y8 y9 y10 y11 y12 y13 y14 y15)) ∧ (∀ y0 y1 y2 y3 y4 y5 y6 y7 y8 y9 y10 y11 y12 y13 y14 y15, LeO (tocsinref08_entries.j3 k y0 y1 y2 y3 y4 y5 y6 y7 y8 y9 y10 y11 y12 y13 y14 y15) (tocsinref08_entries.j3 (k + 1) y0 y1 y2 y3 y4 y5 y6 y7 y8 y9 y10 y11 y12 y13 y14 y15)) ∧ (∀ y0 y1 y2 y3 y4 y5 y6 y7 y8 y9 y10 y11 y12 y13 y14 y15, LeO (tocsinref08_entries.l1 k y0 y1 y2 y3 y4 y5 y6 y7 y8 y9 y10 y11 y12 y13 y14 y15) (tocsinref08_entries.l1 (k + 1) y0 y1 y2 y3 y4 y5 y6 y7 y8 y9 y10 y11 y12 y13 y14 y15)) ∧ (∀ y0 y1 y2 y3 y4 y5 y6 y7 y8 y9 y10 y11 y12 y13 y14 y15 y16, LeO (tocsinref08_entries.j5 k y0 y1 y2 y3 y4 y5 y6 y7 y8 y9 y10 y11 y12 y13 y14 y15 y16) (tocsinref08_entries.j5 (k + 1) y0 y1 y2 y3 y4 y5 y6 y7 y8 y9 y10 y11 y12 y13 y14 y15 y16)) ∧ (∀ y0 y1 y2 y3 y4 y5 y6 y7 y8 y9 y10 y11 y12 y13 y14 y15 y16 y17 y18 y19 y20 y21 y22, LeO (tocsinref08_entries.j6 k y0 y1 y2 y3 y4 y5 y6 y7 y8 y9 y10 y11 y12 y13 y14 y15 y16 y17 y18 y19 y20 y21 y22) (tocsinref08_entries.j6 (k + 1) y0 y1 y2 y3 y4 y5 y6 y7 y8 y9 y10 y11 y12 y13 y14 y15 y16 y17 y18 y19 y20 y21 y22))
 | 0 => ⟨fun _ _ _ _ _ _ _ _ _ _ _ r h => by simp [tocsinref08_entries.j0] at h, fun _ _ _ _ _ _ _ _ _ _ _ r h => by simp [tocsinref08_entries.l0] at h, fun _ _ _ _ _ _ _ _ _ _ _ _ _ _ _ _ r h => by simp [tocsinref08_entries.j2] at h, fun _ _ _ _ _ _ _ _ _ _ _ _ _ _ _ _ r h => by simp [tocsinref08_entries.j3] at h, fun _ _ _ _ _ _ _ _ _ _ _ _ _ _ _ _ r h => by simp [tocsinref08_entries.l1] at h, fun _ _ _ _ _ _ _ _ _ _ _ _ _ _ _ _ _ r h => by simp [tocsinref08_entries.j5] at h, fun _ _ _ _ _ _ _ _ _ _ _ _ _ _ _ _ _ _ _ _ _ _ _ r h => by simp [tocsinref08_entries.j6] at h⟩
 | k + 1 => by
  obtain ⟨ih0, ih1, ih2, ih3, ih4, ih5, ih6⟩ := tocsinref08_entries.mono_l k
  refine ⟨?_, ?_, ?_, ?_, ?_, ?_, ?_⟩
  ·intro y0 y1 y2 y3 y4 y5 y6 y7 y8 y9 y10
   unfold tocsinref08_entries.j0
   repeat' first
   | (with_reducible exact ih0 _ _ _ _ _ _ _ _ _ _ _)
   | (with_reducible exact ih1 _ _ _ _ _ _ _ _ _ _ _)
   | (with_reducible exact ih2 _ _ _ _ _ _ _ _ _ _ _ _ _ _ _ _)
   | (with_reducible exact ih3 _ _ _ _ _ _ _ _ _ _ _ _ _ _ _ _)
   | (with_reducible exact ih4 _ _ _ _ _ _ _ _ _ _ _ _ _ _ _ _)
   | (with_reducible exact ih5 _ _ _ _ _ _ _ _ _ _ _ _ _ _ _ _ _)
   | (with_reducible exact ih6 _ _ _ _ _ _ _ _ _ _ _ _ _ _ _ _ _ _ _ _ _ _ _)
   | (with_reducible exact tocsinref08_Route.mono _ _ _ _ _)
   | (with_reducible exact LeO.refl _)
   | (with_reducible exact LeO.none _)
   | (with_reducible refine LeO.ite ?_ ?_)
   | (with_reducible refine LeO.bind ?_ (fun _ => ?_))
   | exact ih0 _ _ _ _ _ _ _ _ _ _ _
   | exact ih1 _ _ _ _ _ _ _ _ _ _ _
   | exact ih2 _ _ _ _ _ _ _ _ _ _ _ _ _ _ _ _
   | exact ih3 _ _ _ _ _ _ _ _ _ _ _ _ _ _ _ _
   | exact ih4 _ _ _ _ _ _ _ _ _ _ _ _ _ _ _ _
   | exact ih5 _ _ _ _ _ _ _ _ _ _ _ _ _ _ _ _ _
   | exact ih6 _ _ _ _ _ _ _ _ _ _ _ _ _ _ _ _ _ _ _ _ _ _ _
   | exact tocsinref08_Route.mono _ _ _ _ _
   | exact LeO.none _
   | refine LeO.ite ?_ ?_
   | refine LeO.bind ?_ (fun _ => ?_)
  ·intro y0 y1 y2 y3 y4 y5 y6 y7 y8 y9 y10
   unfold tocsinref08_entries.l0
   repeat' first
   | (with_reducible exact ih0 _ _ _ _ _ _ _ _ _ _ _)
   | (with_reducible exact ih1 _ _ _ _ _ _ _ _ _ _ _)
   | (with_reducible exact ih2 _ _ _ _ _ _ _ _ _ _ _ _ _ _ _ _)
   | (with_reducible exact ih3 _ _ _ _ _ _ _ _ _ _ _ _ _ _ _ _)
   | (with_reducible exact ih4 _ _ _ _ _ _ _ _ _ _ _ _ _ _ _ _)
   | (with_reducible exact ih5 _ _ _ _ _ _ _ _ _ _ _ _ _ _ _ _ _)
   | (with_reducible exact ih6 _ _ _ _ _ _ _ _ _ _ _ _ _ _ _ _ _ _ _ _ _ _ _)
   | (with_reducible exact tocsinref08_Route.mono _ _ _ _ _)
   | (with_reducible exact LeO.refl _)
   | (with_reducible exact LeO.none _)
   | (with_reducible refine LeO.ite ?_ ?_)
   | (with_reducible refine LeO.bind ?_ (fun _ => ?_))
   | exact ih0 _ _ _ _ _ _ _ _ _ _ _
   | exact ih1 _ _ _ _ _ _ _ _ _ _ _
   | exact ih2 _ _ _ _ _ _ _ _ _ _ _ _ _ _ _ _
   | exact ih3 _ _ _ _ _ _ _ _ _ _ _ _ _ _ _ _
   | exact ih4 _ _ _ _ _ _ _ _ _ _ _ _ _ _ _ _
   | exact ih5 _ _ _ _ _ _ _ _ _ _ _ _ _ _ _ _ _
   | exact ih6 _ _ _ _ _ _ _ _ _ _ _ _ _ _ _ _ _ _ _ _ _ _ _
   | exact tocsinref08_Route.mono _ _ _ _ _
   | exact LeO.none _
   | refine LeO.ite ?_ ?_
   | refine LeO.bind ?_ (fun _ => ?_)
  ·intro y0 y1 y2 y3 y4 y5 y6 y7 y8 y9 y10 y11 y12 y13 y14 y15
   unfold tocsinref08_entries.j2
   repeat' first
   | (with_reducible exact ih0 _ _ _ _ _ _ _ _ _ _ _)
   | (with_reducible exact ih1 _ _ _ _ _ _ _ _ _ _ _)
   | (with_reducible exact ih2 _ _ _ _ _ _ _ _ _ _ _ _ _ _ _ _)
   | (with_reducible exact ih3 _ _ _ _ _ _ _ _ _ _ _ _ _ _ _ _)
   | (with_reducible exact ih4 _ _ _ _ _ _ _ _ _ _ _ _ _ _ _ _)
   | (with_reducible exact ih5 _ _ _ _ _ _ _ _ _ _ _ _ _ _ _ _ _)
   | (with_reducible exact ih6 _ _ _ _ _ _ _ _ _ _ _ _ _ _ _ _ _ _ _ _ _ _ _)
   | (with_reducible exact tocsinref08_Route.mono _ _ _ _ _)
   | (with_reducible exact LeO.refl _)
   | (with_reducible exact LeO.none _)
   | (with_reducible refine LeO.ite ?_ ?_)
   | (with_reducible refine LeO.bind ?_ (fun _ => ?_))
   | exact ih0 _ _ _ _ _ _ _ _ _ _ _
   | exact ih1 _ _ _ _ _ _ _ _ _ _ _
   | exact ih2 _ _ _ _ _ _ _ _ _ _ _ _ _ _ _ _
   | exact ih3 _ _ _ _ _ _ _ _ _ _ _ _ _ _ _ _
   | exact ih4 _ _ _ _ _ _ _ _ _ _ _ _ _ _ _ _
   | exact ih5 _ _ _ _ _ _ _ _ _ _ _ _ _ _ _ _ _
   | exact ih6 _ _ _ _ _ _ _ _ _ _ _ _ _ _ _ _ _ _ _ _ _ _ _
   | exact tocsinref08_Route.mono _ _ _ _ _
   | exact LeO.none _
   | refine LeO.ite ?_ ?_
   | refine LeO.bind ?_ (fun _ => ?_)
  ·intro y0 y1 y2 y3 y4 y5 y6 y7 y8 y9 y10 y11 y12 y13 y14 y15
   unfold tocsinref08_entries.j3
   repeat' first
   | (with_reducible exact ih0 _ _ _ _ _ _ _ _ _ _ _)
   | (with_reducible exact ih1 _ _ _ _ _ _ _ _ _ _ _)
   | (with_reducible exact ih2 _ _ _ _ _ _ _ _ _ _ _ _ _ _ _ _)
   | (with_reducible exact ih3 _ _ _ _ _ _ _ _ _ _ _ _ _ _ _ _)
   | (with_reducible exact ih4 _ _ _ _ _ _ _ _ _ _ _ _ _ _ _ _)
   | (with_reducible exact ih5 _ _ _ _ _ _ _ _ _ _ _ _ _ _ _ _ _)
   | (with_reducible exact ih6 _ _ _ _ _ _ _ _ _ _ _ _ _ _ _ _ _ _ _ _ _ _ _)
   | (with_reducible exact tocsinref08_Route.mono _ _ _ _ _)
   | (with_reducible exact LeO.refl _)
   | (with_reducible exact LeO.none _)
   | (with_reducible refine LeO.ite ?_ ?_)
   | (with_reducible refine LeO.bind ?_ (fun _ => ?_))
   | exact ih0 _ _ _ _ _ _ _ _ _ _ _
   | exact ih1 _ _ _ _ _ _ _ _ _ _ _
   | exact ih2 _ _ _ _ _ _ _ _ _ _ _ _ _ _ _ _
   | exact ih3 _ _ _ _ _ _ _ _ _ _ _ _ _ _ _ _
   | exact ih4 _ _ _ _ _ _ _ _ _ _ _ _ _ _ _ _
   | exact ih5 _ _ _ _ _ _ _ _ _ _ _ _ _ _ _ _ _
   | exact ih6 _ _ _ _ _ _ _ _ _ _ _ _ _ _ _ _ _ _ _ _ _ _ _
   | exact tocsinref08_Route.mono _ _ _ _ _
   | exact LeO.none _
   | refine LeO.ite ?_ ?_
   | refine LeO.bind ?_ (fun _ => ?_)
  ·intro y0 y1 y2 y3 y4 y5 y6 y7 y8 y9 y10 y11 y12 y13 y14 y15
   unfold tocsinref08_entries.l1
   repeat' first
   | (with_reducible exact ih0 _ _ _ _ _ _ _ _ _ _ _)
   | (with_reducible exact ih1 _ _ _ _ _ _ _ _ _ _ _)
   | (with_reducible exact ih2 _ _ _ _ _ _ _ _ _ _ _ _ _ _ _ _)
   | (with_reducible exact ih3 _ _ _ _ _ _ _ _ _ _ _ _ _ _ _ _)
   | (with_reducible exact ih4 _ _ _ _ _ _ _ _ _ _ _ _ _ _ _ _)
   | (with_reducible exact ih5 _ _ _ _ _ _ _ _ _ _ _ _ _ _ _ _ _)
   | (with_reducible exact ih6 _ _ _ _ _ _ _ _ _ _ _ _ _ _ _ _ _ _ _ _ _ _ _)
   | (with_reducible exact tocsinref08_Route.mono _ _ _ _ _)
   | (with_reducible exact LeO.refl _)
   | (with_reducible exact LeO.none _)
   | (with_reducible refine LeO.ite ?_ ?_)
   | (with_reducible refine LeO.bind ?_ (fun _ => ?_))
   | exact ih0 _ _ _ _ _ _ _ _ _ _ _
   | exact ih1 _ _ _ _ _ _ _ _ _ _ _
   | exact ih2 _ _ _ _ _ _ _ _ _ _ _ _ _ _ _ _
   | exact ih3 _ _ _ _ _ _ _ _ _ _ _ _ _ _ _ _
   | exact ih4 _ _ _ _ _ _ _ _ _ _ _ _ _ _ _ _
   | exact ih5 _ _ _ _ _ _ _ _ _ _ _ _ _ _ _ _ _
   | exact ih6 _ _ _ _ _ _ _ _ _ _ _ _ _ _ _ _ _ _ _ _ _ _ _
   | exact tocsinref08_Route.mono _ _ _ _ _
   | exact LeO.none _
   | refine LeO.ite ?_ ?_
   | refine LeO.bind ?_ (fun _ => ?_)
  ·intro y0 y1 y2 y3 y4 y5 y6 y7 y8 y9 y10 y11 y12 y13 y14 y15 y16
   unfold tocsinref08_entries.j5
   repeat' first
   | (with_reducible exact ih0 _ _ _ _ _ _ _ _ _ _ _)
   | (with_reducible exact ih1 _ _ _ _ _ _ _ _ _ _ _)
   | (with_reducible exact ih2 _ _ _ _ _ _ _ _ _ _ _ _ _ _ _ _)
   | (with_reducible exact ih3 _ _ _ _ _ _ _ _ _ _ _ _ _ _ _ _)
   | (with_reducible exact ih4 _ _ _ _ _ _ _ _ _ _ _ _ _ _ _ _)
   | (with_reducible exact ih5 _ _ _ _ _ _ _ _ _ _ _ _ _ _ _ _ _)
   | (with_reducible exact ih6 _ _ _ _ _ _ _ _ _ _ _ _ _ _ _ _ _ _ _ _ _ _ _)
   | (with_reducible exact tocsinref08_Route.mono _ _ _ _ _)
   | (with_reducible exact LeO.refl _)
   | (with_reducible exact LeO.none _)
   | (with_reducible refine LeO.ite ?_ ?_)
   | (with_reducible refine LeO.bind ?_ (fun _ => ?_))
   | exact ih0 _ _ _ _ _ _ _ _ _ _ _
   | exact ih1 _ _ _ _ _ _ _ _ _ _ _
   | exact ih2 _ _ _ _ _ _ _ _ _ _ _ _ _ _ _ _
   | exact ih3 _ _ _ _ _ _ _ _ _ _ _ _ _ _ _ _
   | exact ih4 _ _ _ _ _ _ _ _ _ _ _ _ _ _ _ _
   | exact ih5 _ _ _ _ _ _ _ _ _ _ _ _ _ _ _ _ _
   | exact ih6 _ _ _ _ _ _ _ _ _ _ _ _ _ _ _ _ _ _ _ _ _ _ _
   | exact tocsinref08_Route.mono _ _ _ _ _
   | exact LeO.none _
   | refine LeO.ite ?_ ?_
   | refine LeO.bind ?_ (fun _ => ?_)
  ·intro y0 y1 y2 y3 y4 y5 y6 y7 y8 y9 y10 y11 y12 y13 y14 y15 y16 y17 y18 y19 y20 y21 y22
   unfold tocsinref08_entries.j6
   repeat' first
   | (with_reducible exact ih0 _ _ _ _ _ _ _ _ _ _ _)
   | (with_reducible exact ih1 _ _ _ _ _ _ _ _ _ _ _)
   | (with_reducible exact ih2 _ _ _ _ _ _ _ _ _ _ _ _ _ _ _ _)
   | (with_reducible exact ih3 _ _ _ _ _ _ _ _ _ _ _ _ _ _ _ _)
   | (with_reducible exact ih4 _ _ _ _ _ _ _ _ _ _ _ _ _ _ _ _)
   | (with_reducible exact ih5 _ _ _ _ _ _ _ _ _ _ _ _ _ _ _ _ _)
   | (with_reducible exact ih6 _ _ _ _ _ _ _ _ _ _ _ _ _ _ _ _ _ _ _ _ _ _ _)
   | (with_reducible exact tocsinref08_Route.mono _ _ _ _ _)
   | (with_reducible exact LeO.refl _)
   | (with_reducible exact LeO.none _)
   | (with_reducible refine LeO.ite ?_ ?_)
   | (with_reducible refine LeO.bind ?_ (fun _ => ?_))
   | exact ih0 _ _ _ _ _ _ _ _ _ _ _
   | exact ih1 _ _ _ _ _ _ _ _ _ _ _
   | exact ih2 _ _ _ _ _ _ _ _ _ _ _ _ _ _ _ _
   | exact ih3 _ _ _ _ _ _ _ _ _ _ _ _ _ _ _ _
   | exact ih4 _ _ _ _ _ _ _ _ _ _ _ _ _ _ _ _
   | exact ih5 _ _ _ _ _ _ _ _ _ _ _ _ _ _ _ _ _
   | exact ih6 _ _ _ _ _ _ _ _ _ _ _ _ _ _ _ _ _ _ _ _ _ _ _
   | exact tocsinref08_Route.mono _ _ _ _ _
   | exact LeO.none _
   | refine LeO.ite ?_ ?_
   | refine LeO.bind ?_ (fun _ => ?_)
theorem tocsinref08_entries.mono : ∀ a0 a1 a2 a3 a4 a5 a6 a7 a8 a9 k, LeO (tocsinref08_entries.f k a0 a1 a2 a3 a4 a5 a6 a7 a8 a9) (tocsinref08_entries.f (k + 1) a0 a1 a2 a3 a4 a5 a6 a7 a8 a9) := by
 intro a0 a1 a2 a3 a4 a5 a6 a7 a8 a9 k
 obtain ⟨ih0, ih1, ih2, ih3, ih4, ih5, ih6⟩ := tocsinref08_entries.mono_l k
 unfold tocsinref08_entries.f
 repeat' first
   | (with_reducible exact ih0 _ _ _ _ _ _ _ _ _ _ _)
   | (with_reducible exact ih1 _ _ _ _ _ _ _ _ _ _ _)
   | (with_reducible exact ih2 _ _ _ _ _ _ _ _ _ _ _ _ _ _ _ _)
   | (with_reducible exact ih3 _ _ _ _ _ _ _ _ _ _ _ _ _ _ _ _)
   | (with_reducible exact ih4 _ _ _ _ _ _ _ _ _ _ _ _ _ _ _ _)
   | (with_reducible exact ih5 _ _ _ _ _ _ _ _ _ _ _ _ _ _ _ _ _)
   | (with_reducible exact ih6 _ _ _ _ _ _ _ _ _ _ _ _ _ _ _ _ _ _ _ _ _ _ _)
   | (with_reducible exact tocsinref08_Route.mono _ _ _ _ _)
   | (with_reducible exact LeO.refl _)
   | (with_reducible exact LeO.none _)
   | (with_reducible refine LeO.ite ?_ ?_)
   | (with_reducible refine LeO.bind ?_ (fun _ => ?_))
   | exact ih0 _ _ _ _ _ _ _ _ _ _ _
   | exact ih1 _ _ _ _ _ _ _ _ _ _ _
   | exact ih2 _ _ _ _ _ _ _ _ _ _ _ _ _ _ _ _
   | exact ih3 _ _ _ _ _ _ _ _ _ _ _ _ _ _ _ _
   | exact ih4 _ _ _ _ _ _ _ _ _ _ _ _ _ _ _ _
   | exact ih5 _ _ _ _ _ _ _ _ _ _ _ _ _ _ _ _ _
   | exact ih6 _ _ _ _ _ _ _ _ _ _ _ _ _ _ _ _ _ _ _ _ _ _ _
   | exact tocsinref08_Route.mono _ _ _ _ _
   | exact LeO.none _
   | refine LeO.ite ?_ ?_
   | refine LeO.bind ?_ (fun _ => ?_)
def tocsinref08_entries.T9 : Bool × List (List Nat × List Nat) := (true, [([], []), ([0], [0]), ([1], [1]), ([2], [2]), ([3, 2], [2, 3]), ([2], [2]), ([5, 2, 2], [2, 5]), ([4, 6, 2], [2, 4, 6]), ([7, 6, 2], [2, 7]), ([8], [8]), ([9, 8], [8, 9]), ([8], [8]), ([11, 8], [8, 11]), ([10, 12, 8], [8, 10, 12]), ([8, 13, 2], [2, 8, 13]), ([14, 8, 2], [2, 14]), ([15], [15]), ([15], [15]), ([16, 17, 15, 15], [15, 16, 17]), ([18, 15], [15, 18]), ([15], [15]), ([20, 15], [15, 20]), ([19, 21, 15], [15, 19, 21]), ([15, 22, 2], [2, 15, 22]), ([2, 23], [2, 23])])
def tocsinref08_entries.B9 : List Nat := [0, 1, 3, 7, 15, 7, 39, 127, 255, 511, 1023, 511, 2559, 8191, 16383, 32767, 65535, 65535, 262143, 524287, 65535, 1114111, 4194303, 8388607, 16777215]
theorem tocsinref08_entries.tab9 : rtab .any (opsOf Try.f42 9) = tocsinref08_entries.T9 := by kernel_rfl
theorem tocsinref08_entries.bits9 : waitsOk tocsinref08_entries.T9.2 tocsinref08_entries.B9 = true := by kernel_rfl
def tocsinref08_entries.T15 : Bool × List (List Nat × List Nat) := (true, [([], []), ([0], [0]), ([1], [1]), ([], []), ([3], [3]), ([4, 2], [4]), ([2, 5, 0, 1, 2], [2]), ([5, 6, 0, 1, 2, 3, 4, 5, 6], [5])])
def tocsinref08_entries.B15 : List Nat := [0, 1, 3, 0, 8, 31, 63, 127]
theorem tocsinref08_entries.tab15 : rtab .any (opsOf Try.f42 15) = tocsinref08_entries.T15 := by kernel_rfl
theorem tocsinref08_entries.bits15 : waitsOk tocsinref08_entries.T15.2 tocsinref08_entries.B15 = true := by kernel_rfl
def tocsinref08_entries.T18 : Bool × List (List Nat × List Nat) := (true, [([], []), ([0], [0]), ([1], [1]), ([2], [2]), ([3, 2], [2, 3]), ([2], [2]), ([5, 2], [2, 5]), ([4, 6, 2], [2, 4, 6]), ([7, 2], [2, 7]), ([2, 8], [2, 8]), ([9, 2], [9]), ([10], [10]), ([10], [10]), ([11, 12, 10, 10], [10, 11, 12]), ([13, 10], [10, 13]), ([10], [10]), ([10], [10]), ([10], [10]), ([16, 17, 13, 10], [10, 16, 17]), ([18, 10], [10, 18]), ([10], [10]), ([14, 15, 19, 20, 18, 10], [10, 14, 15, 19, 20]), ([10, 21], [10, 21])])
def tocsinref08_entries.B18 : List Nat := [0, 1, 3, 7, 15, 7, 39, 127, 255, 511, 1023, 2047, 2047, 8191, 16383, 2047, 2047, 2047, 212991, 475135, 2047, 2097151, 4194303]
theorem tocsinref08_entries.tab18 : rtab .any (opsOf Try.f42 18) = tocsinref08_entries.T18 := by kernel_rfl
theorem tocsinref08_entries.bits18 : waitsOk tocsinref08_entries.T18.2 tocsinref08_entries.B18 = true := by kernel_rfl
set_option maxHeartbeats 8000000 in
set_option maxRecDepth 100000 in
theorem tocsinref08_entries.calls (k : Nat) (a0_0 : Int) (a0_1 : Int) (a0_2 : Int) (a0_3 : Int) (a0_4 : Int) (A0_5 : Option Addr) (c0_5 : Nat) (l0_5 : List (List Int)) (A0_6 : Option Addr) (c0_6 : Nat) (l0_6 : List (S40)) (A0_7 : Option Addr) (c0_7 : Nat) (l0_7 : List (S63)) (a0_8 : Int) (a1 : Int) (r : Bool) (w : World) (hr0_5 : Kd.C (Kd.slice 2 (Kd.int .i64)) w A0_5 l0_5.length l0_5) (hc0_5 : l0_5.length ≤ c0_5) (hr0_6 : Kd.C k40 w A0_6 l0_6.length l0_6) (hc0_6 : l0_6.length ≤ c0_6) (hr0_7 : Kd.C k63 w A0_7 l0_7.length l0_7) (hc0_7 : l0_7.length ≤ c0_7) (h : tocsinref08_entries.f k a0_0 a0_1 a0_2 a0_3 a0_4 l0_5 l0_6 l0_7 a0_8 a1 = some r) :
  Calls Try.prog 42 #[.agg #[.int .i64 a0_0, .int .i64 a0_1, .int .i64 a0_2, .int .i64 a0_3, .int .i64 a0_4, .slice A0_5 l0_5.length c0_5, .slice A0_6 l0_6.length c0_6, .slice A0_7 l0_7.length c0_7, .int .i64 a0_8], .int .i64 a1] w fun e w' => e = .returned (.bool r) ∧ Below w.heap.size w w' := by
 have hu26 := Try.underlying26
 have hu40 := Try.underlying40
 have HR0_5 := Aside0.mk hr0_5
 have HC0_5 := Aside0.mk hc0_5
 clear hr0_5 hc0_5
 have HR0_6 := Aside0.mk hr0_6
 have HC0_6 := Aside0.mk hc0_6
 clear hr0_6 hc0_6
 have HR0_7 := Aside0.mk hr0_7
 have HC0_7 := Aside0.mk hc0_7
 clear hr0_7 hc0_7
 have HB := Aside0.mk (Below.refl w.heap.size w)
 have H : (if a1 = 5 then (tocsinref08_entries.j0 k a1 (decide ((l0_6.length : Int) > 16)) a0_0 a0_1 a0_2 a0_3 a0_4 l0_5 l0_6 l0_7 a0_8) else (tocsinref08_entries.j0 k a1 false a0_0 a0_1 a0_2 a0_3 a0_4 l0_5 l0_6 l0_7 a0_8)) = some r := h
 clear h
 have HC3 := Aside0.mk H
 clear H
 go_enter Try.func42, Try.ntmps42
 go_upto_region 1 with (first | ((with_reducible refine gate_dst (N := 2) rfl ?_); (try (refine gate_guard (by rfl) ?_; dsimp only)); refine boxe (N := 2) (cs := #[.int .i64 a0_0, .int .i64 a0_1, .int .i64 a0_2, .int .i64 a0_3, .int .i64 a0_4, .slice A0_5 l0_5.length c0_5, .slice A0_6 l0_6.length c0_6, .slice A0_7 l0_7.length c0_7, .int .i64 a0_8]) (t := 26) ?_; intro gb150 hg w4 hbox hb; have BK150 := Aside0.mk (hbox); have GW150 := bg0 hg HB; have GE150 := GW150; replace HB := bs0 HB hb; clear hb hbox hg))
 (try simp only [Act.put, sT, sZ, sS])
 go_cut [18] (fun v18 wc => ∃ (kq : Nat) (x18_2 : Bool), v18 = .bool x18_2 ∧ Aside0 (tocsinref08_entries.j0 kq a1 x18_2 a0_0 a0_1 a0_2 a0_3 a0_4 l0_5 l0_6 l0_7 a0_8 = some r) ∧ Aside0 (kq ≤ k) ∧ Aside0 (wc.heap[gb150]? = some (.cells #[.int .i64 a0_0, .int .i64 a0_1, .int .i64 a0_2, .int .i64 a0_3, .int .i64 a0_4, (.slice A0_5 l0_5.length c0_5), (.slice A0_6 l0_6.length c0_6), (.slice A0_7 l0_7.length c0_7), .int .i64 a0_8] 26 (0, 0))) ∧ Aside0 (Below w.heap.size w wc))
 case first =>
  have H := HC3.out
  clear HC3
  by_cases c5 : a1 = 5
  ·rw [if_pos c5] at H
   have c5b0 : (a1 == 5) = true := beq_iff_eq.mpr c5
   have c5b1 : (a1 != 5) = false := bne_eq_false_iff_eq.mpr c5
   clear c5
   (first | rw [c5b0] | (simp only [i64_w, i32_w]; rw [c5b0]) | skip)
   have H' := Aside0.mk H
   clear H
   obtain ⟨hcz6_0, hcz6_1, hcz6_2, hcz6_3, hcz6_4, hcz6_5, hcz6_6, hcz6_7, hcz6_8, hfz6_0, hfz6_1, hfz6_2, hfz6_3, hfz6_4, hfz6_5, hfz6_6, hfz6_7, hfz6_8⟩ := bz9 BK150
   go_wp2
   go_meet
   case rel => exact ⟨_, (decide ((l0_6.length : Int) > 16)), rs, H', ⟨by first | omega | exact Nat.le_refl _⟩, ⟨bk BK150⟩, ⟨bw1 HB GE150⟩⟩
  ·rw [if_neg c5] at H
   have c5b0 : (a1 == 5) = false := beq_eq_false_iff_ne.mpr c5
   have c5b1 : (a1 != 5) = true := bne_iff_ne.mpr c5
   (first | rw [c5b0] | (simp only [i64_w, i32_w]; rw [c5b0]) | skip)
   have H' := Aside0.mk H
   clear H
   go_wp2
   go_meet
   case rel => exact ⟨_, (false), rs, H', ⟨by first | omega | exact Nat.le_refl _⟩, ⟨bk BK150⟩, ⟨bw1 HB GE150⟩⟩
 case rest =>
  clear HC3
  try clear p2
  try clear c4
  try clear c5
  try clear c5b0
  try clear c5b1
  try clear hcz6_0 hcz6_1 hcz6_2 hcz6_3 hcz6_4 hcz6_5 hcz6_6 hcz6_7 hcz6_8
  try clear hfz6_0 hfz6_1 hfz6_2 hfz6_3 hfz6_4 hfz6_5 hfz6_6 hfz6_7 hfz6_8
  obtain ⟨kq, x18_2, rfl, HA, HJ2, BK150, HB⟩ := hcut
  cases kq with
  | zero => exact absurd HA.out (by simp [tocsinref08_entries.j0])
  | succ kj2 =>
   have H := HA.out
   clear HA
   simp only [tocsinref08_entries.j0] at H
   by_cases c7 : x18_2 = true
   ·subst c7
    have H1 : (some true) = some r := by rw [if_pos rfl] at H; exact H
    clear H
    have H := H1
    clear H1
    obtain rfl := Option.some.inj H
    go_wp2
    go_ret
    exact ⟨re, bw1 HB GE150⟩
   ·replace c7 := Bool.eq_false_iff.mpr c7
    subst c7
    have H1 : (tocsinref08_entries.l0 kj2 a1 0 a0_0 a0_1 a0_2 a0_3 a0_4 l0_5 l0_6 l0_7 a0_8) = some r := by rw [if_neg (show ¬ (false = true) by decide)] at H; exact H
    clear H
    have H := H1
    clear H1
    have H' := Aside0.mk H
    clear H
    go_wp2
    (try simp only [Act.put, sT, sZ, sS])
    go_loopg [5] kj2 (fun kq v5 w' => ∃ (x5_2 : Int), v5 = .int .i64 x5_2 ∧ Aside0 (tocsinref08_entries.l0 kq a1 x5_2 a0_0 a0_1 a0_2 a0_3 a0_4 l0_5 l0_6 l0_7 a0_8 = some r) ∧ Aside0 (kq ≤ kj2) ∧ Aside0 (w'.heap[gb150]? = some (.cells #[.int .i64 a0_0, .int .i64 a0_1, .int .i64 a0_2, .int .i64 a0_3, .int .i64 a0_4, (.slice A0_5 l0_5.length c0_5), (.slice A0_6 l0_6.length c0_6), (.slice A0_7 l0_7.length c0_7), .int .i64 a0_8] 26 (0, 0))) ∧ Aside0 (Below w.heap.size w w'))
    case atStart => exact ⟨(0), rs, H', ⟨Nat.le_refl _⟩, ⟨bk BK150⟩, ⟨bw1 HB GE150⟩⟩
    case round =>
     clear H'
     try clear p2
     try clear c4
     try clear c5
     try clear c5b0
     try clear c5b1
     try clear c7
     try clear hcz6_0 hcz6_1 hcz6_2 hcz6_3 hcz6_4 hcz6_5 hcz6_6 hcz6_7 hcz6_8
     try clear hfz6_0 hfz6_1 hfz6_2 hfz6_3 hfz6_4 hfz6_5 hfz6_6 hfz6_7 hfz6_8
     try clear p2
     obtain ⟨x5_2, rfl, HA, HK2, BK150, HB⟩ := hrel
     cases gk with
     | zero => exact absurd HA.out (by simp [tocsinref08_entries.l0])
     | succ k2 =>
      have H := HA.out
      clear HA
      simp only [tocsinref08_entries.l0] at H
      by_cases c8 : x5_2 < (l0_6.length : Int)
      ·rw [if_pos c8] at H
       have c8b0 : decide (x5_2 < (l0_6.length : Int)) = true := decide_eq_true c8
       clear c8
       by_cases c9 : 0 ≤ x5_2
       ·rw [if_pos c9] at H
        have c9b0 : decide (0 ≤ x5_2) = true := decide_eq_true c9
        clear c9
        have HC10 := Aside0.mk H
        clear H
        obtain ⟨hcz11_0, hcz11_1, hcz11_2, hcz11_3, hcz11_4, hcz11_5, hcz11_6, hcz11_7, hcz11_8, hfz11_0, hfz11_1, hfz11_2, hfz11_3, hfz11_4, hfz11_5, hfz11_6, hfz11_7, hfz11_8⟩ := bz9 BK150
        have p151 : 0 ≤ (x5_2 : Int) := of_decide_eq_true (by first | (with_reducible assumption) | assumption)
        have q151 : x5_2 < (l0_6.length : Int) := of_decide_eq_true (by first | (with_reducible assumption) | assumption)
        obtain ⟨ad151, e151, hx151_0, hx151_1, hx151_2, hx151_3⟩ := at_T40 HR0_6.out x5_2 p151 q151
        cases e151
        replace hx151_0 := pcb HB hx151_0
        replace hx151_1 := pcb HB hx151_1
        replace hx151_2 := pcb HB hx151_2
        replace hx151_3 := pcb HB hx151_3
        replace p151 := eq_true p151
        replace q151 := eq_true q151
        go_upto_region 7 with (first | ((with_reducible refine gate_dst (N := 6) rfl ?_); (try (refine gate_guard (by rfl) ?_; dsimp only)); refine boxe (N := 6) (cs := #[.int .i64 0, .int .u32 0, .int .i64 0, .int .i64 0]) (t := 40) ?_; intro gb152 hg w12 hbox hb; have BK152 := Aside0.mk (hbox); have GW152 := bg1 hg HB GE150; have GE152 := GW152; have NB150_152 := nl hg BK150; have NB152_150 := ng hg BK150; replace BK150 := bb BK150 hb; replace HB := bs1 HB GE150 hb; clear hb hbox hg; have hnb13 := NB152_150.out; have hnc13 := NB150_152.out; obtain ⟨hcz14_0, hcz14_1, hcz14_2, hcz14_3, hfz14_0, hfz14_1, hfz14_2, hfz14_3⟩ := bz4 BK152))
        (try simp only [Act.put, sT, sZ, sS])
        go_cut [44] (fun v44 wc => ∃ (kq : Nat) (x44_9 : Bool), v44 = .bool x44_9 ∧ Aside0 (tocsinref08_entries.j2 kq a1 x5_2 x44_9 a0_0 a0_1 a0_2 a0_3 a0_4 l0_5 l0_6 l0_7 a0_8 ((rd_T40 l0_6 x5_2).f0) ((rd_T40 l0_6 x5_2).f1) ((rd_T40 l0_6 x5_2).f2) ((rd_T40 l0_6 x5_2).f3) = some r) ∧ Aside0 (kq ≤ k2) ∧ Aside0 (wc.heap[gb150]? = some (.cells #[.int .i64 a0_0, .int .i64 a0_1, .int .i64 a0_2, .int .i64 a0_3, .int .i64 a0_4, (.slice A0_5 l0_5.length c0_5), (.slice (some ad151) l0_6.length c0_6), (.slice A0_7 l0_7.length c0_7), .int .i64 a0_8] 26 (0, 0))) ∧ Aside0 (wc.heap[gb152]? = some (.cells #[.int .i64 ((rd_T40 l0_6 x5_2).f0), .int .u32 ((rd_T40 l0_6 x5_2).f1), .int .i64 ((rd_T40 l0_6 x5_2).f2), .int .i64 ((rd_T40 l0_6 x5_2).f3)] 40 (0, 0))) ∧ Aside0 (Below w.heap.size w wc))
        case first =>
         have H := HC10.out
         clear HC10
         by_cases c15 : a1 = 5
         ·rw [if_pos c15] at H
          have c15b0 : (a1 == 5) = true := beq_iff_eq.mpr c15
          have c15b1 : (a1 != 5) = false := bne_eq_false_iff_eq.mpr c15
          clear c15
          (first | rw [c15b0] | (simp only [i64_w, i32_w]; rw [c15b0]) | skip)
          replace H := Option.bind_eq_some_iff.mp H
          obtain ⟨t153, A160, H⟩ := H
          replace H : (tocsinref08_entries.j2 k2 a1 x5_2 (!t153) a0_0 a0_1 a0_2 a0_3 a0_4 l0_5 l0_6 l0_7 a0_8 ((rd_T40 l0_6 x5_2).f0) ((rd_T40 l0_6 x5_2).f1) ((rd_T40 l0_6 x5_2).f2) ((rd_T40 l0_6 x5_2).f3)) = some r := H
          have A16 := Aside0.mk A160
          clear A160
          have H' := Aside0.mk H
          clear H
          have hnb17 := NB150_152.out
          have hnc17 := NB152_150.out
          obtain ⟨hcz18_0, hcz18_1, hcz18_2, hcz18_3, hcz18_4, hcz18_5, hcz18_6, hcz18_7, hcz18_8, hfz18_0, hfz18_1, hfz18_2, hfz18_3, hfz18_4, hfz18_5, hfz18_6, hfz18_7, hfz18_8⟩ := bz9 BK150
          obtain ⟨hcz19_0, hcz19_1, hcz19_2, hcz19_3, hfz19_0, hfz19_1, hfz19_2, hfz19_3⟩ := bz4 BK152
          go_wp2_with (first | (go_at_call 43; (with_reducible refine (tocsinref08_Route.calls k2 a0_0 ((rd_T40 l0_6 x5_2).f0) ((rd_T40 l0_6 x5_2).f1) ((rd_T40 l0_6 x5_2).f3) t153 _ A16.out).mono ?_); rintro e w' ⟨rfl, ⟨nd, rfl⟩⟩))
          all_goals try (exfalso; (try have z0_ := of_decide_eq_true c8b0); omega)
          go_meet
          case rel => exact ⟨_, (!t153), rs, H', ⟨by have := HJ2.out; have := HK2.out; first | omega | exact Nat.le_refl _⟩, ⟨bf1 NB150_152 BK150⟩, ⟨by (with_reducible repeat (first | refine blk_drewN ?_ _ | refine blk_drew ?_ | refine blk_alloc ?_ _)); refine blk_put (cs := #[.int .i64 ((rd_T40 l0_6 x5_2).f0), .int .u32 ((rd_T40 l0_6 x5_2).f1), .int .i64 ((rd_T40 l0_6 x5_2).f2), .int .i64 0]) ?_ 3 _ rt; (with_reducible repeat (first | refine blk_drewN ?_ _ | refine blk_drew ?_ | refine blk_alloc ?_ _)); refine blk_put (cs := #[.int .i64 ((rd_T40 l0_6 x5_2).f0), .int .u32 ((rd_T40 l0_6 x5_2).f1), .int .i64 0, .int .i64 0]) ?_ 2 _ rt; (with_reducible repeat (first | refine blk_drewN ?_ _ | refine blk_drew ?_ | refine blk_alloc ?_ _)); refine blk_put (cs := #[.int .i64 ((rd_T40 l0_6 x5_2).f0), .int .u32 0, .int .i64 0, .int .i64 0]) ?_ 1 _ rt; (with_reducible repeat (first | refine blk_drewN ?_ _ | refine blk_drew ?_ | refine blk_alloc ?_ _)); refine blk_put (cs := #[.int .i64 0, .int .u32 0, .int .i64 0, .int .i64 0]) ?_ 0 _ rt; (with_reducible repeat (first | refine blk_drewN ?_ _ | refine blk_drew ?_ | refine blk_alloc ?_ _)); exact BK152.out⟩, ⟨bw2 HB GE150 GE152⟩⟩
         ·rw [if_neg c15] at H
          have c15b0 : (a1 == 5) = false := beq_eq_false_iff_ne.mpr c15
          have c15b1 : (a1 != 5) = true := bne_iff_ne.mpr c15
          (first | rw [c15b0] | (simp only [i64_w, i32_w]; rw [c15b0]) | skip)
          have H' := Aside0.mk H
          clear H
          go_wp2
          all_goals try (exfalso; (try have z0_ := of_decide_eq_true c8b0); omega)
          go_meet
          case rel => exact ⟨_, (false), rs, H', ⟨by have := HJ2.out; have := HK2.out; first | omega | exact Nat.le_refl _⟩, ⟨bf1 NB150_152 BK150⟩, ⟨by (with_reducible repeat (first | refine blk_drewN ?_ _ | refine blk_drew ?_ | refine blk_alloc ?_ _)); refine blk_put (cs := #[.int .i64 ((rd_T40 l0_6 x5_2).f0), .int .u32 ((rd_T40 l0_6 x5_2).f1), .int .i64 ((rd_T40 l0_6 x5_2).f2), .int .i64 0]) ?_ 3 _ rt; (with_reducible repeat (first | refine blk_drewN ?_ _ | refine blk_drew ?_ | refine blk_alloc ?_ _)); refine blk_put (cs := #[.int .i64 ((rd_T40 l0_6 x5_2).f0), .int .u32 ((rd_T40 l0_6 x5_2).f1), .int .i64 0, .int .i64 0]) ?_ 2 _ rt; (with_reducible repeat (first | refine blk_drewN ?_ _ | refine blk_drew ?_ | refine blk_alloc ?_ _)); refine blk_put (cs := #[.int .i64 ((rd_T40 l0_6 x5_2).f0), .int .u32 0, .int .i64 0, .int .i64 0]) ?_ 1 _ rt; (with_reducible repeat (first | refine blk_drewN ?_ _ | refine blk_drew ?_ | refine blk_alloc ?_ _)); refine blk_put (cs := #[.int .i64 0, .int .u32 0, .int .i64 0, .int .i64 0]) ?_ 0 _ rt; (with_reducible repeat (first | refine blk_drewN ?_ _ | refine blk_drew ?_ | refine blk_alloc ?_ _)); exact BK152.out⟩, ⟨bw2 HB GE150 GE152⟩⟩
        case rest =>
         clear HC10
         try clear c1
         try clear p1
         try clear q1
         try clear hx1
         try clear p2
         try clear c4
         try clear c5
         try clear c5b0
         try clear c5b1
         try clear c7
         try clear c8
         try clear c8b0
         try clear c9
         try clear c9b0
         try clear c13
         try clear c15
         try clear c15b0
         try clear c15b1
         try clear p15
         try clear q15
         try clear hx15
         try clear c17
         try clear hcz11_0 hcz11_1 hcz11_2 hcz11_3 hcz11_4 hcz11_5 hcz11_6 hcz11_7 hcz11_8
         try clear hcz14_0 hcz14_1 hcz14_2 hcz14_3
         try clear hcz18_0 hcz18_1 hcz18_2 hcz18_3 hcz18_4 hcz18_5 hcz18_6 hcz18_7 hcz18_8
         try clear hcz19_0 hcz19_1 hcz19_2 hcz19_3
         try clear hcz6_0 hcz6_1 hcz6_2 hcz6_3 hcz6_4 hcz6_5 hcz6_6 hcz6_7 hcz6_8
         try clear hfz11_0 hfz11_1 hfz11_2 hfz11_3 hfz11_4 hfz11_5 hfz11_6 hfz11_7 hfz11_8
         try clear hfz14_0 hfz14_1 hfz14_2 hfz14_3
         try clear hfz18_0 hfz18_1 hfz18_2 hfz18_3 hfz18_4 hfz18_5 hfz18_6 hfz18_7 hfz18_8
         try clear hfz19_0 hfz19_1 hfz19_2 hfz19_3
         try clear hfz6_0 hfz6_1 hfz6_2 hfz6_3 hfz6_4 hfz6_5 hfz6_6 hfz6_7 hfz6_8
         try clear hx151_0
         try clear hx151_1
         try clear hx151_2
         try clear hx151_3
         try clear p151
         try clear p2
         try clear q151
         obtain ⟨kq, x44_9, rfl, HA, HJ9, BK150, BK152, HB⟩ := hcut
         cases kq with
         | zero => exact absurd HA.out (by simp [tocsinref08_entries.j2])
         | succ kj9 =>
          have H := HA.out
          clear HA
          simp only [tocsinref08_entries.j2] at H
          by_cases c20 : x44_9 = true
          ·subst c20
           have H1 : (some true) = some r := by rw [if_pos rfl] at H; exact H
           clear H
           have H := H1
           clear H1
           obtain rfl := Option.some.inj H
           go_wp2
           all_goals try (exfalso; (try have z0_ := of_decide_eq_true c8b0); omega)
           go_ret
           exact ⟨re, bw2 HB GE150 GE152⟩
          ·replace c20 := Bool.eq_false_iff.mpr c20
           subst c20
           have H1 : (if a1 = 6 then ((tocsinref08_Quiet.f a0_0 a0_1 a0_2 a0_3 a0_4 l0_5 l0_6 l0_7 a0_8).bind fun t154 => (if ((rd_T40 l0_6 x5_2).f2) < t154 then (tocsinref08_entries.j3 kj9 a1 x5_2 true a0_0 a0_1 a0_2 a0_3 a0_4 l0_5 l0_6 l0_7 a0_8 ((rd_T40 l0_6 x5_2).f0) ((rd_T40 l0_6 x5_2).f1) ((rd_T40 l0_6 x5_2).f2) ((rd_T40 l0_6 x5_2).f3)) else (if ((rd_T40 l0_6 x5_2).f2) ≥ a0_1 then (tocsinref08_entries.j3 kj9 a1 x5_2 true a0_0 a0_1 a0_2 a0_3 a0_4 l0_5 l0_6 l0_7 a0_8 ((rd_T40 l0_6 x5_2).f0) ((rd_T40 l0_6 x5_2).f1) ((rd_T40 l0_6 x5_2).f2) ((rd_T40 l0_6 x5_2).f3)) else ((tocsinref08_Times.f a0_0 a0_1 a0_2 a0_3 a0_4 l0_5 l0_6 l0_7 a0_8 ((rd_T40 l0_6 x5_2).f0) ((rd_T40 l0_6 x5_2).f1) ((rd_T40 l0_6 x5_2).f2) ((rd_T40 l0_6 x5_2).f3)).bind fun bt155 => (tocsinref08_entries.j3 kj9 a1 x5_2 (decide (bt155.2.2.2.2 ≥ a0_1)) a0_0 a0_1 a0_2 a0_3 a0_4 l0_5 l0_6 l0_7 a0_8 ((rd_T40 l0_6 x5_2).f0) ((rd_T40 l0_6 x5_2).f1) ((rd_T40 l0_6 x5_2).f2) ((rd_T40 l0_6 x5_2).f3)))))) else (tocsinref08_entries.j3 kj9 a1 x5_2 false a0_0 a0_1 a0_2 a0_3 a0_4 l0_5 l0_6 l0_7 a0_8 ((rd_T40 l0_6 x5_2).f0) ((rd_T40 l0_6 x5_2).f1) ((rd_T40 l0_6 x5_2).f2) ((rd_T40 l0_6 x5_2).f3))) = some r := by rw [if_neg (show ¬ (false = true) by decide)] at H; exact H
           clear H
           have H := H1
           clear H1
           have HC21 := Aside0.mk H
           clear H
           go_upto_region 9 with (fail)
           go_cut [69] (fun v69 wc => ∃ (kq : Nat) (x69_20 : Bool), v69 = .bool x69_20 ∧ Aside0 (tocsinref08_entries.j3 kq a1 x5_2 x69_20 a0_0 a0_1 a0_2 a0_3 a0_4 l0_5 l0_6 l0_7 a0_8 ((rd_T40 l0_6 x5_2).f0) ((rd_T40 l0_6 x5_2).f1) ((rd_T40 l0_6 x5_2).f2) ((rd_T40 l0_6 x5_2).f3) = some r) ∧ Aside0 (kq ≤ kj9) ∧ Aside0 (wc.heap[gb150]? = some (.cells #[.int .i64 a0_0, .int .i64 a0_1, .int .i64 a0_2, .int .i64 a0_3, .int .i64 a0_4, (.slice A0_5 l0_5.length c0_5), (.slice (some ad151) l0_6.length c0_6), (.slice A0_7 l0_7.length c0_7), .int .i64 a0_8] 26 (0, 0))) ∧ Aside0 (wc.heap[gb152]? = some (.cells #[.int .i64 ((rd_T40 l0_6 x5_2).f0), .int .u32 ((rd_T40 l0_6 x5_2).f1), .int .i64 ((rd_T40 l0_6 x5_2).f2), .int .i64 ((rd_T40 l0_6 x5_2).f3)] 40 (0, 0))) ∧ Aside0 (Below w.heap.size w wc))
           case first =>
            have H := HC21.out
            clear HC21
            by_cases c22 : a1 = 6
            ·rw [if_pos c22] at H
             have c22b0 : (a1 == 6) = true := beq_iff_eq.mpr c22
             have c22b1 : (a1 != 6) = false := bne_eq_false_iff_eq.mpr c22
             clear c22
             (first | rw [c22b0] | (simp only [i64_w, i32_w]; rw [c22b0]) | skip)
             replace H := Option.bind_eq_some_iff.mp H
             obtain ⟨t154, A230, H⟩ := H
             replace H : (if ((rd_T40 l0_6 x5_2).f2) < t154 then (tocsinref08_entries.j3 kj9 a1 x5_2 true a0_0 a0_1 a0_2 a0_3 a0_4 l0_5 l0_6 l0_7 a0_8 ((rd_T40 l0_6 x5_2).f0) ((rd_T40 l0_6 x5_2).f1) ((rd_T40 l0_6 x5_2).f2) ((rd_T40 l0_6 x5_2).f3)) else (if ((rd_T40 l0_6 x5_2).f2) ≥ a0_1 then (tocsinref08_entries.j3 kj9 a1 x5_2 true a0_0 a0_1 a0_2 a0_3 a0_4 l0_5 l0_6 l0_7 a0_8 ((rd_T40 l0_6 x5_2).f0) ((rd_T40 l0_6 x5_2).f1) ((rd_T40 l0_6 x5_2).f2) ((rd_T40 l0_6 x5_2).f3)) else ((tocsinref08_Times.f a0_0 a0_1 a0_2 a0_3 a0_4 l0_5 l0_6 l0_7 a0_8 ((rd_T40 l0_6 x5_2).f0) ((rd_T40 l0_6 x5_2).f1) ((rd_T40 l0_6 x5_2).f2) ((rd_T40 l0_6 x5_2).f3)).bind fun bt155 => (tocsinref08_entries.j3 kj9 a1 x5_2 (decide (bt155.2.2.2.2 ≥ a0_1)) a0_0 a0_1 a0_2 a0_3 a0_4 l0_5 l0_6 l0_7 a0_8 ((rd_T40 l0_6 x5_2).f0) ((rd_T40 l0_6 x5_2).f1) ((rd_T40 l0_6 x5_2).f2) ((rd_T40 l0_6 x5_2).f3))))) = some r := H
             have A23 := Aside0.mk A230
             clear A230
             by_cases c24 : ((rd_T40 l0_6 x5_2).f2) < t154
             ·rw [if_pos c24] at H
              have c24b0 : decide (((rd_T40 l0_6 x5_2).f2) < t154) = true := decide_eq_true c24
              clear c24
              have H' := Aside0.mk H
              clear H
              try go_wp2
              have n0_ := Aside0.mk (blk_drew BK150.out)
              have n1_ := Aside0.mk (blk_drew BK152.out)
              have n2_ := Aside0.mk (below_drew1 HB.out)
              clear BK150
              clear BK152
              clear HB
              have BK150 := n0_
              have BK152 := n1_
              have HB := n2_
              clear n0_ n1_ n2_
              refine start_ (n := 25) (S := fun w' => w'.cell? ⟨gb152, 0, none⟩ = some (.int .i64 ((rd_T40 l0_6 x5_2).f0)) ∧ w'.cell? ⟨gb152, 1, none⟩ = some (.int .u32 ((rd_T40 l0_6 x5_2).f1)) ∧ w'.cell? ⟨gb152, 2, none⟩ = some (.int .i64 ((rd_T40 l0_6 x5_2).f2)) ∧ w'.cell? ⟨gb152, 3, none⟩ = some (.int .i64 ((rd_T40 l0_6 x5_2).f3)) ∧ w'.cell? ⟨gb150, 0, none⟩ = some (.int .i64 a0_0) ∧ w'.cell? ⟨gb150, 1, none⟩ = some (.int .i64 a0_1) ∧ w'.cell? ⟨gb150, 2, none⟩ = some (.int .i64 a0_2) ∧ w'.cell? ⟨gb150, 3, none⟩ = some (.int .i64 a0_3) ∧ w'.cell? ⟨gb150, 4, none⟩ = some (.int .i64 a0_4) ∧ w'.cell? ⟨gb150, 5, none⟩ = some (.slice A0_5 l0_5.length c0_5) ∧ w'.cell? ⟨gb150, 6, none⟩ = some (.slice (some ad151) l0_6.length c0_6) ∧ w'.cell? ⟨gb150, 7, none⟩ = some (.slice A0_7 l0_7.length c0_7) ∧ w'.cell? ⟨gb150, 8, none⟩ = some (.int .i64 a0_8)) (ds := []) #[false, false, false, false, false, false, false, false, false, false, false, false, false, false, false, false, false, false, false, false, false, false, false, false, false] (by kernel_rfl) rfl rfl ⟨(blk_cell BK152.out 0).trans rfl, (blk_cell BK152.out 1).trans rfl, (blk_cell BK152.out 2).trans rfl, (blk_cell BK152.out 3).trans rfl, (blk_cell BK150.out 0).trans rfl, (blk_cell BK150.out 1).trans rfl, (blk_cell BK150.out 2).trans rfl, (blk_cell BK150.out 3).trans rfl, (blk_cell BK150.out 4).trans rfl, (blk_cell BK150.out 5).trans rfl, (blk_cell BK150.out 6).trans rfl, (blk_cell BK150.out 7).trans rfl, (blk_cell BK150.out 8).trans rfl⟩ (fun hHeld => ?_); refine with_tabW tocsinref08_entries.tab9 tocsinref08_entries.bits9 (fun HT_ HW_ => ?_)
              generalize wc.drew = w25 at BK150 BK152 HB hHeld ⊢
              refine pl 0 45 #[true, false, false, false, false, false, false, false, false, false, false, false, false, false, false, false, false, false, false, false, false, false, false, false, false] HT_ ?_
              refine pl 1 46 #[true, true, false, false, false, false, false, false, false, false, false, false, false, false, false, false, false, false, false, false, false, false, false, false, false] HT_ ?_
              refine pl 2 47 #[true, true, true, false, false, false, false, false, false, false, false, false, false, false, false, false, false, false, false, false, false, false, false, false, false] HT_ ?_
              refine pl 3 48 #[true, true, true, true, false, false, false, false, false, false, false, false, false, false, false, false, false, false, false, false, false, false, false, false, false] HT_ ?_
              refine tk13 4 49 #[true, true, true, true, true, false, false, false, false, false, false, false, false, false, false, false, false, false, false, false, false, false, false, false, false] HT_ HW_ hHeld ?_
              refine tk13 5 50 #[true, true, true, true, true, true, false, false, false, false, false, false, false, false, false, false, false, false, false, false, false, false, false, false, false] HT_ HW_ hHeld ?_
              refine one_ (i := 6) (N := some 51) #[true, true, true, true, true, true, true, false, false, false, false, false, false, false, false, false, false, false, false, false, false, false, false, false, false] rfl rfl (one_of HT_.out (by kernel_rfl)) (by decide) (fun K hK => ?_)
              refine gor Try.func52 #[.agg #[.int .i64 a0_0, .int .i64 a0_1, .int .i64 a0_2, .int .i64 a0_3, .int .i64 a0_4, .slice A0_5 l0_5.length c0_5, .slice (some ad151) l0_6.length c0_6, .slice A0_7 l0_7.length c0_7, .int .i64 a0_8]] ?_
              with_reducible refine (tocsinref08_Quiet.calls a0_0 a0_1 a0_2 a0_3 a0_4 _ _ l0_5 _ _ l0_6 _ _ l0_7 a0_8 t154 _ ?side1 ?side2 ?side3 ?side4 ?side5 ?side6 A23.out).mono ?_
              (case side1 => exact kC (Kd.C_below HR0_5.out HB.out))
              (case side2 => exact HC0_5.out)
              (case side3 => exact kC (Kd.C_below HR0_6.out HB.out))
              (case side4 => exact HC0_6.out)
              (case side5 => exact kC (Kd.C_below HR0_7.out HB.out))
              (case side6 => exact HC0_7.out)
              rintro e w26 ⟨rfl, hb⟩
              refine ⟨_, rfl, ?_⟩
              have n0_ := bb BK150 hb
              have n1_ := bb BK152 hb
              have n2_ := bs2 HB GE150 GE152 hb
              clear BK150
              clear BK152
              clear HB
              have BK150 := n0_
              have BK152 := n1_
              have HB := n2_
              clear n0_ n1_ n2_
              (try clear hb)
              (try clear hb2)
              (try clear hk)
              (try clear hi)
              refine hK.out _ _ ⟨(blk_cell BK152.out 0).trans rfl, (blk_cell BK152.out 1).trans rfl, (blk_cell BK152.out 2).trans rfl, (blk_cell BK152.out 3).trans rfl, (blk_cell BK150.out 0).trans rfl, (blk_cell BK150.out 1).trans rfl, (blk_cell BK150.out 2).trans rfl, (blk_cell BK150.out 3).trans rfl, (blk_cell BK150.out 4).trans rfl, (blk_cell BK150.out 5).trans rfl, (blk_cell BK150.out 6).trans rfl, (blk_cell BK150.out 7).trans rfl, (blk_cell BK150.out 8).trans rfl⟩ (fun hHeld => ?_)
              clear hK K
              refine norm_ (a' := ?_) ?_ ?_
              rotate_left
              ·show Act.put _ (some 51) _ = _
               simp only [Act.put, sT, sZ, sS, i64_w, i32_w]
               rfl
              refine pl 7 52 #[true, true, true, true, true, true, true, true, false, false, false, false, false, false, false, false, false, false, false, false, false, false, false, false, false] HT_ ?_
              refine pl 8 53 #[true, true, true, true, true, true, true, true, true, false, false, false, false, false, false, false, false, false, false, false, false, false, false, false, false] HT_ ?_
              refine pn 9 54 #[true, true, true, true, true, true, true, true, true, true, false, false, false, false, false, false, false, false, false, false, false, false, false, false, false] HT_ ?_
              refine pn 10 55 #[true, true, true, true, true, true, true, true, true, true, true, false, false, false, false, false, false, false, false, false, false, false, false, false, false] HT_ ?_
              refine pn 11 56 #[true, true, true, true, true, true, true, true, true, true, true, true, false, false, false, false, false, false, false, false, false, false, false, false, false] HT_ ?_
              refine pn 12 57 #[true, true, true, true, true, true, true, true, true, true, true, true, true, false, false, false, false, false, false, false, false, false, false, false, false] HT_ ?_
              refine pn 13 58 #[true, true, true, true, true, true, true, true, true, true, true, true, true, true, false, false, false, false, false, false, false, false, false, false, false] HT_ ?_
              refine pl 14 59 #[true, true, true, true, true, true, true, true, true, true, true, true, true, true, true, false, false, false, false, false, false, false, false, false, false] HT_ ?_
              refine pl 15 60 #[true, true, true, true, true, true, true, true, true, true, true, true, true, true, true, true, false, false, false, false, false, false, false, false, false] HT_ ?_
              refine pn 16 61 #[true, true, true, true, true, true, true, true, true, true, true, true, true, true, true, true, true, false, false, false, false, false, false, false, false] HT_ ?_
              refine pn 17 62 #[true, true, true, true, true, true, true, true, true, true, true, true, true, true, true, true, true, true, false, false, false, false, false, false, false] HT_ ?_
              refine pn 18 63 #[true, true, true, true, true, true, true, true, true, true, true, true, true, true, true, true, true, true, true, false, false, false, false, false, false] HT_ ?_
              refine pn 19 64 #[true, true, true, true, true, true, true, true, true, true, true, true, true, true, true, true, true, true, true, true, false, false, false, false, false] HT_ ?_
              refine pn 20 65 #[true, true, true, true, true, true, true, true, true, true, true, true, true, true, true, true, true, true, true, true, true, false, false, false, false] HT_ ?_
              refine pn 21 66 #[true, true, true, true, true, true, true, true, true, true, true, true, true, true, true, true, true, true, true, true, true, true, false, false, false] HT_ ?_
              refine pn 22 67 #[true, true, true, true, true, true, true, true, true, true, true, true, true, true, true, true, true, true, true, true, true, true, true, false, false] HT_ ?_
              refine pl 23 68 #[true, true, true, true, true, true, true, true, true, true, true, true, true, true, true, true, true, true, true, true, true, true, true, true, false] HT_ ?_
              refine pl 24 69 #[true, true, true, true, true, true, true, true, true, true, true, true, true, true, true, true, true, true, true, true, true, true, true, true, true] HT_ ?_
              refine done_ (done_of HT_.out (by kernel_rfl)) ?_
              try go_wp2
              go_meet
              case rel => exact ⟨_, (true), rs, H', ⟨by have := HJ2.out; have := HK2.out; have := HJ9.out; first | omega | exact Nat.le_refl _⟩, ⟨bk BK150⟩, ⟨bk BK152⟩, ⟨bw2 HB GE150 GE152⟩⟩
             ·rw [if_neg c24] at H
              have c24b0 : decide (((rd_T40 l0_6 x5_2).f2) < t154) = false := decide_eq_false c24
              clear c24
              by_cases c27 : ((rd_T40 l0_6 x5_2).f2) ≥ a0_1
              ·rw [if_pos c27] at H
               have c27b0 : decide (a0_1 ≤ ((rd_T40 l0_6 x5_2).f2)) = true := decide_eq_true c27
               clear c27
               have H' := Aside0.mk H
               clear H
               try go_wp2
               have n0_ := Aside0.mk (blk_drew BK150.out)
               have n1_ := Aside0.mk (blk_drew BK152.out)
               have n2_ := Aside0.mk (below_drew1 HB.out)
               clear BK150
               clear BK152
               clear HB
               have BK150 := n0_
               have BK152 := n1_
               have HB := n2_
               clear n0_ n1_ n2_
               refine start_ (n := 25) (S := fun w' => w'.cell? ⟨gb152, 0, none⟩ = some (.int .i64 ((rd_T40 l0_6 x5_2).f0)) ∧ w'.cell? ⟨gb152, 1, none⟩ = some (.int .u32 ((rd_T40 l0_6 x5_2).f1)) ∧ w'.cell? ⟨gb152, 2, none⟩ = some (.int .i64 ((rd_T40 l0_6 x5_2).f2)) ∧ w'.cell? ⟨gb152, 3, none⟩ = some (.int .i64 ((rd_T40 l0_6 x5_2).f3)) ∧ w'.cell? ⟨gb150, 0, none⟩ = some (.int .i64 a0_0) ∧ w'.cell? ⟨gb150, 1, none⟩ = some (.int .i64 a0_1) ∧ w'.cell? ⟨gb150, 2, none⟩ = some (.int .i64 a0_2) ∧ w'.cell? ⟨gb150, 3, none⟩ = some (.int .i64 a0_3) ∧ w'.cell? ⟨gb150, 4, none⟩ = some (.int .i64 a0_4) ∧ w'.cell? ⟨gb150, 5, none⟩ = some (.slice A0_5 l0_5.length c0_5) ∧ w'.cell? ⟨gb150, 6, none⟩ = some (.slice (some ad151) l0_6.length c0_6) ∧ w'.cell? ⟨gb150, 7, none⟩ = some (.slice A0_7 l0_7.length c0_7) ∧ w'.cell? ⟨gb150, 8, none⟩ = some (.int .i64 a0_8)) (ds := []) #[false, false, false, false, false, false, false, false, false, false, false, false, false, false, false, false, false, false, false, false, false, false, false, false, false] (by kernel_rfl) rfl rfl ⟨(blk_cell BK152.out 0).trans rfl, (blk_cell BK152.out 1).trans rfl, (blk_cell BK152.out 2).trans rfl, (blk_cell BK152.out 3).trans rfl, (blk_cell BK150.out 0).trans rfl, (blk_cell BK150.out 1).trans rfl, (blk_cell BK150.out 2).trans rfl, (blk_cell BK150.out 3).trans rfl, (blk_cell BK150.out 4).trans rfl, (blk_cell BK150.out 5).trans rfl, (blk_cell BK150.out 6).trans rfl, (blk_cell BK150.out 7).trans rfl, (blk_cell BK150.out 8).trans rfl⟩ (fun hHeld => ?_); refine with_tabW tocsinref08_entries.tab9 tocsinref08_entries.bits9 (fun HT_ HW_ => ?_)
               generalize wc.drew = w28 at BK150 BK152 HB hHeld ⊢
               refine pl 0 45 #[true, false, false, false, false, false, false, false, false, false, false, false, false, false, false, false, false, false, false, false, false, false, false, false, false] HT_ ?_
               refine pl 1 46 #[true, true, false, false, false, false, false, false, false, false, false, false, false, false, false, false, false, false, false, false, false, false, false, false, false] HT_ ?_
               refine pl 2 47 #[true, true, true, false, false, false, false, false, false, false, false, false, false, false, false, false, false, false, false, false, false, false, false, false, false] HT_ ?_
               refine pl 3 48 #[true, true, true, true, false, false, false, false, false, false, false, false, false, false, false, false, false, false, false, false, false, false, false, false, false] HT_ ?_
               refine tk13 4 49 #[true, true, true, true, true, false, false, false, false, false, false, false, false, false, false, false, false, false, false, false, false, false, false, false, false] HT_ HW_ hHeld ?_
               refine tk13 5 50 #[true, true, true, true, true, true, false, false, false, false, false, false, false, false, false, false, false, false, false, false, false, false, false, false, false] HT_ HW_ hHeld ?_
               refine one_ (i := 6) (N := some 51) #[true, true, true, true, true, true, true, false, false, false, false, false, false, false, false, false, false, false, false, false, false, false, false, false, false] rfl rfl (one_of HT_.out (by kernel_rfl)) (by decide) (fun K hK => ?_)
               refine gor Try.func52 #[.agg #[.int .i64 a0_0, .int .i64 a0_1, .int .i64 a0_2, .int .i64 a0_3, .int .i64 a0_4, .slice A0_5 l0_5.length c0_5, .slice (some ad151) l0_6.length c0_6, .slice A0_7 l0_7.length c0_7, .int .i64 a0_8]] ?_
               with_reducible refine (tocsinref08_Quiet.calls a0_0 a0_1 a0_2 a0_3 a0_4 _ _ l0_5 _ _ l0_6 _ _ l0_7 a0_8 t154 _ ?side1 ?side2 ?side3 ?side4 ?side5 ?side6 A23.out).mono ?_
               (case side1 => exact kC (Kd.C_below HR0_5.out HB.out))
               (case side2 => exact HC0_5.out)
               (case side3 => exact kC (Kd.C_below HR0_6.out HB.out))
               (case side4 => exact HC0_6.out)
               (case side5 => exact kC (Kd.C_below HR0_7.out HB.out))
               (case side6 => exact HC0_7.out)
               rintro e w29 ⟨rfl, hb⟩
               refine ⟨_, rfl, ?_⟩
               have n0_ := bb BK150 hb
               have n1_ := bb BK152 hb
               have n2_ := bs2 HB GE150 GE152 hb
               clear BK150
               clear BK152
               clear HB
               have BK150 := n0_
               have BK152 := n1_
               have HB := n2_
               clear n0_ n1_ n2_
               (try clear hb)
               (try clear hb2)
               (try clear hk)
               (try clear hi)
               refine hK.out _ _ ⟨(blk_cell BK152.out 0).trans rfl, (blk_cell BK152.out 1).trans rfl, (blk_cell BK152.out 2).trans rfl, (blk_cell BK152.out 3).trans rfl, (blk_cell BK150.out 0).trans rfl, (blk_cell BK150.out 1).trans rfl, (blk_cell BK150.out 2).trans rfl, (blk_cell BK150.out 3).trans rfl, (blk_cell BK150.out 4).trans rfl, (blk_cell BK150.out 5).trans rfl, (blk_cell BK150.out 6).trans rfl, (blk_cell BK150.out 7).trans rfl, (blk_cell BK150.out 8).trans rfl⟩ (fun hHeld => ?_)
               clear hK K
               refine norm_ (a' := ?_) ?_ ?_
               rotate_left
               ·show Act.put _ (some 51) _ = _
                simp only [Act.put, sT, sZ, sS, i64_w, i32_w]
                rfl
               refine pl 7 52 #[true, true, true, true, true, true, true, true, false, false, false, false, false, false, false, false, false, false, false, false, false, false, false, false, false] HT_ ?_
               refine pl 8 53 #[true, true, true, true, true, true, true, true, true, false, false, false, false, false, false, false, false, false, false, false, false, false, false, false, false] HT_ ?_
               refine pl 9 54 #[true, true, true, true, true, true, true, true, true, true, false, false, false, false, false, false, false, false, false, false, false, false, false, false, false] HT_ ?_
               refine pl 11 56 #[true, true, true, true, true, true, true, true, true, true, false, true, false, false, false, false, false, false, false, false, false, false, false, false, false] HT_ ?_
               refine tk13 10 55 #[true, true, true, true, true, true, true, true, true, true, true, true, false, false, false, false, false, false, false, false, false, false, false, false, false] HT_ HW_ hHeld ?_
               refine tk13 12 57 #[true, true, true, true, true, true, true, true, true, true, true, true, true, false, false, false, false, false, false, false, false, false, false, false, false] HT_ HW_ hHeld ?_
               refine pl 13 58 #[true, true, true, true, true, true, true, true, true, true, true, true, true, true, false, false, false, false, false, false, false, false, false, false, false] HT_ ?_
               refine pl 14 59 #[true, true, true, true, true, true, true, true, true, true, true, true, true, true, true, false, false, false, false, false, false, false, false, false, false] HT_ ?_
               refine pl 15 60 #[true, true, true, true, true, true, true, true, true, true, true, true, true, true, true, true, false, false, false, false, false, false, false, false, false] HT_ ?_
               refine pn 16 61 #[true, true, true, true, true, true, true, true, true, true, true, true, true, true, true, true, true, false, false, false, false, false, false, false, false] HT_ ?_
               refine pn 17 62 #[true, true, true, true, true, true, true, true, true, true, true, true, true, true, true, true, true, true, false, false, false, false, false, false, false] HT_ ?_
               refine pn 18 63 #[true, true, true, true, true, true, true, true, true, true, true, true, true, true, true, true, true, true, true, false, false, false, false, false, false] HT_ ?_
               refine pn 19 64 #[true, true, true, true, true, true, true, true, true, true, true, true, true, true, true, true, true, true, true, true, false, false, false, false, false] HT_ ?_
               refine pn 20 65 #[true, true, true, true, true, true, true, true, true, true, true, true, true, true, true, true, true, true, true, true, true, false, false, false, false] HT_ ?_
               refine pn 21 66 #[true, true, true, true, true, true, true, true, true, true, true, true, true, true, true, true, true, true, true, true, true, true, false, false, false] HT_ ?_
               refine pn 22 67 #[true, true, true, true, true, true, true, true, true, true, true, true, true, true, true, true, true, true, true, true, true, true, true, false, false] HT_ ?_
               refine pl 23 68 #[true, true, true, true, true, true, true, true, true, true, true, true, true, true, true, true, true, true, true, true, true, true, true, true, false] HT_ ?_
               refine pl 24 69 #[true, true, true, true, true, true, true, true, true, true, true, true, true, true, true, true, true, true, true, true, true, true, true, true, true] HT_ ?_
               refine done_ (done_of HT_.out (by kernel_rfl)) ?_
               try go_wp2
               go_meet
               case rel => exact ⟨_, (true), rs, H', ⟨by have := HJ2.out; have := HK2.out; have := HJ9.out; first | omega | exact Nat.le_refl _⟩, ⟨bk BK150⟩, ⟨bk BK152⟩, ⟨bw2 HB GE150 GE152⟩⟩
              ·rw [if_neg c27] at H
               have c27b0 : decide (a0_1 ≤ ((rd_T40 l0_6 x5_2).f2)) = false := decide_eq_false c27
               clear c27
               replace H := Option.bind_eq_some_iff.mp H
               obtain ⟨⟨t155, t156, t157, t158, t159⟩, A300, H⟩ := H
               replace H : (tocsinref08_entries.j3 kj9 a1 x5_2 (decide (t159 ≥ a0_1)) a0_0 a0_1 a0_2 a0_3 a0_4 l0_5 l0_6 l0_7 a0_8 ((rd_T40 l0_6 x5_2).f0) ((rd_T40 l0_6 x5_2).f1) ((rd_T40 l0_6 x5_2).f2) ((rd_T40 l0_6 x5_2).f3)) = some r := H
               have A30 := Aside0.mk A300
               clear A300
               have H' := Aside0.mk H
               clear H
               try go_wp2
               have n0_ := Aside0.mk (blk_drew BK150.out)
               have n1_ := Aside0.mk (blk_drew BK152.out)
               have n2_ := Aside0.mk (below_drew1 HB.out)
               clear BK150
               clear BK152
               clear HB
               have BK150 := n0_
               have BK152 := n1_
               have HB := n2_
               clear n0_ n1_ n2_
               refine start_ (n := 25) (S := fun w' => w'.cell? ⟨gb152, 0, none⟩ = some (.int .i64 ((rd_T40 l0_6 x5_2).f0)) ∧ w'.cell? ⟨gb152, 1, none⟩ = some (.int .u32 ((rd_T40 l0_6 x5_2).f1)) ∧ w'.cell? ⟨gb152, 2, none⟩ = some (.int .i64 ((rd_T40 l0_6 x5_2).f2)) ∧ w'.cell? ⟨gb152, 3, none⟩ = some (.int .i64 ((rd_T40 l0_6 x5_2).f3)) ∧ w'.cell? ⟨gb150, 0, none⟩ = some (.int .i64 a0_0) ∧ w'.cell? ⟨gb150, 1, none⟩ = some (.int .i64 a0_1) ∧ w'.cell? ⟨gb150, 2, none⟩ = some (.int .i64 a0_2) ∧ w'.cell? ⟨gb150, 3, none⟩ = some (.int .i64 a0_3) ∧ w'.cell? ⟨gb150, 4, none⟩ = some (.int .i64 a0_4) ∧ w'.cell? ⟨gb150, 5, none⟩ = some (.slice A0_5 l0_5.length c0_5) ∧ w'.cell? ⟨gb150, 6, none⟩ = some (.slice (some ad151) l0_6.length c0_6) ∧ w'.cell? ⟨gb150, 7, none⟩ = some (.slice A0_7 l0_7.length c0_7) ∧ w'.cell? ⟨gb150, 8, none⟩ = some (.int .i64 a0_8)) (ds := []) #[false, false, false, false, false, false, false, false, false, false, false, false, false, false, false, false, false, false, false, false, false, false, false, false, false] (by kernel_rfl) rfl rfl ⟨(blk_cell BK152.out 0).trans rfl, (blk_cell BK152.out 1).trans rfl, (blk_cell BK152.out 2).trans rfl, (blk_cell BK152.out 3).trans rfl, (blk_cell BK150.out 0).trans rfl, (blk_cell BK150.out 1).trans rfl, (blk_cell BK150.out 2).trans rfl, (blk_cell BK150.out 3).trans rfl, (blk_cell BK150.out 4).trans rfl, (blk_cell BK150.out 5).trans rfl, (blk_cell BK150.out 6).trans rfl, (blk_cell BK150.out 7).trans rfl, (blk_cell BK150.out 8).trans rfl⟩ (fun hHeld => ?_); refine with_tabW tocsinref08_entries.tab9 tocsinref08_entries.bits9 (fun HT_ HW_ => ?_)
               generalize wc.drew = w31 at BK150 BK152 HB hHeld ⊢
               refine pl 0 45 #[true, false, false, false, false, false, false, false, false, false, false, false, false, false, false, false, false, false, false, false, false, false, false, false, false] HT_ ?_
               refine pl 1 46 #[true, true, false, false, false, false, false, false, false, false, false, false, false, false, false, false, false, false, false, false, false, false, false, false, false] HT_ ?_
               refine pl 2 47 #[true, true, true, false, false, false, false, false, false, false, false, false, false, false, false, false, false, false, false, false, false, false, false, false, false] HT_ ?_
               refine pl 3 48 #[true, true, true, true, false, false, false, false, false, false, false, false, false, false, false, false, false, false, false, false, false, false, false, false, false] HT_ ?_
               refine tk13 4 49 #[true, true, true, true, true, false, false, false, false, false, false, false, false, false, false, false, false, false, false, false, false, false, false, false, false] HT_ HW_ hHeld ?_
               refine tk13 5 50 #[true, true, true, true, true, true, false, false, false, false, false, false, false, false, false, false, false, false, false, false, false, false, false, false, false] HT_ HW_ hHeld ?_
               refine one_ (i := 6) (N := some 51) #[true, true, true, true, true, true, true, false, false, false, false, false, false, false, false, false, false, false, false, false, false, false, false, false, false] rfl rfl (one_of HT_.out (by kernel_rfl)) (by decide) (fun K hK => ?_)
               refine gor Try.func52 #[.agg #[.int .i64 a0_0, .int .i64 a0_1, .int .i64 a0_2, .int .i64 a0_3, .int .i64 a0_4, .slice A0_5 l0_5.length c0_5, .slice (some ad151) l0_6.length c0_6, .slice A0_7 l0_7.length c0_7, .int .i64 a0_8]] ?_
               with_reducible refine (tocsinref08_Quiet.calls a0_0 a0_1 a0_2 a0_3 a0_4 _ _ l0_5 _ _ l0_6 _ _ l0_7 a0_8 t154 _ ?side1 ?side2 ?side3 ?side4 ?side5 ?side6 A23.out).mono ?_
               (case side1 => exact kC (Kd.C_below HR0_5.out HB.out))
               (case side2 => exact HC0_5.out)
               (case side3 => exact kC (Kd.C_below HR0_6.out HB.out))
               (case side4 => exact HC0_6.out)
               (case side5 => exact kC (Kd.C_below HR0_7.out HB.out))
               (case side6 => exact HC0_7.out)
               rintro e w32 ⟨rfl, hb⟩
               refine ⟨_, rfl, ?_⟩
               have n0_ := bb BK150 hb
               have n1_ := bb BK152 hb
               have n2_ := bs2 HB GE150 GE152 hb
               clear BK150
               clear BK152
               clear HB
               have BK150 := n0_
               have BK152 := n1_
               have HB := n2_
               clear n0_ n1_ n2_
               (try clear hb)
               (try clear hb2)
               (try clear hk)
               (try clear hi)
               refine hK.out _ _ ⟨(blk_cell BK152.out 0).trans rfl, (blk_cell BK152.out 1).trans rfl, (blk_cell BK152.out 2).trans rfl, (blk_cell BK152.out 3).trans rfl, (blk_cell BK150.out 0).trans rfl, (blk_cell BK150.out 1).trans rfl, (blk_cell BK150.out 2).trans rfl, (blk_cell BK150.out 3).trans rfl, (blk_cell BK150.out 4).trans rfl, (blk_cell BK150.out 5).trans rfl, (blk_cell BK150.out 6).trans rfl, (blk_cell BK150.out 7).trans rfl, (blk_cell BK150.out 8).trans rfl⟩ (fun hHeld => ?_)
               clear hK K
               refine norm_ (a' := ?_) ?_ ?_
               rotate_left
               ·show Act.put _ (some 51) _ = _
                simp only [Act.put, sT, sZ, sS, i64_w, i32_w]
                rfl
               refine pl 7 52 #[true, true, true, true, true, true, true, true, false, false, false, false, false, false, false, false, false, false, false, false, false, false, false, false, false] HT_ ?_
               refine pl 8 53 #[true, true, true, true, true, true, true, true, true, false, false, false, false, false, false, false, false, false, false, false, false, false, false, false, false] HT_ ?_
               refine pl 9 54 #[true, true, true, true, true, true, true, true, true, true, false, false, false, false, false, false, false, false, false, false, false, false, false, false, false] HT_ ?_
               refine pl 11 56 #[true, true, true, true, true, true, true, true, true, true, false, true, false, false, false, false, false, false, false, false, false, false, false, false, false] HT_ ?_
               refine tk13 10 55 #[true, true, true, true, true, true, true, true, true, true, true, true, false, false, false, false, false, false, false, false, false, false, false, false, false] HT_ HW_ hHeld ?_
               refine tk13 12 57 #[true, true, true, true, true, true, true, true, true, true, true, true, true, false, false, false, false, false, false, false, false, false, false, false, false] HT_ HW_ hHeld ?_
               refine pl 13 58 #[true, true, true, true, true, true, true, true, true, true, true, true, true, true, false, false, false, false, false, false, false, false, false, false, false] HT_ ?_
               refine pl 14 59 #[true, true, true, true, true, true, true, true, true, true, true, true, true, true, true, false, false, false, false, false, false, false, false, false, false] HT_ ?_
               refine pl 15 60 #[true, true, true, true, true, true, true, true, true, true, true, true, true, true, true, true, false, false, false, false, false, false, false, false, false] HT_ ?_
               refine pl 20 65 #[true, true, true, true, true, true, true, true, true, true, true, true, true, true, true, true, false, false, false, false, true, false, false, false, false] HT_ ?_
               refine tk13 16 61 #[true, true, true, true, true, true, true, true, true, true, true, true, true, true, true, true, true, false, false, false, true, false, false, false, false] HT_ HW_ hHeld ?_
               refine tk13 17 62 #[true, true, true, true, true, true, true, true, true, true, true, true, true, true, true, true, true, true, false, false, true, false, false, false, false] HT_ HW_ hHeld ?_
               refine tk13 21 66 #[true, true, true, true, true, true, true, true, true, true, true, true, true, true, true, true, true, true, false, false, true, true, false, false, false] HT_ HW_ hHeld ?_
               refine one_ (i := 18) (N := some 63) #[true, true, true, true, true, true, true, true, true, true, true, true, true, true, true, true, true, true, true, false, true, true, false, false, false] rfl rfl (one_of HT_.out (by kernel_rfl)) (by decide) (fun K hK => ?_)
               refine gor Try.func25 #[.agg #[.int .i64 a0_0, .int .i64 a0_1, .int .i64 a0_2, .int .i64 a0_3, .int .i64 a0_4, .slice A0_5 l0_5.length c0_5, .slice (some ad151) l0_6.length c0_6, .slice A0_7 l0_7.length c0_7, .int .i64 a0_8], .agg #[.int .i64 ((rd_T40 l0_6 x5_2).f0), .int .u32 ((rd_T40 l0_6 x5_2).f1), .int .i64 ((rd_T40 l0_6 x5_2).f2), .int .i64 ((rd_T40 l0_6 x5_2).f3)]] ?_
               with_reducible refine (tocsinref08_Times.calls a0_0 a0_1 a0_2 a0_3 a0_4 _ _ l0_5 _ _ l0_6 _ _ l0_7 a0_8 ((rd_T40 l0_6 x5_2).f0) ((rd_T40 l0_6 x5_2).f1) ((rd_T40 l0_6 x5_2).f2) ((rd_T40 l0_6 x5_2).f3) t155 t156 t157 t158 t159 _ ?side1 ?side2 ?side3 ?side4 ?side5 ?side6 A30.out).mono ?_
               (case side1 => exact kC (Kd.C_below HR0_5.out HB.out))
               (case side2 => exact HC0_5.out)
               (case side3 => exact kC (Kd.C_below HR0_6.out HB.out))
               (case side4 => exact HC0_6.out)
               (case side5 => exact kC (Kd.C_below HR0_7.out HB.out))
               (case side6 => exact HC0_7.out)
               rintro e w33 ⟨rfl, hb⟩
               refine ⟨_, rfl, ?_⟩
               have n0_ := bb BK150 hb
               have n1_ := bb BK152 hb
               have n2_ := bs2 HB GE150 GE152 hb
               clear BK150
               clear BK152
               clear HB
               have BK150 := n0_
               have BK152 := n1_
               have HB := n2_
               clear n0_ n1_ n2_
               (try clear hb)
               (try clear hb2)
               (try clear hk)
               (try clear hi)
               refine hK.out _ _ ⟨(blk_cell BK152.out 0).trans rfl, (blk_cell BK152.out 1).trans rfl, (blk_cell BK152.out 2).trans rfl, (blk_cell BK152.out 3).trans rfl, (blk_cell BK150.out 0).trans rfl, (blk_cell BK150.out 1).trans rfl, (blk_cell BK150.out 2).trans rfl, (blk_cell BK150.out 3).trans rfl, (blk_cell BK150.out 4).trans rfl, (blk_cell BK150.out 5).trans rfl, (blk_cell BK150.out 6).trans rfl, (blk_cell BK150.out 7).trans rfl, (blk_cell BK150.out 8).trans rfl⟩ (fun hHeld => ?_)
               clear hK K
               refine norm_ (a' := ?_) ?_ ?_
               rotate_left
               ·show Act.put _ (some 63) _ = _
                simp only [Act.put, sT, sZ, sS, i64_w, i32_w]
                rfl
               refine pl 19 64 #[true, true, true, true, true, true, true, true, true, true, true, true, true, true, true, true, true, true, true, true, true, true, false, false, false] HT_ ?_
               refine pl 22 67 #[true, true, true, true, true, true, true, true, true, true, true, true, true, true, true, true, true, true, true, true, true, true, true, false, false] HT_ ?_
               refine pl 23 68 #[true, true, true, true, true, true, true, true, true, true, true, true, true, true, true, true, true, true, true, true, true, true, true, true, false] HT_ ?_
               refine pl 24 69 #[true, true, true, true, true, true, true, true, true, true, true, true, true, true, true, true, true, true, true, true, true, true, true, true, true] HT_ ?_
               refine done_ (done_of HT_.out (by kernel_rfl)) ?_
               try go_wp2
               go_meet
               case rel => exact ⟨_, (decide (t159 ≥ a0_1)), rs, H', ⟨by have := HJ2.out; have := HK2.out; have := HJ9.out; first | omega | exact Nat.le_refl _⟩, ⟨bk BK150⟩, ⟨bk BK152⟩, ⟨bw2 HB GE150 GE152⟩⟩
            ·rw [if_neg c22] at H
             have c22b0 : (a1 == 6) = false := beq_eq_false_iff_ne.mpr c22
             have c22b1 : (a1 != 6) = true := bne_iff_ne.mpr c22
             (first | rw [c22b0] | (simp only [i64_w, i32_w]; rw [c22b0]) | skip)
             have H' := Aside0.mk H
             clear H
             try go_wp2
             have n0_ := Aside0.mk (blk_drew BK150.out)
             have n1_ := Aside0.mk (blk_drew BK152.out)
             have n2_ := Aside0.mk (below_drew1 HB.out)
             clear BK150
             clear BK152
             clear HB
             have BK150 := n0_
             have BK152 := n1_
             have HB := n2_
             clear n0_ n1_ n2_
             refine start_ (n := 25) (S := fun w' => True) (ds := []) #[false, false, false, false, false, false, false, false, false, false, false, false, false, false, false, false, false, false, false, false, false, false, false, false, false] (by kernel_rfl) rfl rfl trivial (fun hHeld => ?_); refine with_tabW tocsinref08_entries.tab9 tocsinref08_entries.bits9 (fun HT_ HW_ => ?_)
             generalize wc.drew = w34 at BK150 BK152 HB hHeld ⊢
             refine pl 0 45 #[true, false, false, false, false, false, false, false, false, false, false, false, false, false, false, false, false, false, false, false, false, false, false, false, false] HT_ ?_
             refine pl 1 46 #[true, true, false, false, false, false, false, false, false, false, false, false, false, false, false, false, false, false, false, false, false, false, false, false, false] HT_ ?_
             refine pl 2 47 #[true, true, true, false, false, false, false, false, false, false, false, false, false, false, false, false, false, false, false, false, false, false, false, false, false] HT_ ?_
             refine pn 3 48 #[true, true, true, true, false, false, false, false, false, false, false, false, false, false, false, false, false, false, false, false, false, false, false, false, false] HT_ ?_
             refine pn 4 49 #[true, true, true, true, true, false, false, false, false, false, false, false, false, false, false, false, false, false, false, false, false, false, false, false, false] HT_ ?_
             refine pn 5 50 #[true, true, true, true, true, true, false, false, false, false, false, false, false, false, false, false, false, false, false, false, false, false, false, false, false] HT_ ?_
             refine pn 6 51 #[true, true, true, true, true, true, true, false, false, false, false, false, false, false, false, false, false, false, false, false, false, false, false, false, false] HT_ ?_
             refine pn 7 52 #[true, true, true, true, true, true, true, true, false, false, false, false, false, false, false, false, false, false, false, false, false, false, false, false, false] HT_ ?_
             refine pn 8 53 #[true, true, true, true, true, true, true, true, true, false, false, false, false, false, false, false, false, false, false, false, false, false, false, false, false] HT_ ?_
             refine pn 9 54 #[true, true, true, true, true, true, true, true, true, true, false, false, false, false, false, false, false, false, false, false, false, false, false, false, false] HT_ ?_
             refine pn 10 55 #[true, true, true, true, true, true, true, true, true, true, true, false, false, false, false, false, false, false, false, false, false, false, false, false, false] HT_ ?_
             refine pn 11 56 #[true, true, true, true, true, true, true, true, true, true, true, true, false, false, false, false, false, false, false, false, false, false, false, false, false] HT_ ?_
             refine pn 12 57 #[true, true, true, true, true, true, true, true, true, true, true, true, true, false, false, false, false, false, false, false, false, false, false, false, false] HT_ ?_
             refine pn 13 58 #[true, true, true, true, true, true, true, true, true, true, true, true, true, true, false, false, false, false, false, false, false, false, false, false, false] HT_ ?_
             refine pn 14 59 #[true, true, true, true, true, true, true, true, true, true, true, true, true, true, true, false, false, false, false, false, false, false, false, false, false] HT_ ?_
             refine pn 15 60 #[true, true, true, true, true, true, true, true, true, true, true, true, true, true, true, true, false, false, false, false, false, false, false, false, false] HT_ ?_
             refine pn 16 61 #[true, true, true, true, true, true, true, true, true, true, true, true, true, true, true, true, true, false, false, false, false, false, false, false, false] HT_ ?_
             refine pn 17 62 #[true, true, true, true, true, true, true, true, true, true, true, true, true, true, true, true, true, true, false, false, false, false, false, false, false] HT_ ?_
             refine pn 18 63 #[true, true, true, true, true, true, true, true, true, true, true, true, true, true, true, true, true, true, true, false, false, false, false, false, false] HT_ ?_
             refine pn 19 64 #[true, true, true, true, true, true, true, true, true, true, true, true, true, true, true, true, true, true, true, true, false, false, false, false, false] HT_ ?_
             refine pn 20 65 #[true, true, true, true, true, true, true, true, true, true, true, true, true, true, true, true, true, true, true, true, true, false, false, false, false] HT_ ?_
             refine pn 21 66 #[true, true, true, true, true, true, true, true, true, true, true, true, true, true, true, true, true, true, true, true, true, true, false, false, false] HT_ ?_
             refine pn 22 67 #[true, true, true, true, true, true, true, true, true, true, true, true, true, true, true, true, true, true, true, true, true, true, true, false, false] HT_ ?_
             refine pn 23 68 #[true, true, true, true, true, true, true, true, true, true, true, true, true, true, true, true, true, true, true, true, true, true, true, true, false] HT_ ?_
             refine pl 24 69 #[true, true, true, true, true, true, true, true, true, true, true, true, true, true, true, true, true, true, true, true, true, true, true, true, true] HT_ ?_
             refine done_ (done_of HT_.out (by kernel_rfl)) ?_
             try go_wp2
             go_meet
             case rel => exact ⟨_, (false), rs, H', ⟨by have := HJ2.out; have := HK2.out; have := HJ9.out; first | omega | exact Nat.le_refl _⟩, ⟨bk BK150⟩, ⟨bk BK152⟩, ⟨bw2 HB GE150 GE152⟩⟩
           case rest =>
            clear HC21
            try clear c2
            try clear p2
            try clear c5
            try clear c22
            try clear c22b0
            try clear c22b1
            try clear c25
            try clear c27
            try clear c27b0
            obtain ⟨kq, x69_20, rfl, HA, HJ20, BK150, BK152, HB⟩ := hcut
            cases kq with
            | zero => exact absurd HA.out (by simp [tocsinref08_entries.j3])
            | succ kj20 =>
             have H := HA.out
             clear HA
             simp only [tocsinref08_entries.j3] at H
             by_cases c35 : x69_20 = true
             ·subst c35
              have H1 : (some true) = some r := by rw [if_pos rfl] at H; exact H
              clear H
              have H := H1
              clear H1
              obtain rfl := Option.some.inj H
              go_wp2
              all_goals try (exfalso; (try have z0_ := of_decide_eq_true c8b0); omega)
              go_ret
              exact ⟨re, bw2 HB GE150 GE152⟩
             ·replace c35 := Bool.eq_false_iff.mpr c35
              subst c35
              have H1 : (tocsinref08_entries.l1 kj20 a1 x5_2 0 a0_0 a0_1 a0_2 a0_3 a0_4 l0_5 l0_6 l0_7 a0_8 ((rd_T40 l0_6 x5_2).f0) ((rd_T40 l0_6 x5_2).f1) ((rd_T40 l0_6 x5_2).f2) ((rd_T40 l0_6 x5_2).f3)) = some r := by rw [if_neg (show ¬ (false = true) by decide)] at H; exact H
              clear H
              have H := H1
              clear H1
              have H' := Aside0.mk H
              clear H
              go_wp2
              (try simp only [Act.put, sT, sZ, sS])
              go_loopg [7] kj20 (fun kq v7 w' => ∃ (x7_5 : Int), v7 = .int .i64 x7_5 ∧ Aside0 (tocsinref08_entries.l1 kq a1 x5_2 x7_5 a0_0 a0_1 a0_2 a0_3 a0_4 l0_5 l0_6 l0_7 a0_8 ((rd_T40 l0_6 x5_2).f0) ((rd_T40 l0_6 x5_2).f1) ((rd_T40 l0_6 x5_2).f2) ((rd_T40 l0_6 x5_2).f3) = some r) ∧ Aside0 (kq ≤ kj20) ∧ Aside0 (w'.heap[gb150]? = some (.cells #[.int .i64 a0_0, .int .i64 a0_1, .int .i64 a0_2, .int .i64 a0_3, .int .i64 a0_4, (.slice A0_5 l0_5.length c0_5), (.slice (some ad151) l0_6.length c0_6), (.slice A0_7 l0_7.length c0_7), .int .i64 a0_8] 26 (0, 0))) ∧ Aside0 (w'.heap[gb152]? = some (.cells #[.int .i64 ((rd_T40 l0_6 x5_2).f0), .int .u32 ((rd_T40 l0_6 x5_2).f1), .int .i64 ((rd_T40 l0_6 x5_2).f2), .int .i64 ((rd_T40 l0_6 x5_2).f3)] 40 (0, 0))) ∧ Aside0 (Below w.heap.size w w'))
              case atStart => exact ⟨(0), rs, H', ⟨Nat.le_refl _⟩, ⟨bk BK150⟩, ⟨bk BK152⟩, ⟨bw2 HB GE150 GE152⟩⟩
              case round =>
               clear H'
               try clear c2
               try clear p2
               try clear c3
               try clear c5
               try clear c22
               try clear c22b0
               try clear c22b1
               try clear c25
               try clear c27
               try clear c27b0
               try clear c35
               try clear p2
               obtain ⟨x7_5, rfl, HA, HK5, BK150, BK152, HB⟩ := hrel
               cases gk with
               | zero => exact absurd HA.out (by simp [tocsinref08_entries.l1])
               | succ k5 =>
                have H := HA.out
                clear HA
                simp only [tocsinref08_entries.l1] at H
                have HC36 := Aside0.mk H
                clear H
                go_upto_region 12 with (fail)
                go_cut [76] (fun v76 wc => ∃ (kq : Nat) (x76_35 : Bool), v76 = .bool x76_35 ∧ Aside0 (tocsinref08_entries.j5 kq a1 x5_2 x7_5 x76_35 a0_0 a0_1 a0_2 a0_3 a0_4 l0_5 l0_6 l0_7 a0_8 ((rd_T40 l0_6 x5_2).f0) ((rd_T40 l0_6 x5_2).f1) ((rd_T40 l0_6 x5_2).f2) ((rd_T40 l0_6 x5_2).f3) = some r) ∧ Aside0 (kq ≤ k5) ∧ Aside0 (wc.heap[gb150]? = some (.cells #[.int .i64 a0_0, .int .i64 a0_1, .int .i64 a0_2, .int .i64 a0_3, .int .i64 a0_4, (.slice A0_5 l0_5.length c0_5), (.slice (some ad151) l0_6.length c0_6), (.slice A0_7 l0_7.length c0_7), .int .i64 a0_8] 26 (0, 0))) ∧ Aside0 (wc.heap[gb152]? = some (.cells #[.int .i64 ((rd_T40 l0_6 x5_2).f0), .int .u32 ((rd_T40 l0_6 x5_2).f1), .int .i64 ((rd_T40 l0_6 x5_2).f2), .int .i64 ((rd_T40 l0_6 x5_2).f3)] 40 (0, 0))) ∧ Aside0 (Below w.heap.size w wc))
                case first =>
                 have H := HC36.out
                 clear HC36
                 by_cases c37 : x7_5 < x5_2
                 ·rw [if_pos c37] at H
                  have c37b0 : decide (x7_5 < x5_2) = true := decide_eq_true c37
                  clear c37
                  (first | rw [c37b0] | (simp only [i64_w, i32_w]; rw [c37b0]) | skip)
                  have H' := Aside0.mk H
                  clear H
                  go_wp2
                  all_goals try (exfalso; (try have z0_ := of_decide_eq_true c8b0); omega)
                  go_meet
                  case rel => exact ⟨_, (decide (a1 > 6)), rs, H', ⟨by have := HJ2.out; have := HK2.out; have := HJ9.out; have := HJ20.out; have := HK5.out; first | omega | exact Nat.le_refl _⟩, ⟨bk BK150⟩, ⟨bk BK152⟩, ⟨bw2 HB GE150 GE152⟩⟩
                 ·rw [if_neg c37] at H
                  have c37b0 : decide (x7_5 < x5_2) = false := decide_eq_false c37
                  clear c37
                  (first | rw [c37b0] | (simp only [i64_w, i32_w]; rw [c37b0]) | skip)
                  have H' := Aside0.mk H
                  clear H
                  go_wp2
                  all_goals try (exfalso; (try have z0_ := of_decide_eq_true c8b0); omega)
                  go_meet
                  case rel => exact ⟨_, (false), rs, H', ⟨by have := HJ2.out; have := HK2.out; have := HJ9.out; have := HJ20.out; have := HK5.out; first | omega | exact Nat.le_refl _⟩, ⟨bk BK150⟩, ⟨bk BK152⟩, ⟨bw2 HB GE150 GE152⟩⟩
                case rest =>
                 clear HC36
                 try clear c2
                 try clear p2
                 try clear c3
                 try clear c5
                 try clear c22
                 try clear c22b0
                 try clear c22b1
                 try clear c25
                 try clear c27
                 try clear c27b0
                 try clear c35
                 try clear c37
                 try clear c37b0
                 try clear p2
                 obtain ⟨kq, x76_35, rfl, HA, HJ35, BK150, BK152, HB⟩ := hcut
                 cases kq with
                 | zero => exact absurd HA.out (by simp [tocsinref08_entries.j5])
                 | succ kj35 =>
                  have H := HA.out
                  clear HA
                  simp only [tocsinref08_entries.j5] at H
                  by_cases c38 : x76_35 = true
                  ·subst c38
                   have H1 : (if 0 ≤ x7_5 then (if x7_5 < (l0_6.length : Int) then ((tocsinref06_Time.f ((rd_T40 l0_6 x5_2).f3)).bind fun t162 => ((tocsinref06_Time.f ((rd_T40 l0_6 x7_5).f3)).bind fun t163 => (if a1 = 7 then (if ((rd_T40 l0_6 x5_2).f0) = ((rd_T40 l0_6 x7_5).f0) then ((tocsinref08_meet.f ((rd_T40 l0_6 x5_2).f2) t162 ((rd_T40 l0_6 x7_5).f2) t163).bind fun t164 => (tocsinref08_entries.j6 kj35 a1 x5_2 x7_5 t162 t163 t164 a0_0 a0_1 a0_2 a0_3 a0_4 l0_5 l0_6 l0_7 a0_8 ((rd_T40 l0_6 x5_2).f0) ((rd_T40 l0_6 x5_2).f1) ((rd_T40 l0_6 x5_2).f2) ((rd_T40 l0_6 x5_2).f3) ((rd_T40 l0_6 x7_5).f0) ((rd_T40 l0_6 x7_5).f1) ((rd_T40 l0_6 x7_5).f2) ((rd_T40 l0_6 x7_5).f3))) else (tocsinref08_entries.j6 kj35 a1 x5_2 x7_5 t162 t163 false a0_0 a0_1 a0_2 a0_3 a0_4 l0_5 l0_6 l0_7 a0_8 ((rd_T40 l0_6 x5_2).f0) ((rd_T40 l0_6 x5_2).f1) ((rd_T40 l0_6 x5_2).f2) ((rd_T40 l0_6 x5_2).f3) ((rd_T40 l0_6 x7_5).f0) ((rd_T40 l0_6 x7_5).f1) ((rd_T40 l0_6 x7_5).f2) ((rd_T40 l0_6 x7_5).f3))) else (tocsinref08_entries.j6 kj35 a1 x5_2 x7_5 t162 t163 false a0_0 a0_1 a0_2 a0_3 a0_4 l0_5 l0_6 l0_7 a0_8 ((rd_T40 l0_6 x5_2).f0) ((rd_T40 l0_6 x5_2).f1) ((rd_T40 l0_6 x5_2).f2) ((rd_T40 l0_6 x5_2).f3) ((rd_T40 l0_6 x7_5).f0) ((rd_T40 l0_6 x7_5).f1) ((rd_T40 l0_6 x7_5).f2) ((rd_T40 l0_6 x7_5).f3))))) else (none)) else (none)) = some r := by rw [if_pos rfl] at H; exact H
                   clear H
                   have H := H1
                   clear H1
                   by_cases c39 : 0 ≤ x7_5
                   ·rw [if_pos c39] at H
                    have c39b0 : decide (0 ≤ x7_5) = true := decide_eq_true c39
                    clear c39
                    by_cases c40 : x7_5 < (l0_6.length : Int)
                    ·rw [if_pos c40] at H
                     have c40b0 : decide (x7_5 < (l0_6.length : Int)) = true := decide_eq_true c40
                     clear c40
                     replace H := Option.bind_eq_some_iff.mp H
                     obtain ⟨t162, A410, H⟩ := H
                     replace H : ((tocsinref06_Time.f ((rd_T40 l0_6 x7_5).f3)).bind fun t163 => (if a1 = 7 then (if ((rd_T40 l0_6 x5_2).f0) = ((rd_T40 l0_6 x7_5).f0) then ((tocsinref08_meet.f ((rd_T40 l0_6 x5_2).f2) t162 ((rd_T40 l0_6 x7_5).f2) t163).bind fun t164 => (tocsinref08_entries.j6 kj35 a1 x5_2 x7_5 t162 t163 t164 a0_0 a0_1 a0_2 a0_3 a0_4 l0_5 l0_6 l0_7 a0_8 ((rd_T40 l0_6 x5_2).f0) ((rd_T40 l0_6 x5_2).f1) ((rd_T40 l0_6 x5_2).f2) ((rd_T40 l0_6 x5_2).f3) ((rd_T40 l0_6 x7_5).f0) ((rd_T40 l0_6 x7_5).f1) ((rd_T40 l0_6 x7_5).f2) ((rd_T40 l0_6 x7_5).f3))) else (tocsinref08_entries.j6 kj35 a1 x5_2 x7_5 t162 t163 false a0_0 a0_1 a0_2 a0_3 a0_4 l0_5 l0_6 l0_7 a0_8 ((rd_T40 l0_6 x5_2).f0) ((rd_T40 l0_6 x5_2).f1) ((rd_T40 l0_6 x5_2).f2) ((rd_T40 l0_6 x5_2).f3) ((rd_T40 l0_6 x7_5).f0) ((rd_T40 l0_6 x7_5).f1) ((rd_T40 l0_6 x7_5).f2) ((rd_T40 l0_6 x7_5).f3))) else (tocsinref08_entries.j6 kj35 a1 x5_2 x7_5 t162 t163 false a0_0 a0_1 a0_2 a0_3 a0_4 l0_5 l0_6 l0_7 a0_8 ((rd_T40 l0_6 x5_2).f0) ((rd_T40 l0_6 x5_2).f1) ((rd_T40 l0_6 x5_2).f2) ((rd_T40 l0_6 x5_2).f3) ((rd_T40 l0_6 x7_5).f0) ((rd_T40 l0_6 x7_5).f1) ((rd_T40 l0_6 x7_5).f2) ((rd_T40 l0_6 x7_5).f3)))) = some r := H
                     have A41 := Aside0.mk A410
                     clear A410
                     replace H := Option.bind_eq_some_iff.mp H
                     obtain ⟨t163, A420, H⟩ := H
                     replace H : (if a1 = 7 then (if ((rd_T40 l0_6 x5_2).f0) = ((rd_T40 l0_6 x7_5).f0) then ((tocsinref08_meet.f ((rd_T40 l0_6 x5_2).f2) t162 ((rd_T40 l0_6 x7_5).f2) t163).bind fun t164 => (tocsinref08_entries.j6 kj35 a1 x5_2 x7_5 t162 t163 t164 a0_0 a0_1 a0_2 a0_3 a0_4 l0_5 l0_6 l0_7 a0_8 ((rd_T40 l0_6 x5_2).f0) ((rd_T40 l0_6 x5_2).f1) ((rd_T40 l0_6 x5_2).f2) ((rd_T40 l0_6 x5_2).f3) ((rd_T40 l0_6 x7_5).f0) ((rd_T40 l0_6 x7_5).f1) ((rd_T40 l0_6 x7_5).f2) ((rd_T40 l0_6 x7_5).f3))) else (tocsinref08_entries.j6 kj35 a1 x5_2 x7_5 t162 t163 false a0_0 a0_1 a0_2 a0_3 a0_4 l0_5 l0_6 l0_7 a0_8 ((rd_T40 l0_6 x5_2).f0) ((rd_T40 l0_6 x5_2).f1) ((rd_T40 l0_6 x5_2).f2) ((rd_T40 l0_6 x5_2).f3) ((rd_T40 l0_6 x7_5).f0) ((rd_T40 l0_6 x7_5).f1) ((rd_T40 l0_6 x7_5).f2) ((rd_T40 l0_6 x7_5).f3))) else (tocsinref08_entries.j6 kj35 a1 x5_2 x7_5 t162 t163 false a0_0 a0_1 a0_2 a0_3 a0_4 l0_5 l0_6 l0_7 a0_8 ((rd_T40 l0_6 x5_2).f0) ((rd_T40 l0_6 x5_2).f1) ((rd_T40 l0_6 x5_2).f2) ((rd_T40 l0_6 x5_2).f3) ((rd_T40 l0_6 x7_5).f0) ((rd_T40 l0_6 x7_5).f1) ((rd_T40 l0_6 x7_5).f2) ((rd_T40 l0_6 x7_5).f3))) = some r := H
                     have A42 := Aside0.mk A420
                     clear A420
                     have HC43 := Aside0.mk H
                     clear H
                     have hnb44 := NB150_152.out
                     have hnc44 := NB152_150.out
                     obtain ⟨hcz45_0, hcz45_1, hcz45_2, hcz45_3, hcz45_4, hcz45_5, hcz45_6, hcz45_7, hcz45_8, hfz45_0, hfz45_1, hfz45_2, hfz45_3, hfz45_4, hfz45_5, hfz45_6, hfz45_7, hfz45_8⟩ := bz9 BK150
                     have p160 : 0 ≤ (x7_5 : Int) := of_decide_eq_true (by first | (with_reducible assumption) | assumption)
                     have q160 : x7_5 < (l0_6.length : Int) := of_decide_eq_true (by first | (with_reducible assumption) | assumption)
                     obtain ⟨ad160, e160, hx160_0, hx160_1, hx160_2, hx160_3⟩ := at_T40 HR0_6.out x7_5 p160 q160
                     obtain rfl : ad151 = ad160 := (by injection e160)
                     replace hx160_0 := pcb HB hx160_0
                     replace hx160_1 := pcb HB hx160_1
                     replace hx160_2 := pcb HB hx160_2
                     replace hx160_3 := pcb HB hx160_3
                     replace p160 := eq_true p160
                     replace q160 := eq_true q160
                     try go_wp2_with (first | ((with_reducible refine gate_dst (N := 8) rfl ?_); (try (refine gate_guard (by rfl) ?_; dsimp only)); refine boxe (N := 8) (cs := #[.int .i64 0, .int .u32 0, .int .i64 0, .int .i64 0]) (t := 40) ?_; intro gb161 hg w46 hbox hb; have BK161 := Aside0.mk (hbox); have GW161 := bg2 hg HB GE150 GE152; have GE161 := GW161; have NB150_161 := nl hg BK150; have NB161_150 := ng hg BK150; have NB152_161 := nl hg BK152; have NB161_152 := ng hg BK152; replace BK150 := bb BK150 hb; replace BK152 := bb BK152 hb; replace HB := bs2 HB GE150 GE152 hb; clear hb hbox hg; have hnb47 := NB161_150.out; have hnc47 := NB150_161.out; have hnb48 := NB161_152.out; have hnc48 := NB152_161.out; obtain ⟨hcz49_0, hcz49_1, hcz49_2, hcz49_3, hfz49_0, hfz49_1, hfz49_2, hfz49_3⟩ := bz4 BK161))
                     have n0_ : Aside0 (((((w46.setCell ⟨gb161, 0, none⟩ (.int .i64 ((rd_T40 l0_6 x7_5).f0))).setCell ⟨gb161, 1, none⟩ (.int .u32 ((rd_T40 l0_6 x7_5).f1))).setCell ⟨gb161, 2, none⟩ (.int .i64 ((rd_T40 l0_6 x7_5).f2))).setCell ⟨gb161, 3, none⟩ (.int .i64 ((rd_T40 l0_6 x7_5).f3))).heap[gb150]? = some (.cells #[.int .i64 a0_0, .int .i64 a0_1, .int .i64 a0_2, .int .i64 a0_3, .int .i64 a0_4, .slice A0_5 l0_5.length c0_5, .slice (some ad151) l0_6.length c0_6, .slice A0_7 l0_7.length c0_7, .int .i64 a0_8] 26 (0, 0))) := ⟨bf1 NB150_161 BK150⟩
                     have n1_ : Aside0 (((((w46.setCell ⟨gb161, 0, none⟩ (.int .i64 ((rd_T40 l0_6 x7_5).f0))).setCell ⟨gb161, 1, none⟩ (.int .u32 ((rd_T40 l0_6 x7_5).f1))).setCell ⟨gb161, 2, none⟩ (.int .i64 ((rd_T40 l0_6 x7_5).f2))).setCell ⟨gb161, 3, none⟩ (.int .i64 ((rd_T40 l0_6 x7_5).f3))).heap[gb152]? = some (.cells #[.int .i64 ((rd_T40 l0_6 x5_2).f0), .int .u32 ((rd_T40 l0_6 x5_2).f1), .int .i64 ((rd_T40 l0_6 x5_2).f2), .int .i64 ((rd_T40 l0_6 x5_2).f3)] 40 (0, 0))) := ⟨bf1 NB152_161 BK152⟩
                     have n2_ : Aside0 (((((w46.setCell ⟨gb161, 0, none⟩ (.int .i64 ((rd_T40 l0_6 x7_5).f0))).setCell ⟨gb161, 1, none⟩ (.int .u32 ((rd_T40 l0_6 x7_5).f1))).setCell ⟨gb161, 2, none⟩ (.int .i64 ((rd_T40 l0_6 x7_5).f2))).setCell ⟨gb161, 3, none⟩ (.int .i64 ((rd_T40 l0_6 x7_5).f3))).heap[gb161]? = some (.cells #[.int .i64 ((rd_T40 l0_6 x7_5).f0), .int .u32 ((rd_T40 l0_6 x7_5).f1), .int .i64 ((rd_T40 l0_6 x7_5).f2), .int .i64 ((rd_T40 l0_6 x7_5).f3)] 40 (0, 0))) := ⟨by (with_reducible repeat (first | refine blk_drewN ?_ _ | refine blk_drew ?_ | refine blk_alloc ?_ _)); refine blk_put (cs := #[.int .i64 ((rd_T40 l0_6 x7_5).f0), .int .u32 ((rd_T40 l0_6 x7_5).f1), .int .i64 ((rd_T40 l0_6 x7_5).f2), .int .i64 0]) ?_ 3 _ rt; (with_reducible repeat (first | refine blk_drewN ?_ _ | refine blk_drew ?_ | refine blk_alloc ?_ _)); refine blk_put (cs := #[.int .i64 ((rd_T40 l0_6 x7_5).f0), .int .u32 ((rd_T40 l0_6 x7_5).f1), .int .i64 0, .int .i64 0]) ?_ 2 _ rt; (with_reducible repeat (first | refine blk_drewN ?_ _ | refine blk_drew ?_ | refine blk_alloc ?_ _)); refine blk_put (cs := #[.int .i64 ((rd_T40 l0_6 x7_5).f0), .int .u32 0, .int .i64 0, .int .i64 0]) ?_ 1 _ rt; (with_reducible repeat (first | refine blk_drewN ?_ _ | refine blk_drew ?_ | refine blk_alloc ?_ _)); refine blk_put (cs := #[.int .i64 0, .int .u32 0, .int .i64 0, .int .i64 0]) ?_ 0 _ rt; (with_reducible repeat (first | refine blk_drewN ?_ _ | refine blk_drew ?_ | refine blk_alloc ?_ _)); exact BK161.out⟩
                     have n3_ : Aside0 (Below w.heap.size w ((((w46.setCell ⟨gb161, 0, none⟩ (.int .i64 ((rd_T40 l0_6 x7_5).f0))).setCell ⟨gb161, 1, none⟩ (.int .u32 ((rd_T40 l0_6 x7_5).f1))).setCell ⟨gb161, 2, none⟩ (.int .i64 ((rd_T40 l0_6 x7_5).f2))).setCell ⟨gb161, 3, none⟩ (.int .i64 ((rd_T40 l0_6 x7_5).f3)))) := ⟨bw3 HB GE150 GE152 GE161⟩
                     (try clear BK150)
                     (try clear BK152)
                     (try clear BK161)
                     (try clear HB)
                     generalize ((((w46.setCell ⟨gb161, 0, none⟩ (.int .i64 ((rd_T40 l0_6 x7_5).f0))).setCell ⟨gb161, 1, none⟩ (.int .u32 ((rd_T40 l0_6 x7_5).f1))).setCell ⟨gb161, 2, none⟩ (.int .i64 ((rd_T40 l0_6 x7_5).f2))).setCell ⟨gb161, 3, none⟩ (.int .i64 ((rd_T40 l0_6 x7_5).f3))) = w50 at n0_ n1_ n2_ n3_ ⊢
                     have BK150 := n0_
                     have BK152 := n1_
                     have BK161 := n2_
                     have HB := n3_
                     clear n0_ n1_ n2_ n3_
                     have n0_ := Aside0.mk (blk_drew BK150.out)
                     have n1_ := Aside0.mk (blk_drew BK152.out)
                     have n2_ := Aside0.mk (blk_drew BK161.out)
                     have n3_ := Aside0.mk (below_drew1 HB.out)
                     clear BK150
                     clear BK152
                     clear BK161
                     clear HB
                     have BK150 := n0_
                     have BK152 := n1_
                     have BK161 := n2_
                     have HB := n3_
                     clear n0_ n1_ n2_ n3_
                     refine start_ (n := 8) (S := fun w' => w'.cell? ⟨gb152, 0, none⟩ = some (.int .i64 ((rd_T40 l0_6 x5_2).f0)) ∧ w'.cell? ⟨gb152, 1, none⟩ = some (.int .u32 ((rd_T40 l0_6 x5_2).f1)) ∧ w'.cell? ⟨gb152, 2, none⟩ = some (.int .i64 ((rd_T40 l0_6 x5_2).f2)) ∧ w'.cell? ⟨gb152, 3, none⟩ = some (.int .i64 ((rd_T40 l0_6 x5_2).f3)) ∧ w'.cell? ⟨gb161, 0, none⟩ = some (.int .i64 ((rd_T40 l0_6 x7_5).f0)) ∧ w'.cell? ⟨gb161, 1, none⟩ = some (.int .u32 ((rd_T40 l0_6 x7_5).f1)) ∧ w'.cell? ⟨gb161, 2, none⟩ = some (.int .i64 ((rd_T40 l0_6 x7_5).f2)) ∧ w'.cell? ⟨gb161, 3, none⟩ = some (.int .i64 ((rd_T40 l0_6 x7_5).f3))) (ds := []) #[false, false, false, false, false, false, false, false] (by kernel_rfl) rfl rfl ⟨(blk_cell BK152.out 0).trans rfl, (blk_cell BK152.out 1).trans rfl, (blk_cell BK152.out 2).trans rfl, (blk_cell BK152.out 3).trans rfl, (blk_cell BK161.out 0).trans rfl, (blk_cell BK161.out 1).trans rfl, (blk_cell BK161.out 2).trans rfl, (blk_cell BK161.out 3).trans rfl⟩ (fun hHeld => ?_); refine with_tabW tocsinref08_entries.tab15 tocsinref08_entries.bits15 (fun HT_ HW_ => ?_)
                     generalize w50.drew = w51 at BK150 BK152 BK161 HB hHeld ⊢
                     refine pl 0 84 #[true, false, false, false, false, false, false, false] HT_ ?_
                     refine pl 3 87 #[true, false, false, true, false, false, false, false] HT_ ?_
                     refine tk8 1 85 #[true, true, false, true, false, false, false, false] HT_ HW_ hHeld ?_
                     refine tk8 4 88 #[true, true, false, true, true, false, false, false] HT_ HW_ hHeld ?_
                     refine one_ (i := 2) (N := some 86) #[true, true, true, true, true, false, false, false] rfl rfl (one_of HT_.out (by kernel_rfl)) (by decide) (fun K hK => ?_)
                     refine gor Try.func39 #[.int .i64 ((rd_T40 l0_6 x5_2).f3)] ?_
                     with_reducible refine (tocsinref06_Time.calls ((rd_T40 l0_6 x5_2).f3) t162 _ A41.out).mono ?_
                     rintro e w' ⟨rfl, ⟨nd, rfl⟩⟩
                     refine ⟨_, rfl, ?_⟩
                     refine hK.out _ _ ⟨(blk_cell BK152.out 0).trans rfl, (blk_cell BK152.out 1).trans rfl, (blk_cell BK152.out 2).trans rfl, (blk_cell BK152.out 3).trans rfl, (blk_cell BK161.out 0).trans rfl, (blk_cell BK161.out 1).trans rfl, (blk_cell BK161.out 2).trans rfl, (blk_cell BK161.out 3).trans rfl⟩ (fun hHeld => ?_)
                     clear hK K
                     refine norm_ (a' := ?_) ?_ ?_
                     rotate_left
                     ·show Act.put _ (some 86) _ = _
                      simp only [Act.put, sT, sZ, sS, i64_w, i32_w]
                      rfl
                     refine one_ (i := 5) (N := some 89) #[true, true, true, true, true, true, false, false] rfl rfl (one_of HT_.out (by kernel_rfl)) (by decide) (fun K hK => ?_)
                     refine gor Try.func39 #[.int .i64 ((rd_T40 l0_6 x7_5).f3)] ?_
                     with_reducible refine (tocsinref06_Time.calls ((rd_T40 l0_6 x7_5).f3) t163 _ A42.out).mono ?_
                     rintro e w' ⟨rfl, ⟨nd, rfl⟩⟩
                     refine ⟨_, rfl, ?_⟩
                     refine hK.out _ _ ⟨(blk_cell BK152.out 0).trans rfl, (blk_cell BK152.out 1).trans rfl, (blk_cell BK152.out 2).trans rfl, (blk_cell BK152.out 3).trans rfl, (blk_cell BK161.out 0).trans rfl, (blk_cell BK161.out 1).trans rfl, (blk_cell BK161.out 2).trans rfl, (blk_cell BK161.out 3).trans rfl⟩ (fun hHeld => ?_)
                     clear hK K
                     refine norm_ (a' := ?_) ?_ ?_
                     rotate_left
                     ·show Act.put _ (some 89) _ = _
                      simp only [Act.put, sT, sZ, sS, i64_w, i32_w]
                      rfl
                     refine pl 6 9 #[true, true, true, true, true, true, true, false] HT_ ?_
                     refine pl 7 10 #[true, true, true, true, true, true, true, true] HT_ ?_
                     refine done_ (done_of HT_.out (by kernel_rfl)) ?_
                     go_upto_region 16 with (fail)
                     go_cut [107] (fun v107 wc => ∃ (kq : Nat) (x107_42 : Bool), v107 = .bool x107_42 ∧ Aside0 (tocsinref08_entries.j6 kq a1 x5_2 x7_5 t162 t163 x107_42 a0_0 a0_1 a0_2 a0_3 a0_4 l0_5 l0_6 l0_7 a0_8 ((rd_T40 l0_6 x5_2).f0) ((rd_T40 l0_6 x5_2).f1) ((rd_T40 l0_6 x5_2).f2) ((rd_T40 l0_6 x5_2).f3) ((rd_T40 l0_6 x7_5).f0) ((rd_T40 l0_6 x7_5).f1) ((rd_T40 l0_6 x7_5).f2) ((rd_T40 l0_6 x7_5).f3) = some r) ∧ Aside0 (kq ≤ kj35) ∧ Aside0 (wc.heap[gb150]? = some (.cells #[.int .i64 a0_0, .int .i64 a0_1, .int .i64 a0_2, .int .i64 a0_3, .int .i64 a0_4, (.slice A0_5 l0_5.length c0_5), (.slice (some ad151) l0_6.length c0_6), (.slice A0_7 l0_7.length c0_7), .int .i64 a0_8] 26 (0, 0))) ∧ Aside0 (wc.heap[gb152]? = some (.cells #[.int .i64 ((rd_T40 l0_6 x5_2).f0), .int .u32 ((rd_T40 l0_6 x5_2).f1), .int .i64 ((rd_T40 l0_6 x5_2).f2), .int .i64 ((rd_T40 l0_6 x5_2).f3)] 40 (0, 0))) ∧ Aside0 (wc.heap[gb161]? = some (.cells #[.int .i64 ((rd_T40 l0_6 x7_5).f0), .int .u32 ((rd_T40 l0_6 x7_5).f1), .int .i64 ((rd_T40 l0_6 x7_5).f2), .int .i64 ((rd_T40 l0_6 x7_5).f3)] 40 (0, 0))) ∧ Aside0 (Below w.heap.size w wc))
                     case first =>
                      have H := HC43.out
                      clear HC43
                      by_cases c52 : a1 = 7
                      ·rw [if_pos c52] at H
                       have c52b0 : (a1 == 7) = true := beq_iff_eq.mpr c52
                       have c52b1 : (a1 != 7) = false := bne_eq_false_iff_eq.mpr c52
                       clear c52
                       (first | rw [c52b0] | (simp only [i64_w, i32_w]; rw [c52b0]) | skip)
                       by_cases c53 : ((rd_T40 l0_6 x5_2).f0) = ((rd_T40 l0_6 x7_5).f0)
                       ·rw [if_pos c53] at H
                        have c53b0 : (((rd_T40 l0_6 x5_2).f0) == ((rd_T40 l0_6 x7_5).f0)) = true := beq_iff_eq.mpr c53
                        have c53b1 : (((rd_T40 l0_6 x5_2).f0) != ((rd_T40 l0_6 x7_5).f0)) = false := bne_eq_false_iff_eq.mpr c53
                        clear c53
                        replace H := Option.bind_eq_some_iff.mp H
                        obtain ⟨t164, A540, H⟩ := H
                        replace H : (tocsinref08_entries.j6 kj35 a1 x5_2 x7_5 t162 t163 t164 a0_0 a0_1 a0_2 a0_3 a0_4 l0_5 l0_6 l0_7 a0_8 ((rd_T40 l0_6 x5_2).f0) ((rd_T40 l0_6 x5_2).f1) ((rd_T40 l0_6 x5_2).f2) ((rd_T40 l0_6 x5_2).f3) ((rd_T40 l0_6 x7_5).f0) ((rd_T40 l0_6 x7_5).f1) ((rd_T40 l0_6 x7_5).f2) ((rd_T40 l0_6 x7_5).f3)) = some r := H
                        have A54 := Aside0.mk A540
                        clear A540
                        have H' := Aside0.mk H
                        clear H
                        have hnb55 := NB152_150.out
                        have hnc55 := NB150_152.out
                        have hnb56 := NB152_161.out
                        have hnc56 := NB161_152.out
                        obtain ⟨hcz57_0, hcz57_1, hcz57_2, hcz57_3, hfz57_0, hfz57_1, hfz57_2, hfz57_3⟩ := bz4 BK152
                        have hnb58 := NB161_150.out
                        have hnc58 := NB150_161.out
                        obtain ⟨hcz59_0, hcz59_1, hcz59_2, hcz59_3, hfz59_0, hfz59_1, hfz59_2, hfz59_3⟩ := bz4 BK161
                        go_wp2_with (first | (go_at_call 53; (with_reducible refine (tocsinref08_meet.calls ((rd_T40 l0_6 x5_2).f2) t162 ((rd_T40 l0_6 x7_5).f2) t163 t164 _ A54.out).mono ?_); rintro e w' ⟨rfl, ⟨nd, rfl⟩⟩))
                        all_goals try (exfalso; (try have z0_ := of_decide_eq_true c8b0); (try have z1_ := of_decide_eq_true c40b0); omega)
                        go_meet
                        case rel => exact ⟨_, (t164), rs, H', ⟨by have := HJ2.out; have := HK2.out; have := HJ9.out; have := HJ20.out; have := HK5.out; have := HJ35.out; first | omega | exact Nat.le_refl _⟩, ⟨bk BK150⟩, ⟨bk BK152⟩, ⟨bk BK161⟩, ⟨bw3 HB GE150 GE152 GE161⟩⟩
                       ·rw [if_neg c53] at H
                        have c53b0 : (((rd_T40 l0_6 x5_2).f0) == ((rd_T40 l0_6 x7_5).f0)) = false := beq_eq_false_iff_ne.mpr c53
                        have c53b1 : (((rd_T40 l0_6 x5_2).f0) != ((rd_T40 l0_6 x7_5).f0)) = true := bne_iff_ne.mpr c53
                        have H' := Aside0.mk H
                        clear H
                        have hnb60 := NB152_150.out
                        have hnc60 := NB150_152.out
                        have hnb61 := NB152_161.out
                        have hnc61 := NB161_152.out
                        obtain ⟨hcz62_0, hcz62_1, hcz62_2, hcz62_3, hfz62_0, hfz62_1, hfz62_2, hfz62_3⟩ := bz4 BK152
                        have hnb63 := NB161_150.out
                        have hnc63 := NB150_161.out
                        obtain ⟨hcz64_0, hcz64_1, hcz64_2, hcz64_3, hfz64_0, hfz64_1, hfz64_2, hfz64_3⟩ := bz4 BK161
                        go_wp2
                        all_goals try (exfalso; (try have z0_ := of_decide_eq_true c8b0); (try have z1_ := of_decide_eq_true c40b0); omega)
                        go_meet
                        case rel => exact ⟨_, (false), rs, H', ⟨by have := HJ2.out; have := HK2.out; have := HJ9.out; have := HJ20.out; have := HK5.out; have := HJ35.out; first | omega | exact Nat.le_refl _⟩, ⟨bk BK150⟩, ⟨bk BK152⟩, ⟨bk BK161⟩, ⟨bw3 HB GE150 GE152 GE161⟩⟩
                      ·rw [if_neg c52] at H
                       have c52b0 : (a1 == 7) = false := beq_eq_false_iff_ne.mpr c52
                       have c52b1 : (a1 != 7) = true := bne_iff_ne.mpr c52
                       (first | rw [c52b0] | (simp only [i64_w, i32_w]; rw [c52b0]) | skip)
                       have H' := Aside0.mk H
                       clear H
                       go_wp2
                       all_goals try (exfalso; (try have z0_ := of_decide_eq_true c8b0); (try have z1_ := of_decide_eq_true c40b0); omega)
                       go_meet
                       case rel => exact ⟨_, (false), rs, H', ⟨by have := HJ2.out; have := HK2.out; have := HJ9.out; have := HJ20.out; have := HK5.out; have := HJ35.out; first | omega | exact Nat.le_refl _⟩, ⟨bk BK150⟩, ⟨bk BK152⟩, ⟨bk BK161⟩, ⟨bw3 HB GE150 GE152 GE161⟩⟩
                     case rest =>
                      clear HC43
                      try clear p1
                      try clear q1
                      try clear hx1
                      try clear c2
                      try clear p2
                      try clear c3
                      try clear c4
                      try clear c5
                      try clear c6
                      try clear p16
                      try clear q16
                      try clear hx16
                      try clear c22
                      try clear c22b0
                      try clear c22b1
                      try clear c25
                      try clear c27
                      try clear c27b0
                      try clear c35
                      try clear c37
                      try clear c37b0
                      try clear c38
                      try clear c39
                      try clear c39b0
                      try clear c40
                      try clear c40b0
                      try clear c44
                      try clear c47
                      try clear c48
                      try clear c52
                      try clear c52b0
                      try clear c52b1
                      try clear c53
                      try clear c53b0
                      try clear c53b1
                      try clear c55
                      try clear c56
                      try clear c58
                      try clear c60
                      try clear c61
                      try clear c63
                      try clear hcz45_0 hcz45_1 hcz45_2 hcz45_3 hcz45_4 hcz45_5 hcz45_6 hcz45_7 hcz45_8
                      try clear hcz49_0 hcz49_1 hcz49_2 hcz49_3
                      try clear hcz57_0 hcz57_1 hcz57_2 hcz57_3
                      try clear hcz59_0 hcz59_1 hcz59_2 hcz59_3
                      try clear hcz62_0 hcz62_1 hcz62_2 hcz62_3
                      try clear hcz64_0 hcz64_1 hcz64_2 hcz64_3
                      try clear hfz45_0 hfz45_1 hfz45_2 hfz45_3 hfz45_4 hfz45_5 hfz45_6 hfz45_7 hfz45_8
                      try clear hfz49_0 hfz49_1 hfz49_2 hfz49_3
                      try clear hfz57_0 hfz57_1 hfz57_2 hfz57_3
                      try clear hfz59_0 hfz59_1 hfz59_2 hfz59_3
                      try clear hfz62_0 hfz62_1 hfz62_2 hfz62_3
                      try clear hfz64_0 hfz64_1 hfz64_2 hfz64_3
                      try clear hx160_0
                      try clear hx160_1
                      try clear hx160_2
                      try clear hx160_3
                      try clear p160
                      try clear p2
                      try clear q160
                      obtain ⟨kq, x107_42, rfl, HA, HJ42, BK150, BK152, BK161, HB⟩ := hcut
                      cases kq with
                      | zero => exact absurd HA.out (by simp [tocsinref08_entries.j6])
                      | succ kj42 =>
                       have H := HA.out
                       clear HA
                       simp only [tocsinref08_entries.j6] at H
                       by_cases c65 : x107_42 = true
                       ·subst c65
                        have H1 : (some true) = some r := by rw [if_pos rfl] at H; exact H
                        clear H
                        have H := H1
                        clear H1
                        obtain rfl := Option.some.inj H
                        go_wp2
                        all_goals try (exfalso; (try have z0_ := of_decide_eq_true c8b0); (try have z1_ := of_decide_eq_true c40b0); omega)
                        go_ret
                        exact ⟨re, bw3 HB GE150 GE152 GE161⟩
                       ·replace c65 := Bool.eq_false_iff.mpr c65
                        subst c65
                        have H1 : (if a1 = 8 then (if (Go.bits .and .u32 ((rd_T40 l0_6 x5_2).f1) ((rd_T40 l0_6 x7_5).f1)) = 0 then (tocsinref08_entries.l1 kj42 a1 x5_2 (wrap64 (x7_5 + 1)) a0_0 a0_1 a0_2 a0_3 a0_4 l0_5 l0_6 l0_7 a0_8 ((rd_T40 l0_6 x5_2).f0) ((rd_T40 l0_6 x5_2).f1) ((rd_T40 l0_6 x5_2).f2) ((rd_T40 l0_6 x5_2).f3)) else ((tocsinref08_Times.f a0_0 a0_1 a0_2 a0_3 a0_4 l0_5 l0_6 l0_7 a0_8 ((rd_T40 l0_6 x5_2).f0) ((rd_T40 l0_6 x5_2).f1) ((rd_T40 l0_6 x5_2).f2) ((rd_T40 l0_6 x5_2).f3)).bind fun bt165 => ((tocsinref08_Times.f a0_0 a0_1 a0_2 a0_3 a0_4 l0_5 l0_6 l0_7 a0_8 ((rd_T40 l0_6 x7_5).f0) ((rd_T40 l0_6 x7_5).f1) ((rd_T40 l0_6 x7_5).f2) ((rd_T40 l0_6 x7_5).f3)).bind fun bt170 => ((tocsinref08_meet.f bt165.2.2.1 t162 bt170.2.2.1 t163).bind fun t175 => (if t175 = true then (some true) else (tocsinref08_entries.l1 kj42 a1 x5_2 (wrap64 (x7_5 + 1)) a0_0 a0_1 a0_2 a0_3 a0_4 l0_5 l0_6 l0_7 a0_8 ((rd_T40 l0_6 x5_2).f0) ((rd_T40 l0_6 x5_2).f1) ((rd_T40 l0_6 x5_2).f2) ((rd_T40 l0_6 x5_2).f3))))))) else (tocsinref08_entries.l1 kj42 a1 x5_2 (wrap64 (x7_5 + 1)) a0_0 a0_1 a0_2 a0_3 a0_4 l0_5 l0_6 l0_7 a0_8 ((rd_T40 l0_6 x5_2).f0) ((rd_T40 l0_6 x5_2).f1) ((rd_T40 l0_6 x5_2).f2) ((rd_T40 l0_6 x5_2).f3))) = some r := by rw [if_neg (show ¬ (false = true) by decide)] at H; exact H
                        clear H
                        have H := H1
                        clear H1
                        by_cases c66 : a1 = 8
                        ·rw [if_pos c66] at H
                         have c66b0 : (a1 == 8) = true := beq_iff_eq.mpr c66
                         have c66b1 : (a1 != 8) = false := bne_eq_false_iff_eq.mpr c66
                         clear c66
                         by_cases c67 : (Go.bits .and .u32 ((rd_T40 l0_6 x5_2).f1) ((rd_T40 l0_6 x7_5).f1)) = 0
                         ·rw [if_pos c67] at H
                          have c67b0 : ((Go.bits .and .u32 ((rd_T40 l0_6 x5_2).f1) ((rd_T40 l0_6 x7_5).f1)) == 0) = true := beq_iff_eq.mpr c67
                          have c67b1 : ((Go.bits .and .u32 ((rd_T40 l0_6 x5_2).f1) ((rd_T40 l0_6 x7_5).f1)) != 0) = false := bne_eq_false_iff_eq.mpr c67
                          clear c67
                          have H' := Aside0.mk H
                          clear H
                          try go_wp2
                          have n0_ := Aside0.mk (blk_drew BK150.out)
                          have n1_ := Aside0.mk (blk_drew BK152.out)
                          have n2_ := Aside0.mk (blk_drew BK161.out)
                          have n3_ := Aside0.mk (below_drew1 HB.out)
                          clear BK150
                          clear BK152
                          clear BK161
                          clear HB
                          have BK150 := n0_
                          have BK152 := n1_
                          have BK161 := n2_
                          have HB := n3_
                          clear n0_ n1_ n2_ n3_
                          refine start_ (n := 23) (S := fun w' => w'.cell? ⟨gb152, 0, none⟩ = some (.int .i64 ((rd_T40 l0_6 x5_2).f0)) ∧ w'.cell? ⟨gb152, 1, none⟩ = some (.int .u32 ((rd_T40 l0_6 x5_2).f1)) ∧ w'.cell? ⟨gb152, 2, none⟩ = some (.int .i64 ((rd_T40 l0_6 x5_2).f2)) ∧ w'.cell? ⟨gb152, 3, none⟩ = some (.int .i64 ((rd_T40 l0_6 x5_2).f3)) ∧ w'.cell? ⟨gb161, 0, none⟩ = some (.int .i64 ((rd_T40 l0_6 x7_5).f0)) ∧ w'.cell? ⟨gb161, 1, none⟩ = some (.int .u32 ((rd_T40 l0_6 x7_5).f1)) ∧ w'.cell? ⟨gb161, 2, none⟩ = some (.int .i64 ((rd_T40 l0_6 x7_5).f2)) ∧ w'.cell? ⟨gb161, 3, none⟩ = some (.int .i64 ((rd_T40 l0_6 x7_5).f3))) (ds := []) #[false, false, false, false, false, false, false, false, false, false, false, false, false, false, false, false, false, false, false, false, false, false, false] (by kernel_rfl) rfl rfl ⟨(blk_cell BK152.out 0).trans rfl, (blk_cell BK152.out 1).trans rfl, (blk_cell BK152.out 2).trans rfl, (blk_cell BK152.out 3).trans rfl, (blk_cell BK161.out 0).trans rfl, (blk_cell BK161.out 1).trans rfl, (blk_cell BK161.out 2).trans rfl, (blk_cell BK161.out 3).trans rfl⟩ (fun hHeld => ?_); refine with_tabW tocsinref08_entries.tab18 tocsinref08_entries.bits18 (fun HT_ HW_ => ?_)
                          generalize wc.drew = w68 at BK150 BK152 BK161 HB hHeld ⊢
                          refine pl 0 108 #[true, false, false, false, false, false, false, false, false, false, false, false, false, false, false, false, false, false, false, false, false, false, false] HT_ ?_
                          refine pl 1 109 #[true, true, false, false, false, false, false, false, false, false, false, false, false, false, false, false, false, false, false, false, false, false, false] HT_ ?_
                          refine pl 2 110 #[true, true, true, false, false, false, false, false, false, false, false, false, false, false, false, false, false, false, false, false, false, false, false] HT_ ?_
                          refine pl 3 111 #[true, true, true, true, false, false, false, false, false, false, false, false, false, false, false, false, false, false, false, false, false, false, false] HT_ ?_
                          refine pl 5 113 #[true, true, true, true, false, true, false, false, false, false, false, false, false, false, false, false, false, false, false, false, false, false, false] HT_ ?_
                          refine tk8 4 112 #[true, true, true, true, true, true, false, false, false, false, false, false, false, false, false, false, false, false, false, false, false, false, false] HT_ HW_ hHeld ?_
                          refine tk8 6 114 #[true, true, true, true, true, true, true, false, false, false, false, false, false, false, false, false, false, false, false, false, false, false, false] HT_ HW_ hHeld ?_
                          refine pl 7 115 #[true, true, true, true, true, true, true, true, false, false, false, false, false, false, false, false, false, false, false, false, false, false, false] HT_ ?_
                          refine pl 8 116 #[true, true, true, true, true, true, true, true, true, false, false, false, false, false, false, false, false, false, false, false, false, false, false] HT_ ?_
                          refine pl 9 117 #[true, true, true, true, true, true, true, true, true, true, false, false, false, false, false, false, false, false, false, false, false, false, false] HT_ ?_
                          refine pl 10 118 #[true, true, true, true, true, true, true, true, true, true, true, false, false, false, false, false, false, false, false, false, false, false, false] HT_ ?_
                          refine pn 11 119 #[true, true, true, true, true, true, true, true, true, true, true, true, false, false, false, false, false, false, false, false, false, false, false] HT_ ?_
                          refine pn 12 120 #[true, true, true, true, true, true, true, true, true, true, true, true, true, false, false, false, false, false, false, false, false, false, false] HT_ ?_
                          refine pn 13 121 #[true, true, true, true, true, true, true, true, true, true, true, true, true, true, false, false, false, false, false, false, false, false, false] HT_ ?_
                          refine pn 14 122 #[true, true, true, true, true, true, true, true, true, true, true, true, true, true, true, false, false, false, false, false, false, false, false] HT_ ?_
                          refine pn 15 123 #[true, true, true, true, true, true, true, true, true, true, true, true, true, true, true, true, false, false, false, false, false, false, false] HT_ ?_
                          refine pn 16 124 #[true, true, true, true, true, true, true, true, true, true, true, true, true, true, true, true, true, false, false, false, false, false, false] HT_ ?_
                          refine pn 17 125 #[true, true, true, true, true, true, true, true, true, true, true, true, true, true, true, true, true, true, false, false, false, false, false] HT_ ?_
                          refine pn 18 126 #[true, true, true, true, true, true, true, true, true, true, true, true, true, true, true, true, true, true, true, false, false, false, false] HT_ ?_
                          refine pn 19 127 #[true, true, true, true, true, true, true, true, true, true, true, true, true, true, true, true, true, true, true, true, false, false, false] HT_ ?_
                          refine pn 20 128 #[true, true, true, true, true, true, true, true, true, true, true, true, true, true, true, true, true, true, true, true, true, false, false] HT_ ?_
                          refine pn 21 129 #[true, true, true, true, true, true, true, true, true, true, true, true, true, true, true, true, true, true, true, true, true, true, false] HT_ ?_
                          refine pl 22 130 #[true, true, true, true, true, true, true, true, true, true, true, true, true, true, true, true, true, true, true, true, true, true, true] HT_ ?_
                          refine done_ (done_of HT_.out (by kernel_rfl)) ?_
                          try go_wp2
                          go_roundg kj42
                          case measure => have := HJ2.out; have := HK2.out; have := HJ9.out; have := HJ20.out; have := HK5.out; have := HJ35.out; have := HJ42.out; omega
                          case rel => exact ⟨(wrap64 (x7_5 + 1)), rs, H', ⟨by have := HJ2.out; have := HK2.out; have := HJ9.out; have := HJ20.out; have := HK5.out; have := HJ35.out; have := HJ42.out; omega⟩, ⟨bk BK150⟩, ⟨bk BK152⟩, ⟨bw3 HB GE150 GE152 GE161⟩⟩
                         ·rw [if_neg c67] at H
                          have c67b0 : ((Go.bits .and .u32 ((rd_T40 l0_6 x5_2).f1) ((rd_T40 l0_6 x7_5).f1)) == 0) = false := beq_eq_false_iff_ne.mpr c67
                          have c67b1 : ((Go.bits .and .u32 ((rd_T40 l0_6 x5_2).f1) ((rd_T40 l0_6 x7_5).f1)) != 0) = true := bne_iff_ne.mpr c67
                          replace H := Option.bind_eq_some_iff.mp H
                          obtain ⟨⟨t165, t166, t167, t168, t169⟩, A690, H⟩ := H
                          replace H : ((tocsinref08_Times.f a0_0 a0_1 a0_2 a0_3 a0_4 l0_5 l0_6 l0_7 a0_8 ((rd_T40 l0_6 x7_5).f0) ((rd_T40 l0_6 x7_5).f1) ((rd_T40 l0_6 x7_5).f2) ((rd_T40 l0_6 x7_5).f3)).bind fun bt170 => ((tocsinref08_meet.f t167 t162 bt170.2.2.1 t163).bind fun t175 => (if t175 = true then (some true) else (tocsinref08_entries.l1 kj42 a1 x5_2 (wrap64 (x7_5 + 1)) a0_0 a0_1 a0_2 a0_3 a0_4 l0_5 l0_6 l0_7 a0_8 ((rd_T40 l0_6 x5_2).f0) ((rd_T40 l0_6 x5_2).f1) ((rd_T40 l0_6 x5_2).f2) ((rd_T40 l0_6 x5_2).f3))))) = some r := H
                          have A69 := Aside0.mk A690
                          clear A690
                          replace H := Option.bind_eq_some_iff.mp H
                          obtain ⟨⟨t170, t171, t172, t173, t174⟩, A700, H⟩ := H
                          replace H : ((tocsinref08_meet.f t167 t162 t172 t163).bind fun t175 => (if t175 = true then (some true) else (tocsinref08_entries.l1 kj42 a1 x5_2 (wrap64 (x7_5 + 1)) a0_0 a0_1 a0_2 a0_3 a0_4 l0_5 l0_6 l0_7 a0_8 ((rd_T40 l0_6 x5_2).f0) ((rd_T40 l0_6 x5_2).f1) ((rd_T40 l0_6 x5_2).f2) ((rd_T40 l0_6 x5_2).f3)))) = some r := H
                          have A70 := Aside0.mk A700
                          clear A700
                          replace H := Option.bind_eq_some_iff.mp H
                          obtain ⟨t175, A710, H⟩ := H
                          replace H : (if t175 = true then (some true) else (tocsinref08_entries.l1 kj42 a1 x5_2 (wrap64 (x7_5 + 1)) a0_0 a0_1 a0_2 a0_3 a0_4 l0_5 l0_6 l0_7 a0_8 ((rd_T40 l0_6 x5_2).f0) ((rd_T40 l0_6 x5_2).f1) ((rd_T40 l0_6 x5_2).f2) ((rd_T40 l0_6 x5_2).f3))) = some r := H
                          have A71 := Aside0.mk A710
                          clear A710
                          by_cases c72 : t175 = true
                          ·subst c72
                           have H1 : (some true) = some r := by rw [if_pos rfl] at H; exact H
                           clear H
                           have H := H1
                           clear H1
                           obtain rfl := Option.some.inj H
                           try go_wp2
                           have n0_ := Aside0.mk (blk_drew BK150.out)
                           have n1_ := Aside0.mk (blk_drew BK152.out)
                           have n2_ := Aside0.mk (blk_drew BK161.out)
                           have n3_ := Aside0.mk (below_drew1 HB.out)
                           clear BK150
                           clear BK152
                           clear BK161
                           clear HB
                           have BK150 := n0_
                           have BK152 := n1_
                           have BK161 := n2_
                           have HB := n3_
                           clear n0_ n1_ n2_ n3_
                           refine start_ (n := 23) (S := fun w' => w'.cell? ⟨gb152, 0, none⟩ = some (.int .i64 ((rd_T40 l0_6 x5_2).f0)) ∧ w'.cell? ⟨gb152, 1, none⟩ = some (.int .u32 ((rd_T40 l0_6 x5_2).f1)) ∧ w'.cell? ⟨gb152, 2, none⟩ = some (.int .i64 ((rd_T40 l0_6 x5_2).f2)) ∧ w'.cell? ⟨gb152, 3, none⟩ = some (.int .i64 ((rd_T40 l0_6 x5_2).f3)) ∧ w'.cell? ⟨gb161, 0, none⟩ = some (.int .i64 ((rd_T40 l0_6 x7_5).f0)) ∧ w'.cell? ⟨gb161, 1, none⟩ = some (.int .u32 ((rd_T40 l0_6 x7_5).f1)) ∧ w'.cell? ⟨gb161, 2, none⟩ = some (.int .i64 ((rd_T40 l0_6 x7_5).f2)) ∧ w'.cell? ⟨gb161, 3, none⟩ = some (.int .i64 ((rd_T40 l0_6 x7_5).f3)) ∧ w'.cell? ⟨gb150, 0, none⟩ = some (.int .i64 a0_0) ∧ w'.cell? ⟨gb150, 1, none⟩ = some (.int .i64 a0_1) ∧ w'.cell? ⟨gb150, 2, none⟩ = some (.int .i64 a0_2) ∧ w'.cell? ⟨gb150, 3, none⟩ = some (.int .i64 a0_3) ∧ w'.cell? ⟨gb150, 4, none⟩ = some (.int .i64 a0_4) ∧ w'.cell? ⟨gb150, 5, none⟩ = some (.slice A0_5 l0_5.length c0_5) ∧ w'.cell? ⟨gb150, 6, none⟩ = some (.slice (some ad151) l0_6.length c0_6) ∧ w'.cell? ⟨gb150, 7, none⟩ = some (.slice A0_7 l0_7.length c0_7) ∧ w'.cell? ⟨gb150, 8, none⟩ = some (.int .i64 a0_8)) (ds := []) #[false, false, false, false, false, false, false, false, false, false, false, false, false, false, false, false, false, false, false, false, false, false, false] (by kernel_rfl) rfl rfl ⟨(blk_cell BK152.out 0).trans rfl, (blk_cell BK152.out 1).trans rfl, (blk_cell BK152.out 2).trans rfl, (blk_cell BK152.out 3).trans rfl, (blk_cell BK161.out 0).trans rfl, (blk_cell BK161.out 1).trans rfl, (blk_cell BK161.out 2).trans rfl, (blk_cell BK161.out 3).trans rfl, (blk_cell BK150.out 0).trans rfl, (blk_cell BK150.out 1).trans rfl, (blk_cell BK150.out 2).trans rfl, (blk_cell BK150.out 3).trans rfl, (blk_cell BK150.out 4).trans rfl, (blk_cell BK150.out 5).trans rfl, (blk_cell BK150.out 6).trans rfl, (blk_cell BK150.out 7).trans rfl, (blk_cell BK150.out 8).trans rfl⟩ (fun hHeld => ?_); refine with_tabW tocsinref08_entries.tab18 tocsinref08_entries.bits18 (fun HT_ HW_ => ?_)
                           generalize wc.drew = w73 at BK150 BK152 BK161 HB hHeld ⊢
                           refine pl 0 108 #[true, false, false, false, false, false, false, false, false, false, false, false, false, false, false, false, false, false, false, false, false, false, false] HT_ ?_
                           refine pl 1 109 #[true, true, false, false, false, false, false, false, false, false, false, false, false, false, false, false, false, false, false, false, false, false, false] HT_ ?_
                           refine pl 2 110 #[true, true, true, false, false, false, false, false, false, false, false, false, false, false, false, false, false, false, false, false, false, false, false] HT_ ?_
                           refine pl 3 111 #[true, true, true, true, false, false, false, false, false, false, false, false, false, false, false, false, false, false, false, false, false, false, false] HT_ ?_
                           refine pl 5 113 #[true, true, true, true, false, true, false, false, false, false, false, false, false, false, false, false, false, false, false, false, false, false, false] HT_ ?_
                           refine tk17 4 112 #[true, true, true, true, true, true, false, false, false, false, false, false, false, false, false, false, false, false, false, false, false, false, false] HT_ HW_ hHeld ?_
                           refine tk17 6 114 #[true, true, true, true, true, true, true, false, false, false, false, false, false, false, false, false, false, false, false, false, false, false, false] HT_ HW_ hHeld ?_
                           refine pl 7 115 #[true, true, true, true, true, true, true, true, false, false, false, false, false, false, false, false, false, false, false, false, false, false, false] HT_ ?_
                           refine pl 8 116 #[true, true, true, true, true, true, true, true, true, false, false, false, false, false, false, false, false, false, false, false, false, false, false] HT_ ?_
                           refine pl 9 117 #[true, true, true, true, true, true, true, true, true, true, false, false, false, false, false, false, false, false, false, false, false, false, false] HT_ ?_
                           refine pl 10 118 #[true, true, true, true, true, true, true, true, true, true, true, false, false, false, false, false, false, false, false, false, false, false, false] HT_ ?_
                           refine pl 15 123 #[true, true, true, true, true, true, true, true, true, true, true, false, false, false, false, true, false, false, false, false, false, false, false] HT_ ?_
                           refine pl 20 128 #[true, true, true, true, true, true, true, true, true, true, true, false, false, false, false, true, false, false, false, false, true, false, false] HT_ ?_
                           refine tk17 11 119 #[true, true, true, true, true, true, true, true, true, true, true, true, false, false, false, true, false, false, false, false, true, false, false] HT_ HW_ hHeld ?_
                           refine tk17 12 120 #[true, true, true, true, true, true, true, true, true, true, true, true, true, false, false, true, false, false, false, false, true, false, false] HT_ HW_ hHeld ?_
                           refine tk17 16 124 #[true, true, true, true, true, true, true, true, true, true, true, true, true, false, false, true, true, false, false, false, true, false, false] HT_ HW_ hHeld ?_
                           refine tk17 17 125 #[true, true, true, true, true, true, true, true, true, true, true, true, true, false, false, true, true, true, false, false, true, false, false] HT_ HW_ hHeld ?_
                           refine one_ (i := 13) (N := some 121) #[true, true, true, true, true, true, true, true, true, true, true, true, true, true, false, true, true, true, false, false, true, false, false] rfl rfl (one_of HT_.out (by kernel_rfl)) (by decide) (fun K hK => ?_)
                           refine gor Try.func25 #[.agg #[.int .i64 a0_0, .int .i64 a0_1, .int .i64 a0_2, .int .i64 a0_3, .int .i64 a0_4, .slice A0_5 l0_5.length c0_5, .slice (some ad151) l0_6.length c0_6, .slice A0_7 l0_7.length c0_7, .int .i64 a0_8], .agg #[.int .i64 ((rd_T40 l0_6 x5_2).f0), .int .u32 ((rd_T40 l0_6 x5_2).f1), .int .i64 ((rd_T40 l0_6 x5_2).f2), .int .i64 ((rd_T40 l0_6 x5_2).f3)]] ?_
                           with_reducible refine (tocsinref08_Times.calls a0_0 a0_1 a0_2 a0_3 a0_4 _ _ l0_5 _ _ l0_6 _ _ l0_7 a0_8 ((rd_T40 l0_6 x5_2).f0) ((rd_T40 l0_6 x5_2).f1) ((rd_T40 l0_6 x5_2).f2) ((rd_T40 l0_6 x5_2).f3) t165 t166 t167 t168 t169 _ ?side1 ?side2 ?side3 ?side4 ?side5 ?side6 A69.out).mono ?_
                           (case side1 => exact kC (Kd.C_below HR0_5.out HB.out))
                           (case side2 => exact HC0_5.out)
                           (case side3 => exact kC (Kd.C_below HR0_6.out HB.out))
                           (case side4 => exact HC0_6.out)
                           (case side5 => exact kC (Kd.C_below HR0_7.out HB.out))
                           (case side6 => exact HC0_7.out)
                           rintro e w74 ⟨rfl, hb⟩
                           refine ⟨_, rfl, ?_⟩
                           have n0_ := bb BK150 hb
                           have n1_ := bb BK152 hb
                           have n2_ := bb BK161 hb
                           have n3_ := bs3 HB GE150 GE152 GE161 hb
                           clear BK150
                           clear BK152
                           clear BK161
                           clear HB
                           have BK150 := n0_
                           have BK152 := n1_
                           have BK161 := n2_
                           have HB := n3_
                           clear n0_ n1_ n2_ n3_
                           (try clear hb)
                           (try clear hb2)
                           (try clear hk)
                           (try clear hi)
                           refine hK.out _ _ ⟨(blk_cell BK152.out 0).trans rfl, (blk_cell BK152.out 1).trans rfl, (blk_cell BK152.out 2).trans rfl, (blk_cell BK152.out 3).trans rfl, (blk_cell BK161.out 0).trans rfl, (blk_cell BK161.out 1).trans rfl, (blk_cell BK161.out 2).trans rfl, (blk_cell BK161.out 3).trans rfl, (blk_cell BK150.out 0).trans rfl, (blk_cell BK150.out 1).trans rfl, (blk_cell BK150.out 2).trans rfl, (blk_cell BK150.out 3).trans rfl, (blk_cell BK150.out 4).trans rfl, (blk_cell BK150.out 5).trans rfl, (blk_cell BK150.out 6).trans rfl, (blk_cell BK150.out 7).trans rfl, (blk_cell BK150.out 8).trans rfl⟩ (fun hHeld => ?_)
                           clear hK K
                           refine norm_ (a' := ?_) ?_ ?_
                           rotate_left
                           ·show Act.put _ (some 121) _ = _
                            simp only [Act.put, sT, sZ, sS, i64_w, i32_w]
                            rfl
                           refine pl 14 122 #[true, true, true, true, true, true, true, true, true, true, true, true, true, true, true, true, true, true, false, false, true, false, false] HT_ ?_
                           refine one_ (i := 18) (N := some 126) #[true, true, true, true, true, true, true, true, true, true, true, true, true, true, true, true, true, true, true, false, true, false, false] rfl rfl (one_of HT_.out (by kernel_rfl)) (by decide) (fun K hK => ?_)
                           refine gor Try.func25 #[.agg #[.int .i64 a0_0, .int .i64 a0_1, .int .i64 a0_2, .int .i64 a0_3, .int .i64 a0_4, .slice A0_5 l0_5.length c0_5, .slice (some ad151) l0_6.length c0_6, .slice A0_7 l0_7.length c0_7, .int .i64 a0_8], .agg #[.int .i64 ((rd_T40 l0_6 x7_5).f0), .int .u32 ((rd_T40 l0_6 x7_5).f1), .int .i64 ((rd_T40 l0_6 x7_5).f2), .int .i64 ((rd_T40 l0_6 x7_5).f3)]] ?_
                           with_reducible refine (tocsinref08_Times.calls a0_0 a0_1 a0_2 a0_3 a0_4 _ _ l0_5 _ _ l0_6 _ _ l0_7 a0_8 ((rd_T40 l0_6 x7_5).f0) ((rd_T40 l0_6 x7_5).f1) ((rd_T40 l0_6 x7_5).f2) ((rd_T40 l0_6 x7_5).f3) t170 t171 t172 t173 t174 _ ?side1 ?side2 ?side3 ?side4 ?side5 ?side6 A70.out).mono ?_
                           (case side1 => exact kC (Kd.C_below HR0_5.out HB.out))
                           (case side2 => exact HC0_5.out)
                           (case side3 => exact kC (Kd.C_below HR0_6.out HB.out))
                           (case side4 => exact HC0_6.out)
                           (case side5 => exact kC (Kd.C_below HR0_7.out HB.out))
                           (case side6 => exact HC0_7.out)
                           rintro e w75 ⟨rfl, hb⟩
                           refine ⟨_, rfl, ?_⟩
                           have n0_ := bb BK150 hb
                           have n1_ := bb BK152 hb
                           have n2_ := bb BK161 hb
                           have n3_ := bs3 HB GE150 GE152 GE161 hb
                           clear BK150
                           clear BK152
                           clear BK161
                           clear HB
                           have BK150 := n0_
                           have BK152 := n1_
                           have BK161 := n2_
                           have HB := n3_
                           clear n0_ n1_ n2_ n3_
                           (try clear hb)
                           (try clear hb2)
                           (try clear hk)
                           (try clear hi)
                           refine hK.out _ _ ⟨(blk_cell BK152.out 0).trans rfl, (blk_cell BK152.out 1).trans rfl, (blk_cell BK152.out 2).trans rfl, (blk_cell BK152.out 3).trans rfl, (blk_cell BK161.out 0).trans rfl, (blk_cell BK161.out 1).trans rfl, (blk_cell BK161.out 2).trans rfl, (blk_cell BK161.out 3).trans rfl, (blk_cell BK150.out 0).trans rfl, (blk_cell BK150.out 1).trans rfl, (blk_cell BK150.out 2).trans rfl, (blk_cell BK150.out 3).trans rfl, (blk_cell BK150.out 4).trans rfl, (blk_cell BK150.out 5).trans rfl, (blk_cell BK150.out 6).trans rfl, (blk_cell BK150.out 7).trans rfl, (blk_cell BK150.out 8).trans rfl⟩ (fun hHeld => ?_)
                           clear hK K
                           refine norm_ (a' := ?_) ?_ ?_
                           rotate_left
                           ·show Act.put _ (some 126) _ = _
                            simp only [Act.put, sT, sZ, sS, i64_w, i32_w]
                            rfl
                           refine pl 19 127 #[true, true, true, true, true, true, true, true, true, true, true, true, true, true, true, true, true, true, true, true, true, false, false] HT_ ?_
                           refine one_ (i := 21) (N := some 129) #[true, true, true, true, true, true, true, true, true, true, true, true, true, true, true, true, true, true, true, true, true, true, false] rfl rfl (one_of HT_.out (by kernel_rfl)) (by decide) (fun K hK => ?_)
                           refine gor Try.func53 #[.int .i64 t167, .int .i64 t162, .int .i64 t172, .int .i64 t163] ?_
                           with_reducible refine (tocsinref08_meet.calls t167 t162 t172 t163 true _ A71.out).mono ?_
                           rintro e w' ⟨rfl, ⟨nd, rfl⟩⟩
                           refine ⟨_, rfl, ?_⟩
                           refine hK.out _ _ ⟨(blk_cell BK152.out 0).trans rfl, (blk_cell BK152.out 1).trans rfl, (blk_cell BK152.out 2).trans rfl, (blk_cell BK152.out 3).trans rfl, (blk_cell BK161.out 0).trans rfl, (blk_cell BK161.out 1).trans rfl, (blk_cell BK161.out 2).trans rfl, (blk_cell BK161.out 3).trans rfl, (blk_cell BK150.out 0).trans rfl, (blk_cell BK150.out 1).trans rfl, (blk_cell BK150.out 2).trans rfl, (blk_cell BK150.out 3).trans rfl, (blk_cell BK150.out 4).trans rfl, (blk_cell BK150.out 5).trans rfl, (blk_cell BK150.out 6).trans rfl, (blk_cell BK150.out 7).trans rfl, (blk_cell BK150.out 8).trans rfl⟩ (fun hHeld => ?_)
                           clear hK K
                           refine norm_ (a' := ?_) ?_ ?_
                           rotate_left
                           ·show Act.put _ (some 129) _ = _
                            simp only [Act.put, sT, sZ, sS, i64_w, i32_w]
                            rfl
                           refine pl 22 130 #[true, true, true, true, true, true, true, true, true, true, true, true, true, true, true, true, true, true, true, true, true, true, true] HT_ ?_
                           refine done_ (done_of HT_.out (by kernel_rfl)) ?_
                           try go_wp2
                           go_ret
                           exact ⟨re, bw3 HB GE150 GE152 GE161⟩
                          ·replace c72 := Bool.eq_false_iff.mpr c72
                           subst c72
                           have H1 : (tocsinref08_entries.l1 kj42 a1 x5_2 (wrap64 (x7_5 + 1)) a0_0 a0_1 a0_2 a0_3 a0_4 l0_5 l0_6 l0_7 a0_8 ((rd_T40 l0_6 x5_2).f0) ((rd_T40 l0_6 x5_2).f1) ((rd_T40 l0_6 x5_2).f2) ((rd_T40 l0_6 x5_2).f3)) = some r := by rw [if_neg (show ¬ (false = true) by decide)] at H; exact H
                           clear H
                           have H := H1
                           clear H1
                           have H' := Aside0.mk H
                           clear H
                           try go_wp2
                           have n0_ := Aside0.mk (blk_drew BK150.out)
                           have n1_ := Aside0.mk (blk_drew BK152.out)
                           have n2_ := Aside0.mk (blk_drew BK161.out)
                           have n3_ := Aside0.mk (below_drew1 HB.out)
                           clear BK150
                           clear BK152
                           clear BK161
                           clear HB
                           have BK150 := n0_
                           have BK152 := n1_
                           have BK161 := n2_
                           have HB := n3_
                           clear n0_ n1_ n2_ n3_
                           refine start_ (n := 23) (S := fun w' => w'.cell? ⟨gb152, 0, none⟩ = some (.int .i64 ((rd_T40 l0_6 x5_2).f0)) ∧ w'.cell? ⟨gb152, 1, none⟩ = some (.int .u32 ((rd_T40 l0_6 x5_2).f1)) ∧ w'.cell? ⟨gb152, 2, none⟩ = some (.int .i64 ((rd_T40 l0_6 x5_2).f2)) ∧ w'.cell? ⟨gb152, 3, none⟩ = some (.int .i64 ((rd_T40 l0_6 x5_2).f3)) ∧ w'.cell? ⟨gb161, 0, none⟩ = some (.int .i64 ((rd_T40 l0_6 x7_5).f0)) ∧ w'.cell? ⟨gb161, 1, none⟩ = some (.int .u32 ((rd_T40 l0_6 x7_5).f1)) ∧ w'.cell? ⟨gb161, 2, none⟩ = some (.int .i64 ((rd_T40 l0_6 x7_5).f2)) ∧ w'.cell? ⟨gb161, 3, none⟩ = some (.int .i64 ((rd_T40 l0_6 x7_5).f3)) ∧ w'.cell? ⟨gb150, 0, none⟩ = some (.int .i64 a0_0) ∧ w'.cell? ⟨gb150, 1, none⟩ = some (.int .i64 a0_1) ∧ w'.cell? ⟨gb150, 2, none⟩ = some (.int .i64 a0_2) ∧ w'.cell? ⟨gb150, 3, none⟩ = some (.int .i64 a0_3) ∧ w'.cell? ⟨gb150, 4, none⟩ = some (.int .i64 a0_4) ∧ w'.cell? ⟨gb150, 5, none⟩ = some (.slice A0_5 l0_5.length c0_5) ∧ w'.cell? ⟨gb150, 6, none⟩ = some (.slice (some ad151) l0_6.length c0_6) ∧ w'.cell? ⟨gb150, 7, none⟩ = some (.slice A0_7 l0_7.length c0_7) ∧ w'.cell? ⟨gb150, 8, none⟩ = some (.int .i64 a0_8)) (ds := []) #[false, false, false, false, false, false, false, false, false, false, false, false, false, false, false, false, false, false, false, false, false, false, false] (by kernel_rfl) rfl rfl ⟨(blk_cell BK152.out 0).trans rfl, (blk_cell BK152.out 1).trans rfl, (blk_cell BK152.out 2).trans rfl, (blk_cell BK152.out 3).trans rfl, (blk_cell BK161.out 0).trans rfl, (blk_cell BK161.out 1).trans rfl, (blk_cell BK161.out 2).trans rfl, (blk_cell BK161.out 3).trans rfl, (blk_cell BK150.out 0).trans rfl, (blk_cell BK150.out 1).trans rfl, (blk_cell BK150.out 2).trans rfl, (blk_cell BK150.out 3).trans rfl, (blk_cell BK150.out 4).trans rfl, (blk_cell BK150.out 5).trans rfl, (blk_cell BK150.out 6).trans rfl, (blk_cell BK150.out 7).trans rfl, (blk_cell BK150.out 8).trans rfl⟩ (fun hHeld => ?_); refine with_tabW tocsinref08_entries.tab18 tocsinref08_entries.bits18 (fun HT_ HW_ => ?_)
                           generalize wc.drew = w76 at BK150 BK152 BK161 HB hHeld ⊢
                           refine pl 0 108 #[true, false, false, false, false, false, false, false, false, false, false, false, false, false, false, false, false, false, false, false, false, false, false] HT_ ?_
                           refine pl 1 109 #[true, true, false, false, false, false, false, false, false, false, false, false, false, false, false, false, false, false, false, false, false, false, false] HT_ ?_
                           refine pl 2 110 #[true, true, true, false, false, false, false, false, false, false, false, false, false, false, false, false, false, false, false, false, false, false, false] HT_ ?_
                           refine pl 3 111 #[true, true, true, true, false, false, false, false, false, false, false, false, false, false, false, false, false, false, false, false, false, false, false] HT_ ?_
                           refine pl 5 113 #[true, true, true, true, false, true, false, false, false, false, false, false, false, false, false, false, false, false, false, false, false, false, false] HT_ ?_
                           refine tk17 4 112 #[true, true, true, true, true, true, false, false, false, false, false, false, false, false, false, false, false, false, false, false, false, false, false] HT_ HW_ hHeld ?_
                           refine tk17 6 114 #[true, true, true, true, true, true, true, false, false, false, false, false, false, false, false, false, false, false, false, false, false, false, false] HT_ HW_ hHeld ?_
                           refine pl 7 115 #[true, true, true, true, true, true, true, true, false, false, false, false, false, false, false, false, false, false, false, false, false, false, false] HT_ ?_
                           refine pl 8 116 #[true, true, true, true, true, true, true, true, true, false, false, false, false, false, false, false, false, false, false, false, false, false, false] HT_ ?_
                           refine pl 9 117 #[true, true, true, true, true, true, true, true, true, true, false, false, false, false, false, false, false, false, false, false, false, false, false] HT_ ?_
                           refine pl 10 118 #[true, true, true, true, true, true, true, true, true, true, true, false, false, false, false, false, false, false, false, false, false, false, false] HT_ ?_
                           refine pl 15 123 #[true, true, true, true, true, true, true, true, true, true, true, false, false, false, false, true, false, false, false, false, false, false, false] HT_ ?_
                           refine pl 20 128 #[true, true, true, true, true, true, true, true, true, true, true, false, false, false, false, true, false, false, false, false, true, false, false] HT_ ?_
                           refine tk17 11 119 #[true, true, true, true, true, true, true, true, true, true, true, true, false, false, false, true, false, false, false, false, true, false, false] HT_ HW_ hHeld ?_
                           refine tk17 12 120 #[true, true, true, true, true, true, true, true, true, true, true, true, true, false, false, true, false, false, false, false, true, false, false] HT_ HW_ hHeld ?_
                           refine tk17 16 124 #[true, true, true, true, true, true, true, true, true, true, true, true, true, false, false, true, true, false, false, false, true, false, false] HT_ HW_ hHeld ?_
                           refine tk17 17 125 #[true, true, true, true, true, true, true, true, true, true, true, true, true, false, false, true, true, true, false, false, true, false, false] HT_ HW_ hHeld ?_
                           refine one_ (i := 13) (N := some 121) #[true, true, true, true, true, true, true, true, true, true, true, true, true, true, false, true, true, true, false, false, true, false, false] rfl rfl (one_of HT_.out (by kernel_rfl)) (by decide) (fun K hK => ?_)
                           refine gor Try.func25 #[.agg #[.int .i64 a0_0, .int .i64 a0_1, .int .i64 a0_2, .int .i64 a0_3, .int .i64 a0_4, .slice A0_5 l0_5.length c0_5, .slice (some ad151) l0_6.length c0_6, .slice A0_7 l0_7.length c0_7, .int .i64 a0_8], .agg #[.int .i64 ((rd_T40 l0_6 x5_2).f0), .int .u32 ((rd_T40 l0_6 x5_2).f1), .int .i64 ((rd_T40 l0_6 x5_2).f2), .int .i64 ((rd_T40 l0_6 x5_2).f3)]] ?_
                           with_reducible refine (tocsinref08_Times.calls a0_0 a0_1 a0_2 a0_3 a0_4 _ _ l0_5 _ _ l0_6 _ _ l0_7 a0_8 ((rd_T40 l0_6 x5_2).f0) ((rd_T40 l0_6 x5_2).f1) ((rd_T40 l0_6 x5_2).f2) ((rd_T40 l0_6 x5_2).f3) t165 t166 t167 t168 t169 _ ?side1 ?side2 ?side3 ?side4 ?side5 ?side6 A69.out).mono ?_
                           (case side1 => exact kC (Kd.C_below HR0_5.out HB.out))
                           (case side2 => exact HC0_5.out)
                           (case side3 => exact kC (Kd.C_below HR0_6.out HB.out))
                           (case side4 => exact HC0_6.out)
                           (case side5 => exact kC (Kd.C_below HR0_7.out HB.out))
                           (case side6 => exact HC0_7.out)
                           rintro e w77 ⟨rfl, hb⟩
                           refine ⟨_, rfl, ?_⟩
                           have n0_ := bb BK150 hb
                           have n1_ := bb BK152 hb
                           have n2_ := bb BK161 hb
                           have n3_ := bs3 HB GE150 GE152 GE161 hb
                           clear BK150
                           clear BK152
                           clear BK161
                           clear HB
                           have BK150 := n0_
                           have BK152 := n1_
                           have BK161 := n2_
                           have HB := n3_
                           clear n0_ n1_ n2_ n3_
                           (try clear hb)
                           (try clear hb2)
                           (try clear hk)
                           (try clear hi)
                           refine hK.out _ _ ⟨(blk_cell BK152.out 0).trans rfl, (blk_cell BK152.out 1).trans rfl, (blk_cell BK152.out 2).trans rfl, (blk_cell BK152.out 3).trans rfl, (blk_cell BK161.out 0).trans rfl, (blk_cell BK161.out 1).trans rfl, (blk_cell BK161.out 2).trans rfl, (blk_cell BK161.out 3).trans rfl, (blk_cell BK150.out 0).trans rfl, (blk_cell BK150.out 1).trans rfl, (blk_cell BK150.out 2).trans rfl, (blk_cell BK150.out 3).trans rfl, (blk_cell BK150.out 4).trans rfl, (blk_cell BK150.out 5).trans rfl, (blk_cell BK150.out 6).trans rfl, (blk_cell BK150.out 7).trans rfl, (blk_cell BK150.out 8).trans rfl⟩ (fun hHeld => ?_)
                           clear hK K
                           refine norm_ (a' := ?_) ?_ ?_
                           rotate_left
                           ·show Act.put _ (some 121) _ = _
                            simp only [Act.put, sT, sZ, sS, i64_w, i32_w]
                            rfl
                           refine pl 14 122 #[true, true, true, true, true, true, true, true, true, true, true, true, true, true, true, true, true, true, false, false, true, false, false] HT_ ?_
                           refine one_ (i := 18) (N := some 126) #[true, true, true, true, true, true, true, true, true, true, true, true, true, true, true, true, true, true, true, false, true, false, false] rfl rfl (one_of HT_.out (by kernel_rfl)) (by decide) (fun K hK => ?_)
                           refine gor Try.func25 #[.agg #[.int .i64 a0_0, .int .i64 a0_1, .int .i64 a0_2, .int .i64 a0_3, .int .i64 a0_4, .slice A0_5 l0_5.length c0_5, .slice (some ad151) l0_6.length c0_6, .slice A0_7 l0_7.length c0_7, .int .i64 a0_8], .agg #[.int .i64 ((rd_T40 l0_6 x7_5).f0), .int .u32 ((rd_T40 l0_6 x7_5).f1), .int .i64 ((rd_T40 l0_6 x7_5).f2), .int .i64 ((rd_T40 l0_6 x7_5).f3)]] ?_
                           with_reducible refine (tocsinref08_Times.calls a0_0 a0_1 a0_2 a0_3 a0_4 _ _ l0_5 _ _ l0_6 _ _ l0_7 a0_8 ((rd_T40 l0_6 x7_5).f0) ((rd_T40 l0_6 x7_5).f1) ((rd_T40 l0_6 x7_5).f2) ((rd_T40 l0_6 x7_5).f3) t170 t171 t172 t173 t174 _ ?side1 ?side2 ?side3 ?side4 ?side5 ?side6 A70.out).mono ?_
                           (case side1 => exact kC (Kd.C_below HR0_5.out HB.out))
                           (case side2 => exact HC0_5.out)
                           (case side3 => exact kC (Kd.C_below HR0_6.out HB.out))
                           (case side4 => exact HC0_6.out)
                           (case side5 => exact kC (Kd.C_below HR0_7.out HB.out))
                           (case side6 => exact HC0_7.out)
                           rintro e w78 ⟨rfl, hb⟩
                           refine ⟨_, rfl, ?_⟩
                           have n0_ := bb BK150 hb
                           have n1_ := bb BK152 hb
                           have n2_ := bb BK161 hb
                           have n3_ := bs3 HB GE150 GE152 GE161 hb
                           clear BK150
                           clear BK152
                           clear BK161
                           clear HB
                           have BK150 := n0_
                           have BK152 := n1_
                           have BK161 := n2_
                           have HB := n3_
                           clear n0_ n1_ n2_ n3_
                           (try clear hb)
                           (try clear hb2)
                           (try clear hk)
                           (try clear hi)
                           refine hK.out _ _ ⟨(blk_cell BK152.out 0).trans rfl, (blk_cell BK152.out 1).trans rfl, (blk_cell BK152.out 2).trans rfl, (blk_cell BK152.out 3).trans rfl, (blk_cell BK161.out 0).trans rfl, (blk_cell BK161.out 1).trans rfl, (blk_cell BK161.out 2).trans rfl, (blk_cell BK161.out 3).trans rfl, (blk_cell BK150.out 0).trans rfl, (blk_cell BK150.out 1).trans rfl, (blk_cell BK150.out 2).trans rfl, (blk_cell BK150.out 3).trans rfl, (blk_cell BK150.out 4).trans rfl, (blk_cell BK150.out 5).trans rfl, (blk_cell BK150.out 6).trans rfl, (blk_cell BK150.out 7).trans rfl, (blk_cell BK150.out 8).trans rfl⟩ (fun hHeld => ?_)
                           clear hK K
                           refine norm_ (a' := ?_) ?_ ?_
                           rotate_left
                           ·show Act.put _ (some 126) _ = _
                            simp only [Act.put, sT, sZ, sS, i64_w, i32_w]
                            rfl
                           refine pl 19 127 #[true, true, true, true, true, true, true, true, true, true, true, true, true, true, true, true, true, true, true, true, true, false, false] HT_ ?_
                           refine one_ (i := 21) (N := some 129) #[true, true, true, true, true, true, true, true, true, true, true, true, true, true, true, true, true, true, true, true, true, true, false] rfl rfl (one_of HT_.out (by kernel_rfl)) (by decide) (fun K hK => ?_)
                           refine gor Try.func53 #[.int .i64 t167, .int .i64 t162, .int .i64 t172, .int .i64 t163] ?_
                           with_reducible refine (tocsinref08_meet.calls t167 t162 t172 t163 false _ A71.out).mono ?_
                           rintro e w' ⟨rfl, ⟨nd, rfl⟩⟩
                           refine ⟨_, rfl, ?_⟩
                           refine hK.out _ _ ⟨(blk_cell BK152.out 0).trans rfl, (blk_cell BK152.out 1).trans rfl, (blk_cell BK152.out 2).trans rfl, (blk_cell BK152.out 3).trans rfl, (blk_cell BK161.out 0).trans rfl, (blk_cell BK161.out 1).trans rfl, (blk_cell BK161.out 2).trans rfl, (blk_cell BK161.out 3).trans rfl, (blk_cell BK150.out 0).trans rfl, (blk_cell BK150.out 1).trans rfl, (blk_cell BK150.out 2).trans rfl, (blk_cell BK150.out 3).trans rfl, (blk_cell BK150.out 4).trans rfl, (blk_cell BK150.out 5).trans rfl, (blk_cell BK150.out 6).trans rfl, (blk_cell BK150.out 7).trans rfl, (blk_cell BK150.out 8).trans rfl⟩ (fun hHeld => ?_)
                           clear hK K
                           refine norm_ (a' := ?_) ?_ ?_
                           rotate_left
                           ·show Act.put _ (some 129) _ = _
                            simp only [Act.put, sT, sZ, sS, i64_w, i32_w]
                            rfl
                           refine pl 22 130 #[true, true, true, true, true, true, true, true, true, true, true, true, true, true, true, true, true, true, true, true, true, true, true] HT_ ?_
                           refine done_ (done_of HT_.out (by kernel_rfl)) ?_
                           try go_wp2
                           go_roundg kj42
                           case measure => have := HJ2.out; have := HK2.out; have := HJ9.out; have := HJ20.out; have := HK5.out; have := HJ35.out; have := HJ42.out; omega
                           case rel => exact ⟨(wrap64 (x7_5 + 1)), rs, H', ⟨by have := HJ2.out; have := HK2.out; have := HJ9.out; have := HJ20.out; have := HK5.out; have := HJ35.out; have := HJ42.out; omega⟩, ⟨bk BK150⟩, ⟨bk BK152⟩, ⟨bw3 HB GE150 GE152 GE161⟩⟩
                        ·rw [if_neg c66] at H
                         have c66b0 : (a1 == 8) = false := beq_eq_false_iff_ne.mpr c66
                         have c66b1 : (a1 != 8) = true := bne_iff_ne.mpr c66
                         have H' := Aside0.mk H
                         clear H
                         try go_wp2
                         have n0_ := Aside0.mk (blk_drew BK150.out)
                         have n1_ := Aside0.mk (blk_drew BK152.out)
                         have n2_ := Aside0.mk (blk_drew BK161.out)
                         have n3_ := Aside0.mk (below_drew1 HB.out)
                         clear BK150
                         clear BK152
                         clear BK161
                         clear HB
                         have BK150 := n0_
                         have BK152 := n1_
                         have BK161 := n2_
                         have HB := n3_
                         clear n0_ n1_ n2_ n3_
                         refine start_ (n := 23) (S := fun w' => True) (ds := []) #[false, false, false, false, false, false, false, false, false, false, false, false, false, false, false, false, false, false, false, false, false, false, false] (by kernel_rfl) rfl rfl trivial (fun hHeld => ?_); refine with_tabW tocsinref08_entries.tab18 tocsinref08_entries.bits18 (fun HT_ HW_ => ?_)
                         generalize wc.drew = w79 at BK150 BK152 BK161 HB hHeld ⊢
                         refine pl 0 108 #[true, false, false, false, false, false, false, false, false, false, false, false, false, false, false, false, false, false, false, false, false, false, false] HT_ ?_
                         refine pl 1 109 #[true, true, false, false, false, false, false, false, false, false, false, false, false, false, false, false, false, false, false, false, false, false, false] HT_ ?_
                         refine pl 2 110 #[true, true, true, false, false, false, false, false, false, false, false, false, false, false, false, false, false, false, false, false, false, false, false] HT_ ?_
                         refine pn 3 111 #[true, true, true, true, false, false, false, false, false, false, false, false, false, false, false, false, false, false, false, false, false, false, false] HT_ ?_
                         refine pn 4 112 #[true, true, true, true, true, false, false, false, false, false, false, false, false, false, false, false, false, false, false, false, false, false, false] HT_ ?_
                         refine pn 5 113 #[true, true, true, true, true, true, false, false, false, false, false, false, false, false, false, false, false, false, false, false, false, false, false] HT_ ?_
                         refine pn 6 114 #[true, true, true, true, true, true, true, false, false, false, false, false, false, false, false, false, false, false, false, false, false, false, false] HT_ ?_
                         refine pn 7 115 #[true, true, true, true, true, true, true, true, false, false, false, false, false, false, false, false, false, false, false, false, false, false, false] HT_ ?_
                         refine pn 8 116 #[true, true, true, true, true, true, true, true, true, false, false, false, false, false, false, false, false, false, false, false, false, false, false] HT_ ?_
                         refine pl 9 117 #[true, true, true, true, true, true, true, true, true, true, false, false, false, false, false, false, false, false, false, false, false, false, false] HT_ ?_
                         refine pl 10 118 #[true, true, true, true, true, true, true, true, true, true, true, false, false, false, false, false, false, false, false, false, false, false, false] HT_ ?_
                         refine pn 11 119 #[true, true, true, true, true, true, true, true, true, true, true, true, false, false, false, false, false, false, false, false, false, false, false] HT_ ?_
                         refine pn 12 120 #[true, true, true, true, true, true, true, true, true, true, true, true, true, false, false, false, false, false, false, false, false, false, false] HT_ ?_
                         refine pn 13 121 #[true, true, true, true, true, true, true, true, true, true, true, true, true, true, false, false, false, false, false, false, false, false, false] HT_ ?_
                         refine pn 14 122 #[true, true, true, true, true, true, true, true, true, true, true, true, true, true, true, false, false, false, false, false, false, false, false] HT_ ?_
                         refine pn 15 123 #[true, true, true, true, true, true, true, true, true, true, true, true, true, true, true, true, false, false, false, false, false, false, false] HT_ ?_
                         refine pn 16 124 #[true, true, true, true, true, true, true, true, true, true, true, true, true, true, true, true, true, false, false, false, false, false, false] HT_ ?_
                         refine pn 17 125 #[true, true, true, true, true, true, true, true, true, true, true, true, true, true, true, true, true, true, false, false, false, false, false] HT_ ?_
                         refine pn 18 126 #[true, true, true, true, true, true, true, true, true, true, true, true, true, true, true, true, true, true, true, false, false, false, false] HT_ ?_
                         refine pn 19 127 #[true, true, true, true, true, true, true, true, true, true, true, true, true, true, true, true, true, true, true, true, false, false, false] HT_ ?_
                         refine pn 20 128 #[true, true, true, true, true, true, true, true, true, true, true, true, true, true, true, true, true, true, true, true, true, false, false] HT_ ?_
                         refine pn 21 129 #[true, true, true, true, true, true, true, true, true, true, true, true, true, true, true, true, true, true, true, true, true, true, false] HT_ ?_
                         refine pl 22 130 #[true, true, true, true, true, true, true, true, true, true, true, true, true, true, true, true, true, true, true, true, true, true, true] HT_ ?_
                         refine done_ (done_of HT_.out (by kernel_rfl)) ?_
                         try go_wp2
                         go_roundg kj42
                         case measure => have := HJ2.out; have := HK2.out; have := HJ9.out; have := HJ20.out; have := HK5.out; have := HJ35.out; have := HJ42.out; omega
                         case rel => exact ⟨(wrap64 (x7_5 + 1)), rs, H', ⟨by have := HJ2.out; have := HK2.out; have := HJ9.out; have := HJ20.out; have := HK5.out; have := HJ35.out; have := HJ42.out; omega⟩, ⟨bk BK150⟩, ⟨bk BK152⟩, ⟨bw3 HB GE150 GE152 GE161⟩⟩
                    ·rw [if_neg c40] at H
                     exact absurd H (by simp)
                   ·rw [if_neg c39] at H
                    exact absurd H (by simp)
                  ·replace c38 := Bool.eq_false_iff.mpr c38
                   subst c38
                   have H1 : (tocsinref08_entries.l0 kj35 a1 (wrap64 (x5_2 + 1)) a0_0 a0_1 a0_2 a0_3 a0_4 l0_5 l0_6 l0_7 a0_8) = some r := by rw [if_neg (show ¬ (false = true) by decide)] at H; exact H
                   clear H
                   have H := H1
                   clear H1
                   have H' := Aside0.mk H
                   clear H
                   go_wp2
                   all_goals try (exfalso; (try have z0_ := of_decide_eq_true c8b0); omega)
                   go_roundg kj35
                   case measure => have := HJ2.out; have := HK2.out; have := HJ9.out; have := HJ20.out; have := HK5.out; have := HJ35.out; omega
                   case rel => exact ⟨(wrap64 (x5_2 + 1)), rs, H', ⟨by have := HJ2.out; have := HK2.out; have := HJ9.out; have := HJ20.out; have := HK5.out; have := HJ35.out; omega⟩, ⟨bk BK150⟩, ⟨bw2 HB GE150 GE152⟩⟩
       ·rw [if_neg c9] at H
        exact absurd H (by simp)
      ·rw [if_neg c8] at H
       have c8b0 : decide (x5_2 < (l0_6.length : Int)) = false := decide_eq_false c8
       clear c8
       obtain rfl := Option.some.inj H
       obtain ⟨hcz80_0, hcz80_1, hcz80_2, hcz80_3, hcz80_4, hcz80_5, hcz80_6, hcz80_7, hcz80_8, hfz80_0, hfz80_1, hfz80_2, hfz80_3, hfz80_4, hfz80_5, hfz80_6, hfz80_7, hfz80_8⟩ := bz9 BK150
       go_wp2
       all_goals try (exfalso; (try have z0_ := of_decide_eq_true c8b0); (try have z1_ := of_decide_eq_false c8b0); omega)
       go_ret
       exact ⟨re, bw1 HB GE150⟩
end Go.Proofs.Ytbmldeikjfecfaa.T
