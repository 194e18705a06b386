/- A part of the proof of the statement PlanWaits: words, contracts of functions that it reaches, and what they compute. No condition. -/
import Derived.Test.YtbmldeikjfecfaaU01
import Derived.Test.YtbmldeikjfecfaaU04
import Derived.Test.YtbmldeikjfecfaaU05
import Derived.Test.YtbmldeikjfecfaaU30
import Derived.Test.YtbmldeikjfecfaaU40
import Derived.Test.YtbmldeikjfecfaaU41
import Derived.Test.YtbmldeikjfecfaaU44
set_option linter.unusedVariables false
set_option linter.unusedSimpArgs false
namespace Go.Proofs.Ytbmldeikjfecfaa.T
open Go.RowKit Go.Proofs.YtbmldeikjfecfaaW.PrintWords Go.Proofs.YtbmldeikjfecfaaW.PrintLast Go.Proofs.YtbmldeikjfecfaaW.PrintMore
attribute [local go_sem] max2_int min2_int max_two min_two max_three min_three max_four min_four
attribute [local go_sem] at34_0 at34_1 at34_2 at42_0 at42_1 at42_2 at42_3 at47_0 at47_1 at47_2 at47_3 at47_4
mutual
def tocsinlaw15_PlanWaits.j0 : Nat → Bool → Int → Int → Int → Int → Bool → Bool → Int → Int → Int → Int → Int → List (List Int) → List (S40) → List (S63) → Int → Option (Bool)
 | 0, _, _, _, _, _, _, _, _, _, _, _, _, _, _, _, _ => none
 | k + 1, x2, x7, x8, x9, x10, x11, x49, x383000, x383001, x383002, x383003, x383004, x383005, x383006, x383007, x383008 => if x49 = true then (none) else (if x11 = true then (if x10 ≤ 1125899906842624 then ((plan_Free.f k x383000 x383001 x383002 x383003 x383004 x383005 x383006 x383007 x383008 x7 x2 x10 x9).bind fun t388 => (if t388 = true then (if x10 < x8 then (tocsinlaw15_PlanWaits.j1 k x8 true x383000 x383001 x383002 x383003 x383004 x383005 x383006 x383007 x383008) else (tocsinlaw15_PlanWaits.j1 k x8 (decide (x10 > (wrap64 (x8 + (wrap64 (2 * x383001)))))) x383000 x383001 x383002 x383003 x383004 x383005 x383006 x383007 x383008)) else (tocsinlaw15_PlanWaits.j1 k x8 true x383000 x383001 x383002 x383003 x383004 x383005 x383006 x383007 x383008))) else (tocsinlaw15_PlanWaits.j1 k x8 false x383000 x383001 x383002 x383003 x383004 x383005 x383006 x383007 x383008)) else (tocsinlaw15_PlanWaits.j1 k x8 false x383000 x383001 x383002 x383003 x383004 x383005 x383006 x383007 x383008))
def tocsinlaw15_PlanWaits.j1 : Nat → Int → Bool → Int → Int → Int → Int → Int → List (List Int) → List (S40) → List (S63) → Int → Option (Bool)
 | 0, _, _, _, _, _, _, _, _, _, _, _ => none
 | k + 1, x8, x77, x383000, x383001, x383002, x383003, x383004, x383005, x383006, x383007, x383008 => if x77 = true then (none) else (tocsinlaw15_PlanWaits.l0 k x8 x383006 (x383006.length : Int) 0 x383000 x383001 x383002 x383003 x383004 x383005 x383006 x383007 x383008)
def tocsinlaw15_PlanWaits.l0 : Nat → Int → List (S40) → Int → Int → Int → Int → Int → Int → Int → List (List Int) → List (S40) → List (S63) → Int → Option (Bool)
 | 0, _, _, _, _, _, _, _, _, _, _, _, _, _ => none
 | k + 1, x8, x79, x80, x81, x383000, x383001, x383002, x383003, x383004, x383005, x383006, x383007, x383008 => if x81 < x80 then (if 0 ≤ x81 then (if x81 < (x79.length : Int) then ((plan_Send.f x383000 x383001 x383002 x383003 x383004 x383005 x383006 x383007 x383008 x81 x8).bind fun bt391 => (if bt391.2 = true then (if bt391.1 ≤ 1125899906842624 then ((frame_Time.f ((rd_T40 x79 x81).f3)).bind fun t393 => ((plan_Free.f k x383000 x383001 x383002 x383003 x383004 x383005 x383006 x383007 x383008 ((rd_T40 x79 x81).f0) false bt391.1 t393).bind fun t394 => (if t394 = true then (none) else (tocsinlaw15_PlanWaits.l0 k x8 x79 x80 (wrap64 (x81 + 1)) x383000 x383001 x383002 x383003 x383004 x383005 x383006 x383007 x383008)))) else (tocsinlaw15_PlanWaits.l0 k x8 x79 x80 (wrap64 (x81 + 1)) x383000 x383001 x383002 x383003 x383004 x383005 x383006 x383007 x383008)) else (tocsinlaw15_PlanWaits.l0 k x8 x79 x80 (wrap64 (x81 + 1)) x383000 x383001 x383002 x383003 x383004 x383005 x383006 x383007 x383008))) else (none)) else (none)) else (some true)
end
def tocsinlaw15_PlanWaits.f (k : Nat) (a0_0 : Int) (a0_1 : Int) (a0_2 : Int) (a0_3 : Int) (a0_4 : Int) (l0_5 : List (List Int)) (l0_6 : List (S40)) (l0_7 : List (S63)) (a0_8 : Int) (a1_0 : Int) (a1_1 : Int) (a1_2 : Int) (a2 : Bool) : Option (Bool) := (tocsinlaw15_fixed.f k).bind fun t384 => (if t384 = true then ((plan_Wait.f k a0_0 a0_1 a0_2 a0_3 a0_4 l0_5 l0_6 l0_7 a0_8 a1_0 a2 a1_1 a1_2).bind fun bt385 => ((plan_Free.f k a0_0 a0_1 a0_2 a0_3 a0_4 l0_5 l0_6 l0_7 a0_8 a1_0 a2 a1_1 a1_2).bind fun t387 => (if t387 = true then (if bt385.2 = true then (tocsinlaw15_PlanWaits.j0 k a2 a1_0 a1_1 a1_2 bt385.1 bt385.2 (bt385.1 != a1_1) a0_0 a0_1 a0_2 a0_3 a0_4 l0_5 l0_6 l0_7 a0_8) else (tocsinlaw15_PlanWaits.j0 k a2 a1_0 a1_1 a1_2 bt385.1 bt385.2 true a0_0 a0_1 a0_2 a0_3 a0_4 l0_5 l0_6 l0_7 a0_8)) else (tocsinlaw15_PlanWaits.j0 k a2 a1_0 a1_1 a1_2 bt385.1 bt385.2 false a0_0 a0_1 a0_2 a0_3 a0_4 l0_5 l0_6 l0_7 a0_8)))) else (none))
theorem tocsinlaw15_PlanWaits.mono_l : ∀ k, (∀ y0 y1 y2 y3 y4 y5 y6 y7 y8 y9 y10 y11 y12 y13 y14 y15, LeO (tocsinlaw15_PlanWaits.j0 k y0 y1 y2 y3 y4 y5 y6 y7 y8 y9 y10 y11 y12 y13 y14 y15) (tocsinlaw15_PlanWaits.j0 (k + 1) y0 y1 y2 y3 y4 y5 y6 y7 y8 y9 y10 y11 y12 y13 y14 y15)) ∧ (∀ y0 y1 y2 y3 y4 y5 y6 y7 y8 y9 y10, LeO (tocsinlaw15_PlanWaits.j1 k y0 y1 y2 y3 y4 y5 y6 y7 y8 y9 y10) (tocsinlaw15_PlanWaits.j1 (k + 1) y0 y1 y2 y3 y4 y5 y6 y7 y8 y9 y10)) ∧ (∀ y0 y1 y2 y3 y4 y5 y6 y7 y8 y9 y10 y11 y12, LeO (tocsinlaw15_PlanWaits.l0 k y0 y1 y2 y3 y4 y5 y6 y7 y8 y9 y10 y11 y12) (tocsinlaw15_PlanWaits.l0 (k + 1) y0 y1 y2 y3 y4 y5 y6 y7 y8 y9 y10 y11 y12))
 | 0 => ⟨fun _ _ _ _ _ _ _ _ _ _ _ _ _ _ _ _ r h => by simp [tocsinlaw15_PlanWaits.j0] at h, fun _ _ _ _ _ _ _ _ _ _ _ r h => by simp [tocsinlaw15_PlanWaits.j1] at h, fun _ _ _ _ _ _ _ _ _ _ _ _ _ r h => by simp [tocsinlaw15_PlanWaits.l0] at h⟩
 | k + 1 => by
  obtain ⟨ih0, ih1, ih2⟩ := tocsinlaw15_PlanWaits.mono_l k
  refine ⟨?_, ?_, ?_⟩
  ·intro y0 y1 y2 y3 y4 y5 y6 y7 y8 y9 y10 y11 y12 y13 y14 y15
   unfold tocsinlaw15_PlanWaits.j0
   repeat' first
   | (with_reducible exact ih0 _ _ _ _ _ _ _ _ _ _ _ _ _ _ _ _)
   | (with_reducible exact ih1 _ _ _ _ _ _ _ _ _ _ _)
   | (with_reducible exact ih2 _ _ _ _ _ _ _ _ _ _ _ _ _)
   | (with_reducible exact plan_Free.mono _ _ _ _ _ _ _ _ _ _ _ _ _ _)
   | (with_reducible exact plan_Wait.mono _ _ _ _ _ _ _ _ _ _ _ _ _ _)
   | (with_reducible exact tocsinlaw15_fixed.mono _)
   | (with_reducible exact LeO.refl _)
   | (with_reducible exact LeO.none _)
   | (with_reducible refine LeO.ite ?_ ?_)
   | (with_reducible refine LeO.bind ?_ (fun _ => ?_))
   | exact ih0 _ _ _ _ _ _ _ _ _ _ _ _ _ _ _ _
   | exact ih1 _ _ _ _ _ _ _ _ _ _ _
   | exact ih2 _ _ _ _ _ _ _ _ _ _ _ _ _
   | exact plan_Free.mono _ _ _ _ _ _ _ _ _ _ _ _ _ _
   | exact plan_Wait.mono _ _ _ _ _ _ _ _ _ _ _ _ _ _
   | exact tocsinlaw15_fixed.mono _
   | exact LeO.none _
   | refine LeO.ite ?_ ?_
   | refine LeO.bind ?_ (fun _ => ?_)
  ·intro y0 y1 y2 y3 y4 y5 y6 y7 y8 y9 y10
   unfold tocsinlaw15_PlanWaits.j1
   repeat' first
   | (with_reducible exact ih0 _ _ _ _ _ _ _ _ _ _ _ _ _ _ _ _)
   | (with_reducible exact ih1 _ _ _ _ _ _ _ _ _ _ _)
   | (with_reducible exact ih2 _ _ _ _ _ _ _ _ _ _ _ _ _)
   | (with_reducible exact plan_Free.mono _ _ _ _ _ _ _ _ _ _ _ _ _ _)
   | (with_reducible exact plan_Wait.mono _ _ _ _ _ _ _ _ _ _ _ _ _ _)
   | (with_reducible exact tocsinlaw15_fixed.mono _)
   | (with_reducible exact LeO.refl _)
   | (with_reducible exact LeO.none _)
   | (with_reducible refine LeO.ite ?_ ?_)
   | (with_reducible refine LeO.bind ?_ (fun _ => ?_))
   | exact ih0 _ _ _ _ _ _ _ _ _ _ _ _ _ _ _ _
   | exact ih1 _ _ _ _ _ _ _ _ _ _ _
   | exact ih2 _ _ _ _ _ _ _ _ _ _ _ _ _
   | exact plan_Free.mono _ _ _ _ _ _ _ _ _ _ _ _ _ _
   | exact plan_Wait.mono _ _ _ _ _ _ _ _ _ _ _ _ _ _
   | exact tocsinlaw15_fixed.mono _
   | exact LeO.none _
   | refine LeO.ite ?_ ?_
   | refine LeO.bind ?_ (fun _ => ?_)
  ·intro y0 y1 y2 y3 y4 y5 y6 y7 y8 y9 y10 y11 y12
   unfold tocsinlaw15_PlanWaits.l0
   repeat' first
   | (with_reducible exact ih0 _ _ _ _ _ _ _ _ _ _ _ _ _ _ _ _)
   | (with_reducible exact ih1 _ _ _ _ _ _ _ _ _ _ _)
   | (with_reducible exact ih2 _ _ _ _ _ _ _ _ _ _ _ _ _)
   | (with_reducible exact plan_Free.mono _ _ _ _ _ _ _ _ _ _ _ _ _ _)
   | (with_reducible exact plan_Wait.mono _ _ _ _ _ _ _ _ _ _ _ _ _ _)
   | (with_reducible exact tocsinlaw15_fixed.mono _)
   | (with_reducible exact LeO.refl _)
   | (with_reducible exact LeO.none _)
   | (with_reducible refine LeO.ite ?_ ?_)
   | (with_reducible refine LeO.bind ?_ (fun _ => ?_))
   | exact ih0 _ _ _ _ _ _ _ _ _ _ _ _ _ _ _ _
   | exact ih1 _ _ _ _ _ _ _ _ _ _ _
   | exact ih2 _ _ _ _ _ _ _ _ _ _ _ _ _
   | exact plan_Free.mono _ _ _ _ _ _ _ _ _ _ _ _ _ _
   | exact plan_Wait.mono _ _ _ _ _ _ _ _ _ _ _ _ _ _
   | exact tocsinlaw15_fixed.mono _
   | exact LeO.none _
   | refine LeO.ite ?_ ?_
   | refine LeO.bind ?_ (fun _ => ?_)
theorem tocsinlaw15_PlanWaits.mono : ∀ a0 a1 a2 a3 a4 a5 a6 a7 a8 a9 a10 a11 a12 k, LeO (tocsinlaw15_PlanWaits.f k a0 a1 a2 a3 a4 a5 a6 a7 a8 a9 a10 a11 a12) (tocsinlaw15_PlanWaits.f (k + 1) a0 a1 a2 a3 a4 a5 a6 a7 a8 a9 a10 a11 a12) := by
 intro a0 a1 a2 a3 a4 a5 a6 a7 a8 a9 a10 a11 a12 k
 obtain ⟨ih0, ih1, ih2⟩ := tocsinlaw15_PlanWaits.mono_l k
 unfold tocsinlaw15_PlanWaits.f
 repeat' first
   | (with_reducible exact ih0 _ _ _ _ _ _ _ _ _ _ _ _ _ _ _ _)
   | (with_reducible exact ih1 _ _ _ _ _ _ _ _ _ _ _)
   | (with_reducible exact ih2 _ _ _ _ _ _ _ _ _ _ _ _ _)
   | (with_reducible exact plan_Free.mono _ _ _ _ _ _ _ _ _ _ _ _ _ _)
   | (with_reducible exact plan_Wait.mono _ _ _ _ _ _ _ _ _ _ _ _ _ _)
   | (with_reducible exact tocsinlaw15_fixed.mono _)
   | (with_reducible exact LeO.refl _)
   | (with_reducible exact LeO.none _)
   | (with_reducible refine LeO.ite ?_ ?_)
   | (with_reducible refine LeO.bind ?_ (fun _ => ?_))
   | exact ih0 _ _ _ _ _ _ _ _ _ _ _ _ _ _ _ _
   | exact ih1 _ _ _ _ _ _ _ _ _ _ _
   | exact ih2 _ _ _ _ _ _ _ _ _ _ _ _ _
   | exact plan_Free.mono _ _ _ _ _ _ _ _ _ _ _ _ _ _
   | exact plan_Wait.mono _ _ _ _ _ _ _ _ _ _ _ _ _ _
   | exact tocsinlaw15_fixed.mono _
   | exact LeO.none _
   | refine LeO.ite ?_ ?_
   | refine LeO.bind ?_ (fun _ => ?_)
def tocsinlaw15_PlanWaits.T3 : Bool × List (List Nat × List Nat) := (true, [([], []), ([0], [0]), ([], []), ([2], [2]), ([], []), ([4], [4]), ([1, 0, 1], [1]), ([3, 6, 0, 1, 2, 3, 6], [3]), ([5, 7, 0, 1, 2, 3, 4, 5, 6, 7], [5])])
def tocsinlaw15_PlanWaits.B3 : List Nat := [0, 1, 0, 4, 0, 16, 3, 79, 255]
theorem tocsinlaw15_PlanWaits.tab3 : rtab .any (opsOf Try.f5 3) = tocsinlaw15_PlanWaits.T3 := by kernel_rfl
theorem tocsinlaw15_PlanWaits.bits3 : waitsOk tocsinlaw15_PlanWaits.T3.2 tocsinlaw15_PlanWaits.B3 = true := by kernel_rfl
def tocsinlaw15_PlanWaits.T14 : Bool × List (List Nat × List Nat) := (true, [([], []), ([0], [0]), ([1], [1]), ([2, 1], [1, 2]), ([1, 3], [1, 3]), ([4, 1], [4]), ([5], [5]), ([5], [5]), ([7, 5], [5, 7]), ([5], [5]), ([5], [5]), ([10, 5], [5, 10]), ([11, 5, 5], [5, 11]), ([6, 8, 9, 12, 12, 5], [5, 6, 8, 9, 12]), ([5, 13], [5, 13])])
def tocsinlaw15_PlanWaits.B14 : List Nat := [0, 1, 3, 7, 15, 31, 63, 63, 191, 63, 63, 1087, 3135, 8191, 16383]
theorem tocsinlaw15_PlanWaits.tab14 : rtab .any (opsOf Try.f5 14) = tocsinlaw15_PlanWaits.T14 := by kernel_rfl
theorem tocsinlaw15_PlanWaits.bits14 : waitsOk tocsinlaw15_PlanWaits.T14.2 tocsinlaw15_PlanWaits.B14 = true := by kernel_rfl
set_option maxHeartbeats 8000000 in
set_option maxRecDepth 100000 in
theorem tocsinlaw15_PlanWaits.calls (k : Nat) (a0_0 : Int) (a0_1 : Int) (a0_2 : Int) (a0_3 : Int) (a0_4 : Int) (A0_5 : Option Addr) (c0_5 : Nat) (l0_5 : List (List Int)) (A0_6 : Option Addr) (c0_6 : Nat) (l0_6 : List (S40)) (A0_7 : Option Addr) (c0_7 : Nat) (l0_7 : List (S63)) (a0_8 : Int) (a1_0 : Int) (a1_1 : Int) (a1_2 : Int) (a2 : Bool) (r : Bool) (w : World) (hr0_5 : Kd.C (Kd.slice 2 (Kd.int .i64)) w A0_5 l0_5.length l0_5) (hc0_5 : l0_5.length ≤ c0_5) (hr0_6 : Kd.C k40 w A0_6 l0_6.length l0_6) (hc0_6 : l0_6.length ≤ c0_6) (hr0_7 : Kd.C k63 w A0_7 l0_7.length l0_7) (hc0_7 : l0_7.length ≤ c0_7) (h : tocsinlaw15_PlanWaits.f k a0_0 a0_1 a0_2 a0_3 a0_4 l0_5 l0_6 l0_7 a0_8 a1_0 a1_1 a1_2 a2 = some r) :
  Calls Try.prog 5 #[.agg #[.int .i64 a0_0, .int .i64 a0_1, .int .i64 a0_2, .int .i64 a0_3, .int .i64 a0_4, .slice A0_5 l0_5.length c0_5, .slice A0_6 l0_6.length c0_6, .slice A0_7 l0_7.length c0_7, .int .i64 a0_8], .agg #[.int .i64 a1_0, .int .i64 a1_1, .int .i64 a1_2], .bool a2] w fun e w' => e = .returned (.bool r) ∧ Below w.heap.size w w' := by
 have hu26 := Try.underlying26
 have hu34 := Try.underlying34
 have hu40 := Try.underlying40
 have HR0_5 := Aside0.mk hr0_5
 have HC0_5 := Aside0.mk hc0_5
 clear hr0_5 hc0_5
 have HR0_6 := Aside0.mk hr0_6
 have HC0_6 := Aside0.mk hc0_6
 clear hr0_6 hc0_6
 have HR0_7 := Aside0.mk hr0_7
 have HC0_7 := Aside0.mk hc0_7
 clear hr0_7 hc0_7
 have HB := Aside0.mk (Below.refl w.heap.size w)
 have H : ((tocsinlaw15_fixed.f k).bind fun t384 => (if t384 = true then ((plan_Wait.f k a0_0 a0_1 a0_2 a0_3 a0_4 l0_5 l0_6 l0_7 a0_8 a1_0 a2 a1_1 a1_2).bind fun bt385 => ((plan_Free.f k a0_0 a0_1 a0_2 a0_3 a0_4 l0_5 l0_6 l0_7 a0_8 a1_0 a2 a1_1 a1_2).bind fun t387 => (if t387 = true then (if bt385.2 = true then (tocsinlaw15_PlanWaits.j0 k a2 a1_0 a1_1 a1_2 bt385.1 bt385.2 (bt385.1 != a1_1) a0_0 a0_1 a0_2 a0_3 a0_4 l0_5 l0_6 l0_7 a0_8) else (tocsinlaw15_PlanWaits.j0 k a2 a1_0 a1_1 a1_2 bt385.1 bt385.2 true a0_0 a0_1 a0_2 a0_3 a0_4 l0_5 l0_6 l0_7 a0_8)) else (tocsinlaw15_PlanWaits.j0 k a2 a1_0 a1_1 a1_2 bt385.1 bt385.2 false a0_0 a0_1 a0_2 a0_3 a0_4 l0_5 l0_6 l0_7 a0_8)))) else (none))) = some r := h
 clear h
 replace H := Option.bind_eq_some_iff.mp H
 obtain ⟨t384, A40, H⟩ := H
 replace H : (if t384 = true then ((plan_Wait.f k a0_0 a0_1 a0_2 a0_3 a0_4 l0_5 l0_6 l0_7 a0_8 a1_0 a2 a1_1 a1_2).bind fun bt385 => ((plan_Free.f k a0_0 a0_1 a0_2 a0_3 a0_4 l0_5 l0_6 l0_7 a0_8 a1_0 a2 a1_1 a1_2).bind fun t387 => (if t387 = true then (if bt385.2 = true then (tocsinlaw15_PlanWaits.j0 k a2 a1_0 a1_1 a1_2 bt385.1 bt385.2 (bt385.1 != a1_1) a0_0 a0_1 a0_2 a0_3 a0_4 l0_5 l0_6 l0_7 a0_8) else (tocsinlaw15_PlanWaits.j0 k a2 a1_0 a1_1 a1_2 bt385.1 bt385.2 true a0_0 a0_1 a0_2 a0_3 a0_4 l0_5 l0_6 l0_7 a0_8)) else (tocsinlaw15_PlanWaits.j0 k a2 a1_0 a1_1 a1_2 bt385.1 bt385.2 false a0_0 a0_1 a0_2 a0_3 a0_4 l0_5 l0_6 l0_7 a0_8)))) else (none)) = some r := H
 have A4 := Aside0.mk A40
 clear A40
 by_cases c5 : t384 = true
 ·subst c5
  have H1 : ((plan_Wait.f k a0_0 a0_1 a0_2 a0_3 a0_4 l0_5 l0_6 l0_7 a0_8 a1_0 a2 a1_1 a1_2).bind fun bt385 => ((plan_Free.f k a0_0 a0_1 a0_2 a0_3 a0_4 l0_5 l0_6 l0_7 a0_8 a1_0 a2 a1_1 a1_2).bind fun t387 => (if t387 = true then (if bt385.2 = true then (tocsinlaw15_PlanWaits.j0 k a2 a1_0 a1_1 a1_2 bt385.1 bt385.2 (bt385.1 != a1_1) a0_0 a0_1 a0_2 a0_3 a0_4 l0_5 l0_6 l0_7 a0_8) else (tocsinlaw15_PlanWaits.j0 k a2 a1_0 a1_1 a1_2 bt385.1 bt385.2 true a0_0 a0_1 a0_2 a0_3 a0_4 l0_5 l0_6 l0_7 a0_8)) else (tocsinlaw15_PlanWaits.j0 k a2 a1_0 a1_1 a1_2 bt385.1 bt385.2 false a0_0 a0_1 a0_2 a0_3 a0_4 l0_5 l0_6 l0_7 a0_8)))) = some r := by rw [if_pos rfl] at H; exact H
  clear H
  have H := H1
  clear H1
  replace H := Option.bind_eq_some_iff.mp H
  obtain ⟨⟨t385, t386⟩, A60, H⟩ := H
  replace H : ((plan_Free.f k a0_0 a0_1 a0_2 a0_3 a0_4 l0_5 l0_6 l0_7 a0_8 a1_0 a2 a1_1 a1_2).bind fun t387 => (if t387 = true then (if t386 = true then (tocsinlaw15_PlanWaits.j0 k a2 a1_0 a1_1 a1_2 t385 t386 (t385 != a1_1) a0_0 a0_1 a0_2 a0_3 a0_4 l0_5 l0_6 l0_7 a0_8) else (tocsinlaw15_PlanWaits.j0 k a2 a1_0 a1_1 a1_2 t385 t386 true a0_0 a0_1 a0_2 a0_3 a0_4 l0_5 l0_6 l0_7 a0_8)) else (tocsinlaw15_PlanWaits.j0 k a2 a1_0 a1_1 a1_2 t385 t386 false a0_0 a0_1 a0_2 a0_3 a0_4 l0_5 l0_6 l0_7 a0_8))) = some r := H
  have A6 := Aside0.mk A60
  clear A60
  replace H := Option.bind_eq_some_iff.mp H
  obtain ⟨t387, A70, H⟩ := H
  replace H : (if t387 = true then (if t386 = true then (tocsinlaw15_PlanWaits.j0 k a2 a1_0 a1_1 a1_2 t385 t386 (t385 != a1_1) a0_0 a0_1 a0_2 a0_3 a0_4 l0_5 l0_6 l0_7 a0_8) else (tocsinlaw15_PlanWaits.j0 k a2 a1_0 a1_1 a1_2 t385 t386 true a0_0 a0_1 a0_2 a0_3 a0_4 l0_5 l0_6 l0_7 a0_8)) else (tocsinlaw15_PlanWaits.j0 k a2 a1_0 a1_1 a1_2 t385 t386 false a0_0 a0_1 a0_2 a0_3 a0_4 l0_5 l0_6 l0_7 a0_8)) = some r := H
  have A7 := Aside0.mk A70
  clear A70
  have HC8 := Aside0.mk H
  clear H
  go_enter Try.func5, Try.ntmps5
  try go_wp2_with (first | ((with_reducible refine gate_dst (N := 3) rfl ?_); refine boxe (N := 3) (cs := #[.int .i64 a0_0, .int .i64 a0_1, .int .i64 a0_2, .int .i64 a0_3, .int .i64 a0_4, .slice A0_5 l0_5.length c0_5, .slice A0_6 l0_6.length c0_6, .slice A0_7 l0_7.length c0_7, .int .i64 a0_8]) (t := 26) ?_; intro gb382 hg w9 hbox hb; have BK382 := Aside0.mk (hbox); have GW382 := bg0 hg HB; have GE382 := GW382; replace HB := bs0 HB hb; clear hb hbox hg) | ((with_reducible refine gate_dst (N := 4) rfl ?_); refine boxe (N := 4) (cs := #[.int .i64 a1_0, .int .i64 a1_1, .int .i64 a1_2]) (t := 34) ?_; intro gb383 hg w10 hbox hb; have BK383 := Aside0.mk (hbox); have GW383 := bg1 hg HB GE382; have GE383 := GW383; have NB382_383 := nl hg BK382; have NB383_382 := ng hg BK382; replace BK382 := bb BK382 hb; replace HB := bs1 HB GE382 hb; clear hb hbox hg) | ((with_reducible refine gate_callee (f := 8) rfl ?_); refine gol (some 17) Try.func8 #[] ?_; (with_reducible refine (tocsinlaw15_fixed.calls k  true _ A4.out).mono ?_); rintro e w11 ⟨rfl, hb⟩; refine ⟨_, rfl, ?_⟩; replace BK382 := bb BK382 hb; replace BK383 := bb BK383 hb; replace HB := bs2 HB GE382 GE383 hb; (try clear hb); (try clear hb2); (try clear hk); (try clear hi)))
  have n0_ := Aside0.mk (blk_drew BK382.out)
  have n1_ := Aside0.mk (blk_drew BK383.out)
  have n2_ := Aside0.mk (below_drew1 HB.out)
  clear BK382
  clear BK383
  clear HB
  have BK382 := n0_
  have BK383 := n1_
  have HB := n2_
  clear n0_ n1_ n2_
  refine start_ (n := 9) (S := fun w' => w'.cell? ⟨gb383, 0, none⟩ = some (.int .i64 a1_0) ∧ w'.cell? ⟨gb383, 1, none⟩ = some (.int .i64 a1_1) ∧ w'.cell? ⟨gb383, 2, none⟩ = some (.int .i64 a1_2)) (ds := []) #[false, false, false, false, false, false, false, false, false] (by kernel_rfl) rfl rfl (by exact bc3 BK383) (fun hHeld => ?_); refine with_tabW tocsinlaw15_PlanWaits.tab3 tocsinlaw15_PlanWaits.bits3 (fun HT_ HW_ => ?_)
  generalize w11.drew = w12 at BK382 BK383 HB hHeld ⊢
  refine pl 0 19 #[true, false, false, false, false, false, false, false, false] HT_ ?_
  refine pl 2 21 #[true, false, true, false, false, false, false, false, false] HT_ ?_
  refine pl 4 23 #[true, false, true, false, true, false, false, false, false] HT_ ?_
  refine tk3 1 20 #[true, true, true, false, true, false, false, false, false] HT_ HW_ hHeld ?_
  refine pl 6 7 #[true, true, true, false, true, false, true, false, false] HT_ ?_
  refine tk3 3 22 #[true, true, true, true, true, false, true, false, false] HT_ HW_ hHeld ?_
  refine pl 7 8 #[true, true, true, true, true, false, true, true, false] HT_ ?_
  refine tk3 5 24 #[true, true, true, true, true, true, true, true, false] HT_ HW_ hHeld ?_
  refine pl 8 9 #[true, true, true, true, true, true, true, true, true] HT_ ?_
  refine done_ (done_of HT_.out (by kernel_rfl)) ?_
  have hnb13 := NB382_383.out
  have hnc13 := NB383_382.out
  obtain ⟨hcz14_0, hcz14_1, hcz14_2, hcz14_3, hcz14_4, hcz14_5, hcz14_6, hcz14_7, hcz14_8, hfz14_0, hfz14_1, hfz14_2, hfz14_3, hfz14_4, hfz14_5, hfz14_6, hfz14_7, hfz14_8⟩ := bz9 BK382
  go_upto_region 6 with (first | ((with_reducible refine gate_callee (f := 17) rfl ?_); refine gol (some 31) Try.func17 #[.agg #[.int .i64 a0_0, .int .i64 a0_1, .int .i64 a0_2, .int .i64 a0_3, .int .i64 a0_4, .slice A0_5 l0_5.length c0_5, .slice A0_6 l0_6.length c0_6, .slice A0_7 l0_7.length c0_7, .int .i64 a0_8], .int .i64 a1_0, .bool a2, .int .i64 a1_1, .int .i64 a1_2] ?_; (with_reducible refine (plan_Wait.calls k a0_0 a0_1 a0_2 a0_3 a0_4 _ _ l0_5 _ _ l0_6 _ _ l0_7 a0_8 a1_0 a2 a1_1 a1_2 t385 t386 _ ?side1 ?side2 ?side3 ?side4 ?side5 ?side6 A6.out).mono ?_); (case side1 => exact kC (Kd.C_below HR0_5.out HB.out)); (case side2 => exact HC0_5.out); (case side3 => exact kC (Kd.C_below HR0_6.out HB.out)); (case side4 => exact HC0_6.out); (case side5 => exact kC (Kd.C_below HR0_7.out HB.out)); (case side6 => exact HC0_7.out); rintro e w15 ⟨rfl, hb⟩; refine ⟨_, rfl, ?_⟩; replace BK382 := bb BK382 hb; replace BK383 := bb BK383 hb; replace HB := bs2 HB GE382 GE383 hb; (try clear hb); (try clear hb2); (try clear hk); (try clear hi); obtain ⟨hcz16_0, hcz16_1, hcz16_2, hcz16_3, hcz16_4, hcz16_5, hcz16_6, hcz16_7, hcz16_8, hfz16_0, hfz16_1, hfz16_2, hfz16_3, hfz16_4, hfz16_5, hfz16_6, hfz16_7, hfz16_8⟩ := bz9 BK382) | ((with_reducible refine gate_callee (f := 19) rfl ?_); refine gol (some 39) Try.func19 #[.agg #[.int .i64 a0_0, .int .i64 a0_1, .int .i64 a0_2, .int .i64 a0_3, .int .i64 a0_4, .slice A0_5 l0_5.length c0_5, .slice A0_6 l0_6.length c0_6, .slice A0_7 l0_7.length c0_7, .int .i64 a0_8], .int .i64 a1_0, .bool a2, .int .i64 a1_1, .int .i64 a1_2] ?_; (with_reducible refine (plan_Free.calls k a0_0 a0_1 a0_2 a0_3 a0_4 _ _ l0_5 _ _ l0_6 _ _ l0_7 a0_8 a1_0 a2 a1_1 a1_2 t387 _ ?side1 ?side2 ?side3 ?side4 ?side5 ?side6 A7.out).mono ?_); (case side1 => exact kC (Kd.C_below HR0_5.out HB.out)); (case side2 => exact HC0_5.out); (case side3 => exact kC (Kd.C_below HR0_6.out HB.out)); (case side4 => exact HC0_6.out); (case side5 => exact kC (Kd.C_below HR0_7.out HB.out)); (case side6 => exact HC0_7.out); rintro e w17 ⟨rfl, hb⟩; refine ⟨_, rfl, ?_⟩; replace BK382 := bb BK382 hb; replace BK383 := bb BK383 hb; replace HB := bs2 HB GE382 GE383 hb; (try clear hb); (try clear hb2); (try clear hk); (try clear hi)))
  (try simp only [Act.put, sT, sZ, sS])
  go_cut [49] (fun v49 wc => ∃ (kq : Nat) (x49_7 : Bool), v49 = .bool x49_7 ∧ Aside0 (tocsinlaw15_PlanWaits.j0 kq a2 a1_0 a1_1 a1_2 t385 t386 x49_7 a0_0 a0_1 a0_2 a0_3 a0_4 l0_5 l0_6 l0_7 a0_8 = some r) ∧ Aside0 (kq ≤ k) ∧ Aside0 (wc.heap[gb382]? = some (.cells #[.int .i64 a0_0, .int .i64 a0_1, .int .i64 a0_2, .int .i64 a0_3, .int .i64 a0_4, (.slice A0_5 l0_5.length c0_5), (.slice A0_6 l0_6.length c0_6), (.slice A0_7 l0_7.length c0_7), .int .i64 a0_8] 26 (0, 0))) ∧ Aside0 (wc.heap[gb383]? = some (.cells #[.int .i64 a1_0, .int .i64 a1_1, .int .i64 a1_2] 34 (0, 0))) ∧ Aside0 (Below w.heap.size w wc))
  case first =>
   have H := HC8.out
   clear HC8
   by_cases c18 : t387 = true
   ·subst c18
    have H1 : (if t386 = true then (tocsinlaw15_PlanWaits.j0 k a2 a1_0 a1_1 a1_2 t385 t386 (t385 != a1_1) a0_0 a0_1 a0_2 a0_3 a0_4 l0_5 l0_6 l0_7 a0_8) else (tocsinlaw15_PlanWaits.j0 k a2 a1_0 a1_1 a1_2 t385 t386 true a0_0 a0_1 a0_2 a0_3 a0_4 l0_5 l0_6 l0_7 a0_8)) = some r := by rw [if_pos rfl] at H; exact H
    clear H
    have H := H1
    clear H1
    by_cases c19 : t386 = true
    ·subst c19
     have H1 : (tocsinlaw15_PlanWaits.j0 k a2 a1_0 a1_1 a1_2 t385 true (t385 != a1_1) a0_0 a0_1 a0_2 a0_3 a0_4 l0_5 l0_6 l0_7 a0_8) = some r := by rw [if_pos rfl] at H; exact H
     clear H
     have H := H1
     clear H1
     have H' := Aside0.mk H
     clear H
     go_wp2
     go_meet
     case rel => exact ⟨_, ((t385 != a1_1)), rs, H', ⟨by first | omega | exact Nat.le_refl _⟩, ⟨bk BK382⟩, ⟨bk BK383⟩, ⟨bw2 HB GE382 GE383⟩⟩
    ·replace c19 := Bool.eq_false_iff.mpr c19
     subst c19
     have H1 : (tocsinlaw15_PlanWaits.j0 k a2 a1_0 a1_1 a1_2 t385 false true a0_0 a0_1 a0_2 a0_3 a0_4 l0_5 l0_6 l0_7 a0_8) = some r := by rw [if_neg (show ¬ (false = true) by decide)] at H; exact H
     clear H
     have H := H1
     clear H1
     have H' := Aside0.mk H
     clear H
     go_wp2
     go_meet
     case rel => exact ⟨_, (true), rs, H', ⟨by first | omega | exact Nat.le_refl _⟩, ⟨bk BK382⟩, ⟨bk BK383⟩, ⟨bw2 HB GE382 GE383⟩⟩
   ·replace c18 := Bool.eq_false_iff.mpr c18
    subst c18
    have H1 : (tocsinlaw15_PlanWaits.j0 k a2 a1_0 a1_1 a1_2 t385 t386 false a0_0 a0_1 a0_2 a0_3 a0_4 l0_5 l0_6 l0_7 a0_8) = some r := by rw [if_neg (show ¬ (false = true) by decide)] at H; exact H
    clear H
    have H := H1
    clear H1
    have H' := Aside0.mk H
    clear H
    go_wp2
    go_meet
    case rel => exact ⟨_, (false), rs, H', ⟨by first | omega | exact Nat.le_refl _⟩, ⟨bk BK382⟩, ⟨bk BK383⟩, ⟨bw2 HB GE382 GE383⟩⟩
  case rest =>
   clear HC8
   try clear c1
   try clear p2
   try clear c5
   try clear c8
   try clear c13
   try clear c17
   try clear c18
   try clear c19
   try clear hcz14_0 hcz14_1 hcz14_2 hcz14_3 hcz14_4 hcz14_5 hcz14_6 hcz14_7 hcz14_8
   try clear hcz16_0 hcz16_1 hcz16_2 hcz16_3 hcz16_4 hcz16_5 hcz16_6 hcz16_7 hcz16_8
   try clear hfz14_0 hfz14_1 hfz14_2 hfz14_3 hfz14_4 hfz14_5 hfz14_6 hfz14_7 hfz14_8
   try clear hfz16_0 hfz16_1 hfz16_2 hfz16_3 hfz16_4 hfz16_5 hfz16_6 hfz16_7 hfz16_8
   obtain ⟨kq, x49_7, rfl, HA, HJ7, BK382, BK383, HB⟩ := hcut
   cases kq with
   | zero => exact absurd HA.out (by simp [tocsinlaw15_PlanWaits.j0])
   | succ kj7 =>
    have H := HA.out
    clear HA
    simp only [tocsinlaw15_PlanWaits.j0] at H
    by_cases c20 : x49_7 = true
    ·subst c20
     have H1 : (none) = some r := by rw [if_pos rfl] at H; exact H
     clear H
     have H := H1
     clear H1
     exact absurd H (by simp)
    ·replace c20 := Bool.eq_false_iff.mpr c20
     subst c20
     have H1 : (if t386 = true then (if t385 ≤ 1125899906842624 then ((plan_Free.f kj7 a0_0 a0_1 a0_2 a0_3 a0_4 l0_5 l0_6 l0_7 a0_8 a1_0 a2 t385 a1_2).bind fun t388 => (if t388 = true then (if t385 < a1_1 then (tocsinlaw15_PlanWaits.j1 kj7 a1_1 true a0_0 a0_1 a0_2 a0_3 a0_4 l0_5 l0_6 l0_7 a0_8) else (tocsinlaw15_PlanWaits.j1 kj7 a1_1 (decide (t385 > (wrap64 (a1_1 + (wrap64 (2 * a0_1)))))) a0_0 a0_1 a0_2 a0_3 a0_4 l0_5 l0_6 l0_7 a0_8)) else (tocsinlaw15_PlanWaits.j1 kj7 a1_1 true a0_0 a0_1 a0_2 a0_3 a0_4 l0_5 l0_6 l0_7 a0_8))) else (tocsinlaw15_PlanWaits.j1 kj7 a1_1 false a0_0 a0_1 a0_2 a0_3 a0_4 l0_5 l0_6 l0_7 a0_8)) else (tocsinlaw15_PlanWaits.j1 kj7 a1_1 false a0_0 a0_1 a0_2 a0_3 a0_4 l0_5 l0_6 l0_7 a0_8)) = some r := by rw [if_neg (show ¬ (false = true) by decide)] at H; exact H
     clear H
     have H := H1
     clear H1
     have HC21 := Aside0.mk H
     clear H
     go_upto_region 8 with (fail)
     go_cut [77] (fun v77 wc => ∃ (kq : Nat) (x77_20 : Bool), v77 = .bool x77_20 ∧ Aside0 (tocsinlaw15_PlanWaits.j1 kq a1_1 x77_20 a0_0 a0_1 a0_2 a0_3 a0_4 l0_5 l0_6 l0_7 a0_8 = some r) ∧ Aside0 (kq ≤ kj7) ∧ Aside0 (wc.heap[gb382]? = some (.cells #[.int .i64 a0_0, .int .i64 a0_1, .int .i64 a0_2, .int .i64 a0_3, .int .i64 a0_4, (.slice A0_5 l0_5.length c0_5), (.slice A0_6 l0_6.length c0_6), (.slice A0_7 l0_7.length c0_7), .int .i64 a0_8] 26 (0, 0))) ∧ Aside0 (wc.heap[gb383]? = some (.cells #[.int .i64 a1_0, .int .i64 a1_1, .int .i64 a1_2] 34 (0, 0))) ∧ Aside0 (Below w.heap.size w wc))
     case first =>
      have H := HC21.out
      clear HC21
      by_cases c22 : t386 = true
      ·subst c22
       have H1 : (if t385 ≤ 1125899906842624 then ((plan_Free.f kj7 a0_0 a0_1 a0_2 a0_3 a0_4 l0_5 l0_6 l0_7 a0_8 a1_0 a2 t385 a1_2).bind fun t388 => (if t388 = true then (if t385 < a1_1 then (tocsinlaw15_PlanWaits.j1 kj7 a1_1 true a0_0 a0_1 a0_2 a0_3 a0_4 l0_5 l0_6 l0_7 a0_8) else (tocsinlaw15_PlanWaits.j1 kj7 a1_1 (decide (t385 > (wrap64 (a1_1 + (wrap64 (2 * a0_1)))))) a0_0 a0_1 a0_2 a0_3 a0_4 l0_5 l0_6 l0_7 a0_8)) else (tocsinlaw15_PlanWaits.j1 kj7 a1_1 true a0_0 a0_1 a0_2 a0_3 a0_4 l0_5 l0_6 l0_7 a0_8))) else (tocsinlaw15_PlanWaits.j1 kj7 a1_1 false a0_0 a0_1 a0_2 a0_3 a0_4 l0_5 l0_6 l0_7 a0_8)) = some r := by rw [if_pos rfl] at H; exact H
       clear H
       have H := H1
       clear H1
       by_cases c23 : t385 ≤ 1125899906842624
       ·rw [if_pos c23] at H
        have c23b0 : decide (t385 ≤ 1125899906842624) = true := decide_eq_true c23
        clear c23
        (first | rw [c23b0] | (simp only [i64_w, i32_w]; rw [c23b0]) | skip)
        replace H := Option.bind_eq_some_iff.mp H
        obtain ⟨t388, A240, H⟩ := H
        replace H : (if t388 = true then (if t385 < a1_1 then (tocsinlaw15_PlanWaits.j1 kj7 a1_1 true a0_0 a0_1 a0_2 a0_3 a0_4 l0_5 l0_6 l0_7 a0_8) else (tocsinlaw15_PlanWaits.j1 kj7 a1_1 (decide (t385 > (wrap64 (a1_1 + (wrap64 (2 * a0_1)))))) a0_0 a0_1 a0_2 a0_3 a0_4 l0_5 l0_6 l0_7 a0_8)) else (tocsinlaw15_PlanWaits.j1 kj7 a1_1 true a0_0 a0_1 a0_2 a0_3 a0_4 l0_5 l0_6 l0_7 a0_8)) = some r := H
        have A24 := Aside0.mk A240
        clear A240
        by_cases c25 : t388 = true
        ·subst c25
         have H1 : (if t385 < a1_1 then (tocsinlaw15_PlanWaits.j1 kj7 a1_1 true a0_0 a0_1 a0_2 a0_3 a0_4 l0_5 l0_6 l0_7 a0_8) else (tocsinlaw15_PlanWaits.j1 kj7 a1_1 (decide (t385 > (wrap64 (a1_1 + (wrap64 (2 * a0_1)))))) a0_0 a0_1 a0_2 a0_3 a0_4 l0_5 l0_6 l0_7 a0_8)) = some r := by rw [if_pos rfl] at H; exact H
         clear H
         have H := H1
         clear H1
         by_cases c26 : t385 < a1_1
         ·rw [if_pos c26] at H
          have c26b0 : decide (t385 < a1_1) = true := decide_eq_true c26
          clear c26
          have H' := Aside0.mk H
          clear H
          have hnb27 := NB382_383.out
          have hnc27 := NB383_382.out
          obtain ⟨hcz28_0, hcz28_1, hcz28_2, hcz28_3, hcz28_4, hcz28_5, hcz28_6, hcz28_7, hcz28_8, hfz28_0, hfz28_1, hfz28_2, hfz28_3, hfz28_4, hfz28_5, hfz28_6, hfz28_7, hfz28_8⟩ := bz9 BK382
          go_wp2_with (first | (go_at_call 19; (with_reducible refine (plan_Free.calls kj7 a0_0 a0_1 a0_2 a0_3 a0_4 _ _ l0_5 _ _ l0_6 _ _ l0_7 a0_8 a1_0 a2 t385 a1_2 true _ ?side1 ?side2 ?side3 ?side4 ?side5 ?side6 A24.out).mono ?_); (case side1 => exact kC (Kd.C_below HR0_5.out HB.out)); (case side2 => exact HC0_5.out); (case side3 => exact kC (Kd.C_below HR0_6.out HB.out)); (case side4 => exact HC0_6.out); (case side5 => exact kC (Kd.C_below HR0_7.out HB.out)); (case side6 => exact HC0_7.out); rintro e w29 ⟨rfl, hb⟩; replace BK382 := bb BK382 hb; replace BK383 := bb BK383 hb; replace HB := bs2 HB GE382 GE383 hb; (try clear hb); (try clear hb2); (try clear hk); (try clear hi)))
          go_meet
          case rel => exact ⟨_, (true), rs, H', ⟨by have := HJ7.out; first | omega | exact Nat.le_refl _⟩, ⟨bk BK382⟩, ⟨bk BK383⟩, ⟨bw2 HB GE382 GE383⟩⟩
         ·rw [if_neg c26] at H
          have c26b0 : decide (t385 < a1_1) = false := decide_eq_false c26
          clear c26
          have H' := Aside0.mk H
          clear H
          have hnb30 := NB382_383.out
          have hnc30 := NB383_382.out
          obtain ⟨hcz31_0, hcz31_1, hcz31_2, hcz31_3, hcz31_4, hcz31_5, hcz31_6, hcz31_7, hcz31_8, hfz31_0, hfz31_1, hfz31_2, hfz31_3, hfz31_4, hfz31_5, hfz31_6, hfz31_7, hfz31_8⟩ := bz9 BK382
          go_wp2_with (first | (go_at_call 19; (with_reducible refine (plan_Free.calls kj7 a0_0 a0_1 a0_2 a0_3 a0_4 _ _ l0_5 _ _ l0_6 _ _ l0_7 a0_8 a1_0 a2 t385 a1_2 true _ ?side1 ?side2 ?side3 ?side4 ?side5 ?side6 A24.out).mono ?_); (case side1 => exact kC (Kd.C_below HR0_5.out HB.out)); (case side2 => exact HC0_5.out); (case side3 => exact kC (Kd.C_below HR0_6.out HB.out)); (case side4 => exact HC0_6.out); (case side5 => exact kC (Kd.C_below HR0_7.out HB.out)); (case side6 => exact HC0_7.out); rintro e w32 ⟨rfl, hb⟩; replace BK382 := bb BK382 hb; replace BK383 := bb BK383 hb; replace HB := bs2 HB GE382 GE383 hb; (try clear hb); (try clear hb2); (try clear hk); (try clear hi); obtain ⟨hcz33_0, hcz33_1, hcz33_2, hcz33_3, hcz33_4, hcz33_5, hcz33_6, hcz33_7, hcz33_8, hfz33_0, hfz33_1, hfz33_2, hfz33_3, hfz33_4, hfz33_5, hfz33_6, hfz33_7, hfz33_8⟩ := bz9 BK382))
          go_meet
          case rel => exact ⟨_, (decide (t385 > (wrap64 (a1_1 + (wrap64 (2 * a0_1)))))), rs, H', ⟨by have := HJ7.out; first | omega | exact Nat.le_refl _⟩, ⟨bk BK382⟩, ⟨bk BK383⟩, ⟨bw2 HB GE382 GE383⟩⟩
        ·replace c25 := Bool.eq_false_iff.mpr c25
         subst c25
         have H1 : (tocsinlaw15_PlanWaits.j1 kj7 a1_1 true a0_0 a0_1 a0_2 a0_3 a0_4 l0_5 l0_6 l0_7 a0_8) = some r := by rw [if_neg (show ¬ (false = true) by decide)] at H; exact H
         clear H
         have H := H1
         clear H1
         have H' := Aside0.mk H
         clear H
         have hnb34 := NB382_383.out
         have hnc34 := NB383_382.out
         obtain ⟨hcz35_0, hcz35_1, hcz35_2, hcz35_3, hcz35_4, hcz35_5, hcz35_6, hcz35_7, hcz35_8, hfz35_0, hfz35_1, hfz35_2, hfz35_3, hfz35_4, hfz35_5, hfz35_6, hfz35_7, hfz35_8⟩ := bz9 BK382
         go_wp2_with (first | (go_at_call 19; (with_reducible refine (plan_Free.calls kj7 a0_0 a0_1 a0_2 a0_3 a0_4 _ _ l0_5 _ _ l0_6 _ _ l0_7 a0_8 a1_0 a2 t385 a1_2 false _ ?side1 ?side2 ?side3 ?side4 ?side5 ?side6 A24.out).mono ?_); (case side1 => exact kC (Kd.C_below HR0_5.out HB.out)); (case side2 => exact HC0_5.out); (case side3 => exact kC (Kd.C_below HR0_6.out HB.out)); (case side4 => exact HC0_6.out); (case side5 => exact kC (Kd.C_below HR0_7.out HB.out)); (case side6 => exact HC0_7.out); rintro e w36 ⟨rfl, hb⟩; replace BK382 := bb BK382 hb; replace BK383 := bb BK383 hb; replace HB := bs2 HB GE382 GE383 hb; (try clear hb); (try clear hb2); (try clear hk); (try clear hi)))
         go_meet
         case rel => exact ⟨_, (true), rs, H', ⟨by have := HJ7.out; first | omega | exact Nat.le_refl _⟩, ⟨bk BK382⟩, ⟨bk BK383⟩, ⟨bw2 HB GE382 GE383⟩⟩
       ·rw [if_neg c23] at H
        have c23b0 : decide (t385 ≤ 1125899906842624) = false := decide_eq_false c23
        clear c23
        (first | rw [c23b0] | (simp only [i64_w, i32_w]; rw [c23b0]) | skip)
        have H' := Aside0.mk H
        clear H
        go_wp2
        go_meet
        case rel => exact ⟨_, (false), rs, H', ⟨by have := HJ7.out; first | omega | exact Nat.le_refl _⟩, ⟨bk BK382⟩, ⟨bk BK383⟩, ⟨bw2 HB GE382 GE383⟩⟩
      ·replace c22 := Bool.eq_false_iff.mpr c22
       subst c22
       have H1 : (tocsinlaw15_PlanWaits.j1 kj7 a1_1 false a0_0 a0_1 a0_2 a0_3 a0_4 l0_5 l0_6 l0_7 a0_8) = some r := by rw [if_neg (show ¬ (false = true) by decide)] at H; exact H
       clear H
       have H := H1
       clear H1
       have H' := Aside0.mk H
       clear H
       go_wp2
       go_meet
       case rel => exact ⟨_, (false), rs, H', ⟨by have := HJ7.out; first | omega | exact Nat.le_refl _⟩, ⟨bk BK382⟩, ⟨bk BK383⟩, ⟨bw2 HB GE382 GE383⟩⟩
     case rest =>
      clear HC21
      try clear c1
      try clear c2
      try clear p2
      try clear c3
      try clear c5
      try clear p6
      try clear c8
      try clear c13
      try clear c17
      try clear c18
      try clear c19
      try clear c20
      try clear c22
      try clear c23
      try clear c23b0
      try clear c25
      try clear c26
      try clear c26b0
      try clear c27
      try clear c30
      try clear c34
      try clear hcz14_0 hcz14_1 hcz14_2 hcz14_3 hcz14_4 hcz14_5 hcz14_6 hcz14_7 hcz14_8
      try clear hcz16_0 hcz16_1 hcz16_2 hcz16_3 hcz16_4 hcz16_5 hcz16_6 hcz16_7 hcz16_8
      try clear hcz28_0 hcz28_1 hcz28_2 hcz28_3 hcz28_4 hcz28_5 hcz28_6 hcz28_7 hcz28_8
      try clear hcz31_0 hcz31_1 hcz31_2 hcz31_3 hcz31_4 hcz31_5 hcz31_6 hcz31_7 hcz31_8
      try clear hcz33_0 hcz33_1 hcz33_2 hcz33_3 hcz33_4 hcz33_5 hcz33_6 hcz33_7 hcz33_8
      try clear hcz35_0 hcz35_1 hcz35_2 hcz35_3 hcz35_4 hcz35_5 hcz35_6 hcz35_7 hcz35_8
      try clear hfz14_0 hfz14_1 hfz14_2 hfz14_3 hfz14_4 hfz14_5 hfz14_6 hfz14_7 hfz14_8
      try clear hfz16_0 hfz16_1 hfz16_2 hfz16_3 hfz16_4 hfz16_5 hfz16_6 hfz16_7 hfz16_8
      try clear hfz28_0 hfz28_1 hfz28_2 hfz28_3 hfz28_4 hfz28_5 hfz28_6 hfz28_7 hfz28_8
      try clear hfz31_0 hfz31_1 hfz31_2 hfz31_3 hfz31_4 hfz31_5 hfz31_6 hfz31_7 hfz31_8
      try clear hfz33_0 hfz33_1 hfz33_2 hfz33_3 hfz33_4 hfz33_5 hfz33_6 hfz33_7 hfz33_8
      try clear hfz35_0 hfz35_1 hfz35_2 hfz35_3 hfz35_4 hfz35_5 hfz35_6 hfz35_7 hfz35_8
      try clear p2
      obtain ⟨kq, x77_20, rfl, HA, HJ20, BK382, BK383, HB⟩ := hcut
      cases kq with
      | zero => exact absurd HA.out (by simp [tocsinlaw15_PlanWaits.j1])
      | succ kj20 =>
       have H := HA.out
       clear HA
       simp only [tocsinlaw15_PlanWaits.j1] at H
       by_cases c37 : x77_20 = true
       ·subst c37
        have H1 : (none) = some r := by rw [if_pos rfl] at H; exact H
        clear H
        have H := H1
        clear H1
        exact absurd H (by simp)
       ·replace c37 := Bool.eq_false_iff.mpr c37
        subst c37
        have H1 : (tocsinlaw15_PlanWaits.l0 kj20 a1_1 l0_6 (l0_6.length : Int) 0 a0_0 a0_1 a0_2 a0_3 a0_4 l0_5 l0_6 l0_7 a0_8) = some r := by rw [if_neg (show ¬ (false = true) by decide)] at H; exact H
        clear H
        have H := H1
        clear H1
        have H' := Aside0.mk H
        clear H
        have hnb38 := NB382_383.out
        have hnc38 := NB383_382.out
        obtain ⟨hcz39_0, hcz39_1, hcz39_2, hcz39_3, hcz39_4, hcz39_5, hcz39_6, hcz39_7, hcz39_8, hfz39_0, hfz39_1, hfz39_2, hfz39_3, hfz39_4, hfz39_5, hfz39_6, hfz39_7, hfz39_8⟩ := bz9 BK382
        go_wp2
        (try simp only [Act.put, sT, sZ, sS])
        go_loopg [81] kj20 (fun kq v81 w' => ∃ (x81_3 : Int), v81 = .int .i64 x81_3 ∧ Aside0 (tocsinlaw15_PlanWaits.l0 kq a1_1 l0_6 (l0_6.length : Int) x81_3 a0_0 a0_1 a0_2 a0_3 a0_4 l0_5 l0_6 l0_7 a0_8 = some r) ∧ Aside0 (kq ≤ kj20) ∧ Aside0 (w'.heap[gb382]? = some (.cells #[.int .i64 a0_0, .int .i64 a0_1, .int .i64 a0_2, .int .i64 a0_3, .int .i64 a0_4, (.slice A0_5 l0_5.length c0_5), (.slice A0_6 l0_6.length c0_6), (.slice A0_7 l0_7.length c0_7), .int .i64 a0_8] 26 (0, 0))) ∧ Aside0 (w'.heap[gb383]? = some (.cells #[.int .i64 a1_0, .int .i64 a1_1, .int .i64 a1_2] 34 (0, 0))) ∧ Aside0 (Below w.heap.size w w'))
        case atStart => exact ⟨(0), rs, H', ⟨Nat.le_refl _⟩, ⟨bk BK382⟩, ⟨bk BK383⟩, ⟨bw2 HB GE382 GE383⟩⟩
        case round =>
         clear H'
         try clear c1
         try clear c2
         try clear p2
         try clear c3
         try clear c5
         try clear p6
         try clear c8
         try clear c13
         try clear c17
         try clear c18
         try clear c19
         try clear c20
         try clear c22
         try clear c23
         try clear c23b0
         try clear c25
         try clear c26
         try clear c26b0
         try clear c27
         try clear c30
         try clear c34
         try clear c37
         try clear c38
         try clear hcz14_0 hcz14_1 hcz14_2 hcz14_3 hcz14_4 hcz14_5 hcz14_6 hcz14_7 hcz14_8
         try clear hcz16_0 hcz16_1 hcz16_2 hcz16_3 hcz16_4 hcz16_5 hcz16_6 hcz16_7 hcz16_8
         try clear hcz28_0 hcz28_1 hcz28_2 hcz28_3 hcz28_4 hcz28_5 hcz28_6 hcz28_7 hcz28_8
         try clear hcz31_0 hcz31_1 hcz31_2 hcz31_3 hcz31_4 hcz31_5 hcz31_6 hcz31_7 hcz31_8
         try clear hcz33_0 hcz33_1 hcz33_2 hcz33_3 hcz33_4 hcz33_5 hcz33_6 hcz33_7 hcz33_8
         try clear hcz35_0 hcz35_1 hcz35_2 hcz35_3 hcz35_4 hcz35_5 hcz35_6 hcz35_7 hcz35_8
         try clear hcz39_0 hcz39_1 hcz39_2 hcz39_3 hcz39_4 hcz39_5 hcz39_6 hcz39_7 hcz39_8
         try clear hfz14_0 hfz14_1 hfz14_2 hfz14_3 hfz14_4 hfz14_5 hfz14_6 hfz14_7 hfz14_8
         try clear hfz16_0 hfz16_1 hfz16_2 hfz16_3 hfz16_4 hfz16_5 hfz16_6 hfz16_7 hfz16_8
         try clear hfz28_0 hfz28_1 hfz28_2 hfz28_3 hfz28_4 hfz28_5 hfz28_6 hfz28_7 hfz28_8
         try clear hfz31_0 hfz31_1 hfz31_2 hfz31_3 hfz31_4 hfz31_5 hfz31_6 hfz31_7 hfz31_8
         try clear hfz33_0 hfz33_1 hfz33_2 hfz33_3 hfz33_4 hfz33_5 hfz33_6 hfz33_7 hfz33_8
         try clear hfz35_0 hfz35_1 hfz35_2 hfz35_3 hfz35_4 hfz35_5 hfz35_6 hfz35_7 hfz35_8
         try clear hfz39_0 hfz39_1 hfz39_2 hfz39_3 hfz39_4 hfz39_5 hfz39_6 hfz39_7 hfz39_8
         try clear p2
         try clear p6
         obtain ⟨x81_3, rfl, HA, HK3, BK382, BK383, HB⟩ := hrel
         cases gk with
         | zero => exact absurd HA.out (by simp [tocsinlaw15_PlanWaits.l0])
         | succ k3 =>
          have H := HA.out
          clear HA
          simp only [tocsinlaw15_PlanWaits.l0] at H
          by_cases c40 : x81_3 < (l0_6.length : Int)
          ·rw [if_pos c40] at H
           have c40b0 : decide (x81_3 < (l0_6.length : Int)) = true := decide_eq_true c40
           clear c40
           by_cases c41 : 0 ≤ x81_3
           ·rw [if_pos c41] at H
            have c41b0 : decide (0 ≤ x81_3) = true := decide_eq_true c41
            clear c41
            by_cases c42 : x81_3 < (l0_6.length : Int)
            ·rw [if_pos c42] at H
             have c42b0 : decide (x81_3 < (l0_6.length : Int)) = true := decide_eq_true c42
             clear c42
             replace H := Option.bind_eq_some_iff.mp H
             obtain ⟨⟨t391, t392⟩, A430, H⟩ := H
             replace H : (if t392 = true then (if t391 ≤ 1125899906842624 then ((frame_Time.f ((rd_T40 l0_6 x81_3).f3)).bind fun t393 => ((plan_Free.f k3 a0_0 a0_1 a0_2 a0_3 a0_4 l0_5 l0_6 l0_7 a0_8 ((rd_T40 l0_6 x81_3).f0) false t391 t393).bind fun t394 => (if t394 = true then (none) else (tocsinlaw15_PlanWaits.l0 k3 a1_1 l0_6 (l0_6.length : Int) (wrap64 (x81_3 + 1)) a0_0 a0_1 a0_2 a0_3 a0_4 l0_5 l0_6 l0_7 a0_8)))) else (tocsinlaw15_PlanWaits.l0 k3 a1_1 l0_6 (l0_6.length : Int) (wrap64 (x81_3 + 1)) a0_0 a0_1 a0_2 a0_3 a0_4 l0_5 l0_6 l0_7 a0_8)) else (tocsinlaw15_PlanWaits.l0 k3 a1_1 l0_6 (l0_6.length : Int) (wrap64 (x81_3 + 1)) a0_0 a0_1 a0_2 a0_3 a0_4 l0_5 l0_6 l0_7 a0_8)) = some r := H
             have A43 := Aside0.mk A430
             clear A430
             by_cases c44 : t392 = true
             ·subst c44
              have H1 : (if t391 ≤ 1125899906842624 then ((frame_Time.f ((rd_T40 l0_6 x81_3).f3)).bind fun t393 => ((plan_Free.f k3 a0_0 a0_1 a0_2 a0_3 a0_4 l0_5 l0_6 l0_7 a0_8 ((rd_T40 l0_6 x81_3).f0) false t391 t393).bind fun t394 => (if t394 = true then (none) else (tocsinlaw15_PlanWaits.l0 k3 a1_1 l0_6 (l0_6.length : Int) (wrap64 (x81_3 + 1)) a0_0 a0_1 a0_2 a0_3 a0_4 l0_5 l0_6 l0_7 a0_8)))) else (tocsinlaw15_PlanWaits.l0 k3 a1_1 l0_6 (l0_6.length : Int) (wrap64 (x81_3 + 1)) a0_0 a0_1 a0_2 a0_3 a0_4 l0_5 l0_6 l0_7 a0_8)) = some r := by rw [if_pos rfl] at H; exact H
              clear H
              have H := H1
              clear H1
              by_cases c45 : t391 ≤ 1125899906842624
              ·rw [if_pos c45] at H
               have c45b0 : decide (t391 ≤ 1125899906842624) = true := decide_eq_true c45
               clear c45
               replace H := Option.bind_eq_some_iff.mp H
               obtain ⟨t393, A460, H⟩ := H
               replace H : ((plan_Free.f k3 a0_0 a0_1 a0_2 a0_3 a0_4 l0_5 l0_6 l0_7 a0_8 ((rd_T40 l0_6 x81_3).f0) false t391 t393).bind fun t394 => (if t394 = true then (none) else (tocsinlaw15_PlanWaits.l0 k3 a1_1 l0_6 (l0_6.length : Int) (wrap64 (x81_3 + 1)) a0_0 a0_1 a0_2 a0_3 a0_4 l0_5 l0_6 l0_7 a0_8))) = some r := H
               have A46 := Aside0.mk A460
               clear A460
               replace H := Option.bind_eq_some_iff.mp H
               obtain ⟨t394, A470, H⟩ := H
               replace H : (if t394 = true then (none) else (tocsinlaw15_PlanWaits.l0 k3 a1_1 l0_6 (l0_6.length : Int) (wrap64 (x81_3 + 1)) a0_0 a0_1 a0_2 a0_3 a0_4 l0_5 l0_6 l0_7 a0_8)) = some r := H
               have A47 := Aside0.mk A470
               clear A470
               by_cases c48 : t394 = true
               ·subst c48
                have H1 : (none) = some r := by rw [if_pos rfl] at H; exact H
                clear H
                have H := H1
                clear H1
                exact absurd H (by simp)
               ·replace c48 := Bool.eq_false_iff.mpr c48
                subst c48
                have H1 : (tocsinlaw15_PlanWaits.l0 k3 a1_1 l0_6 (l0_6.length : Int) (wrap64 (x81_3 + 1)) a0_0 a0_1 a0_2 a0_3 a0_4 l0_5 l0_6 l0_7 a0_8) = some r := by rw [if_neg (show ¬ (false = true) by decide)] at H; exact H
                clear H
                have H := H1
                clear H1
                have H' := Aside0.mk H
                clear H
                have p389 : 0 ≤ (x81_3 : Int) := of_decide_eq_true (by first | (with_reducible assumption) | assumption)
                have q389 : x81_3 < (l0_6.length : Int) := of_decide_eq_true (by first | (with_reducible assumption) | assumption)
                obtain ⟨ad389, e389, hx389_0, hx389_1, hx389_2, hx389_3⟩ := at_T40 HR0_6.out x81_3 p389 q389
                cases e389
                replace hx389_0 := pcb HB hx389_0
                replace hx389_1 := pcb HB hx389_1
                replace hx389_2 := pcb HB hx389_2
                replace hx389_3 := pcb HB hx389_3
                replace p389 := eq_true p389
                replace q389 := eq_true q389
                try go_wp2_with (first | ((with_reducible refine gate_dst (N := 14) rfl ?_); refine boxe (N := 14) (cs := #[.int .i64 0, .int .u32 0, .int .i64 0, .int .i64 0]) (t := 40) ?_; intro gb390 hg w49 hbox hb; have BK390 := Aside0.mk (hbox); have GW390 := bg2 hg HB GE382 GE383; have GE390 := GW390; have NB382_390 := nl hg BK382; have NB390_382 := ng hg BK382; have NB383_390 := nl hg BK383; have NB390_383 := ng hg BK383; replace BK382 := bb BK382 hb; replace BK383 := bb BK383 hb; replace HB := bs2 HB GE382 GE383 hb; clear hb hbox hg; have hnb50 := NB390_382.out; have hnc50 := NB382_390.out; have hnb51 := NB390_383.out; have hnc51 := NB383_390.out; obtain ⟨hcz52_0, hcz52_1, hcz52_2, hcz52_3, hfz52_0, hfz52_1, hfz52_2, hfz52_3⟩ := bz4 BK390; have hnb53 := NB382_383.out; have hnc53 := NB383_382.out; obtain ⟨hcz54_0, hcz54_1, hcz54_2, hcz54_3, hcz54_4, hcz54_5, hcz54_6, hcz54_7, hcz54_8, hfz54_0, hfz54_1, hfz54_2, hfz54_3, hfz54_4, hfz54_5, hfz54_6, hfz54_7, hfz54_8⟩ := bz9 BK382) | ((with_reducible refine gate_callee (f := 11) rfl ?_); refine gol (some 90) Try.func11 #[.agg #[.int .i64 a0_0, .int .i64 a0_1, .int .i64 a0_2, .int .i64 a0_3, .int .i64 a0_4, .slice A0_5 l0_5.length c0_5, .slice (some ad389) l0_6.length c0_6, .slice A0_7 l0_7.length c0_7, .int .i64 a0_8], .int .i64 x81_3, .int .i64 a1_1] ?_; (with_reducible refine (plan_Send.calls a0_0 a0_1 a0_2 a0_3 a0_4 _ _ l0_5 _ _ l0_6 _ _ l0_7 a0_8 x81_3 a1_1 t391 true _ ?side1 ?side2 ?side3 ?side4 ?side5 ?side6 A43.out).mono ?_); (case side1 => exact Kd.C_below HR0_5.out (bw3 HB GE382 GE383 GE390)); (case side2 => exact HC0_5.out); (case side3 => exact Kd.C_below HR0_6.out (bw3 HB GE382 GE383 GE390)); (case side4 => exact HC0_6.out); (case side5 => exact Kd.C_below HR0_7.out (bw3 HB GE382 GE383 GE390)); (case side6 => exact HC0_7.out); rintro e w55 ⟨rfl, hb⟩; refine ⟨_, rfl, ?_⟩; replace BK382 := Aside0.mk (blk_below (g := gb382) (o := .cells #[.int .i64 a0_0, .int .i64 a0_1, .int .i64 a0_2, .int .i64 a0_3, .int .i64 a0_4, .slice A0_5 l0_5.length c0_5, .slice (some ad389) l0_6.length c0_6, .slice A0_7 l0_7.length c0_7, .int .i64 a0_8] 26 (0, 0)) (bf1 NB382_390 BK382) hb); replace BK383 := Aside0.mk (blk_below (g := gb383) (o := .cells #[.int .i64 a1_0, .int .i64 a1_1, .int .i64 a1_2] 34 (0, 0)) (bf1 NB383_390 BK383) hb); replace BK390 := Aside0.mk (blk_below (g := gb390) (o := .cells #[.int .i64 ((rd_T40 l0_6 x81_3).f0), .int .u32 ((rd_T40 l0_6 x81_3).f1), .int .i64 ((rd_T40 l0_6 x81_3).f2), .int .i64 ((rd_T40 l0_6 x81_3).f3)] 40 (0, 0)) (by (with_reducible repeat (first | refine blk_drewN ?_ _ | refine blk_drew ?_ | refine blk_alloc ?_ _)); refine blk_put (cs := #[.int .i64 ((rd_T40 l0_6 x81_3).f0), .int .u32 ((rd_T40 l0_6 x81_3).f1), .int .i64 ((rd_T40 l0_6 x81_3).f2), .int .i64 0]) ?_ 3 _ rt; (with_reducible repeat (first | refine blk_drewN ?_ _ | refine blk_drew ?_ | refine blk_alloc ?_ _)); refine blk_put (cs := #[.int .i64 ((rd_T40 l0_6 x81_3).f0), .int .u32 ((rd_T40 l0_6 x81_3).f1), .int .i64 0, .int .i64 0]) ?_ 2 _ rt; (with_reducible repeat (first | refine blk_drewN ?_ _ | refine blk_drew ?_ | refine blk_alloc ?_ _)); refine blk_put (cs := #[.int .i64 ((rd_T40 l0_6 x81_3).f0), .int .u32 0, .int .i64 0, .int .i64 0]) ?_ 1 _ rt; (with_reducible repeat (first | refine blk_drewN ?_ _ | refine blk_drew ?_ | refine blk_alloc ?_ _)); refine blk_put (cs := #[.int .i64 0, .int .u32 0, .int .i64 0, .int .i64 0]) ?_ 0 _ rt; (with_reducible repeat (first | refine blk_drewN ?_ _ | refine blk_drew ?_ | refine blk_alloc ?_ _)); exact BK390.out) hb); replace HB := bs3 HB GE382 GE383 GE390 hb; (try clear hb); (try clear hb2); (try clear hk); (try clear hi)))
                have n0_ := Aside0.mk (blk_drew BK382.out)
                have n1_ := Aside0.mk (blk_drew BK383.out)
                have n2_ := Aside0.mk (blk_drew BK390.out)
                have n3_ := Aside0.mk (below_drew1 HB.out)
                clear BK382
                clear BK383
                clear BK390
                clear HB
                have BK382 := n0_
                have BK383 := n1_
                have BK390 := n2_
                have HB := n3_
                clear n0_ n1_ n2_ n3_
                refine start_ (n := 15) (S := fun w' => w'.cell? ⟨gb382, 0, none⟩ = some (.int .i64 a0_0) ∧ w'.cell? ⟨gb382, 1, none⟩ = some (.int .i64 a0_1) ∧ w'.cell? ⟨gb382, 2, none⟩ = some (.int .i64 a0_2) ∧ w'.cell? ⟨gb382, 3, none⟩ = some (.int .i64 a0_3) ∧ w'.cell? ⟨gb382, 4, none⟩ = some (.int .i64 a0_4) ∧ w'.cell? ⟨gb382, 5, none⟩ = some (.slice A0_5 l0_5.length c0_5) ∧ w'.cell? ⟨gb382, 6, none⟩ = some (.slice (some ad389) l0_6.length c0_6) ∧ w'.cell? ⟨gb382, 7, none⟩ = some (.slice A0_7 l0_7.length c0_7) ∧ w'.cell? ⟨gb382, 8, none⟩ = some (.int .i64 a0_8) ∧ w'.cell? ⟨gb390, 0, none⟩ = some (.int .i64 ((rd_T40 l0_6 x81_3).f0)) ∧ w'.cell? ⟨gb390, 1, none⟩ = some (.int .u32 ((rd_T40 l0_6 x81_3).f1)) ∧ w'.cell? ⟨gb390, 2, none⟩ = some (.int .i64 ((rd_T40 l0_6 x81_3).f2)) ∧ w'.cell? ⟨gb390, 3, none⟩ = some (.int .i64 ((rd_T40 l0_6 x81_3).f3))) (ds := []) #[false, false, false, false, false, false, false, false, false, false, false, false, false, false, false] (by kernel_rfl) rfl rfl ⟨(blk_cell BK382.out 0).trans rfl, (blk_cell BK382.out 1).trans rfl, (blk_cell BK382.out 2).trans rfl, (blk_cell BK382.out 3).trans rfl, (blk_cell BK382.out 4).trans rfl, (blk_cell BK382.out 5).trans rfl, (blk_cell BK382.out 6).trans rfl, (blk_cell BK382.out 7).trans rfl, (blk_cell BK382.out 8).trans rfl, (blk_cell BK390.out 0).trans rfl, (blk_cell BK390.out 1).trans rfl, (blk_cell BK390.out 2).trans rfl, (blk_cell BK390.out 3).trans rfl⟩ (fun hHeld => ?_); refine with_tabW tocsinlaw15_PlanWaits.tab14 tocsinlaw15_PlanWaits.bits14 (fun HT_ HW_ => ?_)
                generalize w55.drew = w56 at BK382 BK383 BK390 HB hHeld ⊢
                refine pl 0 93 #[true, false, false, false, false, false, false, false, false, false, false, false, false, false, false] HT_ ?_
                refine pl 1 94 #[true, true, false, false, false, false, false, false, false, false, false, false, false, false, false] HT_ ?_
                refine pl 2 95 #[true, true, true, false, false, false, false, false, false, false, false, false, false, false, false] HT_ ?_
                refine pl 3 96 #[true, true, true, true, false, false, false, false, false, false, false, false, false, false, false] HT_ ?_
                refine pl 4 97 #[true, true, true, true, true, false, false, false, false, false, false, false, false, false, false] HT_ ?_
                refine pl 5 98 #[true, true, true, true, true, true, false, false, false, false, false, false, false, false, false] HT_ ?_
                refine pl 7 100 #[true, true, true, true, true, true, false, true, false, false, false, false, false, false, false] HT_ ?_
                refine pl 9 102 #[true, true, true, true, true, true, false, true, false, true, false, false, false, false, false] HT_ ?_
                refine pl 10 103 #[true, true, true, true, true, true, false, true, false, true, true, false, false, false, false] HT_ ?_
                refine tk13 6 99 #[true, true, true, true, true, true, true, true, false, true, true, false, false, false, false] HT_ HW_ hHeld ?_
                refine tk13 8 101 #[true, true, true, true, true, true, true, true, true, true, true, false, false, false, false] HT_ HW_ hHeld ?_
                refine tk13 11 104 #[true, true, true, true, true, true, true, true, true, true, true, true, false, false, false] HT_ HW_ hHeld ?_
                refine one_ (i := 12) (N := some 105) #[true, true, true, true, true, true, true, true, true, true, true, true, true, false, false] rfl rfl (one_of HT_.out (by kernel_rfl)) (by decide) (fun K hK => ?_)
                refine gor Try.func21 #[.int .i64 ((rd_T40 l0_6 x81_3).f3)] ?_
                with_reducible refine (frame_Time.calls ((rd_T40 l0_6 x81_3).f3) t393 _ A46.out).mono ?_
                rintro e w57 ⟨rfl, hb⟩
                refine ⟨_, rfl, ?_⟩
                have n0_ := bb BK382 hb
                have n1_ := bb BK383 hb
                have n2_ := bb BK390 hb
                have n3_ := bs3 HB GE382 GE383 GE390 hb
                clear BK382
                clear BK383
                clear BK390
                clear HB
                have BK382 := n0_
                have BK383 := n1_
                have BK390 := n2_
                have HB := n3_
                clear n0_ n1_ n2_ n3_
                (try clear hb)
                (try clear hb2)
                (try clear hk)
                (try clear hi)
                refine hK.out _ _ ⟨(blk_cell BK382.out 0).trans rfl, (blk_cell BK382.out 1).trans rfl, (blk_cell BK382.out 2).trans rfl, (blk_cell BK382.out 3).trans rfl, (blk_cell BK382.out 4).trans rfl, (blk_cell BK382.out 5).trans rfl, (blk_cell BK382.out 6).trans rfl, (blk_cell BK382.out 7).trans rfl, (blk_cell BK382.out 8).trans rfl, (blk_cell BK390.out 0).trans rfl, (blk_cell BK390.out 1).trans rfl, (blk_cell BK390.out 2).trans rfl, (blk_cell BK390.out 3).trans rfl⟩ (fun hHeld => ?_)
                clear hK K
                refine norm_ (a' := ?_) ?_ ?_
                rotate_left
                ·show Act.put _ (some 105) _ = _
                 simp only [Act.put, sT, sZ, sS, i64_w, i32_w]
                 rfl
                refine one_ (i := 13) (N := some 106) #[true, true, true, true, true, true, true, true, true, true, true, true, true, true, false] rfl rfl (one_of HT_.out (by kernel_rfl)) (by decide) (fun K hK => ?_)
                refine gor Try.func19 #[.agg #[.int .i64 a0_0, .int .i64 a0_1, .int .i64 a0_2, .int .i64 a0_3, .int .i64 a0_4, .slice A0_5 l0_5.length c0_5, .slice (some ad389) l0_6.length c0_6, .slice A0_7 l0_7.length c0_7, .int .i64 a0_8], .int .i64 ((rd_T40 l0_6 x81_3).f0), .bool false, .int .i64 t391, .int .i64 t393] ?_
                with_reducible refine (plan_Free.calls k3 a0_0 a0_1 a0_2 a0_3 a0_4 _ _ l0_5 _ _ l0_6 _ _ l0_7 a0_8 ((rd_T40 l0_6 x81_3).f0) false t391 t393 false _ ?side1 ?side2 ?side3 ?side4 ?side5 ?side6 A47.out).mono ?_
                (case side1 => exact kC (Kd.C_below HR0_5.out HB.out))
                (case side2 => exact HC0_5.out)
                (case side3 => exact kC (Kd.C_below HR0_6.out HB.out))
                (case side4 => exact HC0_6.out)
                (case side5 => exact kC (Kd.C_below HR0_7.out HB.out))
                (case side6 => exact HC0_7.out)
                rintro e w58 ⟨rfl, hb⟩
                refine ⟨_, rfl, ?_⟩
                have n0_ := bb BK382 hb
                have n1_ := bb BK383 hb
                have n2_ := bb BK390 hb
                have n3_ := bs3 HB GE382 GE383 GE390 hb
                clear BK382
                clear BK383
                clear BK390
                clear HB
                have BK382 := n0_
                have BK383 := n1_
                have BK390 := n2_
                have HB := n3_
                clear n0_ n1_ n2_ n3_
                (try clear hb)
                (try clear hb2)
                (try clear hk)
                (try clear hi)
                refine hK.out _ _ ⟨(blk_cell BK382.out 0).trans rfl, (blk_cell BK382.out 1).trans rfl, (blk_cell BK382.out 2).trans rfl, (blk_cell BK382.out 3).trans rfl, (blk_cell BK382.out 4).trans rfl, (blk_cell BK382.out 5).trans rfl, (blk_cell BK382.out 6).trans rfl, (blk_cell BK382.out 7).trans rfl, (blk_cell BK382.out 8).trans rfl, (blk_cell BK390.out 0).trans rfl, (blk_cell BK390.out 1).trans rfl, (blk_cell BK390.out 2).trans rfl, (blk_cell BK390.out 3).trans rfl⟩ (fun hHeld => ?_)
                clear hK K
                refine norm_ (a' := ?_) ?_ ?_
                rotate_left
                ·show Act.put _ (some 106) _ = _
                 simp only [Act.put, sT, sZ, sS, i64_w, i32_w]
                 rfl
                refine pl 14 107 #[true, true, true, true, true, true, true, true, true, true, true, true, true, true, true] HT_ ?_
                refine done_ (done_of HT_.out (by kernel_rfl)) ?_
                try go_wp2
                go_roundg k3
                case measure => have := HJ7.out; have := HJ20.out; have := HK3.out; omega
                case rel => exact ⟨(wrap64 (x81_3 + 1)), rs, H', ⟨by have := HJ7.out; have := HJ20.out; have := HK3.out; omega⟩, ⟨bk BK382⟩, ⟨bk BK383⟩, ⟨bw3 HB GE382 GE383 GE390⟩⟩
              ·rw [if_neg c45] at H
               have c45b0 : decide (t391 ≤ 1125899906842624) = false := decide_eq_false c45
               clear c45
               have H' := Aside0.mk H
               clear H
               have p389 : 0 ≤ (x81_3 : Int) := of_decide_eq_true (by first | (with_reducible assumption) | assumption)
               have q389 : x81_3 < (l0_6.length : Int) := of_decide_eq_true (by first | (with_reducible assumption) | assumption)
               obtain ⟨ad389, e389, hx389_0, hx389_1, hx389_2, hx389_3⟩ := at_T40 HR0_6.out x81_3 p389 q389
               cases e389
               replace hx389_0 := pcb HB hx389_0
               replace hx389_1 := pcb HB hx389_1
               replace hx389_2 := pcb HB hx389_2
               replace hx389_3 := pcb HB hx389_3
               replace p389 := eq_true p389
               replace q389 := eq_true q389
               try go_wp2_with (first | ((with_reducible refine gate_dst (N := 14) rfl ?_); refine boxe (N := 14) (cs := #[.int .i64 0, .int .u32 0, .int .i64 0, .int .i64 0]) (t := 40) ?_; intro gb390 hg w59 hbox hb; have BK390 := Aside0.mk (hbox); have GW390 := bg2 hg HB GE382 GE383; have GE390 := GW390; have NB382_390 := nl hg BK382; have NB390_382 := ng hg BK382; have NB383_390 := nl hg BK383; have NB390_383 := ng hg BK383; replace BK382 := bb BK382 hb; replace BK383 := bb BK383 hb; replace HB := bs2 HB GE382 GE383 hb; clear hb hbox hg; have hnb60 := NB390_382.out; have hnc60 := NB382_390.out; have hnb61 := NB390_383.out; have hnc61 := NB383_390.out; obtain ⟨hcz62_0, hcz62_1, hcz62_2, hcz62_3, hfz62_0, hfz62_1, hfz62_2, hfz62_3⟩ := bz4 BK390; have hnb63 := NB382_383.out; have hnc63 := NB383_382.out; obtain ⟨hcz64_0, hcz64_1, hcz64_2, hcz64_3, hcz64_4, hcz64_5, hcz64_6, hcz64_7, hcz64_8, hfz64_0, hfz64_1, hfz64_2, hfz64_3, hfz64_4, hfz64_5, hfz64_6, hfz64_7, hfz64_8⟩ := bz9 BK382) | ((with_reducible refine gate_callee (f := 11) rfl ?_); refine gol (some 90) Try.func11 #[.agg #[.int .i64 a0_0, .int .i64 a0_1, .int .i64 a0_2, .int .i64 a0_3, .int .i64 a0_4, .slice A0_5 l0_5.length c0_5, .slice (some ad389) l0_6.length c0_6, .slice A0_7 l0_7.length c0_7, .int .i64 a0_8], .int .i64 x81_3, .int .i64 a1_1] ?_; (with_reducible refine (plan_Send.calls a0_0 a0_1 a0_2 a0_3 a0_4 _ _ l0_5 _ _ l0_6 _ _ l0_7 a0_8 x81_3 a1_1 t391 true _ ?side1 ?side2 ?side3 ?side4 ?side5 ?side6 A43.out).mono ?_); (case side1 => exact Kd.C_below HR0_5.out (bw3 HB GE382 GE383 GE390)); (case side2 => exact HC0_5.out); (case side3 => exact Kd.C_below HR0_6.out (bw3 HB GE382 GE383 GE390)); (case side4 => exact HC0_6.out); (case side5 => exact Kd.C_below HR0_7.out (bw3 HB GE382 GE383 GE390)); (case side6 => exact HC0_7.out); rintro e w65 ⟨rfl, hb⟩; refine ⟨_, rfl, ?_⟩; replace BK382 := Aside0.mk (blk_below (g := gb382) (o := .cells #[.int .i64 a0_0, .int .i64 a0_1, .int .i64 a0_2, .int .i64 a0_3, .int .i64 a0_4, .slice A0_5 l0_5.length c0_5, .slice (some ad389) l0_6.length c0_6, .slice A0_7 l0_7.length c0_7, .int .i64 a0_8] 26 (0, 0)) (bf1 NB382_390 BK382) hb); replace BK383 := Aside0.mk (blk_below (g := gb383) (o := .cells #[.int .i64 a1_0, .int .i64 a1_1, .int .i64 a1_2] 34 (0, 0)) (bf1 NB383_390 BK383) hb); replace BK390 := Aside0.mk (blk_below (g := gb390) (o := .cells #[.int .i64 ((rd_T40 l0_6 x81_3).f0), .int .u32 ((rd_T40 l0_6 x81_3).f1), .int .i64 ((rd_T40 l0_6 x81_3).f2), .int .i64 ((rd_T40 l0_6 x81_3).f3)] 40 (0, 0)) (by (with_reducible repeat (first | refine blk_drewN ?_ _ | refine blk_drew ?_ | refine blk_alloc ?_ _)); refine blk_put (cs := #[.int .i64 ((rd_T40 l0_6 x81_3).f0), .int .u32 ((rd_T40 l0_6 x81_3).f1), .int .i64 ((rd_T40 l0_6 x81_3).f2), .int .i64 0]) ?_ 3 _ rt; (with_reducible repeat (first | refine blk_drewN ?_ _ | refine blk_drew ?_ | refine blk_alloc ?_ _)); refine blk_put (cs := #[.int .i64 ((rd_T40 l0_6 x81_3).f0), .int .u32 ((rd_T40 l0_6 x81_3).f1), .int .i64 0, .int .i64 0]) ?_ 2 _ rt; (with_reducible repeat (first | refine blk_drewN ?_ _ | refine blk_drew ?_ | refine blk_alloc ?_ _)); refine blk_put (cs := #[.int .i64 ((rd_T40 l0_6 x81_3).f0), .int .u32 0, .int .i64 0, .int .i64 0]) ?_ 1 _ rt; (with_reducible repeat (first | refine blk_drewN ?_ _ | refine blk_drew ?_ | refine blk_alloc ?_ _)); refine blk_put (cs := #[.int .i64 0, .int .u32 0, .int .i64 0, .int .i64 0]) ?_ 0 _ rt; (with_reducible repeat (first | refine blk_drewN ?_ _ | refine blk_drew ?_ | refine blk_alloc ?_ _)); exact BK390.out) hb); replace HB := bs3 HB GE382 GE383 GE390 hb; (try clear hb); (try clear hb2); (try clear hk); (try clear hi)))
               have n0_ := Aside0.mk (blk_drew BK382.out)
               have n1_ := Aside0.mk (blk_drew BK383.out)
               have n2_ := Aside0.mk (blk_drew BK390.out)
               have n3_ := Aside0.mk (below_drew1 HB.out)
               clear BK382
               clear BK383
               clear BK390
               clear HB
               have BK382 := n0_
               have BK383 := n1_
               have BK390 := n2_
               have HB := n3_
               clear n0_ n1_ n2_ n3_
               refine start_ (n := 15) (S := fun w' => True) (ds := []) #[false, false, false, false, false, false, false, false, false, false, false, false, false, false, false] (by kernel_rfl) rfl rfl trivial (fun hHeld => ?_); refine with_tabW tocsinlaw15_PlanWaits.tab14 tocsinlaw15_PlanWaits.bits14 (fun HT_ HW_ => ?_)
               generalize w65.drew = w66 at BK382 BK383 BK390 HB hHeld ⊢
               refine pl 0 93 #[true, false, false, false, false, false, false, false, false, false, false, false, false, false, false] HT_ ?_
               refine pl 1 94 #[true, true, false, false, false, false, false, false, false, false, false, false, false, false, false] HT_ ?_
               refine pl 2 95 #[true, true, true, false, false, false, false, false, false, false, false, false, false, false, false] HT_ ?_
               refine pl 3 96 #[true, true, true, true, false, false, false, false, false, false, false, false, false, false, false] HT_ ?_
               refine pl 4 97 #[true, true, true, true, true, false, false, false, false, false, false, false, false, false, false] HT_ ?_
               refine pl 5 98 #[true, true, true, true, true, true, false, false, false, false, false, false, false, false, false] HT_ ?_
               refine pn 6 99 #[true, true, true, true, true, true, true, false, false, false, false, false, false, false, false] HT_ ?_
               refine pn 7 100 #[true, true, true, true, true, true, true, true, false, false, false, false, false, false, false] HT_ ?_
               refine pn 8 101 #[true, true, true, true, true, true, true, true, true, false, false, false, false, false, false] HT_ ?_
               refine pn 9 102 #[true, true, true, true, true, true, true, true, true, true, false, false, false, false, false] HT_ ?_
               refine pn 10 103 #[true, true, true, true, true, true, true, true, true, true, true, false, false, false, false] HT_ ?_
               refine pn 11 104 #[true, true, true, true, true, true, true, true, true, true, true, true, false, false, false] HT_ ?_
               refine pn 12 105 #[true, true, true, true, true, true, true, true, true, true, true, true, true, false, false] HT_ ?_
               refine pn 13 106 #[true, true, true, true, true, true, true, true, true, true, true, true, true, true, false] HT_ ?_
               refine pl 14 107 #[true, true, true, true, true, true, true, true, true, true, true, true, true, true, true] HT_ ?_
               refine done_ (done_of HT_.out (by kernel_rfl)) ?_
               try go_wp2
               go_roundg k3
               case measure => have := HJ7.out; have := HJ20.out; have := HK3.out; omega
               case rel => exact ⟨(wrap64 (x81_3 + 1)), rs, H', ⟨by have := HJ7.out; have := HJ20.out; have := HK3.out; omega⟩, ⟨bk BK382⟩, ⟨bk BK383⟩, ⟨bw3 HB GE382 GE383 GE390⟩⟩
             ·replace c44 := Bool.eq_false_iff.mpr c44
              subst c44
              have H1 : (tocsinlaw15_PlanWaits.l0 k3 a1_1 l0_6 (l0_6.length : Int) (wrap64 (x81_3 + 1)) a0_0 a0_1 a0_2 a0_3 a0_4 l0_5 l0_6 l0_7 a0_8) = some r := by rw [if_neg (show ¬ (false = true) by decide)] at H; exact H
              clear H
              have H := H1
              clear H1
              have H' := Aside0.mk H
              clear H
              have p389 : 0 ≤ (x81_3 : Int) := of_decide_eq_true (by first | (with_reducible assumption) | assumption)
              have q389 : x81_3 < (l0_6.length : Int) := of_decide_eq_true (by first | (with_reducible assumption) | assumption)
              obtain ⟨ad389, e389, hx389_0, hx389_1, hx389_2, hx389_3⟩ := at_T40 HR0_6.out x81_3 p389 q389
              cases e389
              replace hx389_0 := pcb HB hx389_0
              replace hx389_1 := pcb HB hx389_1
              replace hx389_2 := pcb HB hx389_2
              replace hx389_3 := pcb HB hx389_3
              replace p389 := eq_true p389
              replace q389 := eq_true q389
              try go_wp2_with (first | ((with_reducible refine gate_dst (N := 14) rfl ?_); refine boxe (N := 14) (cs := #[.int .i64 0, .int .u32 0, .int .i64 0, .int .i64 0]) (t := 40) ?_; intro gb390 hg w67 hbox hb; have BK390 := Aside0.mk (hbox); have GW390 := bg2 hg HB GE382 GE383; have GE390 := GW390; have NB382_390 := nl hg BK382; have NB390_382 := ng hg BK382; have NB383_390 := nl hg BK383; have NB390_383 := ng hg BK383; replace BK382 := bb BK382 hb; replace BK383 := bb BK383 hb; replace HB := bs2 HB GE382 GE383 hb; clear hb hbox hg; have hnb68 := NB390_382.out; have hnc68 := NB382_390.out; have hnb69 := NB390_383.out; have hnc69 := NB383_390.out; obtain ⟨hcz70_0, hcz70_1, hcz70_2, hcz70_3, hfz70_0, hfz70_1, hfz70_2, hfz70_3⟩ := bz4 BK390; have hnb71 := NB382_383.out; have hnc71 := NB383_382.out; obtain ⟨hcz72_0, hcz72_1, hcz72_2, hcz72_3, hcz72_4, hcz72_5, hcz72_6, hcz72_7, hcz72_8, hfz72_0, hfz72_1, hfz72_2, hfz72_3, hfz72_4, hfz72_5, hfz72_6, hfz72_7, hfz72_8⟩ := bz9 BK382) | ((with_reducible refine gate_callee (f := 11) rfl ?_); refine gol (some 90) Try.func11 #[.agg #[.int .i64 a0_0, .int .i64 a0_1, .int .i64 a0_2, .int .i64 a0_3, .int .i64 a0_4, .slice A0_5 l0_5.length c0_5, .slice (some ad389) l0_6.length c0_6, .slice A0_7 l0_7.length c0_7, .int .i64 a0_8], .int .i64 x81_3, .int .i64 a1_1] ?_; (with_reducible refine (plan_Send.calls a0_0 a0_1 a0_2 a0_3 a0_4 _ _ l0_5 _ _ l0_6 _ _ l0_7 a0_8 x81_3 a1_1 t391 false _ ?side1 ?side2 ?side3 ?side4 ?side5 ?side6 A43.out).mono ?_); (case side1 => exact Kd.C_below HR0_5.out (bw3 HB GE382 GE383 GE390)); (case side2 => exact HC0_5.out); (case side3 => exact Kd.C_below HR0_6.out (bw3 HB GE382 GE383 GE390)); (case side4 => exact HC0_6.out); (case side5 => exact Kd.C_below HR0_7.out (bw3 HB GE382 GE383 GE390)); (case side6 => exact HC0_7.out); rintro e w73 ⟨rfl, hb⟩; refine ⟨_, rfl, ?_⟩; replace BK382 := Aside0.mk (blk_below (g := gb382) (o := .cells #[.int .i64 a0_0, .int .i64 a0_1, .int .i64 a0_2, .int .i64 a0_3, .int .i64 a0_4, .slice A0_5 l0_5.length c0_5, .slice (some ad389) l0_6.length c0_6, .slice A0_7 l0_7.length c0_7, .int .i64 a0_8] 26 (0, 0)) (bf1 NB382_390 BK382) hb); replace BK383 := Aside0.mk (blk_below (g := gb383) (o := .cells #[.int .i64 a1_0, .int .i64 a1_1, .int .i64 a1_2] 34 (0, 0)) (bf1 NB383_390 BK383) hb); replace BK390 := Aside0.mk (blk_below (g := gb390) (o := .cells #[.int .i64 ((rd_T40 l0_6 x81_3).f0), .int .u32 ((rd_T40 l0_6 x81_3).f1), .int .i64 ((rd_T40 l0_6 x81_3).f2), .int .i64 ((rd_T40 l0_6 x81_3).f3)] 40 (0, 0)) (by (with_reducible repeat (first | refine blk_drewN ?_ _ | refine blk_drew ?_ | refine blk_alloc ?_ _)); refine blk_put (cs := #[.int .i64 ((rd_T40 l0_6 x81_3).f0), .int .u32 ((rd_T40 l0_6 x81_3).f1), .int .i64 ((rd_T40 l0_6 x81_3).f2), .int .i64 0]) ?_ 3 _ rt; (with_reducible repeat (first | refine blk_drewN ?_ _ | refine blk_drew ?_ | refine blk_alloc ?_ _)); refine blk_put (cs := #[.int .i64 ((rd_T40 l0_6 x81_3).f0), .int .u32 ((rd_T40 l0_6 x81_3).f1), .int .i64 0, .int .i64 0]) ?_ 2 _ rt; (with_reducible repeat (first | refine blk_drewN ?_ _ | refine blk_drew ?_ | refine blk_alloc ?_ _)); refine blk_put (cs := #[.int .i64 ((rd_T40 l0_6 x81_3).f0), .int .u32 0, .int .i64 0, .int .i64 0]) ?_ 1 _ rt; (with_reducible repeat (first | refine blk_drewN ?_ _ | refine blk_drew ?_ | refine blk_alloc ?_ _)); refine blk_put (cs := #[.int .i64 0, .int .u32 0, .int .i64 0, .int .i64 0]) ?_ 0 _ rt; (with_reducible repeat (first | refine blk_drewN ?_ _ | refine blk_drew ?_ | refine blk_alloc ?_ _)); exact BK390.out) hb); replace HB := bs3 HB GE382 GE383 GE390 hb; (try clear hb); (try clear hb2); (try clear hk); (try clear hi)))
              have n0_ := Aside0.mk (blk_drew BK382.out)
              have n1_ := Aside0.mk (blk_drew BK383.out)
              have n2_ := Aside0.mk (blk_drew BK390.out)
              have n3_ := Aside0.mk (below_drew1 HB.out)
              clear BK382
              clear BK383
              clear BK390
              clear HB
              have BK382 := n0_
              have BK383 := n1_
              have BK390 := n2_
              have HB := n3_
              clear n0_ n1_ n2_ n3_
              refine start_ (n := 15) (S := fun w' => True) (ds := []) #[false, false, false, false, false, false, false, false, false, false, false, false, false, false, false] (by kernel_rfl) rfl rfl trivial (fun hHeld => ?_); refine with_tabW tocsinlaw15_PlanWaits.tab14 tocsinlaw15_PlanWaits.bits14 (fun HT_ HW_ => ?_)
              generalize w73.drew = w74 at BK382 BK383 BK390 HB hHeld ⊢
              refine pl 0 93 #[true, false, false, false, false, false, false, false, false, false, false, false, false, false, false] HT_ ?_
              refine pl 1 94 #[true, true, false, false, false, false, false, false, false, false, false, false, false, false, false] HT_ ?_
              refine pn 2 95 #[true, true, true, false, false, false, false, false, false, false, false, false, false, false, false] HT_ ?_
              refine pn 3 96 #[true, true, true, true, false, false, false, false, false, false, false, false, false, false, false] HT_ ?_
              refine pl 4 97 #[true, true, true, true, true, false, false, false, false, false, false, false, false, false, false] HT_ ?_
              refine pl 5 98 #[true, true, true, true, true, true, false, false, false, false, false, false, false, false, false] HT_ ?_
              refine pn 6 99 #[true, true, true, true, true, true, true, false, false, false, false, false, false, false, false] HT_ ?_
              refine pn 7 100 #[true, true, true, true, true, true, true, true, false, false, false, false, false, false, false] HT_ ?_
              refine pn 8 101 #[true, true, true, true, true, true, true, true, true, false, false, false, false, false, false] HT_ ?_
              refine pn 9 102 #[true, true, true, true, true, true, true, true, true, true, false, false, false, false, false] HT_ ?_
              refine pn 10 103 #[true, true, true, true, true, true, true, true, true, true, true, false, false, false, false] HT_ ?_
              refine pn 11 104 #[true, true, true, true, true, true, true, true, true, true, true, true, false, false, false] HT_ ?_
              refine pn 12 105 #[true, true, true, true, true, true, true, true, true, true, true, true, true, false, false] HT_ ?_
              refine pn 13 106 #[true, true, true, true, true, true, true, true, true, true, true, true, true, true, false] HT_ ?_
              refine pl 14 107 #[true, true, true, true, true, true, true, true, true, true, true, true, true, true, true] HT_ ?_
              refine done_ (done_of HT_.out (by kernel_rfl)) ?_
              try go_wp2
              go_roundg k3
              case measure => have := HJ7.out; have := HJ20.out; have := HK3.out; omega
              case rel => exact ⟨(wrap64 (x81_3 + 1)), rs, H', ⟨by have := HJ7.out; have := HJ20.out; have := HK3.out; omega⟩, ⟨bk BK382⟩, ⟨bk BK383⟩, ⟨bw3 HB GE382 GE383 GE390⟩⟩
            ·rw [if_neg c42] at H
             exact absurd H (by simp)
           ·rw [if_neg c41] at H
            exact absurd H (by simp)
          ·rw [if_neg c40] at H
           have c40b0 : decide (x81_3 < (l0_6.length : Int)) = false := decide_eq_false c40
           clear c40
           obtain rfl := Option.some.inj H
           go_wp2
           all_goals try (exfalso; (try have z0_ := of_decide_eq_true c40b0); (try have z1_ := of_decide_eq_false c40b0); omega)
           go_ret
           exact ⟨re, bw2 HB GE382 GE383⟩
 ·replace c5 := Bool.eq_false_iff.mpr c5
  subst c5
  have H1 : (none) = some r := by rw [if_neg (show ¬ (false = true) by decide)] at H; exact H
  clear H
  have H := H1
  clear H1
  exact absurd H (by simp)
end Go.Proofs.Ytbmldeikjfecfaa.T
