/- A part of the proof of the statement PlanFrees: words, contracts of functions that it reaches, and what they compute. No condition. -/
import Derived.Test.YtbmldeikjfecfaaI01
import Derived.Test.YtbmldeikjfecfaaI04
import Derived.Test.YtbmldeikjfecfaaI12
import Derived.Test.YtbmldeikjfecfaaI46
import Derived.Test.YtbmldeikjfecfaaI47
set_option linter.unusedVariables false
set_option linter.unusedSimpArgs false
namespace Go.Proofs.Ytbmldeikjfecfaa.T
open Go.RowKit Go.Proofs.YtbmldeikjfecfaaW.PrintWords Go.Proofs.YtbmldeikjfecfaaW.PrintLast Go.Proofs.YtbmldeikjfecfaaW.PrintMore
attribute [local go_sem] max2_int min2_int max_two min_two max_three min_three max_four min_four
attribute [local go_sem] at34_0 at34_1 at34_2 at42_0 at42_1 at42_2 at42_3 at47_0 at47_1 at47_2 at47_3 at47_4
mutual
def tocsinref15_Wait.l0 : Nat → Int → Bool → Int → Int → Int → Bool → Int → Int → Int → Int → Int → Int → List (List Int) → List (S40) → List (S63) → Int → Option (Int × Bool)
 | 0, _, _, _, _, _, _, _, _, _, _, _, _, _, _, _, _ => none
 | k + 1, x1, x2, x3, x4, x12, x13, x14, x360000, x360001, x360002, x360003, x360004, x360005, x360006, x360007, x360008 => if x14 < (x360006.length : Int) then (if 0 ≤ x14 then ((tocsinref06_Time.f ((rd_T40 x360006 x14).f3)).bind fun t364 => (if x2 = true then ((tocsinref08_Times.f x360000 x360001 x360002 x360003 x360004 x360005 x360006 x360007 x360008 ((rd_T40 x360006 x14).f0) ((rd_T40 x360006 x14).f1) ((rd_T40 x360006 x14).f2) ((rd_T40 x360006 x14).f3)).bind fun bt365 => ((tocsinref06_Time.f ((rd_T40 x360006 x14).f3)).bind fun t370 => (tocsinref15_Wait.j1 k x1 x2 x3 x4 x12 x13 x14 (wrap64 (bt365.2.2.1 + t370)) x360000 x360001 x360002 x360003 x360004 x360005 x360006 x360007 x360008))) else (tocsinref15_Wait.j1 k x1 x2 x3 x4 x12 x13 x14 (wrap64 (((rd_T40 x360006 x14).f2) + t364)) x360000 x360001 x360002 x360003 x360004 x360005 x360006 x360007 x360008))) else (none)) else (some (x12, x13))
def tocsinref15_Wait.j1 : Nat → Int → Bool → Int → Int → Int → Bool → Int → Int → Int → Int → Int → Int → Int → List (List Int) → List (S40) → List (S63) → Int → Option (Int × Bool)
 | 0, _, _, _, _, _, _, _, _, _, _, _, _, _, _, _, _, _ => none
 | k + 1, x1, x2, x3, x4, x12, x13, x14, x16, x360000, x360001, x360002, x360003, x360004, x360005, x360006, x360007, x360008 => if x360001 = 0 then (none) else (tocsinref15_Wait.l1 k x1 x2 x3 x4 x12 x13 x14 x16 (wrap64 ((wrap64 (Int.tdiv x3 x360001)) - 1)) x360000 x360001 x360002 x360003 x360004 x360005 x360006 x360007 x360008)
def tocsinref15_Wait.l1 : Nat → Int → Bool → Int → Int → Int → Bool → Int → Int → Int → Int → Int → Int → Int → Int → List (List Int) → List (S40) → List (S63) → Int → Option (Int × Bool)
 | 0, _, _, _, _, _, _, _, _, _, _, _, _, _, _, _, _, _, _ => none
 | k + 1, x1, x2, x3, x4, x12, x13, x14, x16, x17, x360000, x360001, x360002, x360003, x360004, x360005, x360006, x360007, x360008 => if x360001 = 0 then (none) else (if x17 ≤ (wrap64 ((wrap64 (Int.tdiv x3 x360001)) + 3)) then (if (wrap64 ((wrap64 (x17 * x360001)) + x16)) ≥ x3 then (if (wrap64 ((wrap64 (x17 * x360001)) + x16)) ≤ (wrap64 (x3 + (wrap64 (2 * x360001)))) then (if x13 = true then (if (wrap64 ((wrap64 (x17 * x360001)) + x16)) < x12 then ((tocsinref15_free.f k x360000 x360001 x360002 x360003 x360004 x360005 x360006 x360007 x360008 x1 x2 (wrap64 ((wrap64 (x17 * x360001)) + x16)) x4).bind fun t371 => (if t371 = true then (tocsinref15_Wait.l1 k x1 x2 x3 x4 (wrap64 ((wrap64 (x17 * x360001)) + x16)) true x14 x16 (wrap64 (x17 + 1)) x360000 x360001 x360002 x360003 x360004 x360005 x360006 x360007 x360008) else (tocsinref15_Wait.l1 k x1 x2 x3 x4 x12 x13 x14 x16 (wrap64 (x17 + 1)) x360000 x360001 x360002 x360003 x360004 x360005 x360006 x360007 x360008))) else (tocsinref15_Wait.l1 k x1 x2 x3 x4 x12 x13 x14 x16 (wrap64 (x17 + 1)) x360000 x360001 x360002 x360003 x360004 x360005 x360006 x360007 x360008)) else ((tocsinref15_free.f k x360000 x360001 x360002 x360003 x360004 x360005 x360006 x360007 x360008 x1 x2 (wrap64 ((wrap64 (x17 * x360001)) + x16)) x4).bind fun t372 => (if t372 = true then (tocsinref15_Wait.l1 k x1 x2 x3 x4 (wrap64 ((wrap64 (x17 * x360001)) + x16)) true x14 x16 (wrap64 (x17 + 1)) x360000 x360001 x360002 x360003 x360004 x360005 x360006 x360007 x360008) else (tocsinref15_Wait.l1 k x1 x2 x3 x4 x12 x13 x14 x16 (wrap64 (x17 + 1)) x360000 x360001 x360002 x360003 x360004 x360005 x360006 x360007 x360008)))) else (tocsinref15_Wait.l1 k x1 x2 x3 x4 x12 x13 x14 x16 (wrap64 (x17 + 1)) x360000 x360001 x360002 x360003 x360004 x360005 x360006 x360007 x360008)) else (tocsinref15_Wait.l1 k x1 x2 x3 x4 x12 x13 x14 x16 (wrap64 (x17 + 1)) x360000 x360001 x360002 x360003 x360004 x360005 x360006 x360007 x360008)) else (tocsinref15_Wait.l0 k x1 x2 x3 x4 x12 x13 (wrap64 (x14 + 1)) x360000 x360001 x360002 x360003 x360004 x360005 x360006 x360007 x360008))
end
def tocsinref15_Wait.f (k : Nat) (a0_0 : Int) (a0_1 : Int) (a0_2 : Int) (a0_3 : Int) (a0_4 : Int) (l0_5 : List (List Int)) (l0_6 : List (S40)) (l0_7 : List (S63)) (a0_8 : Int) (a1 : Int) (a2 : Bool) (a3 : Int) (a4 : Int) : Option (Int × Bool) := (tocsinref15_Wire.f k a0_0 a0_1 a0_2 a0_3 a0_4 l0_5 l0_6 l0_7 a0_8 a1 a3 a4).bind fun t360 => (if t360 = true then ((tocsinref15_free.f k a0_0 a0_1 a0_2 a0_3 a0_4 l0_5 l0_6 l0_7 a0_8 a1 a2 a3 a4).bind fun t361 => (if t361 = true then (some (a3, true)) else (tocsinref15_Wait.l0 k a1 a2 a3 a4 0 false 0 a0_0 a0_1 a0_2 a0_3 a0_4 l0_5 l0_6 l0_7 a0_8))) else (some (0, false)))
theorem tocsinref15_Wait.mono_l : ∀ k, (∀ y0 y1 y2 y3 y4 y5 y6 y7 y8 y9 y10 y11 y12 y13 y14 y15, LeO (tocsinref15_Wait.l0 k y0 y1 y2 y3 y4 y5 y6 y7 y8 y9 y10 y11 y12 y13 y14 y15) (tocsinref15_Wait.l0 (k + 1) y0 y1 y2 y3 y4 y5 y6 y7 y8 y9 y10 y11 y12 y13 y14 y15)) ∧ (∀ y0 y1 y2 y3 y4 y5 y6 y7 y8 y9 y10 y11 y12 y13 y14 y15 y16, LeO (tocsinref15_Wait.j1 k y0 y1 y2 y3 y4 y5 y6 y7 y8 y9 y10 y11 y12 y13 y14 y15 y16) (tocsinref15_Wait.j1 (k + 1) y0 y1 y2 y3 y4 y5 y6 y7 y8 y9 y10 y11 y12 y13 y14 y15 y16)) ∧ (∀ y0 y1 y2 y3 y4 y5 y6 y7 y8 y9 y10 y11 y12 y13 y14 y15 y16 y17, LeO (tocsinref15_Wait.l1 k y0 y1 y2 y3 y4 y5 y6 y7 y8 y9 y10 y11 y12 y13 y14 y15 y16 y17) (tocsinref15_Wait.l1 (k + 1) y0 y1 y2 y3 y4 y5 y6 y7 y8 y9 y10 y11 y12 y13 y14 y15 y16 y17))
 | 0 => ⟨fun _ _ _ _ _ _ _ _ _ _ _ _ _ _ _ _ r h => by simp [tocsinref15_Wait.l0] at h, fun _ _ _ _ _ _ _ _ _ _ _ _ _ _ _ _ _ r h => by simp [tocsinref15_Wait.j1] at h, fun _ _ _ _ _ _ _ _ _ _ _ _ _ _ _ _ _ _ r h => by simp [tocsinref15_Wait.l1] at h⟩
 | k + 1 => by
  obtain ⟨ih0, ih1, ih2⟩ := tocsinref15_Wait.mono_l k
  refine ⟨?_, ?_, ?_⟩
  ·intro y0 y1 y2 y3 y4 y5 y6 y7 y8 y9 y10 y11 y12 y13 y14 y15
   unfold tocsinref15_Wait.l0
   repeat' first
   | (with_reducible exact ih0 _ _ _ _ _ _ _ _ _ _ _ _ _ _ _ _)
   | (with_reducible exact ih1 _ _ _ _ _ _ _ _ _ _ _ _ _ _ _ _ _)
   | (with_reducible exact ih2 _ _ _ _ _ _ _ _ _ _ _ _ _ _ _ _ _ _)
   | (with_reducible exact tocsinref15_Wire.mono _ _ _ _ _ _ _ _ _ _ _ _ _)
   | (with_reducible exact tocsinref15_free.mono _ _ _ _ _ _ _ _ _ _ _ _ _ _)
   | (with_reducible exact LeO.refl _)
   | (with_reducible exact LeO.none _)
   | (with_reducible refine LeO.ite ?_ ?_)
   | (with_reducible refine LeO.bind ?_ (fun _ => ?_))
   | exact ih0 _ _ _ _ _ _ _ _ _ _ _ _ _ _ _ _
   | exact ih1 _ _ _ _ _ _ _ _ _ _ _ _ _ _ _ _ _
   | exact ih2 _ _ _ _ _ _ _ _ _ _ _ _ _ _ _ _ _ _
   | exact tocsinref15_Wire.mono _ _ _ _ _ _ _ _ _ _ _ _ _
   | exact tocsinref15_free.mono _ _ _ _ _ _ _ _ _ _ _ _ _ _
   | exact LeO.none _
   | refine LeO.ite ?_ ?_
   | refine LeO.bind ?_ (fun _ => ?_)
  ·intro y0 y1 y2 y3 y4 y5 y6 y7 y8 y9 y10 y11 y12 y13 y14 y15 y16
   unfold tocsinref15_Wait.j1
   repeat' first
   | (with_reducible exact ih0 _ _ _ _ _ _ _ _ _ _ _ _ _ _ _ _)
   | (with_reducible exact ih1 _ _ _ _ _ _ _ _ _ _ _ _ _ _ _ _ _)
   | (with_reducible exact ih2 _ _ _ _ _ _ _ _ _ _ _ _ _ _ _ _ _ _)
   | (with_reducible exact tocsinref15_Wire.mono _ _ _ _ _ _ _ _ _ _ _ _ _)
   | (with_reducible exact tocsinref15_free.mono _ _ _ _ _ _ _ _ _ _ _ _ _ _)
   | (with_reducible exact LeO.refl _)
   | (with_reducible exact LeO.none _)
   | (with_reducible refine LeO.ite ?_ ?_)
   | (with_reducible refine LeO.bind ?_ (fun _ => ?_))
   | exact ih0 _ _ _ _ _ _ _ _ _ _ _ _ _ _ _ _
   | exact ih1 _ _ _ _ _ _ _ _ _ _ _ _ _ _ _ _ _
   | exact ih2 _ _ _ _ _ _ _ _ _ _ _ _ _ _ _ _ _ _
   | exact tocsinref15_Wire.mono _ _ _ _ _ _ _ _ _ _ _ _ _
   | exact tocsinref15_free.mono _ _ _ _ _ _ _ _ _ _ _ _ _ _
   | exact LeO.none _
   | refine LeO.ite ?_ ?_
   | refine LeO.bind ?_ (fun _ => ?_)
  ·intro y0 y1 y2 y3 y4 y5 y6 y7 y8 y9 y10 y11 y12 y13 y14 y15 y16 y17
   unfold tocsinref15_Wait.l1
   repeat' first
   | (with_reducible exact ih0 _ _ _ _ _ _ _ _ _ _ _ _ _ _ _ _)
   | (with_reducible exact ih1 _ _ _ _ _ _ _ _ _ _ _ _ _ _ _ _ _)
   | (with_reducible exact ih2 _ _ _ _ _ _ _ _ _ _ _ _ _ _ _ _ _ _)
   | (with_reducible exact tocsinref15_Wire.mono _ _ _ _ _ _ _ _ _ _ _ _ _)
   | (with_reducible exact tocsinref15_free.mono _ _ _ _ _ _ _ _ _ _ _ _ _ _)
   | (with_reducible exact LeO.refl _)
   | (with_reducible exact LeO.none _)
   | (with_reducible refine LeO.ite ?_ ?_)
   | (with_reducible refine LeO.bind ?_ (fun _ => ?_))
   | exact ih0 _ _ _ _ _ _ _ _ _ _ _ _ _ _ _ _
   | exact ih1 _ _ _ _ _ _ _ _ _ _ _ _ _ _ _ _ _
   | exact ih2 _ _ _ _ _ _ _ _ _ _ _ _ _ _ _ _ _ _
   | exact tocsinref15_Wire.mono _ _ _ _ _ _ _ _ _ _ _ _ _
   | exact tocsinref15_free.mono _ _ _ _ _ _ _ _ _ _ _ _ _ _
   | exact LeO.none _
   | refine LeO.ite ?_ ?_
   | refine LeO.bind ?_ (fun _ => ?_)
theorem tocsinref15_Wait.mono : ∀ a0 a1 a2 a3 a4 a5 a6 a7 a8 a9 a10 a11 a12 k, LeO (tocsinref15_Wait.f k a0 a1 a2 a3 a4 a5 a6 a7 a8 a9 a10 a11 a12) (tocsinref15_Wait.f (k + 1) a0 a1 a2 a3 a4 a5 a6 a7 a8 a9 a10 a11 a12) := by
 intro a0 a1 a2 a3 a4 a5 a6 a7 a8 a9 a10 a11 a12 k
 obtain ⟨ih0, ih1, ih2⟩ := tocsinref15_Wait.mono_l k
 unfold tocsinref15_Wait.f
 repeat' first
   | (with_reducible exact ih0 _ _ _ _ _ _ _ _ _ _ _ _ _ _ _ _)
   | (with_reducible exact ih1 _ _ _ _ _ _ _ _ _ _ _ _ _ _ _ _ _)
   | (with_reducible exact ih2 _ _ _ _ _ _ _ _ _ _ _ _ _ _ _ _ _ _)
   | (with_reducible exact tocsinref15_Wire.mono _ _ _ _ _ _ _ _ _ _ _ _ _)
   | (with_reducible exact tocsinref15_free.mono _ _ _ _ _ _ _ _ _ _ _ _ _ _)
   | (with_reducible exact LeO.refl _)
   | (with_reducible exact LeO.none _)
   | (with_reducible refine LeO.ite ?_ ?_)
   | (with_reducible refine LeO.bind ?_ (fun _ => ?_))
   | exact ih0 _ _ _ _ _ _ _ _ _ _ _ _ _ _ _ _
   | exact ih1 _ _ _ _ _ _ _ _ _ _ _ _ _ _ _ _ _
   | exact ih2 _ _ _ _ _ _ _ _ _ _ _ _ _ _ _ _ _ _
   | exact tocsinref15_Wire.mono _ _ _ _ _ _ _ _ _ _ _ _ _
   | exact tocsinref15_free.mono _ _ _ _ _ _ _ _ _ _ _ _ _ _
   | exact LeO.none _
   | refine LeO.ite ?_ ?_
   | refine LeO.bind ?_ (fun _ => ?_)
def tocsinref15_Wait.T12 : Bool × List (List Nat × List Nat) := (true, [([], []), ([], []), ([0, 1], [0, 1]), ([2], [2]), ([], []), ([4], [4]), ([5, 2], [5]), ([3, 6], [3, 6]), ([7, 6, 0, 1, 2, 3, 4, 5, 6, 7], [7])])
def tocsinref15_Wait.B12 : List Nat := [0, 0, 3, 7, 0, 16, 55, 127, 255]
theorem tocsinref15_Wait.tab12 : rtab .any (opsOf Try.f18 12) = tocsinref15_Wait.T12 := by kernel_rfl
theorem tocsinref15_Wait.bits12 : waitsOk tocsinref15_Wait.T12.2 tocsinref15_Wait.B12 = true := by kernel_rfl
set_option maxHeartbeats 8000000 in
set_option maxRecDepth 100000 in
theorem tocsinref15_Wait.calls (k : Nat) (a0_0 : Int) (a0_1 : Int) (a0_2 : Int) (a0_3 : Int) (a0_4 : Int) (A0_5 : Option Addr) (c0_5 : Nat) (l0_5 : List (List Int)) (A0_6 : Option Addr) (c0_6 : Nat) (l0_6 : List (S40)) (A0_7 : Option Addr) (c0_7 : Nat) (l0_7 : List (S63)) (a0_8 : Int) (a1 : Int) (a2 : Bool) (a3 : Int) (a4 : Int) (r1 : Int) (r2 : Bool) (w : World) (hr0_5 : Kd.C (Kd.slice 2 (Kd.int .i64)) w A0_5 l0_5.length l0_5) (hc0_5 : l0_5.length ≤ c0_5) (hr0_6 : Kd.C k40 w A0_6 l0_6.length l0_6) (hc0_6 : l0_6.length ≤ c0_6) (hr0_7 : Kd.C k63 w A0_7 l0_7.length l0_7) (hc0_7 : l0_7.length ≤ c0_7) (h : tocsinref15_Wait.f k a0_0 a0_1 a0_2 a0_3 a0_4 l0_5 l0_6 l0_7 a0_8 a1 a2 a3 a4 = some (r1, r2)) :
  Calls Try.prog 18 #[.agg #[.int .i64 a0_0, .int .i64 a0_1, .int .i64 a0_2, .int .i64 a0_3, .int .i64 a0_4, .slice A0_5 l0_5.length c0_5, .slice A0_6 l0_6.length c0_6, .slice A0_7 l0_7.length c0_7, .int .i64 a0_8], .int .i64 a1, .bool a2, .int .i64 a3, .int .i64 a4] w fun e w' => e = .returned (.tuple #[.int .i64 r1, .bool r2]) ∧ Below w.heap.size w w' := by
 have hu26 := Try.underlying26
 have hu40 := Try.underlying40
 have HR0_5 := Aside0.mk hr0_5
 have HC0_5 := Aside0.mk hc0_5
 clear hr0_5 hc0_5
 have HR0_6 := Aside0.mk hr0_6
 have HC0_6 := Aside0.mk hc0_6
 clear hr0_6 hc0_6
 have HR0_7 := Aside0.mk hr0_7
 have HC0_7 := Aside0.mk hc0_7
 clear hr0_7 hc0_7
 have HB := Aside0.mk (Below.refl w.heap.size w)
 have H : ((tocsinref15_Wire.f k a0_0 a0_1 a0_2 a0_3 a0_4 l0_5 l0_6 l0_7 a0_8 a1 a3 a4).bind fun t360 => (if t360 = true then ((tocsinref15_free.f k a0_0 a0_1 a0_2 a0_3 a0_4 l0_5 l0_6 l0_7 a0_8 a1 a2 a3 a4).bind fun t361 => (if t361 = true then (some (a3, true)) else (tocsinref15_Wait.l0 k a1 a2 a3 a4 0 false 0 a0_0 a0_1 a0_2 a0_3 a0_4 l0_5 l0_6 l0_7 a0_8))) else (some (0, false)))) = some (r1, r2) := h
 clear h
 replace H := Option.bind_eq_some_iff.mp H
 obtain ⟨t360, A60, H⟩ := H
 replace H : (if t360 = true then ((tocsinref15_free.f k a0_0 a0_1 a0_2 a0_3 a0_4 l0_5 l0_6 l0_7 a0_8 a1 a2 a3 a4).bind fun t361 => (if t361 = true then (some (a3, true)) else (tocsinref15_Wait.l0 k a1 a2 a3 a4 0 false 0 a0_0 a0_1 a0_2 a0_3 a0_4 l0_5 l0_6 l0_7 a0_8))) else (some (0, false))) = some (r1, r2) := H
 have A6 := Aside0.mk A60
 clear A60
 by_cases c7 : t360 = true
 ·subst c7
  have H1 : ((tocsinref15_free.f k a0_0 a0_1 a0_2 a0_3 a0_4 l0_5 l0_6 l0_7 a0_8 a1 a2 a3 a4).bind fun t361 => (if t361 = true then (some (a3, true)) else (tocsinref15_Wait.l0 k a1 a2 a3 a4 0 false 0 a0_0 a0_1 a0_2 a0_3 a0_4 l0_5 l0_6 l0_7 a0_8))) = some (r1, r2) := by rw [if_pos rfl] at H; exact H
  clear H
  have H := H1
  clear H1
  replace H := Option.bind_eq_some_iff.mp H
  obtain ⟨t361, A80, H⟩ := H
  replace H : (if t361 = true then (some (a3, true)) else (tocsinref15_Wait.l0 k a1 a2 a3 a4 0 false 0 a0_0 a0_1 a0_2 a0_3 a0_4 l0_5 l0_6 l0_7 a0_8)) = some (r1, r2) := H
  have A8 := Aside0.mk A80
  clear A80
  by_cases c9 : t361 = true
  ·subst c9
   have H1 : (some (a3, true)) = some (r1, r2) := by rw [if_pos rfl] at H; exact H
   clear H
   have H := H1
   clear H1
   simp only [Option.some.injEq, Prod.mk.injEq] at H
   obtain ⟨rfl, rfl⟩ := H
   go_enter Try.func18, Try.ntmps18
   go_wp2_with (first | ((with_reducible refine gate_dst (N := 5) rfl ?_); refine boxe (N := 5) (cs := #[.int .i64 a0_0, .int .i64 a0_1, .int .i64 a0_2, .int .i64 a0_3, .int .i64 a0_4, .slice A0_5 l0_5.length c0_5, .slice A0_6 l0_6.length c0_6, .slice A0_7 l0_7.length c0_7, .int .i64 a0_8]) (t := 26) ?_; intro gb359 hg w10 hbox hb; have BK359 := Aside0.mk (hbox); have GW359 := bg0 hg HB; have GE359 := GW359; replace HB := bs0 HB hb; clear hb hbox hg; obtain ⟨hcz11_0, hcz11_1, hcz11_2, hcz11_3, hcz11_4, hcz11_5, hcz11_6, hcz11_7, hcz11_8, hfz11_0, hfz11_1, hfz11_2, hfz11_3, hfz11_4, hfz11_5, hfz11_6, hfz11_7, hfz11_8⟩ := bz9 BK359) | ((with_reducible refine gate_callee (f := 37) rfl ?_); refine gol (some 23) Try.func37 #[.agg #[.int .i64 a0_0, .int .i64 a0_1, .int .i64 a0_2, .int .i64 a0_3, .int .i64 a0_4, .slice A0_5 l0_5.length c0_5, .slice A0_6 l0_6.length c0_6, .slice A0_7 l0_7.length c0_7, .int .i64 a0_8], .int .i64 a1, .int .i64 a3, .int .i64 a4] ?_; (with_reducible refine (tocsinref15_Wire.calls k a0_0 a0_1 a0_2 a0_3 a0_4 _ _ l0_5 _ _ l0_6 _ _ l0_7 a0_8 a1 a3 a4 true _ ?side1 ?side2 ?side3 ?side4 ?side5 ?side6 A6.out).mono ?_); (case side1 => exact kC (Kd.C_below HR0_5.out HB.out)); (case side2 => exact HC0_5.out); (case side3 => exact kC (Kd.C_below HR0_6.out HB.out)); (case side4 => exact HC0_6.out); (case side5 => exact kC (Kd.C_below HR0_7.out HB.out)); (case side6 => exact HC0_7.out); rintro e w12 ⟨rfl, hb⟩; refine ⟨_, rfl, ?_⟩; replace BK359 := bb BK359 hb; replace HB := bs1 HB GE359 hb; (try clear hb); (try clear hb2); (try clear hk); (try clear hi); obtain ⟨hcz13_0, hcz13_1, hcz13_2, hcz13_3, hcz13_4, hcz13_5, hcz13_6, hcz13_7, hcz13_8, hfz13_0, hfz13_1, hfz13_2, hfz13_3, hfz13_4, hfz13_5, hfz13_6, hfz13_7, hfz13_8⟩ := bz9 BK359) | ((with_reducible refine gate_callee (f := 38) rfl ?_); refine gol (some 30) Try.func38 #[.agg #[.int .i64 a0_0, .int .i64 a0_1, .int .i64 a0_2, .int .i64 a0_3, .int .i64 a0_4, .slice A0_5 l0_5.length c0_5, .slice A0_6 l0_6.length c0_6, .slice A0_7 l0_7.length c0_7, .int .i64 a0_8], .int .i64 a1, .bool a2, .int .i64 a3, .int .i64 a4] ?_; (with_reducible refine (tocsinref15_free.calls k a0_0 a0_1 a0_2 a0_3 a0_4 _ _ l0_5 _ _ l0_6 _ _ l0_7 a0_8 a1 a2 a3 a4 true _ ?side1 ?side2 ?side3 ?side4 ?side5 ?side6 A8.out).mono ?_); (case side1 => exact kC (Kd.C_below HR0_5.out HB.out)); (case side2 => exact HC0_5.out); (case side3 => exact kC (Kd.C_below HR0_6.out HB.out)); (case side4 => exact HC0_6.out); (case side5 => exact kC (Kd.C_below HR0_7.out HB.out)); (case side6 => exact HC0_7.out); rintro e w14 ⟨rfl, hb⟩; refine ⟨_, rfl, ?_⟩; replace BK359 := bb BK359 hb; replace HB := bs1 HB GE359 hb; (try clear hb); (try clear hb2); (try clear hk); (try clear hi)))
   go_ret2
   exact ⟨re, bw1 HB GE359⟩
  ·replace c9 := Bool.eq_false_iff.mpr c9
   subst c9
   have H1 : (tocsinref15_Wait.l0 k a1 a2 a3 a4 0 false 0 a0_0 a0_1 a0_2 a0_3 a0_4 l0_5 l0_6 l0_7 a0_8) = some (r1, r2) := by rw [if_neg (show ¬ (false = true) by decide)] at H; exact H
   clear H
   have H := H1
   clear H1
   have H' := Aside0.mk H
   clear H
   go_enter Try.func18, Try.ntmps18
   go_wp2_with (first | ((with_reducible refine gate_dst (N := 5) rfl ?_); refine boxe (N := 5) (cs := #[.int .i64 a0_0, .int .i64 a0_1, .int .i64 a0_2, .int .i64 a0_3, .int .i64 a0_4, .slice A0_5 l0_5.length c0_5, .slice A0_6 l0_6.length c0_6, .slice A0_7 l0_7.length c0_7, .int .i64 a0_8]) (t := 26) ?_; intro gb359 hg w15 hbox hb; have BK359 := Aside0.mk (hbox); have GW359 := bg0 hg HB; have GE359 := GW359; replace HB := bs0 HB hb; clear hb hbox hg; obtain ⟨hcz16_0, hcz16_1, hcz16_2, hcz16_3, hcz16_4, hcz16_5, hcz16_6, hcz16_7, hcz16_8, hfz16_0, hfz16_1, hfz16_2, hfz16_3, hfz16_4, hfz16_5, hfz16_6, hfz16_7, hfz16_8⟩ := bz9 BK359) | ((with_reducible refine gate_callee (f := 37) rfl ?_); refine gol (some 23) Try.func37 #[.agg #[.int .i64 a0_0, .int .i64 a0_1, .int .i64 a0_2, .int .i64 a0_3, .int .i64 a0_4, .slice A0_5 l0_5.length c0_5, .slice A0_6 l0_6.length c0_6, .slice A0_7 l0_7.length c0_7, .int .i64 a0_8], .int .i64 a1, .int .i64 a3, .int .i64 a4] ?_; (with_reducible refine (tocsinref15_Wire.calls k a0_0 a0_1 a0_2 a0_3 a0_4 _ _ l0_5 _ _ l0_6 _ _ l0_7 a0_8 a1 a3 a4 true _ ?side1 ?side2 ?side3 ?side4 ?side5 ?side6 A6.out).mono ?_); (case side1 => exact kC (Kd.C_below HR0_5.out HB.out)); (case side2 => exact HC0_5.out); (case side3 => exact kC (Kd.C_below HR0_6.out HB.out)); (case side4 => exact HC0_6.out); (case side5 => exact kC (Kd.C_below HR0_7.out HB.out)); (case side6 => exact HC0_7.out); rintro e w17 ⟨rfl, hb⟩; refine ⟨_, rfl, ?_⟩; replace BK359 := bb BK359 hb; replace HB := bs1 HB GE359 hb; (try clear hb); (try clear hb2); (try clear hk); (try clear hi); obtain ⟨hcz18_0, hcz18_1, hcz18_2, hcz18_3, hcz18_4, hcz18_5, hcz18_6, hcz18_7, hcz18_8, hfz18_0, hfz18_1, hfz18_2, hfz18_3, hfz18_4, hfz18_5, hfz18_6, hfz18_7, hfz18_8⟩ := bz9 BK359) | ((with_reducible refine gate_callee (f := 38) rfl ?_); refine gol (some 30) Try.func38 #[.agg #[.int .i64 a0_0, .int .i64 a0_1, .int .i64 a0_2, .int .i64 a0_3, .int .i64 a0_4, .slice A0_5 l0_5.length c0_5, .slice A0_6 l0_6.length c0_6, .slice A0_7 l0_7.length c0_7, .int .i64 a0_8], .int .i64 a1, .bool a2, .int .i64 a3, .int .i64 a4] ?_; (with_reducible refine (tocsinref15_free.calls k a0_0 a0_1 a0_2 a0_3 a0_4 _ _ l0_5 _ _ l0_6 _ _ l0_7 a0_8 a1 a2 a3 a4 false _ ?side1 ?side2 ?side3 ?side4 ?side5 ?side6 A8.out).mono ?_); (case side1 => exact kC (Kd.C_below HR0_5.out HB.out)); (case side2 => exact HC0_5.out); (case side3 => exact kC (Kd.C_below HR0_6.out HB.out)); (case side4 => exact HC0_6.out); (case side5 => exact kC (Kd.C_below HR0_7.out HB.out)); (case side6 => exact HC0_7.out); rintro e w19 ⟨rfl, hb⟩; refine ⟨_, rfl, ?_⟩; replace BK359 := bb BK359 hb; replace HB := bs1 HB GE359 hb; (try clear hb); (try clear hb2); (try clear hk); (try clear hi)))
   (try simp only [Act.put, sT, sZ, sS])
   go_loopg [12, 13, 14] k (fun kq v12 v13 v14 w' => ∃ (x12_1 : Int) (x13_1 : Bool) (x14_1 : Int), v12 = .int .i64 x12_1 ∧ v13 = .bool x13_1 ∧ v14 = .int .i64 x14_1 ∧ Aside0 (tocsinref15_Wait.l0 kq a1 a2 a3 a4 x12_1 x13_1 x14_1 a0_0 a0_1 a0_2 a0_3 a0_4 l0_5 l0_6 l0_7 a0_8 = some (r1, r2)) ∧ Aside0 (kq ≤ k) ∧ Aside0 (w'.heap[gb359]? = some (.cells #[.int .i64 a0_0, .int .i64 a0_1, .int .i64 a0_2, .int .i64 a0_3, .int .i64 a0_4, (.slice A0_5 l0_5.length c0_5), (.slice A0_6 l0_6.length c0_6), (.slice A0_7 l0_7.length c0_7), .int .i64 a0_8] 26 (0, 0))) ∧ Aside0 (Below w.heap.size w w'))
   case atStart => exact ⟨(0), (false), (0), rs, rs, rs, H', ⟨Nat.le_refl _⟩, ⟨bk BK359⟩, ⟨bw1 HB GE359⟩⟩
   case round =>
    clear H'
    try clear c1
    try clear p2
    try clear c3
    try clear c7
    try clear c9
    try clear c18
    try clear hcz11_0 hcz11_1 hcz11_2 hcz11_3 hcz11_4 hcz11_5 hcz11_6 hcz11_7 hcz11_8
    try clear hcz13_0 hcz13_1 hcz13_2 hcz13_3 hcz13_4 hcz13_5 hcz13_6 hcz13_7 hcz13_8
    try clear hcz16_0 hcz16_1 hcz16_2 hcz16_3 hcz16_4 hcz16_5 hcz16_6 hcz16_7 hcz16_8
    try clear hcz18_0 hcz18_1 hcz18_2 hcz18_3 hcz18_4 hcz18_5 hcz18_6 hcz18_7 hcz18_8
    try clear hfz11_0 hfz11_1 hfz11_2 hfz11_3 hfz11_4 hfz11_5 hfz11_6 hfz11_7 hfz11_8
    try clear hfz13_0 hfz13_1 hfz13_2 hfz13_3 hfz13_4 hfz13_5 hfz13_6 hfz13_7 hfz13_8
    try clear hfz16_0 hfz16_1 hfz16_2 hfz16_3 hfz16_4 hfz16_5 hfz16_6 hfz16_7 hfz16_8
    try clear hfz18_0 hfz18_1 hfz18_2 hfz18_3 hfz18_4 hfz18_5 hfz18_6 hfz18_7 hfz18_8
    obtain ⟨x12_1, x13_1, x14_1, rfl, rfl, rfl, HA, HK1, BK359, HB⟩ := hrel
    cases gk with
    | zero => exact absurd HA.out (by simp [tocsinref15_Wait.l0])
    | succ k1 =>
     have H := HA.out
     clear HA
     simp only [tocsinref15_Wait.l0] at H
     by_cases c20 : x14_1 < (l0_6.length : Int)
     ·rw [if_pos c20] at H
      have c20b0 : decide (x14_1 < (l0_6.length : Int)) = true := decide_eq_true c20
      clear c20
      by_cases c21 : 0 ≤ x14_1
      ·rw [if_pos c21] at H
       have c21b0 : decide (0 ≤ x14_1) = true := decide_eq_true c21
       clear c21
       replace H := Option.bind_eq_some_iff.mp H
       obtain ⟨t364, A220, H⟩ := H
       replace H : (if a2 = true then ((tocsinref08_Times.f a0_0 a0_1 a0_2 a0_3 a0_4 l0_5 l0_6 l0_7 a0_8 ((rd_T40 l0_6 x14_1).f0) ((rd_T40 l0_6 x14_1).f1) ((rd_T40 l0_6 x14_1).f2) ((rd_T40 l0_6 x14_1).f3)).bind fun bt365 => ((tocsinref06_Time.f ((rd_T40 l0_6 x14_1).f3)).bind fun t370 => (tocsinref15_Wait.j1 k1 a1 a2 a3 a4 x12_1 x13_1 x14_1 (wrap64 (bt365.2.2.1 + t370)) a0_0 a0_1 a0_2 a0_3 a0_4 l0_5 l0_6 l0_7 a0_8))) else (tocsinref15_Wait.j1 k1 a1 a2 a3 a4 x12_1 x13_1 x14_1 (wrap64 (((rd_T40 l0_6 x14_1).f2) + t364)) a0_0 a0_1 a0_2 a0_3 a0_4 l0_5 l0_6 l0_7 a0_8)) = some (r1, r2) := H
       have A22 := Aside0.mk A220
       clear A220
       have HC23 := Aside0.mk H
       clear H
       obtain ⟨hcz24_0, hcz24_1, hcz24_2, hcz24_3, hcz24_4, hcz24_5, hcz24_6, hcz24_7, hcz24_8, hfz24_0, hfz24_1, hfz24_2, hfz24_3, hfz24_4, hfz24_5, hfz24_6, hfz24_7, hfz24_8⟩ := bz9 BK359
       have p362 : 0 ≤ (x14_1 : Int) := of_decide_eq_true (by first | (with_reducible assumption) | assumption)
       have q362 : x14_1 < (l0_6.length : Int) := of_decide_eq_true (by first | (with_reducible assumption) | assumption)
       obtain ⟨ad362, e362, hx362_0, hx362_1, hx362_2, hx362_3⟩ := at_T40 HR0_6.out x14_1 p362 q362
       cases e362
       replace hx362_0 := pcb HB hx362_0
       replace hx362_1 := pcb HB hx362_1
       replace hx362_2 := pcb HB hx362_2
       replace hx362_3 := pcb HB hx362_3
       replace p362 := eq_true p362
       replace q362 := eq_true q362
       try go_wp2_with (first | ((with_reducible refine gate_dst (N := 15) rfl ?_); refine boxe (N := 15) (cs := #[.int .i64 0, .int .u32 0, .int .i64 0, .int .i64 0]) (t := 40) ?_; intro gb363 hg w25 hbox hb; have BK363 := Aside0.mk (hbox); have GW363 := bg1 hg HB GE359; have GE363 := GW363; have NB359_363 := nl hg BK359; have NB363_359 := ng hg BK359; replace BK359 := bb BK359 hb; replace HB := bs1 HB GE359 hb; clear hb hbox hg; have hnb26 := NB363_359.out; have hnc26 := NB359_363.out; obtain ⟨hcz27_0, hcz27_1, hcz27_2, hcz27_3, hfz27_0, hfz27_1, hfz27_2, hfz27_3⟩ := bz4 BK363))
       have n0_ : Aside0 (((((w25.setCell ⟨gb363, 0, none⟩ (.int .i64 ((rd_T40 l0_6 x14_1).f0))).setCell ⟨gb363, 1, none⟩ (.int .u32 ((rd_T40 l0_6 x14_1).f1))).setCell ⟨gb363, 2, none⟩ (.int .i64 ((rd_T40 l0_6 x14_1).f2))).setCell ⟨gb363, 3, none⟩ (.int .i64 ((rd_T40 l0_6 x14_1).f3))).heap[gb359]? = some (.cells #[.int .i64 a0_0, .int .i64 a0_1, .int .i64 a0_2, .int .i64 a0_3, .int .i64 a0_4, .slice A0_5 l0_5.length c0_5, .slice (some ad362) l0_6.length c0_6, .slice A0_7 l0_7.length c0_7, .int .i64 a0_8] 26 (0, 0))) := ⟨bf1 NB359_363 BK359⟩
       have n1_ : Aside0 (((((w25.setCell ⟨gb363, 0, none⟩ (.int .i64 ((rd_T40 l0_6 x14_1).f0))).setCell ⟨gb363, 1, none⟩ (.int .u32 ((rd_T40 l0_6 x14_1).f1))).setCell ⟨gb363, 2, none⟩ (.int .i64 ((rd_T40 l0_6 x14_1).f2))).setCell ⟨gb363, 3, none⟩ (.int .i64 ((rd_T40 l0_6 x14_1).f3))).heap[gb363]? = some (.cells #[.int .i64 ((rd_T40 l0_6 x14_1).f0), .int .u32 ((rd_T40 l0_6 x14_1).f1), .int .i64 ((rd_T40 l0_6 x14_1).f2), .int .i64 ((rd_T40 l0_6 x14_1).f3)] 40 (0, 0))) := ⟨by (with_reducible repeat (first | refine blk_drewN ?_ _ | refine blk_drew ?_ | refine blk_alloc ?_ _)); refine blk_put (cs := #[.int .i64 ((rd_T40 l0_6 x14_1).f0), .int .u32 ((rd_T40 l0_6 x14_1).f1), .int .i64 ((rd_T40 l0_6 x14_1).f2), .int .i64 0]) ?_ 3 _ rt; (with_reducible repeat (first | refine blk_drewN ?_ _ | refine blk_drew ?_ | refine blk_alloc ?_ _)); refine blk_put (cs := #[.int .i64 ((rd_T40 l0_6 x14_1).f0), .int .u32 ((rd_T40 l0_6 x14_1).f1), .int .i64 0, .int .i64 0]) ?_ 2 _ rt; (with_reducible repeat (first | refine blk_drewN ?_ _ | refine blk_drew ?_ | refine blk_alloc ?_ _)); refine blk_put (cs := #[.int .i64 ((rd_T40 l0_6 x14_1).f0), .int .u32 0, .int .i64 0, .int .i64 0]) ?_ 1 _ rt; (with_reducible repeat (first | refine blk_drewN ?_ _ | refine blk_drew ?_ | refine blk_alloc ?_ _)); refine blk_put (cs := #[.int .i64 0, .int .u32 0, .int .i64 0, .int .i64 0]) ?_ 0 _ rt; (with_reducible repeat (first | refine blk_drewN ?_ _ | refine blk_drew ?_ | refine blk_alloc ?_ _)); exact BK363.out⟩
       have n2_ : Aside0 (Below w.heap.size w ((((w25.setCell ⟨gb363, 0, none⟩ (.int .i64 ((rd_T40 l0_6 x14_1).f0))).setCell ⟨gb363, 1, none⟩ (.int .u32 ((rd_T40 l0_6 x14_1).f1))).setCell ⟨gb363, 2, none⟩ (.int .i64 ((rd_T40 l0_6 x14_1).f2))).setCell ⟨gb363, 3, none⟩ (.int .i64 ((rd_T40 l0_6 x14_1).f3)))) := ⟨bw2 HB GE359 GE363⟩
       (try clear BK359)
       (try clear BK363)
       (try clear HB)
       generalize ((((w25.setCell ⟨gb363, 0, none⟩ (.int .i64 ((rd_T40 l0_6 x14_1).f0))).setCell ⟨gb363, 1, none⟩ (.int .u32 ((rd_T40 l0_6 x14_1).f1))).setCell ⟨gb363, 2, none⟩ (.int .i64 ((rd_T40 l0_6 x14_1).f2))).setCell ⟨gb363, 3, none⟩ (.int .i64 ((rd_T40 l0_6 x14_1).f3))) = w28 at n0_ n1_ n2_ ⊢
       have BK359 := n0_
       have BK363 := n1_
       have HB := n2_
       clear n0_ n1_ n2_
       have n0_ := Aside0.mk (blk_drew BK359.out)
       have n1_ := Aside0.mk (blk_drew BK363.out)
       have n2_ := Aside0.mk (below_drew1 HB.out)
       clear BK359
       clear BK363
       clear HB
       have BK359 := n0_
       have BK363 := n1_
       have HB := n2_
       clear n0_ n1_ n2_
       refine start_ (n := 7) (S := fun w' => w'.cell? ⟨gb363, 0, none⟩ = some (.int .i64 ((rd_T40 l0_6 x14_1).f0)) ∧ w'.cell? ⟨gb363, 1, none⟩ = some (.int .u32 ((rd_T40 l0_6 x14_1).f1)) ∧ w'.cell? ⟨gb363, 2, none⟩ = some (.int .i64 ((rd_T40 l0_6 x14_1).f2)) ∧ w'.cell? ⟨gb363, 3, none⟩ = some (.int .i64 ((rd_T40 l0_6 x14_1).f3))) (ds := []) #[false, false, false, false, false, false, false] (by kernel_rfl) rfl rfl (by exact bc4 BK363) (fun hHeld => ?_)
       generalize w28.drew = w29 at BK359 BK363 HB hHeld ⊢
       refine pure_ (i := 0) (N := some 44) (v := ?_) (a' := ?_) #[true, false, false, false, false, false, false] rfl rfl (by kernel_rfl) (fun _ _ _ h => h) (Or.inl ⟨by rfl, ?_⟩) ?_ ?_
       rotate_left
       ·intro w'
        go_simp
        with_reducible rfl
       rotate_left
       ·simp only [Act.put, sT, sZ, sS, i64_w, i32_w]
        rfl
       refine pure_ (i := 2) (N := some 46) (v := ?_) (a' := ?_) #[true, false, true, false, false, false, false] rfl rfl (by kernel_rfl) (fun _ _ _ h => h) (Or.inl ⟨by rfl, ?_⟩) ?_ ?_
       rotate_left
       ·intro w'
        go_simp
        with_reducible rfl
       rotate_left
       ·simp only [Act.put, sT, sZ, sS, i64_w, i32_w]
        rfl
       refine take_ (i := 1) (N := some 45) (v := ?_) (a' := ?_) #[true, true, true, false, false, false, false] rfl rfl (by kernel_rfl) (fun _ _ _ h => h) (Or.inl ⟨by rfl, ?_⟩) hHeld ?_ ?_
       rotate_left
       ·rintro w' ⟨s0, s1, s2, s3⟩
        go_simp
        with_reducible rfl
       rotate_left
       ·simp only [Act.put, sT, sZ, sS, i64_w, i32_w]
        rfl
       refine take_ (i := 3) (N := some 47) (v := ?_) (a' := ?_) #[true, true, true, true, false, false, false] rfl rfl (by kernel_rfl) (fun _ _ _ h => h) (Or.inl ⟨by rfl, ?_⟩) hHeld ?_ ?_
       rotate_left
       ·rintro w' ⟨s0, s1, s2, s3⟩
        go_simp
        with_reducible rfl
       rotate_left
       ·simp only [Act.put, sT, sZ, sS, i64_w, i32_w]
        rfl
       refine one_ (i := 4) (N := some 48) #[true, true, true, true, true, false, false] rfl rfl (by kernel_rfl) (by decide) (fun K hK => ?_)
       refine gor Try.func39 #[.int .i64 ((rd_T40 l0_6 x14_1).f3)] ?_
       with_reducible refine (tocsinref06_Time.calls ((rd_T40 l0_6 x14_1).f3) t364 _ A22.out).mono ?_
       rintro e w' ⟨rfl, ⟨nd, rfl⟩⟩
       refine ⟨_, rfl, ?_⟩
       refine hK.out _ _ (by exact bc4 BK363) (fun hHeld => ?_)
       clear hK K
       refine norm_ (a' := ?_) ?_ ?_
       rotate_left
       ·show Act.put _ (some 48) _ = _
        simp only [Act.put, sT, sZ, sS, i64_w, i32_w]
        rfl
       refine pure_ (i := 5) (N := some 49) (v := ?_) (a' := ?_) #[true, true, true, true, true, true, false] rfl rfl (by kernel_rfl) (fun _ _ _ h => h) (Or.inl ⟨by rfl, ?_⟩) ?_ ?_
       rotate_left
       ·intro w'
        go_simp
        with_reducible rfl
       rotate_left
       ·simp only [Act.put, sT, sZ, sS, i64_w, i32_w]
        rfl
       refine pure_ (i := 6) (N := some 16) (v := ?_) (a' := ?_) #[true, true, true, true, true, true, true] rfl rfl (by kernel_rfl) (fun _ _ _ h => h) (Or.inl ⟨by rfl, ?_⟩) ?_ ?_
       rotate_left
       ·intro w'
        go_simp
        with_reducible rfl
       rotate_left
       ·simp only [Act.put, sT, sZ, sS, i64_w, i32_w]
        rfl
       refine done_ (by kernel_rfl) ?_
       go_upto_if 50 with (fail)
       go_cut [16] (fun v16 wc => ∃ (kq : Nat) (x16_22 : Int), v16 = .int .i64 x16_22 ∧ Aside0 (tocsinref15_Wait.j1 kq a1 a2 a3 a4 x12_1 x13_1 x14_1 x16_22 a0_0 a0_1 a0_2 a0_3 a0_4 l0_5 l0_6 l0_7 a0_8 = some (r1, r2)) ∧ Aside0 (kq ≤ k1) ∧ Aside0 (wc.heap[gb359]? = some (.cells #[.int .i64 a0_0, .int .i64 a0_1, .int .i64 a0_2, .int .i64 a0_3, .int .i64 a0_4, (.slice A0_5 l0_5.length c0_5), (.slice (some ad362) l0_6.length c0_6), (.slice A0_7 l0_7.length c0_7), .int .i64 a0_8] 26 (0, 0))) ∧ Aside0 (wc.heap[gb363]? = some (.cells #[.int .i64 ((rd_T40 l0_6 x14_1).f0), .int .u32 ((rd_T40 l0_6 x14_1).f1), .int .i64 ((rd_T40 l0_6 x14_1).f2), .int .i64 ((rd_T40 l0_6 x14_1).f3)] 40 (0, 0))) ∧ Aside0 (Below w.heap.size w wc))
       case first =>
        have H := HC23.out
        clear HC23
        by_cases c30 : a2 = true
        ·subst c30
         have H1 : ((tocsinref08_Times.f a0_0 a0_1 a0_2 a0_3 a0_4 l0_5 l0_6 l0_7 a0_8 ((rd_T40 l0_6 x14_1).f0) ((rd_T40 l0_6 x14_1).f1) ((rd_T40 l0_6 x14_1).f2) ((rd_T40 l0_6 x14_1).f3)).bind fun bt365 => ((tocsinref06_Time.f ((rd_T40 l0_6 x14_1).f3)).bind fun t370 => (tocsinref15_Wait.j1 k1 a1 true a3 a4 x12_1 x13_1 x14_1 (wrap64 (bt365.2.2.1 + t370)) a0_0 a0_1 a0_2 a0_3 a0_4 l0_5 l0_6 l0_7 a0_8))) = some (r1, r2) := by rw [if_pos rfl] at H; exact H
         clear H
         have H := H1
         clear H1
         replace H := Option.bind_eq_some_iff.mp H
         obtain ⟨⟨t365, t366, t367, t368, t369⟩, A310, H⟩ := H
         replace H : ((tocsinref06_Time.f ((rd_T40 l0_6 x14_1).f3)).bind fun t370 => (tocsinref15_Wait.j1 k1 a1 true a3 a4 x12_1 x13_1 x14_1 (wrap64 (t367 + t370)) a0_0 a0_1 a0_2 a0_3 a0_4 l0_5 l0_6 l0_7 a0_8)) = some (r1, r2) := H
         have A31 := Aside0.mk A310
         clear A310
         replace H := Option.bind_eq_some_iff.mp H
         obtain ⟨t370, A320, H⟩ := H
         replace H : (tocsinref15_Wait.j1 k1 a1 true a3 a4 x12_1 x13_1 x14_1 (wrap64 (t367 + t370)) a0_0 a0_1 a0_2 a0_3 a0_4 l0_5 l0_6 l0_7 a0_8) = some (r1, r2) := H
         have A32 := Aside0.mk A320
         clear A320
         have H' := Aside0.mk H
         clear H
         try go_wp2
         (try (rw [drewN_self w29]; generalize hq_ : World.drewN w29 _ = w29; have n0_ : Aside0 (w29.heap[gb359]? = some (.cells #[.int .i64 a0_0, .int .i64 a0_1, .int .i64 a0_2, .int .i64 a0_3, .int .i64 a0_4, .slice A0_5 l0_5.length c0_5, .slice (some ad362) l0_6.length c0_6, .slice A0_7 l0_7.length c0_7, .int .i64 a0_8] 26 (0, 0))) := ⟨by rw [← hq_]; exact (bk BK359)⟩; have n1_ : Aside0 (w29.heap[gb363]? = some (.cells #[.int .i64 ((rd_T40 l0_6 x14_1).f0), .int .u32 ((rd_T40 l0_6 x14_1).f1), .int .i64 ((rd_T40 l0_6 x14_1).f2), .int .i64 ((rd_T40 l0_6 x14_1).f3)] 40 (0, 0))) := ⟨by rw [← hq_]; exact (bk BK363)⟩; have n2_ : Aside0 (Below w.heap.size w w29) := ⟨by rw [← hq_]; exact (bw2 HB GE359 GE363)⟩; clear BK359 BK363 HB hq_; have BK359 := n0_; have BK363 := n1_; have HB := n2_; clear n0_ n1_ n2_))
         have n0_ := Aside0.mk (blk_drew BK359.out)
         have n1_ := Aside0.mk (blk_drew BK363.out)
         have n2_ := Aside0.mk (below_drew1 HB.out)
         clear BK359
         clear BK363
         clear HB
         have BK359 := n0_
         have BK363 := n1_
         have HB := n2_
         clear n0_ n1_ n2_
         refine start_ (n := 9) (S := fun w' => w'.cell? ⟨gb359, 0, none⟩ = some (.int .i64 a0_0) ∧ w'.cell? ⟨gb359, 1, none⟩ = some (.int .i64 a0_1) ∧ w'.cell? ⟨gb359, 2, none⟩ = some (.int .i64 a0_2) ∧ w'.cell? ⟨gb359, 3, none⟩ = some (.int .i64 a0_3) ∧ w'.cell? ⟨gb359, 4, none⟩ = some (.int .i64 a0_4) ∧ w'.cell? ⟨gb359, 5, none⟩ = some (.slice A0_5 l0_5.length c0_5) ∧ w'.cell? ⟨gb359, 6, none⟩ = some (.slice (some ad362) l0_6.length c0_6) ∧ w'.cell? ⟨gb359, 7, none⟩ = some (.slice A0_7 l0_7.length c0_7) ∧ w'.cell? ⟨gb359, 8, none⟩ = some (.int .i64 a0_8) ∧ w'.cell? ⟨gb363, 0, none⟩ = some (.int .i64 ((rd_T40 l0_6 x14_1).f0)) ∧ w'.cell? ⟨gb363, 1, none⟩ = some (.int .u32 ((rd_T40 l0_6 x14_1).f1)) ∧ w'.cell? ⟨gb363, 2, none⟩ = some (.int .i64 ((rd_T40 l0_6 x14_1).f2)) ∧ w'.cell? ⟨gb363, 3, none⟩ = some (.int .i64 ((rd_T40 l0_6 x14_1).f3))) (ds := []) #[false, false, false, false, false, false, false, false, false] (by kernel_rfl) rfl rfl ⟨(blk_cell BK359.out 0).trans rfl, (blk_cell BK359.out 1).trans rfl, (blk_cell BK359.out 2).trans rfl, (blk_cell BK359.out 3).trans rfl, (blk_cell BK359.out 4).trans rfl, (blk_cell BK359.out 5).trans rfl, (blk_cell BK359.out 6).trans rfl, (blk_cell BK359.out 7).trans rfl, (blk_cell BK359.out 8).trans rfl, (blk_cell BK363.out 0).trans rfl, (blk_cell BK363.out 1).trans rfl, (blk_cell BK363.out 2).trans rfl, (blk_cell BK363.out 3).trans rfl⟩ (fun hHeld => ?_); refine with_tabW tocsinref15_Wait.tab12 tocsinref15_Wait.bits12 (fun HT_ HW_ => ?_)
         generalize w29.drew = w33 at BK359 BK363 HB hHeld ⊢
         refine pl 4 55 #[false, false, false, false, true, false, false, false, false] HT_ ?_
         refine tk13 0 51 #[true, false, false, false, true, false, false, false, false] HT_ HW_ hHeld ?_
         refine tk13 1 52 #[true, true, false, false, true, false, false, false, false] HT_ HW_ hHeld ?_
         refine tk13 5 56 #[true, true, false, false, true, true, false, false, false] HT_ HW_ hHeld ?_
         refine one_ (i := 2) (N := some 53) #[true, true, true, false, true, true, false, false, false] rfl rfl (one_of HT_.out (by kernel_rfl)) (by decide) (fun K hK => ?_)
         refine gor Try.func25 #[.agg #[.int .i64 a0_0, .int .i64 a0_1, .int .i64 a0_2, .int .i64 a0_3, .int .i64 a0_4, .slice A0_5 l0_5.length c0_5, .slice (some ad362) l0_6.length c0_6, .slice A0_7 l0_7.length c0_7, .int .i64 a0_8], .agg #[.int .i64 ((rd_T40 l0_6 x14_1).f0), .int .u32 ((rd_T40 l0_6 x14_1).f1), .int .i64 ((rd_T40 l0_6 x14_1).f2), .int .i64 ((rd_T40 l0_6 x14_1).f3)]] ?_
         with_reducible refine (tocsinref08_Times.calls a0_0 a0_1 a0_2 a0_3 a0_4 _ _ l0_5 _ _ l0_6 _ _ l0_7 a0_8 ((rd_T40 l0_6 x14_1).f0) ((rd_T40 l0_6 x14_1).f1) ((rd_T40 l0_6 x14_1).f2) ((rd_T40 l0_6 x14_1).f3) t365 t366 t367 t368 t369 _ ?side1 ?side2 ?side3 ?side4 ?side5 ?side6 A31.out).mono ?_
         (case side1 => exact kC (Kd.C_below HR0_5.out HB.out))
         (case side2 => exact HC0_5.out)
         (case side3 => exact kC (Kd.C_below HR0_6.out HB.out))
         (case side4 => exact HC0_6.out)
         (case side5 => exact kC (Kd.C_below HR0_7.out HB.out))
         (case side6 => exact HC0_7.out)
         rintro e w34 ⟨rfl, hb⟩
         refine ⟨_, rfl, ?_⟩
         have n0_ := bb BK359 hb
         have n1_ := bb BK363 hb
         have n2_ := bs2 HB GE359 GE363 hb
         clear BK359
         clear BK363
         clear HB
         have BK359 := n0_
         have BK363 := n1_
         have HB := n2_
         clear n0_ n1_ n2_
         (try clear hb)
         (try clear hb2)
         (try clear hk)
         (try clear hi)
         refine hK.out _ _ ⟨(blk_cell BK359.out 0).trans rfl, (blk_cell BK359.out 1).trans rfl, (blk_cell BK359.out 2).trans rfl, (blk_cell BK359.out 3).trans rfl, (blk_cell BK359.out 4).trans rfl, (blk_cell BK359.out 5).trans rfl, (blk_cell BK359.out 6).trans rfl, (blk_cell BK359.out 7).trans rfl, (blk_cell BK359.out 8).trans rfl, (blk_cell BK363.out 0).trans rfl, (blk_cell BK363.out 1).trans rfl, (blk_cell BK363.out 2).trans rfl, (blk_cell BK363.out 3).trans rfl⟩ (fun hHeld => ?_)
         clear hK K
         refine norm_ (a' := ?_) ?_ ?_
         rotate_left
         ·show Act.put _ (some 53) _ = _
          simp only [Act.put, sT, sZ, sS, i64_w, i32_w]
          rfl
         refine pl 3 54 #[true, true, true, true, true, true, false, false, false] HT_ ?_
         refine one_ (i := 6) (N := some 57) #[true, true, true, true, true, true, true, false, false] rfl rfl (one_of HT_.out (by kernel_rfl)) (by decide) (fun K hK => ?_)
         refine gor Try.func39 #[.int .i64 ((rd_T40 l0_6 x14_1).f3)] ?_
         with_reducible refine (tocsinref06_Time.calls ((rd_T40 l0_6 x14_1).f3) t370 _ A32.out).mono ?_
         rintro e w' ⟨rfl, ⟨nd, rfl⟩⟩
         refine ⟨_, rfl, ?_⟩
         refine hK.out _ _ ⟨(blk_cell BK359.out 0).trans rfl, (blk_cell BK359.out 1).trans rfl, (blk_cell BK359.out 2).trans rfl, (blk_cell BK359.out 3).trans rfl, (blk_cell BK359.out 4).trans rfl, (blk_cell BK359.out 5).trans rfl, (blk_cell BK359.out 6).trans rfl, (blk_cell BK359.out 7).trans rfl, (blk_cell BK359.out 8).trans rfl, (blk_cell BK363.out 0).trans rfl, (blk_cell BK363.out 1).trans rfl, (blk_cell BK363.out 2).trans rfl, (blk_cell BK363.out 3).trans rfl⟩ (fun hHeld => ?_)
         clear hK K
         refine norm_ (a' := ?_) ?_ ?_
         rotate_left
         ·show Act.put _ (some 57) _ = _
          simp only [Act.put, sT, sZ, sS, i64_w, i32_w]
          rfl
         refine pl 7 58 #[true, true, true, true, true, true, true, true, false] HT_ ?_
         refine pl 8 16 #[true, true, true, true, true, true, true, true, true] HT_ ?_
         refine done_ (done_of HT_.out (by kernel_rfl)) ?_
         try go_wp2
         go_meet
         case rel => exact ⟨_, (wrap64 (t367 + t370)), rs, H', ⟨by have := HK1.out; first | omega | exact Nat.le_refl _⟩, ⟨bk BK359⟩, ⟨bk BK363⟩, ⟨bw2 HB GE359 GE363⟩⟩
        ·replace c30 := Bool.eq_false_iff.mpr c30
         subst c30
         have H1 : (tocsinref15_Wait.j1 k1 a1 false a3 a4 x12_1 x13_1 x14_1 (wrap64 (((rd_T40 l0_6 x14_1).f2) + t364)) a0_0 a0_1 a0_2 a0_3 a0_4 l0_5 l0_6 l0_7 a0_8) = some (r1, r2) := by rw [if_neg (show ¬ (false = true) by decide)] at H; exact H
         clear H
         have H := H1
         clear H1
         have H' := Aside0.mk H
         clear H
         go_wp2
         all_goals try (exfalso; (try have z0_ := of_decide_eq_true c20b0); omega)
         go_meet
         case rel => exact ⟨_, (wrap64 (((rd_T40 l0_6 x14_1).f2) + t364)), rs, H', ⟨by have := HK1.out; first | omega | exact Nat.le_refl _⟩, ⟨bk BK359⟩, ⟨bk BK363⟩, ⟨bw2 HB GE359 GE363⟩⟩
       case rest =>
        clear HC23
        try clear c1
        try clear c2
        try clear p2
        try clear c3
        try clear p3
        try clear q3
        try clear hx3
        try clear p6
        try clear c7
        try clear c9
        try clear c18
        try clear c20
        try clear c20b0
        try clear c21
        try clear c21b0
        try clear c25
        try clear c26
        try clear c30
        try clear hcz11_0 hcz11_1 hcz11_2 hcz11_3 hcz11_4 hcz11_5 hcz11_6 hcz11_7 hcz11_8
        try clear hcz13_0 hcz13_1 hcz13_2 hcz13_3 hcz13_4 hcz13_5 hcz13_6 hcz13_7 hcz13_8
        try clear hcz16_0 hcz16_1 hcz16_2 hcz16_3 hcz16_4 hcz16_5 hcz16_6 hcz16_7 hcz16_8
        try clear hcz18_0 hcz18_1 hcz18_2 hcz18_3 hcz18_4 hcz18_5 hcz18_6 hcz18_7 hcz18_8
        try clear hcz24_0 hcz24_1 hcz24_2 hcz24_3 hcz24_4 hcz24_5 hcz24_6 hcz24_7 hcz24_8
        try clear hcz27_0 hcz27_1 hcz27_2 hcz27_3
        try clear hfz11_0 hfz11_1 hfz11_2 hfz11_3 hfz11_4 hfz11_5 hfz11_6 hfz11_7 hfz11_8
        try clear hfz13_0 hfz13_1 hfz13_2 hfz13_3 hfz13_4 hfz13_5 hfz13_6 hfz13_7 hfz13_8
        try clear hfz16_0 hfz16_1 hfz16_2 hfz16_3 hfz16_4 hfz16_5 hfz16_6 hfz16_7 hfz16_8
        try clear hfz18_0 hfz18_1 hfz18_2 hfz18_3 hfz18_4 hfz18_5 hfz18_6 hfz18_7 hfz18_8
        try clear hfz24_0 hfz24_1 hfz24_2 hfz24_3 hfz24_4 hfz24_5 hfz24_6 hfz24_7 hfz24_8
        try clear hfz27_0 hfz27_1 hfz27_2 hfz27_3
        try clear hx362_0
        try clear hx362_1
        try clear hx362_2
        try clear hx362_3
        try clear p2
        try clear p362
        try clear q362
        obtain ⟨kq, x16_22, rfl, HA, HJ22, BK359, BK363, HB⟩ := hcut
        cases kq with
        | zero => exact absurd HA.out (by simp [tocsinref15_Wait.j1])
        | succ kj22 =>
         have H := HA.out
         clear HA
         simp only [tocsinref15_Wait.j1] at H
         by_cases c35 : a0_1 = 0
         ·rw [if_pos c35] at H
          exact absurd H (by simp)
         ·rw [if_neg c35] at H
          have c35b0 : (a0_1 == 0) = false := beq_eq_false_iff_ne.mpr c35
          have c35b1 : (a0_1 != 0) = true := bne_iff_ne.mpr c35
          have H' := Aside0.mk H
          clear H
          have hnb36 := NB359_363.out
          have hnc36 := NB363_359.out
          obtain ⟨hcz37_0, hcz37_1, hcz37_2, hcz37_3, hcz37_4, hcz37_5, hcz37_6, hcz37_7, hcz37_8, hfz37_0, hfz37_1, hfz37_2, hfz37_3, hfz37_4, hfz37_5, hfz37_6, hfz37_7, hfz37_8⟩ := bz9 BK359
          go_wp2
          (try simp only [Act.put, sT, sZ, sS])
          go_loopg [12, 13, 17] kj22 (fun kq v12 v13 v17 w' => ∃ (x12_3 : Int) (x13_3 : Bool) (x17_3 : Int), v12 = .int .i64 x12_3 ∧ v13 = .bool x13_3 ∧ v17 = .int .i64 x17_3 ∧ Aside0 (tocsinref15_Wait.l1 kq a1 a2 a3 a4 x12_3 x13_3 x14_1 x16_22 x17_3 a0_0 a0_1 a0_2 a0_3 a0_4 l0_5 l0_6 l0_7 a0_8 = some (r1, r2)) ∧ Aside0 (kq ≤ kj22) ∧ Aside0 (w'.heap[gb359]? = some (.cells #[.int .i64 a0_0, .int .i64 a0_1, .int .i64 a0_2, .int .i64 a0_3, .int .i64 a0_4, (.slice A0_5 l0_5.length c0_5), (.slice (some ad362) l0_6.length c0_6), (.slice A0_7 l0_7.length c0_7), .int .i64 a0_8] 26 (0, 0))) ∧ Aside0 (w'.heap[gb363]? = some (.cells #[.int .i64 ((rd_T40 l0_6 x14_1).f0), .int .u32 ((rd_T40 l0_6 x14_1).f1), .int .i64 ((rd_T40 l0_6 x14_1).f2), .int .i64 ((rd_T40 l0_6 x14_1).f3)] 40 (0, 0))) ∧ Aside0 (Below w.heap.size w w'))
          case atStart => exact ⟨(x12_1), (x13_1), (wrap64 ((wrap64 (Int.tdiv a3 a0_1)) - 1)), rs, rs, rs, H', ⟨Nat.le_refl _⟩, ⟨bk BK359⟩, ⟨bk BK363⟩, ⟨bw2 HB GE359 GE363⟩⟩
          case round =>
           clear H'
           try clear c1
           try clear c2
           try clear p2
           try clear c3
           try clear p3
           try clear q3
           try clear hx3
           try clear p6
           try clear c7
           try clear c9
           try clear c18
           try clear c20
           try clear c20b0
           try clear c21
           try clear c21b0
           try clear c25
           try clear c26
           try clear c30
           try clear c35
           try clear c35b0
           try clear c35b1
           try clear c36
           try clear p36
           try clear q36
           try clear hx36
           try clear c37
           try clear hcz11_0 hcz11_1 hcz11_2 hcz11_3 hcz11_4 hcz11_5 hcz11_6 hcz11_7 hcz11_8
           try clear hcz13_0 hcz13_1 hcz13_2 hcz13_3 hcz13_4 hcz13_5 hcz13_6 hcz13_7 hcz13_8
           try clear hcz16_0 hcz16_1 hcz16_2 hcz16_3 hcz16_4 hcz16_5 hcz16_6 hcz16_7 hcz16_8
           try clear hcz18_0 hcz18_1 hcz18_2 hcz18_3 hcz18_4 hcz18_5 hcz18_6 hcz18_7 hcz18_8
           try clear hcz24_0 hcz24_1 hcz24_2 hcz24_3 hcz24_4 hcz24_5 hcz24_6 hcz24_7 hcz24_8
           try clear hcz27_0 hcz27_1 hcz27_2 hcz27_3
           try clear hcz37_0 hcz37_1 hcz37_2 hcz37_3 hcz37_4 hcz37_5 hcz37_6 hcz37_7 hcz37_8
           try clear hfz11_0 hfz11_1 hfz11_2 hfz11_3 hfz11_4 hfz11_5 hfz11_6 hfz11_7 hfz11_8
           try clear hfz13_0 hfz13_1 hfz13_2 hfz13_3 hfz13_4 hfz13_5 hfz13_6 hfz13_7 hfz13_8
           try clear hfz16_0 hfz16_1 hfz16_2 hfz16_3 hfz16_4 hfz16_5 hfz16_6 hfz16_7 hfz16_8
           try clear hfz18_0 hfz18_1 hfz18_2 hfz18_3 hfz18_4 hfz18_5 hfz18_6 hfz18_7 hfz18_8
           try clear hfz24_0 hfz24_1 hfz24_2 hfz24_3 hfz24_4 hfz24_5 hfz24_6 hfz24_7 hfz24_8
           try clear hfz27_0 hfz27_1 hfz27_2 hfz27_3
           try clear hfz37_0 hfz37_1 hfz37_2 hfz37_3 hfz37_4 hfz37_5 hfz37_6 hfz37_7 hfz37_8
           try clear hx362_0
           try clear hx362_1
           try clear hx362_2
           try clear hx362_3
           try clear p2
           try clear p3
           try clear p362
           try clear p6
           try clear q3
           try clear q362
           obtain ⟨x12_3, x13_3, x17_3, rfl, rfl, rfl, HA, HK3, BK359, BK363, HB⟩ := hrel
           cases gk with
           | zero => exact absurd HA.out (by simp [tocsinref15_Wait.l1])
           | succ k3 =>
            have H := HA.out
            clear HA
            simp only [tocsinref15_Wait.l1] at H
            by_cases c38 : a0_1 = 0
            ·rw [if_pos c38] at H
             exact absurd H (by simp)
            ·rw [if_neg c38] at H
             have c38b0 : (a0_1 == 0) = false := beq_eq_false_iff_ne.mpr c38
             have c38b1 : (a0_1 != 0) = true := bne_iff_ne.mpr c38
             by_cases c39 : x17_3 ≤ (wrap64 ((wrap64 (Int.tdiv a3 a0_1)) + 3))
             ·rw [if_pos c39] at H
              have c39b0 : decide (x17_3 ≤ (wrap64 ((wrap64 (Int.tdiv a3 a0_1)) + 3))) = true := decide_eq_true c39
              clear c39
              by_cases c40 : (wrap64 ((wrap64 (x17_3 * a0_1)) + x16_22)) ≥ a3
              ·rw [if_pos c40] at H
               have c40b0 : decide (a3 ≤ (wrap64 ((wrap64 (x17_3 * a0_1)) + x16_22))) = true := decide_eq_true c40
               clear c40
               by_cases c41 : (wrap64 ((wrap64 (x17_3 * a0_1)) + x16_22)) ≤ (wrap64 (a3 + (wrap64 (2 * a0_1))))
               ·rw [if_pos c41] at H
                have c41b0 : decide ((wrap64 ((wrap64 (x17_3 * a0_1)) + x16_22)) ≤ (wrap64 (a3 + (wrap64 (2 * a0_1))))) = true := decide_eq_true c41
                clear c41
                by_cases c42 : x13_3 = true
                ·subst c42
                 have H1 : (if (wrap64 ((wrap64 (x17_3 * a0_1)) + x16_22)) < x12_3 then ((tocsinref15_free.f k3 a0_0 a0_1 a0_2 a0_3 a0_4 l0_5 l0_6 l0_7 a0_8 a1 a2 (wrap64 ((wrap64 (x17_3 * a0_1)) + x16_22)) a4).bind fun t371 => (if t371 = true then (tocsinref15_Wait.l1 k3 a1 a2 a3 a4 (wrap64 ((wrap64 (x17_3 * a0_1)) + x16_22)) true x14_1 x16_22 (wrap64 (x17_3 + 1)) a0_0 a0_1 a0_2 a0_3 a0_4 l0_5 l0_6 l0_7 a0_8) else (tocsinref15_Wait.l1 k3 a1 a2 a3 a4 x12_3 true x14_1 x16_22 (wrap64 (x17_3 + 1)) a0_0 a0_1 a0_2 a0_3 a0_4 l0_5 l0_6 l0_7 a0_8))) else (tocsinref15_Wait.l1 k3 a1 a2 a3 a4 x12_3 true x14_1 x16_22 (wrap64 (x17_3 + 1)) a0_0 a0_1 a0_2 a0_3 a0_4 l0_5 l0_6 l0_7 a0_8)) = some (r1, r2) := by rw [if_pos rfl] at H; exact H
                 clear H
                 have H := H1
                 clear H1
                 by_cases c43 : (wrap64 ((wrap64 (x17_3 * a0_1)) + x16_22)) < x12_3
                 ·rw [if_pos c43] at H
                  have c43b0 : decide ((wrap64 ((wrap64 (x17_3 * a0_1)) + x16_22)) < x12_3) = true := decide_eq_true c43
                  clear c43
                  replace H := Option.bind_eq_some_iff.mp H
                  obtain ⟨t371, A440, H⟩ := H
                  replace H : (if t371 = true then (tocsinref15_Wait.l1 k3 a1 a2 a3 a4 (wrap64 ((wrap64 (x17_3 * a0_1)) + x16_22)) true x14_1 x16_22 (wrap64 (x17_3 + 1)) a0_0 a0_1 a0_2 a0_3 a0_4 l0_5 l0_6 l0_7 a0_8) else (tocsinref15_Wait.l1 k3 a1 a2 a3 a4 x12_3 true x14_1 x16_22 (wrap64 (x17_3 + 1)) a0_0 a0_1 a0_2 a0_3 a0_4 l0_5 l0_6 l0_7 a0_8)) = some (r1, r2) := H
                  have A44 := Aside0.mk A440
                  clear A440
                  by_cases c45 : t371 = true
                  ·subst c45
                   have H1 : (tocsinref15_Wait.l1 k3 a1 a2 a3 a4 (wrap64 ((wrap64 (x17_3 * a0_1)) + x16_22)) true x14_1 x16_22 (wrap64 (x17_3 + 1)) a0_0 a0_1 a0_2 a0_3 a0_4 l0_5 l0_6 l0_7 a0_8) = some (r1, r2) := by rw [if_pos rfl] at H; exact H
                   clear H
                   have H := H1
                   clear H1
                   have H' := Aside0.mk H
                   clear H
                   have hnb46 := NB359_363.out
                   have hnc46 := NB363_359.out
                   obtain ⟨hcz47_0, hcz47_1, hcz47_2, hcz47_3, hcz47_4, hcz47_5, hcz47_6, hcz47_7, hcz47_8, hfz47_0, hfz47_1, hfz47_2, hfz47_3, hfz47_4, hfz47_5, hfz47_6, hfz47_7, hfz47_8⟩ := bz9 BK359
                   go_wp2_with (first | (go_at_call 38; (with_reducible refine (tocsinref15_free.calls k3 a0_0 a0_1 a0_2 a0_3 a0_4 _ _ l0_5 _ _ l0_6 _ _ l0_7 a0_8 a1 a2 (wrap64 ((wrap64 (x17_3 * a0_1)) + x16_22)) a4 true _ ?side1 ?side2 ?side3 ?side4 ?side5 ?side6 A44.out).mono ?_); (case side1 => exact kC (Kd.C_below HR0_5.out HB.out)); (case side2 => exact HC0_5.out); (case side3 => exact kC (Kd.C_below HR0_6.out HB.out)); (case side4 => exact HC0_6.out); (case side5 => exact kC (Kd.C_below HR0_7.out HB.out)); (case side6 => exact HC0_7.out); rintro e w48 ⟨rfl, hb⟩; replace BK359 := bb BK359 hb; replace BK363 := bb BK363 hb; replace HB := bs2 HB GE359 GE363 hb; (try clear hb); (try clear hb2); (try clear hk); (try clear hi)))
                   all_goals try (exfalso; (try have z0_ := of_decide_eq_true c20b0); omega)
                   go_roundg k3
                   case measure => have := HK1.out; have := HJ22.out; have := HK3.out; omega
                   case rel => exact ⟨(wrap64 ((wrap64 (x17_3 * a0_1)) + x16_22)), (true), (wrap64 (x17_3 + 1)), rs, rs, rs, H', ⟨by have := HK1.out; have := HJ22.out; have := HK3.out; omega⟩, ⟨bk BK359⟩, ⟨bk BK363⟩, ⟨bw2 HB GE359 GE363⟩⟩
                  ·replace c45 := Bool.eq_false_iff.mpr c45
                   subst c45
                   have H1 : (tocsinref15_Wait.l1 k3 a1 a2 a3 a4 x12_3 true x14_1 x16_22 (wrap64 (x17_3 + 1)) a0_0 a0_1 a0_2 a0_3 a0_4 l0_5 l0_6 l0_7 a0_8) = some (r1, r2) := by rw [if_neg (show ¬ (false = true) by decide)] at H; exact H
                   clear H
                   have H := H1
                   clear H1
                   have H' := Aside0.mk H
                   clear H
                   have hnb49 := NB359_363.out
                   have hnc49 := NB363_359.out
                   obtain ⟨hcz50_0, hcz50_1, hcz50_2, hcz50_3, hcz50_4, hcz50_5, hcz50_6, hcz50_7, hcz50_8, hfz50_0, hfz50_1, hfz50_2, hfz50_3, hfz50_4, hfz50_5, hfz50_6, hfz50_7, hfz50_8⟩ := bz9 BK359
                   go_wp2_with (first | (go_at_call 38; (with_reducible refine (tocsinref15_free.calls k3 a0_0 a0_1 a0_2 a0_3 a0_4 _ _ l0_5 _ _ l0_6 _ _ l0_7 a0_8 a1 a2 (wrap64 ((wrap64 (x17_3 * a0_1)) + x16_22)) a4 false _ ?side1 ?side2 ?side3 ?side4 ?side5 ?side6 A44.out).mono ?_); (case side1 => exact kC (Kd.C_below HR0_5.out HB.out)); (case side2 => exact HC0_5.out); (case side3 => exact kC (Kd.C_below HR0_6.out HB.out)); (case side4 => exact HC0_6.out); (case side5 => exact kC (Kd.C_below HR0_7.out HB.out)); (case side6 => exact HC0_7.out); rintro e w51 ⟨rfl, hb⟩; replace BK359 := bb BK359 hb; replace BK363 := bb BK363 hb; replace HB := bs2 HB GE359 GE363 hb; (try clear hb); (try clear hb2); (try clear hk); (try clear hi)))
                   all_goals try (exfalso; (try have z0_ := of_decide_eq_true c20b0); omega)
                   go_roundg k3
                   case measure => have := HK1.out; have := HJ22.out; have := HK3.out; omega
                   case rel => exact ⟨(x12_3), (true), (wrap64 (x17_3 + 1)), rs, rs, rs, H', ⟨by have := HK1.out; have := HJ22.out; have := HK3.out; omega⟩, ⟨bk BK359⟩, ⟨bk BK363⟩, ⟨bw2 HB GE359 GE363⟩⟩
                 ·rw [if_neg c43] at H
                  have c43b0 : decide ((wrap64 ((wrap64 (x17_3 * a0_1)) + x16_22)) < x12_3) = false := decide_eq_false c43
                  clear c43
                  have H' := Aside0.mk H
                  clear H
                  have hnb52 := NB359_363.out
                  have hnc52 := NB363_359.out
                  obtain ⟨hcz53_0, hcz53_1, hcz53_2, hcz53_3, hcz53_4, hcz53_5, hcz53_6, hcz53_7, hcz53_8, hfz53_0, hfz53_1, hfz53_2, hfz53_3, hfz53_4, hfz53_5, hfz53_6, hfz53_7, hfz53_8⟩ := bz9 BK359
                  go_wp2
                  all_goals try (exfalso; (try have z0_ := of_decide_eq_true c20b0); omega)
                  go_roundg k3
                  case measure => have := HK1.out; have := HJ22.out; have := HK3.out; omega
                  case rel => exact ⟨(x12_3), (true), (wrap64 (x17_3 + 1)), rs, rs, rs, H', ⟨by have := HK1.out; have := HJ22.out; have := HK3.out; omega⟩, ⟨bk BK359⟩, ⟨bk BK363⟩, ⟨bw2 HB GE359 GE363⟩⟩
                ·replace c42 := Bool.eq_false_iff.mpr c42
                 subst c42
                 have H1 : ((tocsinref15_free.f k3 a0_0 a0_1 a0_2 a0_3 a0_4 l0_5 l0_6 l0_7 a0_8 a1 a2 (wrap64 ((wrap64 (x17_3 * a0_1)) + x16_22)) a4).bind fun t372 => (if t372 = true then (tocsinref15_Wait.l1 k3 a1 a2 a3 a4 (wrap64 ((wrap64 (x17_3 * a0_1)) + x16_22)) true x14_1 x16_22 (wrap64 (x17_3 + 1)) a0_0 a0_1 a0_2 a0_3 a0_4 l0_5 l0_6 l0_7 a0_8) else (tocsinref15_Wait.l1 k3 a1 a2 a3 a4 x12_3 false x14_1 x16_22 (wrap64 (x17_3 + 1)) a0_0 a0_1 a0_2 a0_3 a0_4 l0_5 l0_6 l0_7 a0_8))) = some (r1, r2) := by rw [if_neg (show ¬ (false = true) by decide)] at H; exact H
                 clear H
                 have H := H1
                 clear H1
                 replace H := Option.bind_eq_some_iff.mp H
                 obtain ⟨t372, A540, H⟩ := H
                 replace H : (if t372 = true then (tocsinref15_Wait.l1 k3 a1 a2 a3 a4 (wrap64 ((wrap64 (x17_3 * a0_1)) + x16_22)) true x14_1 x16_22 (wrap64 (x17_3 + 1)) a0_0 a0_1 a0_2 a0_3 a0_4 l0_5 l0_6 l0_7 a0_8) else (tocsinref15_Wait.l1 k3 a1 a2 a3 a4 x12_3 false x14_1 x16_22 (wrap64 (x17_3 + 1)) a0_0 a0_1 a0_2 a0_3 a0_4 l0_5 l0_6 l0_7 a0_8)) = some (r1, r2) := H
                 have A54 := Aside0.mk A540
                 clear A540
                 by_cases c55 : t372 = true
                 ·subst c55
                  have H1 : (tocsinref15_Wait.l1 k3 a1 a2 a3 a4 (wrap64 ((wrap64 (x17_3 * a0_1)) + x16_22)) true x14_1 x16_22 (wrap64 (x17_3 + 1)) a0_0 a0_1 a0_2 a0_3 a0_4 l0_5 l0_6 l0_7 a0_8) = some (r1, r2) := by rw [if_pos rfl] at H; exact H
                  clear H
                  have H := H1
                  clear H1
                  have H' := Aside0.mk H
                  clear H
                  have hnb56 := NB359_363.out
                  have hnc56 := NB363_359.out
                  obtain ⟨hcz57_0, hcz57_1, hcz57_2, hcz57_3, hcz57_4, hcz57_5, hcz57_6, hcz57_7, hcz57_8, hfz57_0, hfz57_1, hfz57_2, hfz57_3, hfz57_4, hfz57_5, hfz57_6, hfz57_7, hfz57_8⟩ := bz9 BK359
                  go_wp2_with (first | (go_at_call 38; (with_reducible refine (tocsinref15_free.calls k3 a0_0 a0_1 a0_2 a0_3 a0_4 _ _ l0_5 _ _ l0_6 _ _ l0_7 a0_8 a1 a2 (wrap64 ((wrap64 (x17_3 * a0_1)) + x16_22)) a4 true _ ?side1 ?side2 ?side3 ?side4 ?side5 ?side6 A54.out).mono ?_); (case side1 => exact kC (Kd.C_below HR0_5.out HB.out)); (case side2 => exact HC0_5.out); (case side3 => exact kC (Kd.C_below HR0_6.out HB.out)); (case side4 => exact HC0_6.out); (case side5 => exact kC (Kd.C_below HR0_7.out HB.out)); (case side6 => exact HC0_7.out); rintro e w58 ⟨rfl, hb⟩; replace BK359 := bb BK359 hb; replace BK363 := bb BK363 hb; replace HB := bs2 HB GE359 GE363 hb; (try clear hb); (try clear hb2); (try clear hk); (try clear hi)))
                  all_goals try (exfalso; (try have z0_ := of_decide_eq_true c20b0); omega)
                  go_roundg k3
                  case measure => have := HK1.out; have := HJ22.out; have := HK3.out; omega
                  case rel => exact ⟨(wrap64 ((wrap64 (x17_3 * a0_1)) + x16_22)), (true), (wrap64 (x17_3 + 1)), rs, rs, rs, H', ⟨by have := HK1.out; have := HJ22.out; have := HK3.out; omega⟩, ⟨bk BK359⟩, ⟨bk BK363⟩, ⟨bw2 HB GE359 GE363⟩⟩
                 ·replace c55 := Bool.eq_false_iff.mpr c55
                  subst c55
                  have H1 : (tocsinref15_Wait.l1 k3 a1 a2 a3 a4 x12_3 false x14_1 x16_22 (wrap64 (x17_3 + 1)) a0_0 a0_1 a0_2 a0_3 a0_4 l0_5 l0_6 l0_7 a0_8) = some (r1, r2) := by rw [if_neg (show ¬ (false = true) by decide)] at H; exact H
                  clear H
                  have H := H1
                  clear H1
                  have H' := Aside0.mk H
                  clear H
                  have hnb59 := NB359_363.out
                  have hnc59 := NB363_359.out
                  obtain ⟨hcz60_0, hcz60_1, hcz60_2, hcz60_3, hcz60_4, hcz60_5, hcz60_6, hcz60_7, hcz60_8, hfz60_0, hfz60_1, hfz60_2, hfz60_3, hfz60_4, hfz60_5, hfz60_6, hfz60_7, hfz60_8⟩ := bz9 BK359
                  go_wp2_with (first | (go_at_call 38; (with_reducible refine (tocsinref15_free.calls k3 a0_0 a0_1 a0_2 a0_3 a0_4 _ _ l0_5 _ _ l0_6 _ _ l0_7 a0_8 a1 a2 (wrap64 ((wrap64 (x17_3 * a0_1)) + x16_22)) a4 false _ ?side1 ?side2 ?side3 ?side4 ?side5 ?side6 A54.out).mono ?_); (case side1 => exact kC (Kd.C_below HR0_5.out HB.out)); (case side2 => exact HC0_5.out); (case side3 => exact kC (Kd.C_below HR0_6.out HB.out)); (case side4 => exact HC0_6.out); (case side5 => exact kC (Kd.C_below HR0_7.out HB.out)); (case side6 => exact HC0_7.out); rintro e w61 ⟨rfl, hb⟩; replace BK359 := bb BK359 hb; replace BK363 := bb BK363 hb; replace HB := bs2 HB GE359 GE363 hb; (try clear hb); (try clear hb2); (try clear hk); (try clear hi)))
                  all_goals try (exfalso; (try have z0_ := of_decide_eq_true c20b0); omega)
                  go_roundg k3
                  case measure => have := HK1.out; have := HJ22.out; have := HK3.out; omega
                  case rel => exact ⟨(x12_3), (false), (wrap64 (x17_3 + 1)), rs, rs, rs, H', ⟨by have := HK1.out; have := HJ22.out; have := HK3.out; omega⟩, ⟨bk BK359⟩, ⟨bk BK363⟩, ⟨bw2 HB GE359 GE363⟩⟩
               ·rw [if_neg c41] at H
                have c41b0 : decide ((wrap64 ((wrap64 (x17_3 * a0_1)) + x16_22)) ≤ (wrap64 (a3 + (wrap64 (2 * a0_1))))) = false := decide_eq_false c41
                clear c41
                have H' := Aside0.mk H
                clear H
                have hnb62 := NB359_363.out
                have hnc62 := NB363_359.out
                obtain ⟨hcz63_0, hcz63_1, hcz63_2, hcz63_3, hcz63_4, hcz63_5, hcz63_6, hcz63_7, hcz63_8, hfz63_0, hfz63_1, hfz63_2, hfz63_3, hfz63_4, hfz63_5, hfz63_6, hfz63_7, hfz63_8⟩ := bz9 BK359
                go_wp2
                all_goals try (exfalso; (try have z0_ := of_decide_eq_true c20b0); omega)
                go_roundg k3
                case measure => have := HK1.out; have := HJ22.out; have := HK3.out; omega
                case rel => exact ⟨(x12_3), (x13_3), (wrap64 (x17_3 + 1)), rs, rs, rs, H', ⟨by have := HK1.out; have := HJ22.out; have := HK3.out; omega⟩, ⟨bk BK359⟩, ⟨bk BK363⟩, ⟨bw2 HB GE359 GE363⟩⟩
              ·rw [if_neg c40] at H
               have c40b0 : decide (a3 ≤ (wrap64 ((wrap64 (x17_3 * a0_1)) + x16_22))) = false := decide_eq_false c40
               clear c40
               have H' := Aside0.mk H
               clear H
               have hnb64 := NB359_363.out
               have hnc64 := NB363_359.out
               obtain ⟨hcz65_0, hcz65_1, hcz65_2, hcz65_3, hcz65_4, hcz65_5, hcz65_6, hcz65_7, hcz65_8, hfz65_0, hfz65_1, hfz65_2, hfz65_3, hfz65_4, hfz65_5, hfz65_6, hfz65_7, hfz65_8⟩ := bz9 BK359
               go_wp2
               all_goals try (exfalso; (try have z0_ := of_decide_eq_true c20b0); omega)
               go_roundg k3
               case measure => have := HK1.out; have := HJ22.out; have := HK3.out; omega
               case rel => exact ⟨(x12_3), (x13_3), (wrap64 (x17_3 + 1)), rs, rs, rs, H', ⟨by have := HK1.out; have := HJ22.out; have := HK3.out; omega⟩, ⟨bk BK359⟩, ⟨bk BK363⟩, ⟨bw2 HB GE359 GE363⟩⟩
             ·rw [if_neg c39] at H
              have c39b0 : decide (x17_3 ≤ (wrap64 ((wrap64 (Int.tdiv a3 a0_1)) + 3))) = false := decide_eq_false c39
              clear c39
              have H' := Aside0.mk H
              clear H
              have hnb66 := NB359_363.out
              have hnc66 := NB363_359.out
              obtain ⟨hcz67_0, hcz67_1, hcz67_2, hcz67_3, hcz67_4, hcz67_5, hcz67_6, hcz67_7, hcz67_8, hfz67_0, hfz67_1, hfz67_2, hfz67_3, hfz67_4, hfz67_5, hfz67_6, hfz67_7, hfz67_8⟩ := bz9 BK359
              go_wp2
              all_goals try (exfalso; (try have z0_ := of_decide_eq_true c20b0); omega)
              go_roundg k3
              case measure => have := HK1.out; have := HJ22.out; have := HK3.out; omega
              case rel => exact ⟨(x12_3), (x13_3), (wrap64 (x14_1 + 1)), rs, rs, rs, H', ⟨by have := HK1.out; have := HJ22.out; have := HK3.out; omega⟩, ⟨bk BK359⟩, ⟨bw2 HB GE359 GE363⟩⟩
      ·rw [if_neg c21] at H
       exact absurd H (by simp)
     ·rw [if_neg c20] at H
      have c20b0 : decide (x14_1 < (l0_6.length : Int)) = false := decide_eq_false c20
      clear c20
      simp only [Option.some.injEq, Prod.mk.injEq] at H
      obtain ⟨rfl, rfl⟩ := H
      obtain ⟨hcz68_0, hcz68_1, hcz68_2, hcz68_3, hcz68_4, hcz68_5, hcz68_6, hcz68_7, hcz68_8, hfz68_0, hfz68_1, hfz68_2, hfz68_3, hfz68_4, hfz68_5, hfz68_6, hfz68_7, hfz68_8⟩ := bz9 BK359
      go_wp2
      all_goals try (exfalso; (try have z0_ := of_decide_eq_true c20b0); (try have z1_ := of_decide_eq_false c20b0); omega)
      go_ret2
      exact ⟨re, bw1 HB GE359⟩
 ·replace c7 := Bool.eq_false_iff.mpr c7
  subst c7
  have H1 : (some (0, false)) = some (r1, r2) := by rw [if_neg (show ¬ (false = true) by decide)] at H; exact H
  clear H
  have H := H1
  clear H1
  simp only [Option.some.injEq, Prod.mk.injEq] at H
  obtain ⟨rfl, rfl⟩ := H
  go_enter Try.func18, Try.ntmps18
  go_wp2_with (first | ((with_reducible refine gate_dst (N := 5) rfl ?_); refine boxe (N := 5) (cs := #[.int .i64 a0_0, .int .i64 a0_1, .int .i64 a0_2, .int .i64 a0_3, .int .i64 a0_4, .slice A0_5 l0_5.length c0_5, .slice A0_6 l0_6.length c0_6, .slice A0_7 l0_7.length c0_7, .int .i64 a0_8]) (t := 26) ?_; intro gb359 hg w69 hbox hb; have BK359 := Aside0.mk (hbox); have GW359 := bg0 hg HB; have GE359 := GW359; replace HB := bs0 HB hb; clear hb hbox hg; obtain ⟨hcz70_0, hcz70_1, hcz70_2, hcz70_3, hcz70_4, hcz70_5, hcz70_6, hcz70_7, hcz70_8, hfz70_0, hfz70_1, hfz70_2, hfz70_3, hfz70_4, hfz70_5, hfz70_6, hfz70_7, hfz70_8⟩ := bz9 BK359) | ((with_reducible refine gate_callee (f := 37) rfl ?_); refine gol (some 23) Try.func37 #[.agg #[.int .i64 a0_0, .int .i64 a0_1, .int .i64 a0_2, .int .i64 a0_3, .int .i64 a0_4, .slice A0_5 l0_5.length c0_5, .slice A0_6 l0_6.length c0_6, .slice A0_7 l0_7.length c0_7, .int .i64 a0_8], .int .i64 a1, .int .i64 a3, .int .i64 a4] ?_; (with_reducible refine (tocsinref15_Wire.calls k a0_0 a0_1 a0_2 a0_3 a0_4 _ _ l0_5 _ _ l0_6 _ _ l0_7 a0_8 a1 a3 a4 false _ ?side1 ?side2 ?side3 ?side4 ?side5 ?side6 A6.out).mono ?_); (case side1 => exact kC (Kd.C_below HR0_5.out HB.out)); (case side2 => exact HC0_5.out); (case side3 => exact kC (Kd.C_below HR0_6.out HB.out)); (case side4 => exact HC0_6.out); (case side5 => exact kC (Kd.C_below HR0_7.out HB.out)); (case side6 => exact HC0_7.out); rintro e w71 ⟨rfl, hb⟩; refine ⟨_, rfl, ?_⟩; replace BK359 := bb BK359 hb; replace HB := bs1 HB GE359 hb; (try clear hb); (try clear hb2); (try clear hk); (try clear hi)))
  go_ret2
  exact ⟨re, bw1 HB GE359⟩
end Go.Proofs.Ytbmldeikjfecfaa.T
