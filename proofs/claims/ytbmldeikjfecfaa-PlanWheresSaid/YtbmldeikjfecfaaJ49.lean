/- A part of the proof of the statement PlanWheres: words, contracts of functions that it reaches, and what they compute. No condition. -/
import Derived.Test.YtbmldeikjfecfaaJ01
import Derived.Test.YtbmldeikjfecfaaJ04
import Derived.Test.YtbmldeikjfecfaaJ18
import Derived.Test.YtbmldeikjfecfaaJ29
import Derived.Test.YtbmldeikjfecfaaJ31
import Derived.Test.YtbmldeikjfecfaaJ33
import Derived.Test.YtbmldeikjfecfaaJ34
import Derived.Test.YtbmldeikjfecfaaJ35
import Derived.Test.YtbmldeikjfecfaaJ36
import Derived.Test.YtbmldeikjfecfaaJ37
import Derived.Test.YtbmldeikjfecfaaJ48
set_option linter.unusedVariables false
set_option linter.unusedSimpArgs false
namespace Go.Proofs.Ytbmldeikjfecfaa.T
open Go.RowKit Go.Proofs.YtbmldeikjfecfaaW.PrintWords Go.Proofs.YtbmldeikjfecfaaW.PrintLast Go.Proofs.YtbmldeikjfecfaaW.PrintMore
attribute [local go_sem] max2_int min2_int max_two min_two max_three min_three max_four min_four
attribute [local go_sem] at34_0 at34_1 at34_2 at42_0 at42_1 at42_2 at42_3 at47_0 at47_1 at47_2 at47_3 at47_4
def tocsinlaw15_PlanWheres.j0 : Nat → Int → Int → Bool → Int → Int → Int → Int → Int → List (List Int) → List (S40) → List (S63) → Int → Option (Bool)
 | 0, _, _, _, _, _, _, _, _, _, _, _, _ => none
 | k + 1, x1, x2, x66, x327000, x327001, x327002, x327003, x327004, x327005, x327006, x327007, x327008 => if x66 = true then (none) else ((plan_Send.f x327000 x327001 x327002 x327003 x327004 x327005 x327006 x327007 x327008 x1 x2).bind fun bt332 => ((plan_Relay.f x327000 x327001 x327002 x327003 x327004 x327005 x327006 x327007 x327008 x1 x2).bind fun bt334 => ((plan_Land.f x327000 x327001 x327002 x327003 x327004 x327005 x327006 x327007 x327008 x1 x2).bind fun bt336 => ((tocsinref15_Send.f k x327000 x327001 x327002 x327003 x327004 x327005 x327006 x327007 x327008 x1 x2).bind fun bt338 => ((tocsinref15_Relay.f k x327000 x327001 x327002 x327003 x327004 x327005 x327006 x327007 x327008 x1 x2).bind fun bt340 => ((tocsinref15_Land.f k x327000 x327001 x327002 x327003 x327004 x327005 x327006 x327007 x327008 x1 x2).bind fun bt342 => (if bt332.1 = bt338.1 then (if (bt332.2 == bt338.2) = true then (if bt334.1 = bt340.1 then (if (bt334.2 == bt340.2) = true then (if bt336.1 = bt342.1 then (some (bt336.2 == bt342.2)) else (none)) else (none)) else (none)) else (none)) else (none))))))))
def tocsinlaw15_PlanWheres.f (k : Nat) (a0_0 : Int) (a0_1 : Int) (a0_2 : Int) (a0_3 : Int) (a0_4 : Int) (l0_5 : List (List Int)) (l0_6 : List (S40)) (l0_7 : List (S63)) (a0_8 : Int) (a1 : Int) (a2 : Int) : Option (Bool) := (tocsinlaw15_fixed.f k).bind fun t327 => (if t327 = true then ((plan_Where.f a0_0 a0_1 a0_2 a0_3 a0_4 l0_5 l0_6 l0_7 a0_8 a2).bind fun bt328 => ((tocsinref15_Good.f k a0_0 a0_1 a0_2 a0_3 a0_4 l0_5 l0_6 l0_7 a0_8 a2).bind fun t331 => (if (!(bt328.2.2 == t331)) = true then (tocsinlaw15_PlanWheres.j0 k a1 a2 true a0_0 a0_1 a0_2 a0_3 a0_4 l0_5 l0_6 l0_7 a0_8) else (if bt328.2.2 = true then (if a0_1 = 0 then (none) else (if bt328.1 = (wrap64 (Int.tdiv a2 a0_1)) then (if bt328.2.1 = (Int.tmod a2 a0_1) then (tocsinlaw15_PlanWheres.j0 k a1 a2 false a0_0 a0_1 a0_2 a0_3 a0_4 l0_5 l0_6 l0_7 a0_8) else (tocsinlaw15_PlanWheres.j0 k a1 a2 true a0_0 a0_1 a0_2 a0_3 a0_4 l0_5 l0_6 l0_7 a0_8)) else (tocsinlaw15_PlanWheres.j0 k a1 a2 true a0_0 a0_1 a0_2 a0_3 a0_4 l0_5 l0_6 l0_7 a0_8))) else (if bt328.1 = 0 then (tocsinlaw15_PlanWheres.j0 k a1 a2 (bt328.2.1 != 0) a0_0 a0_1 a0_2 a0_3 a0_4 l0_5 l0_6 l0_7 a0_8) else (tocsinlaw15_PlanWheres.j0 k a1 a2 true a0_0 a0_1 a0_2 a0_3 a0_4 l0_5 l0_6 l0_7 a0_8)))))) else (none))
theorem tocsinlaw15_PlanWheres.mono_l : ∀ k, (∀ y0 y1 y2 y3 y4 y5 y6 y7 y8 y9 y10 y11, LeO (tocsinlaw15_PlanWheres.j0 k y0 y1 y2 y3 y4 y5 y6 y7 y8 y9 y10 y11) (tocsinlaw15_PlanWheres.j0 (k + 1) y0 y1 y2 y3 y4 y5 y6 y7 y8 y9 y10 y11))
 | 0 => fun _ _ _ _ _ _ _ _ _ _ _ _ r h => by simp [tocsinlaw15_PlanWheres.j0] at h
 | k + 1 => by
  have ih0 := tocsinlaw15_PlanWheres.mono_l k
  ·intro y0 y1 y2 y3 y4 y5 y6 y7 y8 y9 y10 y11
   unfold tocsinlaw15_PlanWheres.j0
   repeat' first
   | (with_reducible exact ih0 _ _ _ _ _ _ _ _ _ _ _ _)
   | (with_reducible exact tocsinlaw15_fixed.mono _)
   | (with_reducible exact tocsinref15_Good.mono _ _ _ _ _ _ _ _ _ _ _)
   | (with_reducible exact tocsinref15_Land.mono _ _ _ _ _ _ _ _ _ _ _ _)
   | (with_reducible exact tocsinref15_Relay.mono _ _ _ _ _ _ _ _ _ _ _ _)
   | (with_reducible exact tocsinref15_Send.mono _ _ _ _ _ _ _ _ _ _ _ _)
   | (with_reducible exact LeO.refl _)
   | (with_reducible exact LeO.none _)
   | (with_reducible refine LeO.ite ?_ ?_)
   | (with_reducible refine LeO.bind ?_ (fun _ => ?_))
   | exact ih0 _ _ _ _ _ _ _ _ _ _ _ _
   | exact tocsinlaw15_fixed.mono _
   | exact tocsinref15_Good.mono _ _ _ _ _ _ _ _ _ _ _
   | exact tocsinref15_Land.mono _ _ _ _ _ _ _ _ _ _ _ _
   | exact tocsinref15_Relay.mono _ _ _ _ _ _ _ _ _ _ _ _
   | exact tocsinref15_Send.mono _ _ _ _ _ _ _ _ _ _ _ _
   | exact LeO.none _
   | refine LeO.ite ?_ ?_
   | refine LeO.bind ?_ (fun _ => ?_)
theorem tocsinlaw15_PlanWheres.mono : ∀ a0 a1 a2 a3 a4 a5 a6 a7 a8 a9 a10 k, LeO (tocsinlaw15_PlanWheres.f k a0 a1 a2 a3 a4 a5 a6 a7 a8 a9 a10) (tocsinlaw15_PlanWheres.f (k + 1) a0 a1 a2 a3 a4 a5 a6 a7 a8 a9 a10) := by
 intro a0 a1 a2 a3 a4 a5 a6 a7 a8 a9 a10 k
 have ih0 := tocsinlaw15_PlanWheres.mono_l k
 unfold tocsinlaw15_PlanWheres.f
 repeat' first
   | (with_reducible exact ih0 _ _ _ _ _ _ _ _ _ _ _ _)
   | (with_reducible exact tocsinlaw15_fixed.mono _)
   | (with_reducible exact tocsinref15_Good.mono _ _ _ _ _ _ _ _ _ _ _)
   | (with_reducible exact tocsinref15_Land.mono _ _ _ _ _ _ _ _ _ _ _ _)
   | (with_reducible exact tocsinref15_Relay.mono _ _ _ _ _ _ _ _ _ _ _ _)
   | (with_reducible exact tocsinref15_Send.mono _ _ _ _ _ _ _ _ _ _ _ _)
   | (with_reducible exact LeO.refl _)
   | (with_reducible exact LeO.none _)
   | (with_reducible refine LeO.ite ?_ ?_)
   | (with_reducible refine LeO.bind ?_ (fun _ => ?_))
   | exact ih0 _ _ _ _ _ _ _ _ _ _ _ _
   | exact tocsinlaw15_fixed.mono _
   | exact tocsinref15_Good.mono _ _ _ _ _ _ _ _ _ _ _
   | exact tocsinref15_Land.mono _ _ _ _ _ _ _ _ _ _ _ _
   | exact tocsinref15_Relay.mono _ _ _ _ _ _ _ _ _ _ _ _
   | exact tocsinref15_Send.mono _ _ _ _ _ _ _ _ _ _ _ _
   | exact LeO.none _
   | refine LeO.ite ?_ ?_
   | refine LeO.bind ?_ (fun _ => ?_)
set_option maxHeartbeats 8000000 in
set_option maxRecDepth 100000 in
theorem tocsinlaw15_PlanWheres.calls (k : Nat) (a0_0 : Int) (a0_1 : Int) (a0_2 : Int) (a0_3 : Int) (a0_4 : Int) (A0_5 : Option Addr) (c0_5 : Nat) (l0_5 : List (List Int)) (A0_6 : Option Addr) (c0_6 : Nat) (l0_6 : List (S40)) (A0_7 : Option Addr) (c0_7 : Nat) (l0_7 : List (S63)) (a0_8 : Int) (a1 : Int) (a2 : Int) (r : Bool) (w : World) (hr0_5 : Kd.C (Kd.slice 2 (Kd.int .i64)) w A0_5 l0_5.length l0_5) (hc0_5 : l0_5.length ≤ c0_5) (hr0_6 : Kd.C k40 w A0_6 l0_6.length l0_6) (hc0_6 : l0_6.length ≤ c0_6) (hr0_7 : Kd.C k63 w A0_7 l0_7.length l0_7) (hc0_7 : l0_7.length ≤ c0_7) (h : tocsinlaw15_PlanWheres.f k a0_0 a0_1 a0_2 a0_3 a0_4 l0_5 l0_6 l0_7 a0_8 a1 a2 = some r) :
  Calls Try.prog 3 #[.agg #[.int .i64 a0_0, .int .i64 a0_1, .int .i64 a0_2, .int .i64 a0_3, .int .i64 a0_4, .slice A0_5 l0_5.length c0_5, .slice A0_6 l0_6.length c0_6, .slice A0_7 l0_7.length c0_7, .int .i64 a0_8], .int .i64 a1, .int .i64 a2] w fun e w' => e = .returned (.bool r) ∧ Below w.heap.size w w' := by
 have hu26 := Try.underlying26
 have HR0_5 := Aside0.mk hr0_5
 have HC0_5 := Aside0.mk hc0_5
 clear hr0_5 hc0_5
 have HR0_6 := Aside0.mk hr0_6
 have HC0_6 := Aside0.mk hc0_6
 clear hr0_6 hc0_6
 have HR0_7 := Aside0.mk hr0_7
 have HC0_7 := Aside0.mk hc0_7
 clear hr0_7 hc0_7
 have HB := Aside0.mk (Below.refl w.heap.size w)
 have H : ((tocsinlaw15_fixed.f k).bind fun t327 => (if t327 = true then ((plan_Where.f a0_0 a0_1 a0_2 a0_3 a0_4 l0_5 l0_6 l0_7 a0_8 a2).bind fun bt328 => ((tocsinref15_Good.f k a0_0 a0_1 a0_2 a0_3 a0_4 l0_5 l0_6 l0_7 a0_8 a2).bind fun t331 => (if (!(bt328.2.2 == t331)) = true then (tocsinlaw15_PlanWheres.j0 k a1 a2 true a0_0 a0_1 a0_2 a0_3 a0_4 l0_5 l0_6 l0_7 a0_8) else (if bt328.2.2 = true then (if a0_1 = 0 then (none) else (if bt328.1 = (wrap64 (Int.tdiv a2 a0_1)) then (if bt328.2.1 = (Int.tmod a2 a0_1) then (tocsinlaw15_PlanWheres.j0 k a1 a2 false a0_0 a0_1 a0_2 a0_3 a0_4 l0_5 l0_6 l0_7 a0_8) else (tocsinlaw15_PlanWheres.j0 k a1 a2 true a0_0 a0_1 a0_2 a0_3 a0_4 l0_5 l0_6 l0_7 a0_8)) else (tocsinlaw15_PlanWheres.j0 k a1 a2 true a0_0 a0_1 a0_2 a0_3 a0_4 l0_5 l0_6 l0_7 a0_8))) else (if bt328.1 = 0 then (tocsinlaw15_PlanWheres.j0 k a1 a2 (bt328.2.1 != 0) a0_0 a0_1 a0_2 a0_3 a0_4 l0_5 l0_6 l0_7 a0_8) else (tocsinlaw15_PlanWheres.j0 k a1 a2 true a0_0 a0_1 a0_2 a0_3 a0_4 l0_5 l0_6 l0_7 a0_8)))))) else (none))) = some r := h
 clear h
 replace H := Option.bind_eq_some_iff.mp H
 obtain ⟨t327, A40, H⟩ := H
 replace H : (if t327 = true then ((plan_Where.f a0_0 a0_1 a0_2 a0_3 a0_4 l0_5 l0_6 l0_7 a0_8 a2).bind fun bt328 => ((tocsinref15_Good.f k a0_0 a0_1 a0_2 a0_3 a0_4 l0_5 l0_6 l0_7 a0_8 a2).bind fun t331 => (if (!(bt328.2.2 == t331)) = true then (tocsinlaw15_PlanWheres.j0 k a1 a2 true a0_0 a0_1 a0_2 a0_3 a0_4 l0_5 l0_6 l0_7 a0_8) else (if bt328.2.2 = true then (if a0_1 = 0 then (none) else (if bt328.1 = (wrap64 (Int.tdiv a2 a0_1)) then (if bt328.2.1 = (Int.tmod a2 a0_1) then (tocsinlaw15_PlanWheres.j0 k a1 a2 false a0_0 a0_1 a0_2 a0_3 a0_4 l0_5 l0_6 l0_7 a0_8) else (tocsinlaw15_PlanWheres.j0 k a1 a2 true a0_0 a0_1 a0_2 a0_3 a0_4 l0_5 l0_6 l0_7 a0_8)) else (tocsinlaw15_PlanWheres.j0 k a1 a2 true a0_0 a0_1 a0_2 a0_3 a0_4 l0_5 l0_6 l0_7 a0_8))) else (if bt328.1 = 0 then (tocsinlaw15_PlanWheres.j0 k a1 a2 (bt328.2.1 != 0) a0_0 a0_1 a0_2 a0_3 a0_4 l0_5 l0_6 l0_7 a0_8) else (tocsinlaw15_PlanWheres.j0 k a1 a2 true a0_0 a0_1 a0_2 a0_3 a0_4 l0_5 l0_6 l0_7 a0_8)))))) else (none)) = some r := H
 have A4 := Aside0.mk A40
 clear A40
 by_cases c5 : t327 = true
 ·subst c5
  have H1 : ((plan_Where.f a0_0 a0_1 a0_2 a0_3 a0_4 l0_5 l0_6 l0_7 a0_8 a2).bind fun bt328 => ((tocsinref15_Good.f k a0_0 a0_1 a0_2 a0_3 a0_4 l0_5 l0_6 l0_7 a0_8 a2).bind fun t331 => (if (!(bt328.2.2 == t331)) = true then (tocsinlaw15_PlanWheres.j0 k a1 a2 true a0_0 a0_1 a0_2 a0_3 a0_4 l0_5 l0_6 l0_7 a0_8) else (if bt328.2.2 = true then (if a0_1 = 0 then (none) else (if bt328.1 = (wrap64 (Int.tdiv a2 a0_1)) then (if bt328.2.1 = (Int.tmod a2 a0_1) then (tocsinlaw15_PlanWheres.j0 k a1 a2 false a0_0 a0_1 a0_2 a0_3 a0_4 l0_5 l0_6 l0_7 a0_8) else (tocsinlaw15_PlanWheres.j0 k a1 a2 true a0_0 a0_1 a0_2 a0_3 a0_4 l0_5 l0_6 l0_7 a0_8)) else (tocsinlaw15_PlanWheres.j0 k a1 a2 true a0_0 a0_1 a0_2 a0_3 a0_4 l0_5 l0_6 l0_7 a0_8))) else (if bt328.1 = 0 then (tocsinlaw15_PlanWheres.j0 k a1 a2 (bt328.2.1 != 0) a0_0 a0_1 a0_2 a0_3 a0_4 l0_5 l0_6 l0_7 a0_8) else (tocsinlaw15_PlanWheres.j0 k a1 a2 true a0_0 a0_1 a0_2 a0_3 a0_4 l0_5 l0_6 l0_7 a0_8)))))) = some r := by rw [if_pos rfl] at H; exact H
  clear H
  have H := H1
  clear H1
  replace H := Option.bind_eq_some_iff.mp H
  obtain ⟨⟨t328, t329, t330⟩, A60, H⟩ := H
  replace H : ((tocsinref15_Good.f k a0_0 a0_1 a0_2 a0_3 a0_4 l0_5 l0_6 l0_7 a0_8 a2).bind fun t331 => (if (!(t330 == t331)) = true then (tocsinlaw15_PlanWheres.j0 k a1 a2 true a0_0 a0_1 a0_2 a0_3 a0_4 l0_5 l0_6 l0_7 a0_8) else (if t330 = true then (if a0_1 = 0 then (none) else (if t328 = (wrap64 (Int.tdiv a2 a0_1)) then (if t329 = (Int.tmod a2 a0_1) then (tocsinlaw15_PlanWheres.j0 k a1 a2 false a0_0 a0_1 a0_2 a0_3 a0_4 l0_5 l0_6 l0_7 a0_8) else (tocsinlaw15_PlanWheres.j0 k a1 a2 true a0_0 a0_1 a0_2 a0_3 a0_4 l0_5 l0_6 l0_7 a0_8)) else (tocsinlaw15_PlanWheres.j0 k a1 a2 true a0_0 a0_1 a0_2 a0_3 a0_4 l0_5 l0_6 l0_7 a0_8))) else (if t328 = 0 then (tocsinlaw15_PlanWheres.j0 k a1 a2 (t329 != 0) a0_0 a0_1 a0_2 a0_3 a0_4 l0_5 l0_6 l0_7 a0_8) else (tocsinlaw15_PlanWheres.j0 k a1 a2 true a0_0 a0_1 a0_2 a0_3 a0_4 l0_5 l0_6 l0_7 a0_8))))) = some r := H
  have A6 := Aside0.mk A60
  clear A60
  have HC7 := Aside0.mk H
  clear H
  go_enter Try.func3, Try.ntmps3
  go_upto_region 4 with (first | ((with_reducible refine gate_dst (N := 3) rfl ?_); refine boxe (N := 3) (cs := #[.int .i64 a0_0, .int .i64 a0_1, .int .i64 a0_2, .int .i64 a0_3, .int .i64 a0_4, .slice A0_5 l0_5.length c0_5, .slice A0_6 l0_6.length c0_6, .slice A0_7 l0_7.length c0_7, .int .i64 a0_8]) (t := 26) ?_; intro gb326 hg w8 hbox hb; have BK326 := Aside0.mk (hbox); have GW326 := bg0 hg HB; have GE326 := GW326; replace HB := bs0 HB hb; clear hb hbox hg) | ((with_reducible refine gate_callee (f := 8) rfl ?_); refine gol (some 22) Try.func8 #[] ?_; (with_reducible refine (tocsinlaw15_fixed.calls k  true _ A4.out).mono ?_); rintro e w9 ⟨rfl, hb⟩; refine ⟨_, rfl, ?_⟩; replace BK326 := bb BK326 hb; replace HB := bs1 HB GE326 hb; (try clear hb); (try clear hb2); (try clear hk); (try clear hi); obtain ⟨hcz10_0, hcz10_1, hcz10_2, hcz10_3, hcz10_4, hcz10_5, hcz10_6, hcz10_7, hcz10_8, hfz10_0, hfz10_1, hfz10_2, hfz10_3, hfz10_4, hfz10_5, hfz10_6, hfz10_7, hfz10_8⟩ := bz9 BK326) | ((with_reducible refine gate_callee (f := 9) rfl ?_); refine gol (some 27) Try.func9 #[.agg #[.int .i64 a0_0, .int .i64 a0_1, .int .i64 a0_2, .int .i64 a0_3, .int .i64 a0_4, .slice A0_5 l0_5.length c0_5, .slice A0_6 l0_6.length c0_6, .slice A0_7 l0_7.length c0_7, .int .i64 a0_8], .int .i64 a2] ?_; (with_reducible refine (plan_Where.calls a0_0 a0_1 a0_2 a0_3 a0_4 _ _ l0_5 _ _ l0_6 _ _ l0_7 a0_8 a2 t328 t329 t330 _ ?side1 ?side2 ?side3 ?side4 ?side5 ?side6 A6.out).mono ?_); (case side1 => exact kC (Kd.C_below HR0_5.out HB.out)); (case side2 => exact HC0_5.out); (case side3 => exact kC (Kd.C_below HR0_6.out HB.out)); (case side4 => exact HC0_6.out); (case side5 => exact kC (Kd.C_below HR0_7.out HB.out)); (case side6 => exact HC0_7.out); rintro e w11 ⟨rfl, hb⟩; refine ⟨_, rfl, ?_⟩; replace BK326 := bb BK326 hb; replace HB := bs1 HB GE326 hb; (try clear hb); (try clear hb2); (try clear hk); (try clear hi)))
  (try simp only [Act.put, sT, sZ, sS])
  go_cut [66] (fun v66 wc => ∃ (kq : Nat) (x66_6 : Bool), v66 = .bool x66_6 ∧ Aside0 (tocsinlaw15_PlanWheres.j0 kq a1 a2 x66_6 a0_0 a0_1 a0_2 a0_3 a0_4 l0_5 l0_6 l0_7 a0_8 = some r) ∧ Aside0 (kq ≤ k) ∧ Aside0 (wc.heap[gb326]? = some (.cells #[.int .i64 a0_0, .int .i64 a0_1, .int .i64 a0_2, .int .i64 a0_3, .int .i64 a0_4, (.slice A0_5 l0_5.length c0_5), (.slice A0_6 l0_6.length c0_6), (.slice A0_7 l0_7.length c0_7), .int .i64 a0_8] 26 (0, 0))) ∧ Aside0 (Below w.heap.size w wc))
  case first =>
   have H := HC7.out
   clear HC7
   replace H := Option.bind_eq_some_iff.mp H
   obtain ⟨t331, A120, H⟩ := H
   replace H : (if (!(t330 == t331)) = true then (tocsinlaw15_PlanWheres.j0 k a1 a2 true a0_0 a0_1 a0_2 a0_3 a0_4 l0_5 l0_6 l0_7 a0_8) else (if t330 = true then (if a0_1 = 0 then (none) else (if t328 = (wrap64 (Int.tdiv a2 a0_1)) then (if t329 = (Int.tmod a2 a0_1) then (tocsinlaw15_PlanWheres.j0 k a1 a2 false a0_0 a0_1 a0_2 a0_3 a0_4 l0_5 l0_6 l0_7 a0_8) else (tocsinlaw15_PlanWheres.j0 k a1 a2 true a0_0 a0_1 a0_2 a0_3 a0_4 l0_5 l0_6 l0_7 a0_8)) else (tocsinlaw15_PlanWheres.j0 k a1 a2 true a0_0 a0_1 a0_2 a0_3 a0_4 l0_5 l0_6 l0_7 a0_8))) else (if t328 = 0 then (tocsinlaw15_PlanWheres.j0 k a1 a2 (t329 != 0) a0_0 a0_1 a0_2 a0_3 a0_4 l0_5 l0_6 l0_7 a0_8) else (tocsinlaw15_PlanWheres.j0 k a1 a2 true a0_0 a0_1 a0_2 a0_3 a0_4 l0_5 l0_6 l0_7 a0_8)))) = some r := H
   have A12 := Aside0.mk A120
   clear A120
   by_cases c13 : (!(t330 == t331)) = true
   ·rw [if_pos c13] at H
    have c13b0 : (!(t330 == t331)) = true := c13
    clear c13
    (first | rw [c13b0] | (simp only [i64_w, i32_w]; rw [c13b0]) | skip)
    have H' := Aside0.mk H
    clear H
    obtain ⟨hcz14_0, hcz14_1, hcz14_2, hcz14_3, hcz14_4, hcz14_5, hcz14_6, hcz14_7, hcz14_8, hfz14_0, hfz14_1, hfz14_2, hfz14_3, hfz14_4, hfz14_5, hfz14_6, hfz14_7, hfz14_8⟩ := bz9 BK326
    go_wp2_with (first | ((with_reducible refine gate_callee (f := 10) rfl ?_); refine gol (some 34) Try.func10 #[.agg #[.int .i64 a0_0, .int .i64 a0_1, .int .i64 a0_2, .int .i64 a0_3, .int .i64 a0_4, .slice A0_5 l0_5.length c0_5, .slice A0_6 l0_6.length c0_6, .slice A0_7 l0_7.length c0_7, .int .i64 a0_8], .int .i64 a2] ?_; (with_reducible refine (tocsinref15_Good.calls k a0_0 a0_1 a0_2 a0_3 a0_4 _ _ l0_5 _ _ l0_6 _ _ l0_7 a0_8 a2 t331 _ ?side1 ?side2 ?side3 ?side4 ?side5 ?side6 A12.out).mono ?_); (case side1 => exact kC (Kd.C_below HR0_5.out HB.out)); (case side2 => exact HC0_5.out); (case side3 => exact kC (Kd.C_below HR0_6.out HB.out)); (case side4 => exact HC0_6.out); (case side5 => exact kC (Kd.C_below HR0_7.out HB.out)); (case side6 => exact HC0_7.out); rintro e w15 ⟨rfl, hb⟩; refine ⟨_, rfl, ?_⟩; replace BK326 := bb BK326 hb; replace HB := bs1 HB GE326 hb; (try clear hb); (try clear hb2); (try clear hk); (try clear hi)))
    go_meet
    case rel => exact ⟨_, (true), rs, H', ⟨by first | omega | exact Nat.le_refl _⟩, ⟨bk BK326⟩, ⟨bw1 HB GE326⟩⟩
   ·rw [if_neg c13] at H
    have c13b0 : (!(t330 == t331)) = false := by simpa using c13
    clear c13
    (first | rw [c13b0] | (simp only [i64_w, i32_w]; rw [c13b0]) | skip)
    by_cases c16 : t330 = true
    ·subst c16
     have q_c13b0 := c13b0
     (try simp at q_c13b0)
     have q_c13b0 := c13b0
     (try simp at q_c13b0)
     have H1 : (if a0_1 = 0 then (none) else (if t328 = (wrap64 (Int.tdiv a2 a0_1)) then (if t329 = (Int.tmod a2 a0_1) then (tocsinlaw15_PlanWheres.j0 k a1 a2 false a0_0 a0_1 a0_2 a0_3 a0_4 l0_5 l0_6 l0_7 a0_8) else (tocsinlaw15_PlanWheres.j0 k a1 a2 true a0_0 a0_1 a0_2 a0_3 a0_4 l0_5 l0_6 l0_7 a0_8)) else (tocsinlaw15_PlanWheres.j0 k a1 a2 true a0_0 a0_1 a0_2 a0_3 a0_4 l0_5 l0_6 l0_7 a0_8))) = some r := by rw [if_pos rfl] at H; exact H
     clear H
     have H := H1
     clear H1
     by_cases c17 : a0_1 = 0
     ·rw [if_pos c17] at H
      exact absurd H (by simp)
     ·rw [if_neg c17] at H
      have c17b0 : (a0_1 == 0) = false := beq_eq_false_iff_ne.mpr c17
      have c17b1 : (a0_1 != 0) = true := bne_iff_ne.mpr c17
      by_cases c18 : t328 = (wrap64 (Int.tdiv a2 a0_1))
      ·rw [if_pos c18] at H
       have c18b0 : (t328 == (wrap64 (Int.tdiv a2 a0_1))) = true := beq_iff_eq.mpr c18
       have c18b1 : (t328 != (wrap64 (Int.tdiv a2 a0_1))) = false := bne_eq_false_iff_eq.mpr c18
       clear c18
       by_cases c19 : t329 = (Int.tmod a2 a0_1)
       ·rw [if_pos c19] at H
        have c19b0 : (t329 == (Int.tmod a2 a0_1)) = true := beq_iff_eq.mpr c19
        have c19b1 : (t329 != (Int.tmod a2 a0_1)) = false := bne_eq_false_iff_eq.mpr c19
        clear c19
        have H' := Aside0.mk H
        clear H
        obtain ⟨hcz20_0, hcz20_1, hcz20_2, hcz20_3, hcz20_4, hcz20_5, hcz20_6, hcz20_7, hcz20_8, hfz20_0, hfz20_1, hfz20_2, hfz20_3, hfz20_4, hfz20_5, hfz20_6, hfz20_7, hfz20_8⟩ := bz9 BK326
        go_wp2_with (first | ((with_reducible refine gate_callee (f := 10) rfl ?_); refine gol (some 34) Try.func10 #[.agg #[.int .i64 a0_0, .int .i64 a0_1, .int .i64 a0_2, .int .i64 a0_3, .int .i64 a0_4, .slice A0_5 l0_5.length c0_5, .slice A0_6 l0_6.length c0_6, .slice A0_7 l0_7.length c0_7, .int .i64 a0_8], .int .i64 a2] ?_; (with_reducible refine (tocsinref15_Good.calls k a0_0 a0_1 a0_2 a0_3 a0_4 _ _ l0_5 _ _ l0_6 _ _ l0_7 a0_8 a2 t331 _ ?side1 ?side2 ?side3 ?side4 ?side5 ?side6 A12.out).mono ?_); (case side1 => exact kC (Kd.C_below HR0_5.out HB.out)); (case side2 => exact HC0_5.out); (case side3 => exact kC (Kd.C_below HR0_6.out HB.out)); (case side4 => exact HC0_6.out); (case side5 => exact kC (Kd.C_below HR0_7.out HB.out)); (case side6 => exact HC0_7.out); rintro e w21 ⟨rfl, hb⟩; refine ⟨_, rfl, ?_⟩; replace BK326 := bb BK326 hb; replace HB := bs1 HB GE326 hb; (try clear hb); (try clear hb2); (try clear hk); (try clear hi); obtain ⟨hcz22_0, hcz22_1, hcz22_2, hcz22_3, hcz22_4, hcz22_5, hcz22_6, hcz22_7, hcz22_8, hfz22_0, hfz22_1, hfz22_2, hfz22_3, hfz22_4, hfz22_5, hfz22_6, hfz22_7, hfz22_8⟩ := bz9 BK326))
        go_meet
        case rel => exact ⟨_, (false), rs, H', ⟨by first | omega | exact Nat.le_refl _⟩, ⟨bk BK326⟩, ⟨bw1 HB GE326⟩⟩
       ·rw [if_neg c19] at H
        have c19b0 : (t329 == (Int.tmod a2 a0_1)) = false := beq_eq_false_iff_ne.mpr c19
        have c19b1 : (t329 != (Int.tmod a2 a0_1)) = true := bne_iff_ne.mpr c19
        have H' := Aside0.mk H
        clear H
        obtain ⟨hcz23_0, hcz23_1, hcz23_2, hcz23_3, hcz23_4, hcz23_5, hcz23_6, hcz23_7, hcz23_8, hfz23_0, hfz23_1, hfz23_2, hfz23_3, hfz23_4, hfz23_5, hfz23_6, hfz23_7, hfz23_8⟩ := bz9 BK326
        go_wp2_with (first | ((with_reducible refine gate_callee (f := 10) rfl ?_); refine gol (some 34) Try.func10 #[.agg #[.int .i64 a0_0, .int .i64 a0_1, .int .i64 a0_2, .int .i64 a0_3, .int .i64 a0_4, .slice A0_5 l0_5.length c0_5, .slice A0_6 l0_6.length c0_6, .slice A0_7 l0_7.length c0_7, .int .i64 a0_8], .int .i64 a2] ?_; (with_reducible refine (tocsinref15_Good.calls k a0_0 a0_1 a0_2 a0_3 a0_4 _ _ l0_5 _ _ l0_6 _ _ l0_7 a0_8 a2 t331 _ ?side1 ?side2 ?side3 ?side4 ?side5 ?side6 A12.out).mono ?_); (case side1 => exact kC (Kd.C_below HR0_5.out HB.out)); (case side2 => exact HC0_5.out); (case side3 => exact kC (Kd.C_below HR0_6.out HB.out)); (case side4 => exact HC0_6.out); (case side5 => exact kC (Kd.C_below HR0_7.out HB.out)); (case side6 => exact HC0_7.out); rintro e w24 ⟨rfl, hb⟩; refine ⟨_, rfl, ?_⟩; replace BK326 := bb BK326 hb; replace HB := bs1 HB GE326 hb; (try clear hb); (try clear hb2); (try clear hk); (try clear hi); obtain ⟨hcz25_0, hcz25_1, hcz25_2, hcz25_3, hcz25_4, hcz25_5, hcz25_6, hcz25_7, hcz25_8, hfz25_0, hfz25_1, hfz25_2, hfz25_3, hfz25_4, hfz25_5, hfz25_6, hfz25_7, hfz25_8⟩ := bz9 BK326))
        go_meet
        case rel => exact ⟨_, (true), rs, H', ⟨by first | omega | exact Nat.le_refl _⟩, ⟨bk BK326⟩, ⟨bw1 HB GE326⟩⟩
      ·rw [if_neg c18] at H
       have c18b0 : (t328 == (wrap64 (Int.tdiv a2 a0_1))) = false := beq_eq_false_iff_ne.mpr c18
       have c18b1 : (t328 != (wrap64 (Int.tdiv a2 a0_1))) = true := bne_iff_ne.mpr c18
       have H' := Aside0.mk H
       clear H
       obtain ⟨hcz26_0, hcz26_1, hcz26_2, hcz26_3, hcz26_4, hcz26_5, hcz26_6, hcz26_7, hcz26_8, hfz26_0, hfz26_1, hfz26_2, hfz26_3, hfz26_4, hfz26_5, hfz26_6, hfz26_7, hfz26_8⟩ := bz9 BK326
       go_wp2_with (first | ((with_reducible refine gate_callee (f := 10) rfl ?_); refine gol (some 34) Try.func10 #[.agg #[.int .i64 a0_0, .int .i64 a0_1, .int .i64 a0_2, .int .i64 a0_3, .int .i64 a0_4, .slice A0_5 l0_5.length c0_5, .slice A0_6 l0_6.length c0_6, .slice A0_7 l0_7.length c0_7, .int .i64 a0_8], .int .i64 a2] ?_; (with_reducible refine (tocsinref15_Good.calls k a0_0 a0_1 a0_2 a0_3 a0_4 _ _ l0_5 _ _ l0_6 _ _ l0_7 a0_8 a2 t331 _ ?side1 ?side2 ?side3 ?side4 ?side5 ?side6 A12.out).mono ?_); (case side1 => exact kC (Kd.C_below HR0_5.out HB.out)); (case side2 => exact HC0_5.out); (case side3 => exact kC (Kd.C_below HR0_6.out HB.out)); (case side4 => exact HC0_6.out); (case side5 => exact kC (Kd.C_below HR0_7.out HB.out)); (case side6 => exact HC0_7.out); rintro e w27 ⟨rfl, hb⟩; refine ⟨_, rfl, ?_⟩; replace BK326 := bb BK326 hb; replace HB := bs1 HB GE326 hb; (try clear hb); (try clear hb2); (try clear hk); (try clear hi); obtain ⟨hcz28_0, hcz28_1, hcz28_2, hcz28_3, hcz28_4, hcz28_5, hcz28_6, hcz28_7, hcz28_8, hfz28_0, hfz28_1, hfz28_2, hfz28_3, hfz28_4, hfz28_5, hfz28_6, hfz28_7, hfz28_8⟩ := bz9 BK326))
       go_meet
       case rel => exact ⟨_, (true), rs, H', ⟨by first | omega | exact Nat.le_refl _⟩, ⟨bk BK326⟩, ⟨bw1 HB GE326⟩⟩
    ·replace c16 := Bool.eq_false_iff.mpr c16
     subst c16
     have q_c13b0 := c13b0
     (try simp at q_c13b0)
     have q_c13b0 := c13b0
     (try simp at q_c13b0)
     have H1 : (if t328 = 0 then (tocsinlaw15_PlanWheres.j0 k a1 a2 (t329 != 0) a0_0 a0_1 a0_2 a0_3 a0_4 l0_5 l0_6 l0_7 a0_8) else (tocsinlaw15_PlanWheres.j0 k a1 a2 true a0_0 a0_1 a0_2 a0_3 a0_4 l0_5 l0_6 l0_7 a0_8)) = some r := by rw [if_neg (show ¬ (false = true) by decide)] at H; exact H
     clear H
     have H := H1
     clear H1
     by_cases c29 : t328 = 0
     ·rw [if_pos c29] at H
      have c29b0 : (t328 == 0) = true := beq_iff_eq.mpr c29
      have c29b1 : (t328 != 0) = false := bne_eq_false_iff_eq.mpr c29
      clear c29
      have H' := Aside0.mk H
      clear H
      obtain ⟨hcz30_0, hcz30_1, hcz30_2, hcz30_3, hcz30_4, hcz30_5, hcz30_6, hcz30_7, hcz30_8, hfz30_0, hfz30_1, hfz30_2, hfz30_3, hfz30_4, hfz30_5, hfz30_6, hfz30_7, hfz30_8⟩ := bz9 BK326
      go_wp2_with (first | ((with_reducible refine gate_callee (f := 10) rfl ?_); refine gol (some 34) Try.func10 #[.agg #[.int .i64 a0_0, .int .i64 a0_1, .int .i64 a0_2, .int .i64 a0_3, .int .i64 a0_4, .slice A0_5 l0_5.length c0_5, .slice A0_6 l0_6.length c0_6, .slice A0_7 l0_7.length c0_7, .int .i64 a0_8], .int .i64 a2] ?_; (with_reducible refine (tocsinref15_Good.calls k a0_0 a0_1 a0_2 a0_3 a0_4 _ _ l0_5 _ _ l0_6 _ _ l0_7 a0_8 a2 t331 _ ?side1 ?side2 ?side3 ?side4 ?side5 ?side6 A12.out).mono ?_); (case side1 => exact kC (Kd.C_below HR0_5.out HB.out)); (case side2 => exact HC0_5.out); (case side3 => exact kC (Kd.C_below HR0_6.out HB.out)); (case side4 => exact HC0_6.out); (case side5 => exact kC (Kd.C_below HR0_7.out HB.out)); (case side6 => exact HC0_7.out); rintro e w31 ⟨rfl, hb⟩; refine ⟨_, rfl, ?_⟩; replace BK326 := bb BK326 hb; replace HB := bs1 HB GE326 hb; (try clear hb); (try clear hb2); (try clear hk); (try clear hi)))
      go_meet
      case rel => exact ⟨_, ((t329 != 0)), rs, H', ⟨by first | omega | exact Nat.le_refl _⟩, ⟨bk BK326⟩, ⟨bw1 HB GE326⟩⟩
     ·rw [if_neg c29] at H
      have c29b0 : (t328 == 0) = false := beq_eq_false_iff_ne.mpr c29
      have c29b1 : (t328 != 0) = true := bne_iff_ne.mpr c29
      have H' := Aside0.mk H
      clear H
      obtain ⟨hcz32_0, hcz32_1, hcz32_2, hcz32_3, hcz32_4, hcz32_5, hcz32_6, hcz32_7, hcz32_8, hfz32_0, hfz32_1, hfz32_2, hfz32_3, hfz32_4, hfz32_5, hfz32_6, hfz32_7, hfz32_8⟩ := bz9 BK326
      go_wp2_with (first | ((with_reducible refine gate_callee (f := 10) rfl ?_); refine gol (some 34) Try.func10 #[.agg #[.int .i64 a0_0, .int .i64 a0_1, .int .i64 a0_2, .int .i64 a0_3, .int .i64 a0_4, .slice A0_5 l0_5.length c0_5, .slice A0_6 l0_6.length c0_6, .slice A0_7 l0_7.length c0_7, .int .i64 a0_8], .int .i64 a2] ?_; (with_reducible refine (tocsinref15_Good.calls k a0_0 a0_1 a0_2 a0_3 a0_4 _ _ l0_5 _ _ l0_6 _ _ l0_7 a0_8 a2 t331 _ ?side1 ?side2 ?side3 ?side4 ?side5 ?side6 A12.out).mono ?_); (case side1 => exact kC (Kd.C_below HR0_5.out HB.out)); (case side2 => exact HC0_5.out); (case side3 => exact kC (Kd.C_below HR0_6.out HB.out)); (case side4 => exact HC0_6.out); (case side5 => exact kC (Kd.C_below HR0_7.out HB.out)); (case side6 => exact HC0_7.out); rintro e w33 ⟨rfl, hb⟩; refine ⟨_, rfl, ?_⟩; replace BK326 := bb BK326 hb; replace HB := bs1 HB GE326 hb; (try clear hb); (try clear hb2); (try clear hk); (try clear hi)))
      go_meet
      case rel => exact ⟨_, (true), rs, H', ⟨by first | omega | exact Nat.le_refl _⟩, ⟨bk BK326⟩, ⟨bw1 HB GE326⟩⟩
  case rest =>
   clear HC7
   try clear c1
   try clear c2
   try clear p2
   try clear c3
   try clear c5
   try clear p6
   try clear c8
   try clear c9
   try clear c10
   try clear c13
   try clear c13b0
   try clear c16
   try clear c17
   try clear c17b0
   try clear c17b1
   try clear c18
   try clear c18b0
   try clear c18b1
   try clear c19
   try clear c19b0
   try clear c19b1
   try clear c29
   try clear c29b0
   try clear c29b1
   try clear hcz10_0 hcz10_1 hcz10_2 hcz10_3 hcz10_4 hcz10_5 hcz10_6 hcz10_7 hcz10_8
   try clear hcz14_0 hcz14_1 hcz14_2 hcz14_3 hcz14_4 hcz14_5 hcz14_6 hcz14_7 hcz14_8
   try clear hcz20_0 hcz20_1 hcz20_2 hcz20_3 hcz20_4 hcz20_5 hcz20_6 hcz20_7 hcz20_8
   try clear hcz22_0 hcz22_1 hcz22_2 hcz22_3 hcz22_4 hcz22_5 hcz22_6 hcz22_7 hcz22_8
   try clear hcz23_0 hcz23_1 hcz23_2 hcz23_3 hcz23_4 hcz23_5 hcz23_6 hcz23_7 hcz23_8
   try clear hcz25_0 hcz25_1 hcz25_2 hcz25_3 hcz25_4 hcz25_5 hcz25_6 hcz25_7 hcz25_8
   try clear hcz26_0 hcz26_1 hcz26_2 hcz26_3 hcz26_4 hcz26_5 hcz26_6 hcz26_7 hcz26_8
   try clear hcz28_0 hcz28_1 hcz28_2 hcz28_3 hcz28_4 hcz28_5 hcz28_6 hcz28_7 hcz28_8
   try clear hcz30_0 hcz30_1 hcz30_2 hcz30_3 hcz30_4 hcz30_5 hcz30_6 hcz30_7 hcz30_8
   try clear hcz32_0 hcz32_1 hcz32_2 hcz32_3 hcz32_4 hcz32_5 hcz32_6 hcz32_7 hcz32_8
   try clear hfz10_0 hfz10_1 hfz10_2 hfz10_3 hfz10_4 hfz10_5 hfz10_6 hfz10_7 hfz10_8
   try clear hfz14_0 hfz14_1 hfz14_2 hfz14_3 hfz14_4 hfz14_5 hfz14_6 hfz14_7 hfz14_8
   try clear hfz20_0 hfz20_1 hfz20_2 hfz20_3 hfz20_4 hfz20_5 hfz20_6 hfz20_7 hfz20_8
   try clear hfz22_0 hfz22_1 hfz22_2 hfz22_3 hfz22_4 hfz22_5 hfz22_6 hfz22_7 hfz22_8
   try clear hfz23_0 hfz23_1 hfz23_2 hfz23_3 hfz23_4 hfz23_5 hfz23_6 hfz23_7 hfz23_8
   try clear hfz25_0 hfz25_1 hfz25_2 hfz25_3 hfz25_4 hfz25_5 hfz25_6 hfz25_7 hfz25_8
   try clear hfz26_0 hfz26_1 hfz26_2 hfz26_3 hfz26_4 hfz26_5 hfz26_6 hfz26_7 hfz26_8
   try clear hfz28_0 hfz28_1 hfz28_2 hfz28_3 hfz28_4 hfz28_5 hfz28_6 hfz28_7 hfz28_8
   try clear hfz30_0 hfz30_1 hfz30_2 hfz30_3 hfz30_4 hfz30_5 hfz30_6 hfz30_7 hfz30_8
   try clear hfz32_0 hfz32_1 hfz32_2 hfz32_3 hfz32_4 hfz32_5 hfz32_6 hfz32_7 hfz32_8
   obtain ⟨kq, x66_6, rfl, HA, HJ6, BK326, HB⟩ := hcut
   cases kq with
   | zero => exact absurd HA.out (by simp [tocsinlaw15_PlanWheres.j0])
   | succ kj6 =>
    have H := HA.out
    clear HA
    simp only [tocsinlaw15_PlanWheres.j0] at H
    by_cases c34 : x66_6 = true
    ·subst c34
     have H1 : (none) = some r := by rw [if_pos rfl] at H; exact H
     clear H
     have H := H1
     clear H1
     exact absurd H (by simp)
    ·replace c34 := Bool.eq_false_iff.mpr c34
     subst c34
     have H1 : ((plan_Send.f a0_0 a0_1 a0_2 a0_3 a0_4 l0_5 l0_6 l0_7 a0_8 a1 a2).bind fun bt332 => ((plan_Relay.f a0_0 a0_1 a0_2 a0_3 a0_4 l0_5 l0_6 l0_7 a0_8 a1 a2).bind fun bt334 => ((plan_Land.f a0_0 a0_1 a0_2 a0_3 a0_4 l0_5 l0_6 l0_7 a0_8 a1 a2).bind fun bt336 => ((tocsinref15_Send.f kj6 a0_0 a0_1 a0_2 a0_3 a0_4 l0_5 l0_6 l0_7 a0_8 a1 a2).bind fun bt338 => ((tocsinref15_Relay.f kj6 a0_0 a0_1 a0_2 a0_3 a0_4 l0_5 l0_6 l0_7 a0_8 a1 a2).bind fun bt340 => ((tocsinref15_Land.f kj6 a0_0 a0_1 a0_2 a0_3 a0_4 l0_5 l0_6 l0_7 a0_8 a1 a2).bind fun bt342 => (if bt332.1 = bt338.1 then (if (bt332.2 == bt338.2) = true then (if bt334.1 = bt340.1 then (if (bt334.2 == bt340.2) = true then (if bt336.1 = bt342.1 then (some (bt336.2 == bt342.2)) else (none)) else (none)) else (none)) else (none)) else (none)))))))) = some r := by rw [if_neg (show ¬ (false = true) by decide)] at H; exact H
     clear H
     have H := H1
     clear H1
     replace H := Option.bind_eq_some_iff.mp H
     obtain ⟨⟨t332, t333⟩, A350, H⟩ := H
     replace H : ((plan_Relay.f a0_0 a0_1 a0_2 a0_3 a0_4 l0_5 l0_6 l0_7 a0_8 a1 a2).bind fun bt334 => ((plan_Land.f a0_0 a0_1 a0_2 a0_3 a0_4 l0_5 l0_6 l0_7 a0_8 a1 a2).bind fun bt336 => ((tocsinref15_Send.f kj6 a0_0 a0_1 a0_2 a0_3 a0_4 l0_5 l0_6 l0_7 a0_8 a1 a2).bind fun bt338 => ((tocsinref15_Relay.f kj6 a0_0 a0_1 a0_2 a0_3 a0_4 l0_5 l0_6 l0_7 a0_8 a1 a2).bind fun bt340 => ((tocsinref15_Land.f kj6 a0_0 a0_1 a0_2 a0_3 a0_4 l0_5 l0_6 l0_7 a0_8 a1 a2).bind fun bt342 => (if t332 = bt338.1 then (if (t333 == bt338.2) = true then (if bt334.1 = bt340.1 then (if (bt334.2 == bt340.2) = true then (if bt336.1 = bt342.1 then (some (bt336.2 == bt342.2)) else (none)) else (none)) else (none)) else (none)) else (none))))))) = some r := H
     have A35 := Aside0.mk A350
     clear A350
     replace H := Option.bind_eq_some_iff.mp H
     obtain ⟨⟨t334, t335⟩, A360, H⟩ := H
     replace H : ((plan_Land.f a0_0 a0_1 a0_2 a0_3 a0_4 l0_5 l0_6 l0_7 a0_8 a1 a2).bind fun bt336 => ((tocsinref15_Send.f kj6 a0_0 a0_1 a0_2 a0_3 a0_4 l0_5 l0_6 l0_7 a0_8 a1 a2).bind fun bt338 => ((tocsinref15_Relay.f kj6 a0_0 a0_1 a0_2 a0_3 a0_4 l0_5 l0_6 l0_7 a0_8 a1 a2).bind fun bt340 => ((tocsinref15_Land.f kj6 a0_0 a0_1 a0_2 a0_3 a0_4 l0_5 l0_6 l0_7 a0_8 a1 a2).bind fun bt342 => (if t332 = bt338.1 then (if (t333 == bt338.2) = true then (if t334 = bt340.1 then (if (t335 == bt340.2) = true then (if bt336.1 = bt342.1 then (some (bt336.2 == bt342.2)) else (none)) else (none)) else (none)) else (none)) else (none)))))) = some r := H
     have A36 := Aside0.mk A360
     clear A360
     replace H := Option.bind_eq_some_iff.mp H
     obtain ⟨⟨t336, t337⟩, A370, H⟩ := H
     replace H : ((tocsinref15_Send.f kj6 a0_0 a0_1 a0_2 a0_3 a0_4 l0_5 l0_6 l0_7 a0_8 a1 a2).bind fun bt338 => ((tocsinref15_Relay.f kj6 a0_0 a0_1 a0_2 a0_3 a0_4 l0_5 l0_6 l0_7 a0_8 a1 a2).bind fun bt340 => ((tocsinref15_Land.f kj6 a0_0 a0_1 a0_2 a0_3 a0_4 l0_5 l0_6 l0_7 a0_8 a1 a2).bind fun bt342 => (if t332 = bt338.1 then (if (t333 == bt338.2) = true then (if t334 = bt340.1 then (if (t335 == bt340.2) = true then (if t336 = bt342.1 then (some (t337 == bt342.2)) else (none)) else (none)) else (none)) else (none)) else (none))))) = some r := H
     have A37 := Aside0.mk A370
     clear A370
     replace H := Option.bind_eq_some_iff.mp H
     obtain ⟨⟨t338, t339⟩, A380, H⟩ := H
     replace H : ((tocsinref15_Relay.f kj6 a0_0 a0_1 a0_2 a0_3 a0_4 l0_5 l0_6 l0_7 a0_8 a1 a2).bind fun bt340 => ((tocsinref15_Land.f kj6 a0_0 a0_1 a0_2 a0_3 a0_4 l0_5 l0_6 l0_7 a0_8 a1 a2).bind fun bt342 => (if t332 = t338 then (if (t333 == t339) = true then (if t334 = bt340.1 then (if (t335 == bt340.2) = true then (if t336 = bt342.1 then (some (t337 == bt342.2)) else (none)) else (none)) else (none)) else (none)) else (none)))) = some r := H
     have A38 := Aside0.mk A380
     clear A380
     replace H := Option.bind_eq_some_iff.mp H
     obtain ⟨⟨t340, t341⟩, A390, H⟩ := H
     replace H : ((tocsinref15_Land.f kj6 a0_0 a0_1 a0_2 a0_3 a0_4 l0_5 l0_6 l0_7 a0_8 a1 a2).bind fun bt342 => (if t332 = t338 then (if (t333 == t339) = true then (if t334 = t340 then (if (t335 == t341) = true then (if t336 = bt342.1 then (some (t337 == bt342.2)) else (none)) else (none)) else (none)) else (none)) else (none))) = some r := H
     have A39 := Aside0.mk A390
     clear A390
     replace H := Option.bind_eq_some_iff.mp H
     obtain ⟨⟨t342, t343⟩, A400, H⟩ := H
     replace H : (if t332 = t338 then (if (t333 == t339) = true then (if t334 = t340 then (if (t335 == t341) = true then (if t336 = t342 then (some (t337 == t343)) else (none)) else (none)) else (none)) else (none)) else (none)) = some r := H
     have A40 := Aside0.mk A400
     clear A400
     by_cases c41 : t332 = t338
     ·rw [if_pos c41] at H
      have c41b0 : (t332 == t338) = true := beq_iff_eq.mpr c41
      have c41b1 : (t332 != t338) = false := bne_eq_false_iff_eq.mpr c41
      clear c41
      by_cases c42 : (t333 == t339) = true
      ·rw [if_pos c42] at H
       have c42b0 : (t333 == t339) = true := c42
       (try (have c42b1 : decide (t333 = t339) = true := by simpa using c42))
       (try (have c42b2 : (t333 == t339) = true := by simpa using c42))
       clear c42
       by_cases c43 : t334 = t340
       ·rw [if_pos c43] at H
        have c43b0 : (t334 == t340) = true := beq_iff_eq.mpr c43
        have c43b1 : (t334 != t340) = false := bne_eq_false_iff_eq.mpr c43
        clear c43
        by_cases c44 : (t335 == t341) = true
        ·rw [if_pos c44] at H
         have c44b0 : (t335 == t341) = true := c44
         (try (have c44b1 : decide (t335 = t341) = true := by simpa using c44))
         (try (have c44b2 : (t335 == t341) = true := by simpa using c44))
         clear c44
         by_cases c45 : t336 = t342
         ·rw [if_pos c45] at H
          have c45b0 : (t336 == t342) = true := beq_iff_eq.mpr c45
          have c45b1 : (t336 != t342) = false := bne_eq_false_iff_eq.mpr c45
          clear c45
          obtain rfl := Option.some.inj H
          obtain ⟨hcz46_0, hcz46_1, hcz46_2, hcz46_3, hcz46_4, hcz46_5, hcz46_6, hcz46_7, hcz46_8, hfz46_0, hfz46_1, hfz46_2, hfz46_3, hfz46_4, hfz46_5, hfz46_6, hfz46_7, hfz46_8⟩ := bz9 BK326
          go_wp2_with (first | ((with_reducible refine gate_callee (f := 11) rfl ?_); refine gol (some 71) Try.func11 #[.agg #[.int .i64 a0_0, .int .i64 a0_1, .int .i64 a0_2, .int .i64 a0_3, .int .i64 a0_4, .slice A0_5 l0_5.length c0_5, .slice A0_6 l0_6.length c0_6, .slice A0_7 l0_7.length c0_7, .int .i64 a0_8], .int .i64 a1, .int .i64 a2] ?_; (with_reducible refine (plan_Send.calls a0_0 a0_1 a0_2 a0_3 a0_4 _ _ l0_5 _ _ l0_6 _ _ l0_7 a0_8 a1 a2 t332 t333 _ ?side1 ?side2 ?side3 ?side4 ?side5 ?side6 A35.out).mono ?_); (case side1 => exact kC (Kd.C_below HR0_5.out HB.out)); (case side2 => exact HC0_5.out); (case side3 => exact kC (Kd.C_below HR0_6.out HB.out)); (case side4 => exact HC0_6.out); (case side5 => exact kC (Kd.C_below HR0_7.out HB.out)); (case side6 => exact HC0_7.out); rintro e w47 ⟨rfl, hb⟩; refine ⟨_, rfl, ?_⟩; replace BK326 := bb BK326 hb; replace HB := bs1 HB GE326 hb; (try clear hb); (try clear hb2); (try clear hk); (try clear hi); obtain ⟨hcz48_0, hcz48_1, hcz48_2, hcz48_3, hcz48_4, hcz48_5, hcz48_6, hcz48_7, hcz48_8, hfz48_0, hfz48_1, hfz48_2, hfz48_3, hfz48_4, hfz48_5, hfz48_6, hfz48_7, hfz48_8⟩ := bz9 BK326) | ((with_reducible refine gate_callee (f := 12) rfl ?_); refine gol (some 78) Try.func12 #[.agg #[.int .i64 a0_0, .int .i64 a0_1, .int .i64 a0_2, .int .i64 a0_3, .int .i64 a0_4, .slice A0_5 l0_5.length c0_5, .slice A0_6 l0_6.length c0_6, .slice A0_7 l0_7.length c0_7, .int .i64 a0_8], .int .i64 a1, .int .i64 a2] ?_; (with_reducible refine (plan_Relay.calls a0_0 a0_1 a0_2 a0_3 a0_4 _ _ l0_5 _ _ l0_6 _ _ l0_7 a0_8 a1 a2 t334 t335 _ ?side1 ?side2 ?side3 ?side4 ?side5 ?side6 A36.out).mono ?_); (case side1 => exact kC (Kd.C_below HR0_5.out HB.out)); (case side2 => exact HC0_5.out); (case side3 => exact kC (Kd.C_below HR0_6.out HB.out)); (case side4 => exact HC0_6.out); (case side5 => exact kC (Kd.C_below HR0_7.out HB.out)); (case side6 => exact HC0_7.out); rintro e w49 ⟨rfl, hb⟩; refine ⟨_, rfl, ?_⟩; replace BK326 := bb BK326 hb; replace HB := bs1 HB GE326 hb; (try clear hb); (try clear hb2); (try clear hk); (try clear hi); obtain ⟨hcz50_0, hcz50_1, hcz50_2, hcz50_3, hcz50_4, hcz50_5, hcz50_6, hcz50_7, hcz50_8, hfz50_0, hfz50_1, hfz50_2, hfz50_3, hfz50_4, hfz50_5, hfz50_6, hfz50_7, hfz50_8⟩ := bz9 BK326) | ((with_reducible refine gate_callee (f := 13) rfl ?_); refine gol (some 85) Try.func13 #[.agg #[.int .i64 a0_0, .int .i64 a0_1, .int .i64 a0_2, .int .i64 a0_3, .int .i64 a0_4, .slice A0_5 l0_5.length c0_5, .slice A0_6 l0_6.length c0_6, .slice A0_7 l0_7.length c0_7, .int .i64 a0_8], .int .i64 a1, .int .i64 a2] ?_; (with_reducible refine (plan_Land.calls a0_0 a0_1 a0_2 a0_3 a0_4 _ _ l0_5 _ _ l0_6 _ _ l0_7 a0_8 a1 a2 t336 t337 _ ?side1 ?side2 ?side3 ?side4 ?side5 ?side6 A37.out).mono ?_); (case side1 => exact kC (Kd.C_below HR0_5.out HB.out)); (case side2 => exact HC0_5.out); (case side3 => exact kC (Kd.C_below HR0_6.out HB.out)); (case side4 => exact HC0_6.out); (case side5 => exact kC (Kd.C_below HR0_7.out HB.out)); (case side6 => exact HC0_7.out); rintro e w51 ⟨rfl, hb⟩; refine ⟨_, rfl, ?_⟩; replace BK326 := bb BK326 hb; replace HB := bs1 HB GE326 hb; (try clear hb); (try clear hb2); (try clear hk); (try clear hi); obtain ⟨hcz52_0, hcz52_1, hcz52_2, hcz52_3, hcz52_4, hcz52_5, hcz52_6, hcz52_7, hcz52_8, hfz52_0, hfz52_1, hfz52_2, hfz52_3, hfz52_4, hfz52_5, hfz52_6, hfz52_7, hfz52_8⟩ := bz9 BK326) | ((with_reducible refine gate_callee (f := 14) rfl ?_); refine gol (some 92) Try.func14 #[.agg #[.int .i64 a0_0, .int .i64 a0_1, .int .i64 a0_2, .int .i64 a0_3, .int .i64 a0_4, .slice A0_5 l0_5.length c0_5, .slice A0_6 l0_6.length c0_6, .slice A0_7 l0_7.length c0_7, .int .i64 a0_8], .int .i64 a1, .int .i64 a2] ?_; (with_reducible refine (tocsinref15_Send.calls kj6 a0_0 a0_1 a0_2 a0_3 a0_4 _ _ l0_5 _ _ l0_6 _ _ l0_7 a0_8 a1 a2 t338 t339 _ ?side1 ?side2 ?side3 ?side4 ?side5 ?side6 A38.out).mono ?_); (case side1 => exact kC (Kd.C_below HR0_5.out HB.out)); (case side2 => exact HC0_5.out); (case side3 => exact kC (Kd.C_below HR0_6.out HB.out)); (case side4 => exact HC0_6.out); (case side5 => exact kC (Kd.C_below HR0_7.out HB.out)); (case side6 => exact HC0_7.out); rintro e w53 ⟨rfl, hb⟩; refine ⟨_, rfl, ?_⟩; replace BK326 := bb BK326 hb; replace HB := bs1 HB GE326 hb; (try clear hb); (try clear hb2); (try clear hk); (try clear hi); obtain ⟨hcz54_0, hcz54_1, hcz54_2, hcz54_3, hcz54_4, hcz54_5, hcz54_6, hcz54_7, hcz54_8, hfz54_0, hfz54_1, hfz54_2, hfz54_3, hfz54_4, hfz54_5, hfz54_6, hfz54_7, hfz54_8⟩ := bz9 BK326) | ((with_reducible refine gate_callee (f := 15) rfl ?_); refine gol (some 99) Try.func15 #[.agg #[.int .i64 a0_0, .int .i64 a0_1, .int .i64 a0_2, .int .i64 a0_3, .int .i64 a0_4, .slice A0_5 l0_5.length c0_5, .slice A0_6 l0_6.length c0_6, .slice A0_7 l0_7.length c0_7, .int .i64 a0_8], .int .i64 a1, .int .i64 a2] ?_; (with_reducible refine (tocsinref15_Relay.calls kj6 a0_0 a0_1 a0_2 a0_3 a0_4 _ _ l0_5 _ _ l0_6 _ _ l0_7 a0_8 a1 a2 t340 t341 _ ?side1 ?side2 ?side3 ?side4 ?side5 ?side6 A39.out).mono ?_); (case side1 => exact kC (Kd.C_below HR0_5.out HB.out)); (case side2 => exact HC0_5.out); (case side3 => exact kC (Kd.C_below HR0_6.out HB.out)); (case side4 => exact HC0_6.out); (case side5 => exact kC (Kd.C_below HR0_7.out HB.out)); (case side6 => exact HC0_7.out); rintro e w55 ⟨rfl, hb⟩; refine ⟨_, rfl, ?_⟩; replace BK326 := bb BK326 hb; replace HB := bs1 HB GE326 hb; (try clear hb); (try clear hb2); (try clear hk); (try clear hi); obtain ⟨hcz56_0, hcz56_1, hcz56_2, hcz56_3, hcz56_4, hcz56_5, hcz56_6, hcz56_7, hcz56_8, hfz56_0, hfz56_1, hfz56_2, hfz56_3, hfz56_4, hfz56_5, hfz56_6, hfz56_7, hfz56_8⟩ := bz9 BK326) | ((with_reducible refine gate_callee (f := 16) rfl ?_); refine gol (some 106) Try.func16 #[.agg #[.int .i64 a0_0, .int .i64 a0_1, .int .i64 a0_2, .int .i64 a0_3, .int .i64 a0_4, .slice A0_5 l0_5.length c0_5, .slice A0_6 l0_6.length c0_6, .slice A0_7 l0_7.length c0_7, .int .i64 a0_8], .int .i64 a1, .int .i64 a2] ?_; (with_reducible refine (tocsinref15_Land.calls kj6 a0_0 a0_1 a0_2 a0_3 a0_4 _ _ l0_5 _ _ l0_6 _ _ l0_7 a0_8 a1 a2 t342 t343 _ ?side1 ?side2 ?side3 ?side4 ?side5 ?side6 A40.out).mono ?_); (case side1 => exact kC (Kd.C_below HR0_5.out HB.out)); (case side2 => exact HC0_5.out); (case side3 => exact kC (Kd.C_below HR0_6.out HB.out)); (case side4 => exact HC0_6.out); (case side5 => exact kC (Kd.C_below HR0_7.out HB.out)); (case side6 => exact HC0_7.out); rintro e w57 ⟨rfl, hb⟩; refine ⟨_, rfl, ?_⟩; replace BK326 := bb BK326 hb; replace HB := bs1 HB GE326 hb; (try clear hb); (try clear hb2); (try clear hk); (try clear hi)))
          go_ret
          exact ⟨re, bw1 HB GE326⟩
         ·rw [if_neg c45] at H
          exact absurd H (by simp)
        ·rw [if_neg c44] at H
         exact absurd H (by simp)
       ·rw [if_neg c43] at H
        exact absurd H (by simp)
      ·rw [if_neg c42] at H
       exact absurd H (by simp)
     ·rw [if_neg c41] at H
      exact absurd H (by simp)
 ·replace c5 := Bool.eq_false_iff.mpr c5
  subst c5
  have H1 : (none) = some r := by rw [if_neg (show ¬ (false = true) by decide)] at H; exact H
  clear H
  have H := H1
  clear H1
  exact absurd H (by simp)
end Go.Proofs.Ytbmldeikjfecfaa.T
