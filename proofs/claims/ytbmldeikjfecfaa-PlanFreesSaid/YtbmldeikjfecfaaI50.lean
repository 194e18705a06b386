/- A part of the proof of the statement PlanFrees: words, contracts of functions that it reaches, and what they compute. No condition. -/
import Derived.Test.YtbmldeikjfecfaaI01
import Derived.Test.YtbmldeikjfecfaaI04
import Derived.Test.YtbmldeikjfecfaaI40
import Derived.Test.YtbmldeikjfecfaaI41
import Derived.Test.YtbmldeikjfecfaaI44
import Derived.Test.YtbmldeikjfecfaaI48
import Derived.Test.YtbmldeikjfecfaaI49
set_option linter.unusedVariables false
set_option linter.unusedSimpArgs false
namespace Go.Proofs.Ytbmldeikjfecfaa.T
open Go.RowKit Go.Proofs.YtbmldeikjfecfaaW.PrintWords Go.Proofs.YtbmldeikjfecfaaW.PrintLast Go.Proofs.YtbmldeikjfecfaaW.PrintMore
attribute [local go_sem] max2_int min2_int max_two min_two max_three min_three max_four min_four
attribute [local go_sem] at34_0 at34_1 at34_2 at42_0 at42_1 at42_2 at42_3 at47_0 at47_1 at47_2 at47_3 at47_4
def tocsinlaw15_PlanFrees.f (k : Nat) (a0_0 : Int) (a0_1 : Int) (a0_2 : Int) (a0_3 : Int) (a0_4 : Int) (l0_5 : List (List Int)) (l0_6 : List (S40)) (l0_7 : List (S63)) (a0_8 : Int) (a1_0 : Int) (a1_1 : Int) (a1_2 : Int) (a2 : Bool) : Option (Bool) := (tocsinlaw15_fixed.f k).bind fun t375 => (if t375 = true then ((plan_Wait.f k a0_0 a0_1 a0_2 a0_3 a0_4 l0_5 l0_6 l0_7 a0_8 a1_0 a2 a1_1 a1_2).bind fun bt376 => ((tocsinref15_Wait.f k a0_0 a0_1 a0_2 a0_3 a0_4 l0_5 l0_6 l0_7 a0_8 a1_0 a2 a1_1 a1_2).bind fun bt378 => ((plan_Free.f k a0_0 a0_1 a0_2 a0_3 a0_4 l0_5 l0_6 l0_7 a0_8 a1_0 a2 a1_1 a1_2).bind fun t380 => ((tocsinref15_Free.f k a0_0 a0_1 a0_2 a0_3 a0_4 l0_5 l0_6 l0_7 a0_8 a1_0 a2 a1_1 a1_2).bind fun t381 => (if (t380 == t381) = true then (if bt376.1 = bt378.1 then (some (bt376.2 == bt378.2)) else (none)) else (none)))))) else (none))
theorem tocsinlaw15_PlanFrees.mono : ∀ a0 a1 a2 a3 a4 a5 a6 a7 a8 a9 a10 a11 a12 k, LeO (tocsinlaw15_PlanFrees.f k a0 a1 a2 a3 a4 a5 a6 a7 a8 a9 a10 a11 a12) (tocsinlaw15_PlanFrees.f (k + 1) a0 a1 a2 a3 a4 a5 a6 a7 a8 a9 a10 a11 a12) := by
 intro a0 a1 a2 a3 a4 a5 a6 a7 a8 a9 a10 a11 a12 k
 unfold tocsinlaw15_PlanFrees.f
 repeat' first
   | (with_reducible exact plan_Free.mono _ _ _ _ _ _ _ _ _ _ _ _ _ _)
   | (with_reducible exact plan_Wait.mono _ _ _ _ _ _ _ _ _ _ _ _ _ _)
   | (with_reducible exact tocsinlaw15_fixed.mono _)
   | (with_reducible exact tocsinref15_Free.mono _ _ _ _ _ _ _ _ _ _ _ _ _ _)
   | (with_reducible exact tocsinref15_Wait.mono _ _ _ _ _ _ _ _ _ _ _ _ _ _)
   | (with_reducible exact LeO.refl _)
   | (with_reducible exact LeO.none _)
   | (with_reducible refine LeO.ite ?_ ?_)
   | (with_reducible refine LeO.bind ?_ (fun _ => ?_))
   | exact plan_Free.mono _ _ _ _ _ _ _ _ _ _ _ _ _ _
   | exact plan_Wait.mono _ _ _ _ _ _ _ _ _ _ _ _ _ _
   | exact tocsinlaw15_fixed.mono _
   | exact tocsinref15_Free.mono _ _ _ _ _ _ _ _ _ _ _ _ _ _
   | exact tocsinref15_Wait.mono _ _ _ _ _ _ _ _ _ _ _ _ _ _
   | exact LeO.none _
   | refine LeO.ite ?_ ?_
   | refine LeO.bind ?_ (fun _ => ?_)
def tocsinlaw15_PlanFrees.T3 : Bool × List (List Nat × List Nat) := (true, [([], []), ([0], [0]), ([], []), ([2], [2]), ([], []), ([4], [4]), ([1, 0, 1], [1]), ([3, 6, 0, 1, 2, 3, 6], [3]), ([5, 7, 0, 1, 2, 3, 4, 5, 6, 7], [5])])
def tocsinlaw15_PlanFrees.B3 : List Nat := [0, 1, 0, 4, 0, 16, 3, 79, 255]
theorem tocsinlaw15_PlanFrees.tab3 : rtab .any (opsOf Try.f4 3) = tocsinlaw15_PlanFrees.T3 := by kernel_rfl
theorem tocsinlaw15_PlanFrees.bits3 : waitsOk tocsinlaw15_PlanFrees.T3.2 tocsinlaw15_PlanFrees.B3 = true := by kernel_rfl
def tocsinlaw15_PlanFrees.T6 : Bool × List (List Nat × List Nat) := (true, [([], []), ([], []), ([], []), ([], []), ([], []), ([0, 1, 2, 3, 4], [0, 1, 2, 3, 4]), ([], []), ([], []), ([], []), ([], []), ([], []), ([6, 7, 8, 9, 10, 5], [6, 7, 8, 9, 10]), ([5, 11], [5, 11]), ([12, 11], [12]), ([13], [13]), ([13], [13]), ([14, 15, 13], [13, 14, 15]), ([13, 16], [13, 16]), ([17, 13], [17]), ([18], [18]), ([18], [18]), ([19, 20, 18], [18, 19, 20]), ([18, 21], [18, 21]), ([22, 18, 0, 1, 2, 3, 4, 5, 6, 7, 8, 9, 10, 11, 12, 13, 14, 15, 16, 17, 18, 19, 20, 21, 22], [22])])
def tocsinlaw15_PlanFrees.B6 : List Nat := [0, 0, 0, 0, 0, 31, 0, 0, 0, 0, 0, 2047, 4095, 8191, 16383, 16383, 65535, 131071, 262143, 524287, 524287, 2097151, 4194303, 8388607]
theorem tocsinlaw15_PlanFrees.tab6 : rtab .any (opsOf Try.f4 6) = tocsinlaw15_PlanFrees.T6 := by kernel_rfl
theorem tocsinlaw15_PlanFrees.bits6 : waitsOk tocsinlaw15_PlanFrees.T6.2 tocsinlaw15_PlanFrees.B6 = true := by kernel_rfl
set_option maxHeartbeats 8000000 in
set_option maxRecDepth 100000 in
theorem tocsinlaw15_PlanFrees.calls (k : Nat) (a0_0 : Int) (a0_1 : Int) (a0_2 : Int) (a0_3 : Int) (a0_4 : Int) (A0_5 : Option Addr) (c0_5 : Nat) (l0_5 : List (List Int)) (A0_6 : Option Addr) (c0_6 : Nat) (l0_6 : List (S40)) (A0_7 : Option Addr) (c0_7 : Nat) (l0_7 : List (S63)) (a0_8 : Int) (a1_0 : Int) (a1_1 : Int) (a1_2 : Int) (a2 : Bool) (r : Bool) (w : World) (hr0_5 : Kd.C (Kd.slice 2 (Kd.int .i64)) w A0_5 l0_5.length l0_5) (hc0_5 : l0_5.length ≤ c0_5) (hr0_6 : Kd.C k40 w A0_6 l0_6.length l0_6) (hc0_6 : l0_6.length ≤ c0_6) (hr0_7 : Kd.C k63 w A0_7 l0_7.length l0_7) (hc0_7 : l0_7.length ≤ c0_7) (h : tocsinlaw15_PlanFrees.f k a0_0 a0_1 a0_2 a0_3 a0_4 l0_5 l0_6 l0_7 a0_8 a1_0 a1_1 a1_2 a2 = some r) :
  Calls Try.prog 4 #[.agg #[.int .i64 a0_0, .int .i64 a0_1, .int .i64 a0_2, .int .i64 a0_3, .int .i64 a0_4, .slice A0_5 l0_5.length c0_5, .slice A0_6 l0_6.length c0_6, .slice A0_7 l0_7.length c0_7, .int .i64 a0_8], .agg #[.int .i64 a1_0, .int .i64 a1_1, .int .i64 a1_2], .bool a2] w fun e w' => e = .returned (.bool r) ∧ Below w.heap.size w w' := by
 have hu26 := Try.underlying26
 have hu34 := Try.underlying34
 have HR0_5 := Aside0.mk hr0_5
 have HC0_5 := Aside0.mk hc0_5
 clear hr0_5 hc0_5
 have HR0_6 := Aside0.mk hr0_6
 have HC0_6 := Aside0.mk hc0_6
 clear hr0_6 hc0_6
 have HR0_7 := Aside0.mk hr0_7
 have HC0_7 := Aside0.mk hc0_7
 clear hr0_7 hc0_7
 have HB := Aside0.mk (Below.refl w.heap.size w)
 have H : ((tocsinlaw15_fixed.f k).bind fun t375 => (if t375 = true then ((plan_Wait.f k a0_0 a0_1 a0_2 a0_3 a0_4 l0_5 l0_6 l0_7 a0_8 a1_0 a2 a1_1 a1_2).bind fun bt376 => ((tocsinref15_Wait.f k a0_0 a0_1 a0_2 a0_3 a0_4 l0_5 l0_6 l0_7 a0_8 a1_0 a2 a1_1 a1_2).bind fun bt378 => ((plan_Free.f k a0_0 a0_1 a0_2 a0_3 a0_4 l0_5 l0_6 l0_7 a0_8 a1_0 a2 a1_1 a1_2).bind fun t380 => ((tocsinref15_Free.f k a0_0 a0_1 a0_2 a0_3 a0_4 l0_5 l0_6 l0_7 a0_8 a1_0 a2 a1_1 a1_2).bind fun t381 => (if (t380 == t381) = true then (if bt376.1 = bt378.1 then (some (bt376.2 == bt378.2)) else (none)) else (none)))))) else (none))) = some r := h
 clear h
 replace H := Option.bind_eq_some_iff.mp H
 obtain ⟨t375, A40, H⟩ := H
 replace H : (if t375 = true then ((plan_Wait.f k a0_0 a0_1 a0_2 a0_3 a0_4 l0_5 l0_6 l0_7 a0_8 a1_0 a2 a1_1 a1_2).bind fun bt376 => ((tocsinref15_Wait.f k a0_0 a0_1 a0_2 a0_3 a0_4 l0_5 l0_6 l0_7 a0_8 a1_0 a2 a1_1 a1_2).bind fun bt378 => ((plan_Free.f k a0_0 a0_1 a0_2 a0_3 a0_4 l0_5 l0_6 l0_7 a0_8 a1_0 a2 a1_1 a1_2).bind fun t380 => ((tocsinref15_Free.f k a0_0 a0_1 a0_2 a0_3 a0_4 l0_5 l0_6 l0_7 a0_8 a1_0 a2 a1_1 a1_2).bind fun t381 => (if (t380 == t381) = true then (if bt376.1 = bt378.1 then (some (bt376.2 == bt378.2)) else (none)) else (none)))))) else (none)) = some r := H
 have A4 := Aside0.mk A40
 clear A40
 by_cases c5 : t375 = true
 ·subst c5
  have H1 : ((plan_Wait.f k a0_0 a0_1 a0_2 a0_3 a0_4 l0_5 l0_6 l0_7 a0_8 a1_0 a2 a1_1 a1_2).bind fun bt376 => ((tocsinref15_Wait.f k a0_0 a0_1 a0_2 a0_3 a0_4 l0_5 l0_6 l0_7 a0_8 a1_0 a2 a1_1 a1_2).bind fun bt378 => ((plan_Free.f k a0_0 a0_1 a0_2 a0_3 a0_4 l0_5 l0_6 l0_7 a0_8 a1_0 a2 a1_1 a1_2).bind fun t380 => ((tocsinref15_Free.f k a0_0 a0_1 a0_2 a0_3 a0_4 l0_5 l0_6 l0_7 a0_8 a1_0 a2 a1_1 a1_2).bind fun t381 => (if (t380 == t381) = true then (if bt376.1 = bt378.1 then (some (bt376.2 == bt378.2)) else (none)) else (none)))))) = some r := by rw [if_pos rfl] at H; exact H
  clear H
  have H := H1
  clear H1
  replace H := Option.bind_eq_some_iff.mp H
  obtain ⟨⟨t376, t377⟩, A60, H⟩ := H
  replace H : ((tocsinref15_Wait.f k a0_0 a0_1 a0_2 a0_3 a0_4 l0_5 l0_6 l0_7 a0_8 a1_0 a2 a1_1 a1_2).bind fun bt378 => ((plan_Free.f k a0_0 a0_1 a0_2 a0_3 a0_4 l0_5 l0_6 l0_7 a0_8 a1_0 a2 a1_1 a1_2).bind fun t380 => ((tocsinref15_Free.f k a0_0 a0_1 a0_2 a0_3 a0_4 l0_5 l0_6 l0_7 a0_8 a1_0 a2 a1_1 a1_2).bind fun t381 => (if (t380 == t381) = true then (if t376 = bt378.1 then (some (t377 == bt378.2)) else (none)) else (none))))) = some r := H
  have A6 := Aside0.mk A60
  clear A60
  replace H := Option.bind_eq_some_iff.mp H
  obtain ⟨⟨t378, t379⟩, A70, H⟩ := H
  replace H : ((plan_Free.f k a0_0 a0_1 a0_2 a0_3 a0_4 l0_5 l0_6 l0_7 a0_8 a1_0 a2 a1_1 a1_2).bind fun t380 => ((tocsinref15_Free.f k a0_0 a0_1 a0_2 a0_3 a0_4 l0_5 l0_6 l0_7 a0_8 a1_0 a2 a1_1 a1_2).bind fun t381 => (if (t380 == t381) = true then (if t376 = t378 then (some (t377 == t379)) else (none)) else (none)))) = some r := H
  have A7 := Aside0.mk A70
  clear A70
  replace H := Option.bind_eq_some_iff.mp H
  obtain ⟨t380, A80, H⟩ := H
  replace H : ((tocsinref15_Free.f k a0_0 a0_1 a0_2 a0_3 a0_4 l0_5 l0_6 l0_7 a0_8 a1_0 a2 a1_1 a1_2).bind fun t381 => (if (t380 == t381) = true then (if t376 = t378 then (some (t377 == t379)) else (none)) else (none))) = some r := H
  have A8 := Aside0.mk A80
  clear A80
  replace H := Option.bind_eq_some_iff.mp H
  obtain ⟨t381, A90, H⟩ := H
  replace H : (if (t380 == t381) = true then (if t376 = t378 then (some (t377 == t379)) else (none)) else (none)) = some r := H
  have A9 := Aside0.mk A90
  clear A90
  by_cases c10 : (t380 == t381) = true
  ·rw [if_pos c10] at H
   have c10b0 : (t380 == t381) = true := c10
   (try (have c10b1 : decide (t380 = t381) = true := by simpa using c10))
   (try (have c10b2 : (t380 == t381) = true := by simpa using c10))
   clear c10
   by_cases c11 : t376 = t378
   ·rw [if_pos c11] at H
    have c11b0 : (t376 == t378) = true := beq_iff_eq.mpr c11
    have c11b1 : (t376 != t378) = false := bne_eq_false_iff_eq.mpr c11
    clear c11
    obtain rfl := Option.some.inj H
    go_enter Try.func4, Try.ntmps4
    try go_wp2_with (first | ((with_reducible refine gate_dst (N := 3) rfl ?_); refine boxe (N := 3) (cs := #[.int .i64 a0_0, .int .i64 a0_1, .int .i64 a0_2, .int .i64 a0_3, .int .i64 a0_4, .slice A0_5 l0_5.length c0_5, .slice A0_6 l0_6.length c0_6, .slice A0_7 l0_7.length c0_7, .int .i64 a0_8]) (t := 26) ?_; intro gb373 hg w12 hbox hb; have BK373 := Aside0.mk (hbox); have GW373 := bg0 hg HB; have GE373 := GW373; replace HB := bs0 HB hb; clear hb hbox hg) | ((with_reducible refine gate_dst (N := 4) rfl ?_); refine boxe (N := 4) (cs := #[.int .i64 a1_0, .int .i64 a1_1, .int .i64 a1_2]) (t := 34) ?_; intro gb374 hg w13 hbox hb; have BK374 := Aside0.mk (hbox); have GW374 := bg1 hg HB GE373; have GE374 := GW374; have NB373_374 := nl hg BK373; have NB374_373 := ng hg BK373; replace BK373 := bb BK373 hb; replace HB := bs1 HB GE373 hb; clear hb hbox hg) | ((with_reducible refine gate_callee (f := 8) rfl ?_); refine gol (some 14) Try.func8 #[] ?_; (with_reducible refine (tocsinlaw15_fixed.calls k  true _ A4.out).mono ?_); rintro e w14 ⟨rfl, hb⟩; refine ⟨_, rfl, ?_⟩; replace BK373 := bb BK373 hb; replace BK374 := bb BK374 hb; replace HB := bs2 HB GE373 GE374 hb; (try clear hb); (try clear hb2); (try clear hk); (try clear hi)))
    have n0_ := Aside0.mk (blk_drew BK373.out)
    have n1_ := Aside0.mk (blk_drew BK374.out)
    have n2_ := Aside0.mk (below_drew1 HB.out)
    clear BK373
    clear BK374
    clear HB
    have BK373 := n0_
    have BK374 := n1_
    have HB := n2_
    clear n0_ n1_ n2_
    refine start_ (n := 9) (S := fun w' => w'.cell? ⟨gb374, 0, none⟩ = some (.int .i64 a1_0) ∧ w'.cell? ⟨gb374, 1, none⟩ = some (.int .i64 a1_1) ∧ w'.cell? ⟨gb374, 2, none⟩ = some (.int .i64 a1_2)) (ds := []) #[false, false, false, false, false, false, false, false, false] (by kernel_rfl) rfl rfl (by exact bc3 BK374) (fun hHeld => ?_); refine with_tabW tocsinlaw15_PlanFrees.tab3 tocsinlaw15_PlanFrees.bits3 (fun HT_ HW_ => ?_)
    generalize w14.drew = w15 at BK373 BK374 HB hHeld ⊢
    refine pl 0 16 #[true, false, false, false, false, false, false, false, false] HT_ ?_
    refine pl 2 18 #[true, false, true, false, false, false, false, false, false] HT_ ?_
    refine pl 4 20 #[true, false, true, false, true, false, false, false, false] HT_ ?_
    refine tk3 1 17 #[true, true, true, false, true, false, false, false, false] HT_ HW_ hHeld ?_
    refine pl 6 7 #[true, true, true, false, true, false, true, false, false] HT_ ?_
    refine tk3 3 19 #[true, true, true, true, true, false, true, false, false] HT_ HW_ hHeld ?_
    refine pl 7 8 #[true, true, true, true, true, false, true, true, false] HT_ ?_
    refine tk3 5 21 #[true, true, true, true, true, true, true, true, false] HT_ HW_ hHeld ?_
    refine pl 8 9 #[true, true, true, true, true, true, true, true, true] HT_ ?_
    refine done_ (done_of HT_.out (by kernel_rfl)) ?_
    have hnb16 := NB373_374.out
    have hnc16 := NB374_373.out
    obtain ⟨hcz17_0, hcz17_1, hcz17_2, hcz17_3, hcz17_4, hcz17_5, hcz17_6, hcz17_7, hcz17_8, hfz17_0, hfz17_1, hfz17_2, hfz17_3, hfz17_4, hfz17_5, hfz17_6, hfz17_7, hfz17_8⟩ := bz9 BK373
    try go_wp2_with (first | ((with_reducible refine gate_callee (f := 17) rfl ?_); refine gol (some 28) Try.func17 #[.agg #[.int .i64 a0_0, .int .i64 a0_1, .int .i64 a0_2, .int .i64 a0_3, .int .i64 a0_4, .slice A0_5 l0_5.length c0_5, .slice A0_6 l0_6.length c0_6, .slice A0_7 l0_7.length c0_7, .int .i64 a0_8], .int .i64 a1_0, .bool a2, .int .i64 a1_1, .int .i64 a1_2] ?_; (with_reducible refine (plan_Wait.calls k a0_0 a0_1 a0_2 a0_3 a0_4 _ _ l0_5 _ _ l0_6 _ _ l0_7 a0_8 a1_0 a2 a1_1 a1_2 t376 t377 _ ?side1 ?side2 ?side3 ?side4 ?side5 ?side6 A6.out).mono ?_); (case side1 => exact kC (Kd.C_below HR0_5.out HB.out)); (case side2 => exact HC0_5.out); (case side3 => exact kC (Kd.C_below HR0_6.out HB.out)); (case side4 => exact HC0_6.out); (case side5 => exact kC (Kd.C_below HR0_7.out HB.out)); (case side6 => exact HC0_7.out); rintro e w18 ⟨rfl, hb⟩; refine ⟨_, rfl, ?_⟩; replace BK373 := bb BK373 hb; replace BK374 := bb BK374 hb; replace HB := bs2 HB GE373 GE374 hb; (try clear hb); (try clear hb2); (try clear hk); (try clear hi); obtain ⟨hcz19_0, hcz19_1, hcz19_2, hcz19_3, hcz19_4, hcz19_5, hcz19_6, hcz19_7, hcz19_8, hfz19_0, hfz19_1, hfz19_2, hfz19_3, hfz19_4, hfz19_5, hfz19_6, hfz19_7, hfz19_8⟩ := bz9 BK373) | ((with_reducible refine gate_callee (f := 18) rfl ?_); refine gol (some 37) Try.func18 #[.agg #[.int .i64 a0_0, .int .i64 a0_1, .int .i64 a0_2, .int .i64 a0_3, .int .i64 a0_4, .slice A0_5 l0_5.length c0_5, .slice A0_6 l0_6.length c0_6, .slice A0_7 l0_7.length c0_7, .int .i64 a0_8], .int .i64 a1_0, .bool a2, .int .i64 a1_1, .int .i64 a1_2] ?_; (with_reducible refine (tocsinref15_Wait.calls k a0_0 a0_1 a0_2 a0_3 a0_4 _ _ l0_5 _ _ l0_6 _ _ l0_7 a0_8 a1_0 a2 a1_1 a1_2 t378 t379 _ ?side1 ?side2 ?side3 ?side4 ?side5 ?side6 A7.out).mono ?_); (case side1 => exact kC (Kd.C_below HR0_5.out HB.out)); (case side2 => exact HC0_5.out); (case side3 => exact kC (Kd.C_below HR0_6.out HB.out)); (case side4 => exact HC0_6.out); (case side5 => exact kC (Kd.C_below HR0_7.out HB.out)); (case side6 => exact HC0_7.out); rintro e w20 ⟨rfl, hb⟩; refine ⟨_, rfl, ?_⟩; replace BK373 := bb BK373 hb; replace BK374 := bb BK374 hb; replace HB := bs2 HB GE373 GE374 hb; (try clear hb); (try clear hb2); (try clear hk); (try clear hi)))
    have n0_ := Aside0.mk (blk_drew BK373.out)
    have n1_ := Aside0.mk (blk_drew BK374.out)
    have n2_ := Aside0.mk (below_drew1 HB.out)
    clear BK373
    clear BK374
    clear HB
    have BK373 := n0_
    have BK374 := n1_
    have HB := n2_
    clear n0_ n1_ n2_
    refine start_ (n := 24) (S := fun w' => w'.cell? ⟨gb373, 0, none⟩ = some (.int .i64 a0_0) ∧ w'.cell? ⟨gb373, 1, none⟩ = some (.int .i64 a0_1) ∧ w'.cell? ⟨gb373, 2, none⟩ = some (.int .i64 a0_2) ∧ w'.cell? ⟨gb373, 3, none⟩ = some (.int .i64 a0_3) ∧ w'.cell? ⟨gb373, 4, none⟩ = some (.int .i64 a0_4) ∧ w'.cell? ⟨gb373, 5, none⟩ = some (.slice A0_5 l0_5.length c0_5) ∧ w'.cell? ⟨gb373, 6, none⟩ = some (.slice A0_6 l0_6.length c0_6) ∧ w'.cell? ⟨gb373, 7, none⟩ = some (.slice A0_7 l0_7.length c0_7) ∧ w'.cell? ⟨gb373, 8, none⟩ = some (.int .i64 a0_8)) (ds := []) #[false, false, false, false, false, false, false, false, false, false, false, false, false, false, false, false, false, false, false, false, false, false, false, false] (by kernel_rfl) rfl rfl (by exact bc9 BK373) (fun hHeld => ?_); refine with_tabW tocsinlaw15_PlanFrees.tab6 tocsinlaw15_PlanFrees.bits6 (fun HT_ HW_ => ?_)
    generalize w20.drew = w21 at BK373 BK374 HB hHeld ⊢
    refine pl 1 41 #[false, true, false, false, false, false, false, false, false, false, false, false, false, false, false, false, false, false, false, false, false, false, false, false] HT_ ?_
    refine pl 2 42 #[false, true, true, false, false, false, false, false, false, false, false, false, false, false, false, false, false, false, false, false, false, false, false, false] HT_ ?_
    refine pl 3 43 #[false, true, true, true, false, false, false, false, false, false, false, false, false, false, false, false, false, false, false, false, false, false, false, false] HT_ ?_
    refine pl 4 44 #[false, true, true, true, true, false, false, false, false, false, false, false, false, false, false, false, false, false, false, false, false, false, false, false] HT_ ?_
    refine pl 7 47 #[false, true, true, true, true, false, false, true, false, false, false, false, false, false, false, false, false, false, false, false, false, false, false, false] HT_ ?_
    refine pl 8 48 #[false, true, true, true, true, false, false, true, true, false, false, false, false, false, false, false, false, false, false, false, false, false, false, false] HT_ ?_
    refine pl 9 49 #[false, true, true, true, true, false, false, true, true, true, false, false, false, false, false, false, false, false, false, false, false, false, false, false] HT_ ?_
    refine pl 10 50 #[false, true, true, true, true, false, false, true, true, true, true, false, false, false, false, false, false, false, false, false, false, false, false, false] HT_ ?_
    refine tk9 0 40 #[true, true, true, true, true, false, false, true, true, true, true, false, false, false, false, false, false, false, false, false, false, false, false, false] HT_ HW_ hHeld ?_
    refine tk9 6 46 #[true, true, true, true, true, false, true, true, true, true, true, false, false, false, false, false, false, false, false, false, false, false, false, false] HT_ HW_ hHeld ?_
    refine one_ (i := 5) (N := some 45) #[true, true, true, true, true, true, true, true, true, true, true, false, false, false, false, false, false, false, false, false, false, false, false, false] rfl rfl (one_of HT_.out (by kernel_rfl)) (by decide) (fun K hK => ?_)
    refine gor Try.func19 #[.agg #[.int .i64 a0_0, .int .i64 a0_1, .int .i64 a0_2, .int .i64 a0_3, .int .i64 a0_4, .slice A0_5 l0_5.length c0_5, .slice A0_6 l0_6.length c0_6, .slice A0_7 l0_7.length c0_7, .int .i64 a0_8], .int .i64 a1_0, .bool a2, .int .i64 a1_1, .int .i64 a1_2] ?_
    with_reducible refine (plan_Free.calls k a0_0 a0_1 a0_2 a0_3 a0_4 _ _ l0_5 _ _ l0_6 _ _ l0_7 a0_8 a1_0 a2 a1_1 a1_2 t380 _ ?side1 ?side2 ?side3 ?side4 ?side5 ?side6 A8.out).mono ?_
    (case side1 => exact kC (Kd.C_below HR0_5.out HB.out))
    (case side2 => exact HC0_5.out)
    (case side3 => exact kC (Kd.C_below HR0_6.out HB.out))
    (case side4 => exact HC0_6.out)
    (case side5 => exact kC (Kd.C_below HR0_7.out HB.out))
    (case side6 => exact HC0_7.out)
    rintro e w22 ⟨rfl, hb⟩
    refine ⟨_, rfl, ?_⟩
    have n0_ := bb BK373 hb
    have n1_ := bb BK374 hb
    have n2_ := bs2 HB GE373 GE374 hb
    clear BK373
    clear BK374
    clear HB
    have BK373 := n0_
    have BK374 := n1_
    have HB := n2_
    clear n0_ n1_ n2_
    (try clear hb)
    (try clear hb2)
    (try clear hk)
    (try clear hi)
    refine hK.out _ _ (by exact bc9 BK373) (fun hHeld => ?_)
    clear hK K
    refine norm_ (a' := ?_) ?_ ?_
    rotate_left
    ·show Act.put _ (some 45) _ = _
     simp only [Act.put, sT, sZ, sS, i64_w, i32_w]
     rfl
    refine one_ (i := 11) (N := some 51) #[true, true, true, true, true, true, true, true, true, true, true, true, false, false, false, false, false, false, false, false, false, false, false, false] rfl rfl (one_of HT_.out (by kernel_rfl)) (by decide) (fun K hK => ?_)
    refine gor Try.func20 #[.agg #[.int .i64 a0_0, .int .i64 a0_1, .int .i64 a0_2, .int .i64 a0_3, .int .i64 a0_4, .slice A0_5 l0_5.length c0_5, .slice A0_6 l0_6.length c0_6, .slice A0_7 l0_7.length c0_7, .int .i64 a0_8], .int .i64 a1_0, .bool a2, .int .i64 a1_1, .int .i64 a1_2] ?_
    with_reducible refine (tocsinref15_Free.calls k a0_0 a0_1 a0_2 a0_3 a0_4 _ _ l0_5 _ _ l0_6 _ _ l0_7 a0_8 a1_0 a2 a1_1 a1_2 t381 _ ?side1 ?side2 ?side3 ?side4 ?side5 ?side6 A9.out).mono ?_
    (case side1 => exact kC (Kd.C_below HR0_5.out HB.out))
    (case side2 => exact HC0_5.out)
    (case side3 => exact kC (Kd.C_below HR0_6.out HB.out))
    (case side4 => exact HC0_6.out)
    (case side5 => exact kC (Kd.C_below HR0_7.out HB.out))
    (case side6 => exact HC0_7.out)
    rintro e w23 ⟨rfl, hb⟩
    refine ⟨_, rfl, ?_⟩
    have n0_ := bb BK373 hb
    have n1_ := bb BK374 hb
    have n2_ := bs2 HB GE373 GE374 hb
    clear BK373
    clear BK374
    clear HB
    have BK373 := n0_
    have BK374 := n1_
    have HB := n2_
    clear n0_ n1_ n2_
    (try clear hb)
    (try clear hb2)
    (try clear hk)
    (try clear hi)
    refine hK.out _ _ (by exact bc9 BK373) (fun hHeld => ?_)
    clear hK K
    refine norm_ (a' := ?_) ?_ ?_
    rotate_left
    ·show Act.put _ (some 51) _ = _
     simp only [Act.put, sT, sZ, sS, i64_w, i32_w]
     rfl
    refine pl 12 52 #[true, true, true, true, true, true, true, true, true, true, true, true, true, false, false, false, false, false, false, false, false, false, false, false] HT_ ?_
    refine pl 13 53 #[true, true, true, true, true, true, true, true, true, true, true, true, true, true, false, false, false, false, false, false, false, false, false, false] HT_ ?_
    refine pl 14 54 #[true, true, true, true, true, true, true, true, true, true, true, true, true, true, true, false, false, false, false, false, false, false, false, false] HT_ ?_
    refine pl 15 55 #[true, true, true, true, true, true, true, true, true, true, true, true, true, true, true, true, false, false, false, false, false, false, false, false] HT_ ?_
    refine pl 16 56 #[true, true, true, true, true, true, true, true, true, true, true, true, true, true, true, true, true, false, false, false, false, false, false, false] HT_ ?_
    refine pl 17 57 #[true, true, true, true, true, true, true, true, true, true, true, true, true, true, true, true, true, true, false, false, false, false, false, false] HT_ ?_
    refine pl 18 58 #[true, true, true, true, true, true, true, true, true, true, true, true, true, true, true, true, true, true, true, false, false, false, false, false] HT_ ?_
    refine pl 19 59 #[true, true, true, true, true, true, true, true, true, true, true, true, true, true, true, true, true, true, true, true, false, false, false, false] HT_ ?_
    refine pl 20 60 #[true, true, true, true, true, true, true, true, true, true, true, true, true, true, true, true, true, true, true, true, true, false, false, false] HT_ ?_
    refine pl 21 61 #[true, true, true, true, true, true, true, true, true, true, true, true, true, true, true, true, true, true, true, true, true, true, false, false] HT_ ?_
    refine pl 22 62 #[true, true, true, true, true, true, true, true, true, true, true, true, true, true, true, true, true, true, true, true, true, true, true, false] HT_ ?_
    refine pl 23 6 #[true, true, true, true, true, true, true, true, true, true, true, true, true, true, true, true, true, true, true, true, true, true, true, true] HT_ ?_
    refine done_ (done_of HT_.out (by kernel_rfl)) ?_
    try go_wp2
    go_ret
    exact ⟨re, bw2 HB GE373 GE374⟩
   ·rw [if_neg c11] at H
    have c11b0 : (t376 == t378) = false := beq_eq_false_iff_ne.mpr c11
    have c11b1 : (t376 != t378) = true := bne_iff_ne.mpr c11
    exact absurd H (by simp)
  ·rw [if_neg c10] at H
   have c10b0 : (t380 == t381) = false := by simpa using c10
   (try (have c10b1 : decide (t380 = t381) = false := by simpa using c10))
   (try (have c10b2 : (t380 == t381) = false := by simpa using c10))
   (try (have c10b3 : ¬ (t380 = t381) := by simpa using c10))
   clear c10
   exact absurd H (by simp)
 ·replace c5 := Bool.eq_false_iff.mpr c5
  subst c5
  have H1 : (none) = some r := by rw [if_neg (show ¬ (false = true) by decide)] at H; exact H
  clear H
  have H := H1
  clear H1
  exact absurd H (by simp)
end Go.Proofs.Ytbmldeikjfecfaa.T
