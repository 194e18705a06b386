/- A part of the proof of the statement PlanLands: words, contracts of functions that it reaches, and what they compute. No condition. -/
import Derived.Test.YtbmldeikjfecfaaE01
import Derived.Test.YtbmldeikjfecfaaE04
import Derived.Test.YtbmldeikjfecfaaE06
import Derived.Test.YtbmldeikjfecfaaE07
import Derived.Test.YtbmldeikjfecfaaE29
set_option linter.unusedVariables false
set_option linter.unusedSimpArgs false
namespace Go.Proofs.Ytbmldeikjfecfaa.T
open Go.RowKit Go.Proofs.YtbmldeikjfecfaaW.PrintWords Go.Proofs.YtbmldeikjfecfaaW.PrintLast Go.Proofs.YtbmldeikjfecfaaW.PrintMore
attribute [local go_sem] max2_int min2_int max_two min_two max_three min_three max_four min_four
attribute [local go_sem] at34_0 at34_1 at34_2 at42_0 at42_1 at42_2 at42_3 at47_0 at47_1 at47_2 at47_3 at47_4
def plan_Relay.f (a0_0 : Int) (a0_1 : Int) (a0_2 : Int) (a0_3 : Int) (a0_4 : Int) (l0_5 : List (List Int)) (l0_6 : List (S40)) (l0_7 : List (S63)) (a0_8 : Int) (a1 : Int) (a2 : Int) : Option (Int × Bool) := (plan_of.f a0_0 a0_1 a0_2 a0_3 a0_4 l0_5 l0_6 l0_7 a0_8 a1 a2).bind fun bt219 => ((conf_At.f a0_0 a0_1 a0_2 a0_3 a0_4 l0_5 l0_6 l0_7 a0_8 bt219.1 bt219.2.1 bt219.2.2.1 bt219.2.2.2.1).bind fun bt227 => (if bt219.2.2.2.2.2.2 = true then (if bt219.2.2.2.2.2.1 < bt227.1 then (some (0, false)) else (if bt219.2.2.2.2.2.1 > bt227.2 then (some (0, false)) else ((conf_Forward.f a0_0 a0_1 a0_2 a0_3 a0_4 l0_5 l0_6 l0_7 a0_8 bt219.1 bt219.2.1 bt219.2.2.1 bt219.2.2.2.1).bind fun t229 => (some (wrap64 ((wrap64 (bt219.2.2.2.2.1 * a0_1)) + t229), true))))) else (some (0, false))))
def plan_Relay.T5 : Bool × List (List Nat × List Nat) := (true, [([], []), ([], []), ([1], [1]), ([0, 2], [0, 2]), ([], []), ([], []), ([4, 5], [4, 5]), ([3, 6], [3, 6]), ([7, 6, 0, 1, 2, 3, 4, 5, 6, 7], [7]), ([8, 0, 1, 2, 3, 4, 5, 6, 7, 8], [])])
def plan_Relay.B5 : List Nat := [0, 0, 2, 7, 0, 0, 48, 127, 255, 511]
theorem plan_Relay.tab5 : rtab .any (opsOf Try.f12 5) = plan_Relay.T5 := by kernel_rfl
theorem plan_Relay.bits5 : waitsOk plan_Relay.T5.2 plan_Relay.B5 = true := by kernel_rfl
set_option maxHeartbeats 8000000 in
set_option maxRecDepth 100000 in
theorem plan_Relay.calls (a0_0 : Int) (a0_1 : Int) (a0_2 : Int) (a0_3 : Int) (a0_4 : Int) (A0_5 : Option Addr) (c0_5 : Nat) (l0_5 : List (List Int)) (A0_6 : Option Addr) (c0_6 : Nat) (l0_6 : List (S40)) (A0_7 : Option Addr) (c0_7 : Nat) (l0_7 : List (S63)) (a0_8 : Int) (a1 : Int) (a2 : Int) (r1 : Int) (r2 : Bool) (w : World) (hr0_5 : Kd.C (Kd.slice 2 (Kd.int .i64)) w A0_5 l0_5.length l0_5) (hc0_5 : l0_5.length ≤ c0_5) (hr0_6 : Kd.C k40 w A0_6 l0_6.length l0_6) (hc0_6 : l0_6.length ≤ c0_6) (hr0_7 : Kd.C k63 w A0_7 l0_7.length l0_7) (hc0_7 : l0_7.length ≤ c0_7) (h : plan_Relay.f a0_0 a0_1 a0_2 a0_3 a0_4 l0_5 l0_6 l0_7 a0_8 a1 a2 = some (r1, r2)) :
  Calls Try.prog 12 #[.agg #[.int .i64 a0_0, .int .i64 a0_1, .int .i64 a0_2, .int .i64 a0_3, .int .i64 a0_4, .slice A0_5 l0_5.length c0_5, .slice A0_6 l0_6.length c0_6, .slice A0_7 l0_7.length c0_7, .int .i64 a0_8], .int .i64 a1, .int .i64 a2] w fun e w' => e = .returned (.tuple #[.int .i64 r1, .bool r2]) ∧ Below w.heap.size w w' := by
 have hu26 := Try.underlying26
 have hu40 := Try.underlying40
 have HR0_5 := Aside0.mk hr0_5
 have HC0_5 := Aside0.mk hc0_5
 clear hr0_5 hc0_5
 have HR0_6 := Aside0.mk hr0_6
 have HC0_6 := Aside0.mk hc0_6
 clear hr0_6 hc0_6
 have HR0_7 := Aside0.mk hr0_7
 have HC0_7 := Aside0.mk hc0_7
 clear hr0_7 hc0_7
 have HB := Aside0.mk (Below.refl w.heap.size w)
 have H : ((plan_of.f a0_0 a0_1 a0_2 a0_3 a0_4 l0_5 l0_6 l0_7 a0_8 a1 a2).bind fun bt219 => ((conf_At.f a0_0 a0_1 a0_2 a0_3 a0_4 l0_5 l0_6 l0_7 a0_8 bt219.1 bt219.2.1 bt219.2.2.1 bt219.2.2.2.1).bind fun bt227 => (if bt219.2.2.2.2.2.2 = true then (if bt219.2.2.2.2.2.1 < bt227.1 then (some (0, false)) else (if bt219.2.2.2.2.2.1 > bt227.2 then (some (0, false)) else ((conf_Forward.f a0_0 a0_1 a0_2 a0_3 a0_4 l0_5 l0_6 l0_7 a0_8 bt219.1 bt219.2.1 bt219.2.2.1 bt219.2.2.2.1).bind fun t229 => (some (wrap64 ((wrap64 (bt219.2.2.2.2.1 * a0_1)) + t229), true))))) else (some (0, false))))) = some (r1, r2) := h
 clear h
 replace H := Option.bind_eq_some_iff.mp H
 obtain ⟨⟨t219, t220, t221, t222, t223, t224, t225⟩, A40, H⟩ := H
 replace H : ((conf_At.f a0_0 a0_1 a0_2 a0_3 a0_4 l0_5 l0_6 l0_7 a0_8 t219 t220 t221 t222).bind fun bt227 => (if t225 = true then (if t224 < bt227.1 then (some (0, false)) else (if t224 > bt227.2 then (some (0, false)) else ((conf_Forward.f a0_0 a0_1 a0_2 a0_3 a0_4 l0_5 l0_6 l0_7 a0_8 t219 t220 t221 t222).bind fun t229 => (some (wrap64 ((wrap64 (t223 * a0_1)) + t229), true))))) else (some (0, false)))) = some (r1, r2) := H
 have A4 := Aside0.mk A40
 clear A40
 replace H := Option.bind_eq_some_iff.mp H
 obtain ⟨⟨t227, t228⟩, A50, H⟩ := H
 replace H : (if t225 = true then (if t224 < t227 then (some (0, false)) else (if t224 > t228 then (some (0, false)) else ((conf_Forward.f a0_0 a0_1 a0_2 a0_3 a0_4 l0_5 l0_6 l0_7 a0_8 t219 t220 t221 t222).bind fun t229 => (some (wrap64 ((wrap64 (t223 * a0_1)) + t229), true))))) else (some (0, false))) = some (r1, r2) := H
 have A5 := Aside0.mk A50
 clear A50
 by_cases c6 : t225 = true
 ·subst c6
  have H1 : (if t224 < t227 then (some (0, false)) else (if t224 > t228 then (some (0, false)) else ((conf_Forward.f a0_0 a0_1 a0_2 a0_3 a0_4 l0_5 l0_6 l0_7 a0_8 t219 t220 t221 t222).bind fun t229 => (some (wrap64 ((wrap64 (t223 * a0_1)) + t229), true))))) = some (r1, r2) := by rw [if_pos rfl] at H; exact H
  clear H
  have H := H1
  clear H1
  by_cases c7 : t224 < t227
  ·rw [if_pos c7] at H
   have c7b0 : decide (t224 < t227) = true := decide_eq_true c7
   clear c7
   simp only [Option.some.injEq, Prod.mk.injEq] at H
   obtain ⟨rfl, rfl⟩ := H
   go_enter Try.func12, Try.ntmps12
   go_wp2_with (first | ((with_reducible refine gate_dst (N := 3) rfl ?_); refine boxe (N := 3) (cs := #[.int .i64 a0_0, .int .i64 a0_1, .int .i64 a0_2, .int .i64 a0_3, .int .i64 a0_4, .slice A0_5 l0_5.length c0_5, .slice A0_6 l0_6.length c0_6, .slice A0_7 l0_7.length c0_7, .int .i64 a0_8]) (t := 26) ?_; intro gb218 hg w8 hbox hb; have BK218 := Aside0.mk (hbox); have GW218 := bg0 hg HB; have GE218 := GW218; replace HB := bs0 HB hb; clear hb hbox hg; obtain ⟨hcz9_0, hcz9_1, hcz9_2, hcz9_3, hcz9_4, hcz9_5, hcz9_6, hcz9_7, hcz9_8, hfz9_0, hfz9_1, hfz9_2, hfz9_3, hfz9_4, hfz9_5, hfz9_6, hfz9_7, hfz9_8⟩ := bz9 BK218) | ((with_reducible refine gate_callee (f := 28) rfl ?_); refine gol (some 18) Try.func28 #[.agg #[.int .i64 a0_0, .int .i64 a0_1, .int .i64 a0_2, .int .i64 a0_3, .int .i64 a0_4, .slice A0_5 l0_5.length c0_5, .slice A0_6 l0_6.length c0_6, .slice A0_7 l0_7.length c0_7, .int .i64 a0_8], .int .i64 a1, .int .i64 a2] ?_; (with_reducible refine (plan_of.calls a0_0 a0_1 a0_2 a0_3 a0_4 _ _ l0_5 _ _ l0_6 _ _ l0_7 a0_8 a1 a2 t219 t220 t221 t222 t223 t224 true _ ?side1 ?side2 ?side3 ?side4 ?side5 ?side6 A4.out).mono ?_); (case side1 => exact kC (Kd.C_below HR0_5.out HB.out)); (case side2 => exact HC0_5.out); (case side3 => exact kC (Kd.C_below HR0_6.out HB.out)); (case side4 => exact HC0_6.out); (case side5 => exact kC (Kd.C_below HR0_7.out HB.out)); (case side6 => exact HC0_7.out); rintro e w10 ⟨rfl, hb⟩; refine ⟨_, rfl, ?_⟩; replace BK218 := bb BK218 hb; replace HB := bs1 HB GE218 hb; (try clear hb); (try clear hb2); (try clear hk); (try clear hi)) | ((with_reducible refine gate_dst (N := 8) rfl ?_); refine boxe (N := 8) (cs := #[.int .i64 0, .int .u32 0, .int .i64 0, .int .i64 0]) (t := 40) ?_; intro gb226 hg w11 hbox hb; have BK226 := Aside0.mk (hbox); have GW226 := bg1 hg HB GE218; have GE226 := GW226; have NB218_226 := nl hg BK218; have NB226_218 := ng hg BK218; replace BK218 := bb BK218 hb; replace HB := bs1 HB GE218 hb; clear hb hbox hg; have hnb12 := NB226_218.out; have hnc12 := NB218_226.out; obtain ⟨hcz13_0, hcz13_1, hcz13_2, hcz13_3, hfz13_0, hfz13_1, hfz13_2, hfz13_3⟩ := bz4 BK226; obtain ⟨hcz14_0, hcz14_1, hcz14_2, hcz14_3, hcz14_4, hcz14_5, hcz14_6, hcz14_7, hcz14_8, hfz14_0, hfz14_1, hfz14_2, hfz14_3, hfz14_4, hfz14_5, hfz14_6, hfz14_7, hfz14_8⟩ := bz9 BK218) | ((with_reducible refine gate_callee (f := 29) rfl ?_); refine gol (some 26) Try.func29 #[.agg #[.int .i64 a0_0, .int .i64 a0_1, .int .i64 a0_2, .int .i64 a0_3, .int .i64 a0_4, .slice A0_5 l0_5.length c0_5, .slice A0_6 l0_6.length c0_6, .slice A0_7 l0_7.length c0_7, .int .i64 a0_8], .agg #[.int .i64 t219, .int .u32 t220, .int .i64 t221, .int .i64 t222]] ?_; (with_reducible refine (conf_At.calls a0_0 a0_1 a0_2 a0_3 a0_4 _ _ l0_5 _ _ l0_6 _ _ l0_7 a0_8 t219 t220 t221 t222 t227 t228 _ ?side1 ?side2 ?side3 ?side4 ?side5 ?side6 A5.out).mono ?_); (case side1 => exact Kd.C_below HR0_5.out (bw2 HB GE218 GE226)); (case side2 => exact HC0_5.out); (case side3 => exact Kd.C_below HR0_6.out (bw2 HB GE218 GE226)); (case side4 => exact HC0_6.out); (case side5 => exact Kd.C_below HR0_7.out (bw2 HB GE218 GE226)); (case side6 => exact HC0_7.out); rintro e w15 ⟨rfl, hb⟩; refine ⟨_, rfl, ?_⟩; replace BK218 := Aside0.mk (blk_below (g := gb218) (o := .cells #[.int .i64 a0_0, .int .i64 a0_1, .int .i64 a0_2, .int .i64 a0_3, .int .i64 a0_4, .slice A0_5 l0_5.length c0_5, .slice A0_6 l0_6.length c0_6, .slice A0_7 l0_7.length c0_7, .int .i64 a0_8] 26 (0, 0)) (bf1 NB218_226 BK218) hb); replace BK226 := Aside0.mk (blk_below (g := gb226) (o := .cells #[.int .i64 t219, .int .u32 t220, .int .i64 t221, .int .i64 t222] 40 (0, 0)) (by (with_reducible repeat (first | refine blk_drewN ?_ _ | refine blk_drew ?_ | refine blk_alloc ?_ _)); refine blk_put (cs := #[.int .i64 t219, .int .u32 t220, .int .i64 t221, .int .i64 0]) ?_ 3 _ rt; (with_reducible repeat (first | refine blk_drewN ?_ _ | refine blk_drew ?_ | refine blk_alloc ?_ _)); refine blk_put (cs := #[.int .i64 t219, .int .u32 t220, .int .i64 0, .int .i64 0]) ?_ 2 _ rt; (with_reducible repeat (first | refine blk_drewN ?_ _ | refine blk_drew ?_ | refine blk_alloc ?_ _)); refine blk_put (cs := #[.int .i64 t219, .int .u32 0, .int .i64 0, .int .i64 0]) ?_ 1 _ rt; (with_reducible repeat (first | refine blk_drewN ?_ _ | refine blk_drew ?_ | refine blk_alloc ?_ _)); refine blk_put (cs := #[.int .i64 0, .int .u32 0, .int .i64 0, .int .i64 0]) ?_ 0 _ rt; (with_reducible repeat (first | refine blk_drewN ?_ _ | refine blk_drew ?_ | refine blk_alloc ?_ _)); exact BK226.out) hb); replace HB := bs2 HB GE218 GE226 hb; (try clear hb); (try clear hb2); (try clear hk); (try clear hi)))
   go_ret2
   exact ⟨re, bw2 HB GE218 GE226⟩
  ·rw [if_neg c7] at H
   have c7b0 : decide (t224 < t227) = false := decide_eq_false c7
   clear c7
   by_cases c16 : t224 > t228
   ·rw [if_pos c16] at H
    have c16b0 : decide (t228 < t224) = true := decide_eq_true c16
    clear c16
    simp only [Option.some.injEq, Prod.mk.injEq] at H
    obtain ⟨rfl, rfl⟩ := H
    go_enter Try.func12, Try.ntmps12
    go_wp2_with (first | ((with_reducible refine gate_dst (N := 3) rfl ?_); refine boxe (N := 3) (cs := #[.int .i64 a0_0, .int .i64 a0_1, .int .i64 a0_2, .int .i64 a0_3, .int .i64 a0_4, .slice A0_5 l0_5.length c0_5, .slice A0_6 l0_6.length c0_6, .slice A0_7 l0_7.length c0_7, .int .i64 a0_8]) (t := 26) ?_; intro gb218 hg w17 hbox hb; have BK218 := Aside0.mk (hbox); have GW218 := bg0 hg HB; have GE218 := GW218; replace HB := bs0 HB hb; clear hb hbox hg; obtain ⟨hcz18_0, hcz18_1, hcz18_2, hcz18_3, hcz18_4, hcz18_5, hcz18_6, hcz18_7, hcz18_8, hfz18_0, hfz18_1, hfz18_2, hfz18_3, hfz18_4, hfz18_5, hfz18_6, hfz18_7, hfz18_8⟩ := bz9 BK218) | ((with_reducible refine gate_callee (f := 28) rfl ?_); refine gol (some 18) Try.func28 #[.agg #[.int .i64 a0_0, .int .i64 a0_1, .int .i64 a0_2, .int .i64 a0_3, .int .i64 a0_4, .slice A0_5 l0_5.length c0_5, .slice A0_6 l0_6.length c0_6, .slice A0_7 l0_7.length c0_7, .int .i64 a0_8], .int .i64 a1, .int .i64 a2] ?_; (with_reducible refine (plan_of.calls a0_0 a0_1 a0_2 a0_3 a0_4 _ _ l0_5 _ _ l0_6 _ _ l0_7 a0_8 a1 a2 t219 t220 t221 t222 t223 t224 true _ ?side1 ?side2 ?side3 ?side4 ?side5 ?side6 A4.out).mono ?_); (case side1 => exact kC (Kd.C_below HR0_5.out HB.out)); (case side2 => exact HC0_5.out); (case side3 => exact kC (Kd.C_below HR0_6.out HB.out)); (case side4 => exact HC0_6.out); (case side5 => exact kC (Kd.C_below HR0_7.out HB.out)); (case side6 => exact HC0_7.out); rintro e w19 ⟨rfl, hb⟩; refine ⟨_, rfl, ?_⟩; replace BK218 := bb BK218 hb; replace HB := bs1 HB GE218 hb; (try clear hb); (try clear hb2); (try clear hk); (try clear hi)) | ((with_reducible refine gate_dst (N := 8) rfl ?_); refine boxe (N := 8) (cs := #[.int .i64 0, .int .u32 0, .int .i64 0, .int .i64 0]) (t := 40) ?_; intro gb226 hg w20 hbox hb; have BK226 := Aside0.mk (hbox); have GW226 := bg1 hg HB GE218; have GE226 := GW226; have NB218_226 := nl hg BK218; have NB226_218 := ng hg BK218; replace BK218 := bb BK218 hb; replace HB := bs1 HB GE218 hb; clear hb hbox hg; have hnb21 := NB226_218.out; have hnc21 := NB218_226.out; obtain ⟨hcz22_0, hcz22_1, hcz22_2, hcz22_3, hfz22_0, hfz22_1, hfz22_2, hfz22_3⟩ := bz4 BK226; obtain ⟨hcz23_0, hcz23_1, hcz23_2, hcz23_3, hcz23_4, hcz23_5, hcz23_6, hcz23_7, hcz23_8, hfz23_0, hfz23_1, hfz23_2, hfz23_3, hfz23_4, hfz23_5, hfz23_6, hfz23_7, hfz23_8⟩ := bz9 BK218) | ((with_reducible refine gate_callee (f := 29) rfl ?_); refine gol (some 26) Try.func29 #[.agg #[.int .i64 a0_0, .int .i64 a0_1, .int .i64 a0_2, .int .i64 a0_3, .int .i64 a0_4, .slice A0_5 l0_5.length c0_5, .slice A0_6 l0_6.length c0_6, .slice A0_7 l0_7.length c0_7, .int .i64 a0_8], .agg #[.int .i64 t219, .int .u32 t220, .int .i64 t221, .int .i64 t222]] ?_; (with_reducible refine (conf_At.calls a0_0 a0_1 a0_2 a0_3 a0_4 _ _ l0_5 _ _ l0_6 _ _ l0_7 a0_8 t219 t220 t221 t222 t227 t228 _ ?side1 ?side2 ?side3 ?side4 ?side5 ?side6 A5.out).mono ?_); (case side1 => exact Kd.C_below HR0_5.out (bw2 HB GE218 GE226)); (case side2 => exact HC0_5.out); (case side3 => exact Kd.C_below HR0_6.out (bw2 HB GE218 GE226)); (case side4 => exact HC0_6.out); (case side5 => exact Kd.C_below HR0_7.out (bw2 HB GE218 GE226)); (case side6 => exact HC0_7.out); rintro e w24 ⟨rfl, hb⟩; refine ⟨_, rfl, ?_⟩; replace BK218 := Aside0.mk (blk_below (g := gb218) (o := .cells #[.int .i64 a0_0, .int .i64 a0_1, .int .i64 a0_2, .int .i64 a0_3, .int .i64 a0_4, .slice A0_5 l0_5.length c0_5, .slice A0_6 l0_6.length c0_6, .slice A0_7 l0_7.length c0_7, .int .i64 a0_8] 26 (0, 0)) (bf1 NB218_226 BK218) hb); replace BK226 := Aside0.mk (blk_below (g := gb226) (o := .cells #[.int .i64 t219, .int .u32 t220, .int .i64 t221, .int .i64 t222] 40 (0, 0)) (by (with_reducible repeat (first | refine blk_drewN ?_ _ | refine blk_drew ?_ | refine blk_alloc ?_ _)); refine blk_put (cs := #[.int .i64 t219, .int .u32 t220, .int .i64 t221, .int .i64 0]) ?_ 3 _ rt; (with_reducible repeat (first | refine blk_drewN ?_ _ | refine blk_drew ?_ | refine blk_alloc ?_ _)); refine blk_put (cs := #[.int .i64 t219, .int .u32 t220, .int .i64 0, .int .i64 0]) ?_ 2 _ rt; (with_reducible repeat (first | refine blk_drewN ?_ _ | refine blk_drew ?_ | refine blk_alloc ?_ _)); refine blk_put (cs := #[.int .i64 t219, .int .u32 0, .int .i64 0, .int .i64 0]) ?_ 1 _ rt; (with_reducible repeat (first | refine blk_drewN ?_ _ | refine blk_drew ?_ | refine blk_alloc ?_ _)); refine blk_put (cs := #[.int .i64 0, .int .u32 0, .int .i64 0, .int .i64 0]) ?_ 0 _ rt; (with_reducible repeat (first | refine blk_drewN ?_ _ | refine blk_drew ?_ | refine blk_alloc ?_ _)); exact BK226.out) hb); replace HB := bs2 HB GE218 GE226 hb; (try clear hb); (try clear hb2); (try clear hk); (try clear hi)))
    go_ret2
    exact ⟨re, bw2 HB GE218 GE226⟩
   ·rw [if_neg c16] at H
    have c16b0 : decide (t228 < t224) = false := decide_eq_false c16
    clear c16
    replace H := Option.bind_eq_some_iff.mp H
    obtain ⟨t229, A250, H⟩ := H
    replace H : (some (wrap64 ((wrap64 (t223 * a0_1)) + t229), true)) = some (r1, r2) := H
    have A25 := Aside0.mk A250
    clear A250
    simp only [Option.some.injEq, Prod.mk.injEq] at H
    obtain ⟨rfl, rfl⟩ := H
    go_enter Try.func12, Try.ntmps12
    try go_wp2_with (first | ((with_reducible refine gate_dst (N := 3) rfl ?_); refine boxe (N := 3) (cs := #[.int .i64 a0_0, .int .i64 a0_1, .int .i64 a0_2, .int .i64 a0_3, .int .i64 a0_4, .slice A0_5 l0_5.length c0_5, .slice A0_6 l0_6.length c0_6, .slice A0_7 l0_7.length c0_7, .int .i64 a0_8]) (t := 26) ?_; intro gb218 hg w26 hbox hb; have BK218 := Aside0.mk (hbox); have GW218 := bg0 hg HB; have GE218 := GW218; replace HB := bs0 HB hb; clear hb hbox hg; obtain ⟨hcz27_0, hcz27_1, hcz27_2, hcz27_3, hcz27_4, hcz27_5, hcz27_6, hcz27_7, hcz27_8, hfz27_0, hfz27_1, hfz27_2, hfz27_3, hfz27_4, hfz27_5, hfz27_6, hfz27_7, hfz27_8⟩ := bz9 BK218) | ((with_reducible refine gate_callee (f := 28) rfl ?_); refine gol (some 18) Try.func28 #[.agg #[.int .i64 a0_0, .int .i64 a0_1, .int .i64 a0_2, .int .i64 a0_3, .int .i64 a0_4, .slice A0_5 l0_5.length c0_5, .slice A0_6 l0_6.length c0_6, .slice A0_7 l0_7.length c0_7, .int .i64 a0_8], .int .i64 a1, .int .i64 a2] ?_; (with_reducible refine (plan_of.calls a0_0 a0_1 a0_2 a0_3 a0_4 _ _ l0_5 _ _ l0_6 _ _ l0_7 a0_8 a1 a2 t219 t220 t221 t222 t223 t224 true _ ?side1 ?side2 ?side3 ?side4 ?side5 ?side6 A4.out).mono ?_); (case side1 => exact kC (Kd.C_below HR0_5.out HB.out)); (case side2 => exact HC0_5.out); (case side3 => exact kC (Kd.C_below HR0_6.out HB.out)); (case side4 => exact HC0_6.out); (case side5 => exact kC (Kd.C_below HR0_7.out HB.out)); (case side6 => exact HC0_7.out); rintro e w28 ⟨rfl, hb⟩; refine ⟨_, rfl, ?_⟩; replace BK218 := bb BK218 hb; replace HB := bs1 HB GE218 hb; (try clear hb); (try clear hb2); (try clear hk); (try clear hi)) | ((with_reducible refine gate_dst (N := 8) rfl ?_); refine boxe (N := 8) (cs := #[.int .i64 0, .int .u32 0, .int .i64 0, .int .i64 0]) (t := 40) ?_; intro gb226 hg w29 hbox hb; have BK226 := Aside0.mk (hbox); have GW226 := bg1 hg HB GE218; have GE226 := GW226; have NB218_226 := nl hg BK218; have NB226_218 := ng hg BK218; replace BK218 := bb BK218 hb; replace HB := bs1 HB GE218 hb; clear hb hbox hg; have hnb30 := NB226_218.out; have hnc30 := NB218_226.out; obtain ⟨hcz31_0, hcz31_1, hcz31_2, hcz31_3, hfz31_0, hfz31_1, hfz31_2, hfz31_3⟩ := bz4 BK226; obtain ⟨hcz32_0, hcz32_1, hcz32_2, hcz32_3, hcz32_4, hcz32_5, hcz32_6, hcz32_7, hcz32_8, hfz32_0, hfz32_1, hfz32_2, hfz32_3, hfz32_4, hfz32_5, hfz32_6, hfz32_7, hfz32_8⟩ := bz9 BK218) | ((with_reducible refine gate_callee (f := 29) rfl ?_); refine gol (some 26) Try.func29 #[.agg #[.int .i64 a0_0, .int .i64 a0_1, .int .i64 a0_2, .int .i64 a0_3, .int .i64 a0_4, .slice A0_5 l0_5.length c0_5, .slice A0_6 l0_6.length c0_6, .slice A0_7 l0_7.length c0_7, .int .i64 a0_8], .agg #[.int .i64 t219, .int .u32 t220, .int .i64 t221, .int .i64 t222]] ?_; (with_reducible refine (conf_At.calls a0_0 a0_1 a0_2 a0_3 a0_4 _ _ l0_5 _ _ l0_6 _ _ l0_7 a0_8 t219 t220 t221 t222 t227 t228 _ ?side1 ?side2 ?side3 ?side4 ?side5 ?side6 A5.out).mono ?_); (case side1 => exact Kd.C_below HR0_5.out (bw2 HB GE218 GE226)); (case side2 => exact HC0_5.out); (case side3 => exact Kd.C_below HR0_6.out (bw2 HB GE218 GE226)); (case side4 => exact HC0_6.out); (case side5 => exact Kd.C_below HR0_7.out (bw2 HB GE218 GE226)); (case side6 => exact HC0_7.out); rintro e w33 ⟨rfl, hb⟩; refine ⟨_, rfl, ?_⟩; replace BK218 := Aside0.mk (blk_below (g := gb218) (o := .cells #[.int .i64 a0_0, .int .i64 a0_1, .int .i64 a0_2, .int .i64 a0_3, .int .i64 a0_4, .slice A0_5 l0_5.length c0_5, .slice A0_6 l0_6.length c0_6, .slice A0_7 l0_7.length c0_7, .int .i64 a0_8] 26 (0, 0)) (bf1 NB218_226 BK218) hb); replace BK226 := Aside0.mk (blk_below (g := gb226) (o := .cells #[.int .i64 t219, .int .u32 t220, .int .i64 t221, .int .i64 t222] 40 (0, 0)) (by (with_reducible repeat (first | refine blk_drewN ?_ _ | refine blk_drew ?_ | refine blk_alloc ?_ _)); refine blk_put (cs := #[.int .i64 t219, .int .u32 t220, .int .i64 t221, .int .i64 0]) ?_ 3 _ rt; (with_reducible repeat (first | refine blk_drewN ?_ _ | refine blk_drew ?_ | refine blk_alloc ?_ _)); refine blk_put (cs := #[.int .i64 t219, .int .u32 t220, .int .i64 0, .int .i64 0]) ?_ 2 _ rt; (with_reducible repeat (first | refine blk_drewN ?_ _ | refine blk_drew ?_ | refine blk_alloc ?_ _)); refine blk_put (cs := #[.int .i64 t219, .int .u32 0, .int .i64 0, .int .i64 0]) ?_ 1 _ rt; (with_reducible repeat (first | refine blk_drewN ?_ _ | refine blk_drew ?_ | refine blk_alloc ?_ _)); refine blk_put (cs := #[.int .i64 0, .int .u32 0, .int .i64 0, .int .i64 0]) ?_ 0 _ rt; (with_reducible repeat (first | refine blk_drewN ?_ _ | refine blk_drew ?_ | refine blk_alloc ?_ _)); exact BK226.out) hb); replace HB := bs2 HB GE218 GE226 hb; (try clear hb); (try clear hb2); (try clear hk); (try clear hi)))
    have n0_ := Aside0.mk (blk_drew BK218.out)
    have n1_ := Aside0.mk (blk_drew BK226.out)
    have n2_ := Aside0.mk (below_drew1 HB.out)
    clear BK218
    clear BK226
    clear HB
    have BK218 := n0_
    have BK226 := n1_
    have HB := n2_
    clear n0_ n1_ n2_
    refine start_ (n := 10) (S := fun w' => w'.cell? ⟨gb218, 0, none⟩ = some (.int .i64 a0_0) ∧ w'.cell? ⟨gb218, 1, none⟩ = some (.int .i64 a0_1) ∧ w'.cell? ⟨gb218, 2, none⟩ = some (.int .i64 a0_2) ∧ w'.cell? ⟨gb218, 3, none⟩ = some (.int .i64 a0_3) ∧ w'.cell? ⟨gb218, 4, none⟩ = some (.int .i64 a0_4) ∧ w'.cell? ⟨gb218, 5, none⟩ = some (.slice A0_5 l0_5.length c0_5) ∧ w'.cell? ⟨gb218, 6, none⟩ = some (.slice A0_6 l0_6.length c0_6) ∧ w'.cell? ⟨gb218, 7, none⟩ = some (.slice A0_7 l0_7.length c0_7) ∧ w'.cell? ⟨gb218, 8, none⟩ = some (.int .i64 a0_8) ∧ w'.cell? ⟨gb226, 0, none⟩ = some (.int .i64 t219) ∧ w'.cell? ⟨gb226, 1, none⟩ = some (.int .u32 t220) ∧ w'.cell? ⟨gb226, 2, none⟩ = some (.int .i64 t221) ∧ w'.cell? ⟨gb226, 3, none⟩ = some (.int .i64 t222)) (ds := []) #[false, false, false, false, false, false, false, false, false, false] (by kernel_rfl) rfl rfl ⟨(blk_cell BK218.out 0).trans rfl, (blk_cell BK218.out 1).trans rfl, (blk_cell BK218.out 2).trans rfl, (blk_cell BK218.out 3).trans rfl, (blk_cell BK218.out 4).trans rfl, (blk_cell BK218.out 5).trans rfl, (blk_cell BK218.out 6).trans rfl, (blk_cell BK218.out 7).trans rfl, (blk_cell BK218.out 8).trans rfl, (blk_cell BK226.out 0).trans rfl, (blk_cell BK226.out 1).trans rfl, (blk_cell BK226.out 2).trans rfl, (blk_cell BK226.out 3).trans rfl⟩ (fun hHeld => ?_); refine with_tabW plan_Relay.tab5 plan_Relay.bits5 (fun HT_ HW_ => ?_)
    generalize w33.drew = w34 at BK218 BK226 HB hHeld ⊢
    refine pl 0 41 #[true, false, false, false, false, false, false, false, false, false] HT_ ?_
    refine pl 1 42 #[true, true, false, false, false, false, false, false, false, false] HT_ ?_
    refine tk13 2 43 #[true, true, true, false, false, false, false, false, false, false] HT_ HW_ hHeld ?_
    refine pl 3 44 #[true, true, true, true, false, false, false, false, false, false] HT_ ?_
    refine tk13 4 45 #[true, true, true, true, true, false, false, false, false, false] HT_ HW_ hHeld ?_
    refine tk13 5 46 #[true, true, true, true, true, true, false, false, false, false] HT_ HW_ hHeld ?_
    refine one_ (i := 6) (N := some 47) #[true, true, true, true, true, true, true, false, false, false] rfl rfl (one_of HT_.out (by kernel_rfl)) (by decide) (fun K hK => ?_)
    refine gor Try.func30 #[.agg #[.int .i64 a0_0, .int .i64 a0_1, .int .i64 a0_2, .int .i64 a0_3, .int .i64 a0_4, .slice A0_5 l0_5.length c0_5, .slice A0_6 l0_6.length c0_6, .slice A0_7 l0_7.length c0_7, .int .i64 a0_8], .agg #[.int .i64 t219, .int .u32 t220, .int .i64 t221, .int .i64 t222]] ?_
    with_reducible refine (conf_Forward.calls a0_0 a0_1 a0_2 a0_3 a0_4 _ _ l0_5 _ _ l0_6 _ _ l0_7 a0_8 t219 t220 t221 t222 t229 _ ?side1 ?side2 ?side3 ?side4 ?side5 ?side6 A25.out).mono ?_
    (case side1 => exact kC (Kd.C_below HR0_5.out HB.out))
    (case side2 => exact HC0_5.out)
    (case side3 => exact kC (Kd.C_below HR0_6.out HB.out))
    (case side4 => exact HC0_6.out)
    (case side5 => exact kC (Kd.C_below HR0_7.out HB.out))
    (case side6 => exact HC0_7.out)
    rintro e w35 ⟨rfl, hb⟩
    refine ⟨_, rfl, ?_⟩
    have n0_ := bb BK218 hb
    have n1_ := bb BK226 hb
    have n2_ := bs2 HB GE218 GE226 hb
    clear BK218
    clear BK226
    clear HB
    have BK218 := n0_
    have BK226 := n1_
    have HB := n2_
    clear n0_ n1_ n2_
    (try clear hb)
    (try clear hb2)
    (try clear hk)
    (try clear hi)
    refine hK.out _ _ ⟨(blk_cell BK218.out 0).trans rfl, (blk_cell BK218.out 1).trans rfl, (blk_cell BK218.out 2).trans rfl, (blk_cell BK218.out 3).trans rfl, (blk_cell BK218.out 4).trans rfl, (blk_cell BK218.out 5).trans rfl, (blk_cell BK218.out 6).trans rfl, (blk_cell BK218.out 7).trans rfl, (blk_cell BK218.out 8).trans rfl, (blk_cell BK226.out 0).trans rfl, (blk_cell BK226.out 1).trans rfl, (blk_cell BK226.out 2).trans rfl, (blk_cell BK226.out 3).trans rfl⟩ (fun hHeld => ?_)
    clear hK K
    refine norm_ (a' := ?_) ?_ ?_
    rotate_left
    ·show Act.put _ (some 47) _ = _
     simp only [Act.put, sT, sZ, sS, i64_w, i32_w]
     rfl
    refine pl 7 48 #[true, true, true, true, true, true, true, true, false, false] HT_ ?_
    refine pl 8 6 #[true, true, true, true, true, true, true, true, true, false] HT_ ?_
    refine pl 9 7 #[true, true, true, true, true, true, true, true, true, true] HT_ ?_
    refine done_ (done_of HT_.out (by kernel_rfl)) ?_
    try go_wp2
    go_ret2
    exact ⟨re, bw2 HB GE218 GE226⟩
 ·replace c6 := Bool.eq_false_iff.mpr c6
  subst c6
  have H1 : (some (0, false)) = some (r1, r2) := by rw [if_neg (show ¬ (false = true) by decide)] at H; exact H
  clear H
  have H := H1
  clear H1
  simp only [Option.some.injEq, Prod.mk.injEq] at H
  obtain ⟨rfl, rfl⟩ := H
  go_enter Try.func12, Try.ntmps12
  go_wp2_with (first | ((with_reducible refine gate_dst (N := 3) rfl ?_); refine boxe (N := 3) (cs := #[.int .i64 a0_0, .int .i64 a0_1, .int .i64 a0_2, .int .i64 a0_3, .int .i64 a0_4, .slice A0_5 l0_5.length c0_5, .slice A0_6 l0_6.length c0_6, .slice A0_7 l0_7.length c0_7, .int .i64 a0_8]) (t := 26) ?_; intro gb218 hg w36 hbox hb; have BK218 := Aside0.mk (hbox); have GW218 := bg0 hg HB; have GE218 := GW218; replace HB := bs0 HB hb; clear hb hbox hg; obtain ⟨hcz37_0, hcz37_1, hcz37_2, hcz37_3, hcz37_4, hcz37_5, hcz37_6, hcz37_7, hcz37_8, hfz37_0, hfz37_1, hfz37_2, hfz37_3, hfz37_4, hfz37_5, hfz37_6, hfz37_7, hfz37_8⟩ := bz9 BK218) | ((with_reducible refine gate_callee (f := 28) rfl ?_); refine gol (some 18) Try.func28 #[.agg #[.int .i64 a0_0, .int .i64 a0_1, .int .i64 a0_2, .int .i64 a0_3, .int .i64 a0_4, .slice A0_5 l0_5.length c0_5, .slice A0_6 l0_6.length c0_6, .slice A0_7 l0_7.length c0_7, .int .i64 a0_8], .int .i64 a1, .int .i64 a2] ?_; (with_reducible refine (plan_of.calls a0_0 a0_1 a0_2 a0_3 a0_4 _ _ l0_5 _ _ l0_6 _ _ l0_7 a0_8 a1 a2 t219 t220 t221 t222 t223 t224 false _ ?side1 ?side2 ?side3 ?side4 ?side5 ?side6 A4.out).mono ?_); (case side1 => exact kC (Kd.C_below HR0_5.out HB.out)); (case side2 => exact HC0_5.out); (case side3 => exact kC (Kd.C_below HR0_6.out HB.out)); (case side4 => exact HC0_6.out); (case side5 => exact kC (Kd.C_below HR0_7.out HB.out)); (case side6 => exact HC0_7.out); rintro e w38 ⟨rfl, hb⟩; refine ⟨_, rfl, ?_⟩; replace BK218 := bb BK218 hb; replace HB := bs1 HB GE218 hb; (try clear hb); (try clear hb2); (try clear hk); (try clear hi)) | ((with_reducible refine gate_dst (N := 8) rfl ?_); refine boxe (N := 8) (cs := #[.int .i64 0, .int .u32 0, .int .i64 0, .int .i64 0]) (t := 40) ?_; intro gb226 hg w39 hbox hb; have BK226 := Aside0.mk (hbox); have GW226 := bg1 hg HB GE218; have GE226 := GW226; have NB218_226 := nl hg BK218; have NB226_218 := ng hg BK218; replace BK218 := bb BK218 hb; replace HB := bs1 HB GE218 hb; clear hb hbox hg; have hnb40 := NB226_218.out; have hnc40 := NB218_226.out; obtain ⟨hcz41_0, hcz41_1, hcz41_2, hcz41_3, hfz41_0, hfz41_1, hfz41_2, hfz41_3⟩ := bz4 BK226; obtain ⟨hcz42_0, hcz42_1, hcz42_2, hcz42_3, hcz42_4, hcz42_5, hcz42_6, hcz42_7, hcz42_8, hfz42_0, hfz42_1, hfz42_2, hfz42_3, hfz42_4, hfz42_5, hfz42_6, hfz42_7, hfz42_8⟩ := bz9 BK218) | ((with_reducible refine gate_callee (f := 29) rfl ?_); refine gol (some 26) Try.func29 #[.agg #[.int .i64 a0_0, .int .i64 a0_1, .int .i64 a0_2, .int .i64 a0_3, .int .i64 a0_4, .slice A0_5 l0_5.length c0_5, .slice A0_6 l0_6.length c0_6, .slice A0_7 l0_7.length c0_7, .int .i64 a0_8], .agg #[.int .i64 t219, .int .u32 t220, .int .i64 t221, .int .i64 t222]] ?_; (with_reducible refine (conf_At.calls a0_0 a0_1 a0_2 a0_3 a0_4 _ _ l0_5 _ _ l0_6 _ _ l0_7 a0_8 t219 t220 t221 t222 t227 t228 _ ?side1 ?side2 ?side3 ?side4 ?side5 ?side6 A5.out).mono ?_); (case side1 => exact Kd.C_below HR0_5.out (bw2 HB GE218 GE226)); (case side2 => exact HC0_5.out); (case side3 => exact Kd.C_below HR0_6.out (bw2 HB GE218 GE226)); (case side4 => exact HC0_6.out); (case side5 => exact Kd.C_below HR0_7.out (bw2 HB GE218 GE226)); (case side6 => exact HC0_7.out); rintro e w43 ⟨rfl, hb⟩; refine ⟨_, rfl, ?_⟩; replace BK218 := Aside0.mk (blk_below (g := gb218) (o := .cells #[.int .i64 a0_0, .int .i64 a0_1, .int .i64 a0_2, .int .i64 a0_3, .int .i64 a0_4, .slice A0_5 l0_5.length c0_5, .slice A0_6 l0_6.length c0_6, .slice A0_7 l0_7.length c0_7, .int .i64 a0_8] 26 (0, 0)) (bf1 NB218_226 BK218) hb); replace BK226 := Aside0.mk (blk_below (g := gb226) (o := .cells #[.int .i64 t219, .int .u32 t220, .int .i64 t221, .int .i64 t222] 40 (0, 0)) (by (with_reducible repeat (first | refine blk_drewN ?_ _ | refine blk_drew ?_ | refine blk_alloc ?_ _)); refine blk_put (cs := #[.int .i64 t219, .int .u32 t220, .int .i64 t221, .int .i64 0]) ?_ 3 _ rt; (with_reducible repeat (first | refine blk_drewN ?_ _ | refine blk_drew ?_ | refine blk_alloc ?_ _)); refine blk_put (cs := #[.int .i64 t219, .int .u32 t220, .int .i64 0, .int .i64 0]) ?_ 2 _ rt; (with_reducible repeat (first | refine blk_drewN ?_ _ | refine blk_drew ?_ | refine blk_alloc ?_ _)); refine blk_put (cs := #[.int .i64 t219, .int .u32 0, .int .i64 0, .int .i64 0]) ?_ 1 _ rt; (with_reducible repeat (first | refine blk_drewN ?_ _ | refine blk_drew ?_ | refine blk_alloc ?_ _)); refine blk_put (cs := #[.int .i64 0, .int .u32 0, .int .i64 0, .int .i64 0]) ?_ 0 _ rt; (with_reducible repeat (first | refine blk_drewN ?_ _ | refine blk_drew ?_ | refine blk_alloc ?_ _)); exact BK226.out) hb); replace HB := bs2 HB GE218 GE226 hb; (try clear hb); (try clear hb2); (try clear hk); (try clear hi)))
  go_ret2
  exact ⟨re, bw2 HB GE218 GE226⟩
end Go.Proofs.Ytbmldeikjfecfaa.T
