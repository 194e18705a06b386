/- A part of the proof of the statement PlanLands: words, contracts of functions that it reaches, and what they compute. No condition. -/
import Derived.Test.YtbmldeikjfecfaaE01
import Derived.Test.YtbmldeikjfecfaaE04
import Derived.Test.YtbmldeikjfecfaaE27
set_option linter.unusedVariables false
set_option linter.unusedSimpArgs false
namespace Go.Proofs.Ytbmldeikjfecfaa.T
open Go.RowKit Go.Proofs.YtbmldeikjfecfaaW.PrintWords Go.Proofs.YtbmldeikjfecfaaW.PrintLast Go.Proofs.YtbmldeikjfecfaaW.PrintMore
attribute [local go_sem] max2_int min2_int max_two min_two max_three min_three max_four min_four
attribute [local go_sem] at34_0 at34_1 at34_2 at42_0 at42_1 at42_2 at42_3 at47_0 at47_1 at47_2 at47_3 at47_4
def plan_Where.f (a0_0 : Int) (a0_1 : Int) (a0_2 : Int) (a0_3 : Int) (a0_4 : Int) (l0_5 : List (List Int)) (l0_6 : List (S40)) (l0_7 : List (S63)) (a0_8 : Int) (a1 : Int) : Option (Int × Int × Bool) := (plan_good.f a0_0 a0_1 a0_2 a0_3 a0_4 l0_5 l0_6 l0_7 a0_8 a1).bind fun t193 => (if t193 = true then (if a0_1 = 0 then (none) else (some (wrap64 (Int.tdiv a1 a0_1), Int.tmod a1 a0_1, true))) else (some (0, 0, false)))
set_option maxHeartbeats 8000000 in
set_option maxRecDepth 100000 in
theorem plan_Where.calls (a0_0 : Int) (a0_1 : Int) (a0_2 : Int) (a0_3 : Int) (a0_4 : Int) (A0_5 : Option Addr) (c0_5 : Nat) (l0_5 : List (List Int)) (A0_6 : Option Addr) (c0_6 : Nat) (l0_6 : List (S40)) (A0_7 : Option Addr) (c0_7 : Nat) (l0_7 : List (S63)) (a0_8 : Int) (a1 : Int) (r1 : Int) (r2 : Int) (r3 : Bool) (w : World) (hr0_5 : Kd.C (Kd.slice 2 (Kd.int .i64)) w A0_5 l0_5.length l0_5) (hc0_5 : l0_5.length ≤ c0_5) (hr0_6 : Kd.C k40 w A0_6 l0_6.length l0_6) (hc0_6 : l0_6.length ≤ c0_6) (hr0_7 : Kd.C k63 w A0_7 l0_7.length l0_7) (hc0_7 : l0_7.length ≤ c0_7) (h : plan_Where.f a0_0 a0_1 a0_2 a0_3 a0_4 l0_5 l0_6 l0_7 a0_8 a1 = some (r1, r2, r3)) :
  Calls Try.prog 9 #[.agg #[.int .i64 a0_0, .int .i64 a0_1, .int .i64 a0_2, .int .i64 a0_3, .int .i64 a0_4, .slice A0_5 l0_5.length c0_5, .slice A0_6 l0_6.length c0_6, .slice A0_7 l0_7.length c0_7, .int .i64 a0_8], .int .i64 a1] w fun e w' => e = .returned (.tuple #[.int .i64 r1, .int .i64 r2, .bool r3]) ∧ Below w.heap.size w w' := by
 have hu26 := Try.underlying26
 have HR0_5 := Aside0.mk hr0_5
 have HC0_5 := Aside0.mk hc0_5
 clear hr0_5 hc0_5
 have HR0_6 := Aside0.mk hr0_6
 have HC0_6 := Aside0.mk hc0_6
 clear hr0_6 hc0_6
 have HR0_7 := Aside0.mk hr0_7
 have HC0_7 := Aside0.mk hc0_7
 clear hr0_7 hc0_7
 have HB := Aside0.mk (Below.refl w.heap.size w)
 have H : ((plan_good.f a0_0 a0_1 a0_2 a0_3 a0_4 l0_5 l0_6 l0_7 a0_8 a1).bind fun t193 => (if t193 = true then (if a0_1 = 0 then (none) else (some (wrap64 (Int.tdiv a1 a0_1), Int.tmod a1 a0_1, true))) else (some (0, 0, false)))) = some (r1, r2, r3) := h
 clear h
 replace H := Option.bind_eq_some_iff.mp H
 obtain ⟨t193, A30, H⟩ := H
 replace H : (if t193 = true then (if a0_1 = 0 then (none) else (some (wrap64 (Int.tdiv a1 a0_1), Int.tmod a1 a0_1, true))) else (some (0, 0, false))) = some (r1, r2, r3) := H
 have A3 := Aside0.mk A30
 clear A30
 by_cases c4 : t193 = true
 ·subst c4
  have H1 : (if a0_1 = 0 then (none) else (some (wrap64 (Int.tdiv a1 a0_1), Int.tmod a1 a0_1, true))) = some (r1, r2, r3) := by rw [if_pos rfl] at H; exact H
  clear H
  have H := H1
  clear H1
  by_cases c5 : a0_1 = 0
  ·rw [if_pos c5] at H
   exact absurd H (by simp)
  ·rw [if_neg c5] at H
   have c5b0 : (a0_1 == 0) = false := beq_eq_false_iff_ne.mpr c5
   have c5b1 : (a0_1 != 0) = true := bne_iff_ne.mpr c5
   simp only [Option.some.injEq, Prod.mk.injEq] at H
   obtain ⟨rfl, rfl, rfl⟩ := H
   go_enter Try.func9, Try.ntmps9
   go_wp2_with (first | ((with_reducible refine gate_dst (N := 2) rfl ?_); refine boxe (N := 2) (cs := #[.int .i64 a0_0, .int .i64 a0_1, .int .i64 a0_2, .int .i64 a0_3, .int .i64 a0_4, .slice A0_5 l0_5.length c0_5, .slice A0_6 l0_6.length c0_6, .slice A0_7 l0_7.length c0_7, .int .i64 a0_8]) (t := 26) ?_; intro gb192 hg w6 hbox hb; have BK192 := Aside0.mk (hbox); have GW192 := bg0 hg HB; have GE192 := GW192; replace HB := bs0 HB hb; clear hb hbox hg; obtain ⟨hcz7_0, hcz7_1, hcz7_2, hcz7_3, hcz7_4, hcz7_5, hcz7_6, hcz7_7, hcz7_8, hfz7_0, hfz7_1, hfz7_2, hfz7_3, hfz7_4, hfz7_5, hfz7_6, hfz7_7, hfz7_8⟩ := bz9 BK192) | (go_at_call 27; (with_reducible refine (plan_good.calls a0_0 a0_1 a0_2 a0_3 a0_4 _ _ l0_5 _ _ l0_6 _ _ l0_7 a0_8 a1 true _ ?side1 ?side2 ?side3 ?side4 ?side5 ?side6 A3.out).mono ?_); (case side1 => exact kC (Kd.C_below HR0_5.out HB.out)); (case side2 => exact HC0_5.out); (case side3 => exact kC (Kd.C_below HR0_6.out HB.out)); (case side4 => exact HC0_6.out); (case side5 => exact kC (Kd.C_below HR0_7.out HB.out)); (case side6 => exact HC0_7.out); rintro e w8 ⟨rfl, hb⟩; replace BK192 := bb BK192 hb; replace HB := bs1 HB GE192 hb; (try clear hb); (try clear hb2); (try clear hk); (try clear hi); obtain ⟨hcz9_0, hcz9_1, hcz9_2, hcz9_3, hcz9_4, hcz9_5, hcz9_6, hcz9_7, hcz9_8, hfz9_0, hfz9_1, hfz9_2, hfz9_3, hfz9_4, hfz9_5, hfz9_6, hfz9_7, hfz9_8⟩ := bz9 BK192))
   repeat (go_quiet (first | ((with_reducible refine gate_dst (N := 2) rfl ?_); refine boxe (N := 2) (cs := #[.int .i64 a0_0, .int .i64 a0_1, .int .i64 a0_2, .int .i64 a0_3, .int .i64 a0_4, .slice A0_5 l0_5.length c0_5, .slice A0_6 l0_6.length c0_6, .slice A0_7 l0_7.length c0_7, .int .i64 a0_8]) (t := 26) ?_; intro gb192 hg w6 hbox hb; have BK192 := Aside0.mk (hbox); have GW192 := bg0 hg HB; have GE192 := GW192; replace HB := bs0 HB hb; clear hb hbox hg; obtain ⟨hcz7_0, hcz7_1, hcz7_2, hcz7_3, hcz7_4, hcz7_5, hcz7_6, hcz7_7, hcz7_8, hfz7_0, hfz7_1, hfz7_2, hfz7_3, hfz7_4, hfz7_5, hfz7_6, hfz7_7, hfz7_8⟩ := bz9 BK192) | (go_at_call 27; (with_reducible refine (plan_good.calls a0_0 a0_1 a0_2 a0_3 a0_4 _ _ l0_5 _ _ l0_6 _ _ l0_7 a0_8 a1 true _ ?side1 ?side2 ?side3 ?side4 ?side5 ?side6 A3.out).mono ?_); (case side1 => exact kC (Kd.C_below HR0_5.out HB.out)); (case side2 => exact HC0_5.out); (case side3 => exact kC (Kd.C_below HR0_6.out HB.out)); (case side4 => exact HC0_6.out); (case side5 => exact kC (Kd.C_below HR0_7.out HB.out)); (case side6 => exact HC0_7.out); rintro e w8 ⟨rfl, hb⟩; replace BK192 := bb BK192 hb; replace HB := bs1 HB GE192 hb; (try clear hb); (try clear hb2); (try clear hk); (try clear hi); obtain ⟨hcz9_0, hcz9_1, hcz9_2, hcz9_3, hcz9_4, hcz9_5, hcz9_6, hcz9_7, hcz9_8, hfz9_0, hfz9_1, hfz9_2, hfz9_3, hfz9_4, hfz9_5, hfz9_6, hfz9_7, hfz9_8⟩ := bz9 BK192)); try go_wp2_with (first | ((with_reducible refine gate_dst (N := 2) rfl ?_); refine boxe (N := 2) (cs := #[.int .i64 a0_0, .int .i64 a0_1, .int .i64 a0_2, .int .i64 a0_3, .int .i64 a0_4, .slice A0_5 l0_5.length c0_5, .slice A0_6 l0_6.length c0_6, .slice A0_7 l0_7.length c0_7, .int .i64 a0_8]) (t := 26) ?_; intro gb192 hg w6 hbox hb; have BK192 := Aside0.mk (hbox); have GW192 := bg0 hg HB; have GE192 := GW192; replace HB := bs0 HB hb; clear hb hbox hg; obtain ⟨hcz7_0, hcz7_1, hcz7_2, hcz7_3, hcz7_4, hcz7_5, hcz7_6, hcz7_7, hcz7_8, hfz7_0, hfz7_1, hfz7_2, hfz7_3, hfz7_4, hfz7_5, hfz7_6, hfz7_7, hfz7_8⟩ := bz9 BK192) | (go_at_call 27; (with_reducible refine (plan_good.calls a0_0 a0_1 a0_2 a0_3 a0_4 _ _ l0_5 _ _ l0_6 _ _ l0_7 a0_8 a1 true _ ?side1 ?side2 ?side3 ?side4 ?side5 ?side6 A3.out).mono ?_); (case side1 => exact kC (Kd.C_below HR0_5.out HB.out)); (case side2 => exact HC0_5.out); (case side3 => exact kC (Kd.C_below HR0_6.out HB.out)); (case side4 => exact HC0_6.out); (case side5 => exact kC (Kd.C_below HR0_7.out HB.out)); (case side6 => exact HC0_7.out); rintro e w8 ⟨rfl, hb⟩; replace BK192 := bb BK192 hb; replace HB := bs1 HB GE192 hb; (try clear hb); (try clear hb2); (try clear hk); (try clear hi); obtain ⟨hcz9_0, hcz9_1, hcz9_2, hcz9_3, hcz9_4, hcz9_5, hcz9_6, hcz9_7, hcz9_8, hfz9_0, hfz9_1, hfz9_2, hfz9_3, hfz9_4, hfz9_5, hfz9_6, hfz9_7, hfz9_8⟩ := bz9 BK192)))
   go_ret3
   exact ⟨re, bw1 HB GE192⟩
 ·replace c4 := Bool.eq_false_iff.mpr c4
  subst c4
  have H1 : (some (0, 0, false)) = some (r1, r2, r3) := by rw [if_neg (show ¬ (false = true) by decide)] at H; exact H
  clear H
  have H := H1
  clear H1
  simp only [Option.some.injEq, Prod.mk.injEq] at H
  obtain ⟨rfl, rfl, rfl⟩ := H
  go_enter Try.func9, Try.ntmps9
  go_wp2_with (first | ((with_reducible refine gate_dst (N := 2) rfl ?_); refine boxe (N := 2) (cs := #[.int .i64 a0_0, .int .i64 a0_1, .int .i64 a0_2, .int .i64 a0_3, .int .i64 a0_4, .slice A0_5 l0_5.length c0_5, .slice A0_6 l0_6.length c0_6, .slice A0_7 l0_7.length c0_7, .int .i64 a0_8]) (t := 26) ?_; intro gb192 hg w10 hbox hb; have BK192 := Aside0.mk (hbox); have GW192 := bg0 hg HB; have GE192 := GW192; replace HB := bs0 HB hb; clear hb hbox hg; obtain ⟨hcz11_0, hcz11_1, hcz11_2, hcz11_3, hcz11_4, hcz11_5, hcz11_6, hcz11_7, hcz11_8, hfz11_0, hfz11_1, hfz11_2, hfz11_3, hfz11_4, hfz11_5, hfz11_6, hfz11_7, hfz11_8⟩ := bz9 BK192) | (go_at_call 27; (with_reducible refine (plan_good.calls a0_0 a0_1 a0_2 a0_3 a0_4 _ _ l0_5 _ _ l0_6 _ _ l0_7 a0_8 a1 false _ ?side1 ?side2 ?side3 ?side4 ?side5 ?side6 A3.out).mono ?_); (case side1 => exact kC (Kd.C_below HR0_5.out HB.out)); (case side2 => exact HC0_5.out); (case side3 => exact kC (Kd.C_below HR0_6.out HB.out)); (case side4 => exact HC0_6.out); (case side5 => exact kC (Kd.C_below HR0_7.out HB.out)); (case side6 => exact HC0_7.out); rintro e w12 ⟨rfl, hb⟩; replace BK192 := bb BK192 hb; replace HB := bs1 HB GE192 hb; (try clear hb); (try clear hb2); (try clear hk); (try clear hi)))
  repeat (go_quiet (first | ((with_reducible refine gate_dst (N := 2) rfl ?_); refine boxe (N := 2) (cs := #[.int .i64 a0_0, .int .i64 a0_1, .int .i64 a0_2, .int .i64 a0_3, .int .i64 a0_4, .slice A0_5 l0_5.length c0_5, .slice A0_6 l0_6.length c0_6, .slice A0_7 l0_7.length c0_7, .int .i64 a0_8]) (t := 26) ?_; intro gb192 hg w10 hbox hb; have BK192 := Aside0.mk (hbox); have GW192 := bg0 hg HB; have GE192 := GW192; replace HB := bs0 HB hb; clear hb hbox hg; obtain ⟨hcz11_0, hcz11_1, hcz11_2, hcz11_3, hcz11_4, hcz11_5, hcz11_6, hcz11_7, hcz11_8, hfz11_0, hfz11_1, hfz11_2, hfz11_3, hfz11_4, hfz11_5, hfz11_6, hfz11_7, hfz11_8⟩ := bz9 BK192) | (go_at_call 27; (with_reducible refine (plan_good.calls a0_0 a0_1 a0_2 a0_3 a0_4 _ _ l0_5 _ _ l0_6 _ _ l0_7 a0_8 a1 false _ ?side1 ?side2 ?side3 ?side4 ?side5 ?side6 A3.out).mono ?_); (case side1 => exact kC (Kd.C_below HR0_5.out HB.out)); (case side2 => exact HC0_5.out); (case side3 => exact kC (Kd.C_below HR0_6.out HB.out)); (case side4 => exact HC0_6.out); (case side5 => exact kC (Kd.C_below HR0_7.out HB.out)); (case side6 => exact HC0_7.out); rintro e w12 ⟨rfl, hb⟩; replace BK192 := bb BK192 hb; replace HB := bs1 HB GE192 hb; (try clear hb); (try clear hb2); (try clear hk); (try clear hi))); try go_wp2_with (first | ((with_reducible refine gate_dst (N := 2) rfl ?_); refine boxe (N := 2) (cs := #[.int .i64 a0_0, .int .i64 a0_1, .int .i64 a0_2, .int .i64 a0_3, .int .i64 a0_4, .slice A0_5 l0_5.length c0_5, .slice A0_6 l0_6.length c0_6, .slice A0_7 l0_7.length c0_7, .int .i64 a0_8]) (t := 26) ?_; intro gb192 hg w10 hbox hb; have BK192 := Aside0.mk (hbox); have GW192 := bg0 hg HB; have GE192 := GW192; replace HB := bs0 HB hb; clear hb hbox hg; obtain ⟨hcz11_0, hcz11_1, hcz11_2, hcz11_3, hcz11_4, hcz11_5, hcz11_6, hcz11_7, hcz11_8, hfz11_0, hfz11_1, hfz11_2, hfz11_3, hfz11_4, hfz11_5, hfz11_6, hfz11_7, hfz11_8⟩ := bz9 BK192) | (go_at_call 27; (with_reducible refine (plan_good.calls a0_0 a0_1 a0_2 a0_3 a0_4 _ _ l0_5 _ _ l0_6 _ _ l0_7 a0_8 a1 false _ ?side1 ?side2 ?side3 ?side4 ?side5 ?side6 A3.out).mono ?_); (case side1 => exact kC (Kd.C_below HR0_5.out HB.out)); (case side2 => exact HC0_5.out); (case side3 => exact kC (Kd.C_below HR0_6.out HB.out)); (case side4 => exact HC0_6.out); (case side5 => exact kC (Kd.C_below HR0_7.out HB.out)); (case side6 => exact HC0_7.out); rintro e w12 ⟨rfl, hb⟩; replace BK192 := bb BK192 hb; replace HB := bs1 HB GE192 hb; (try clear hb); (try clear hb2); (try clear hk); (try clear hi))))
  go_ret3
  exact ⟨re, bw1 HB GE192⟩
end Go.Proofs.Ytbmldeikjfecfaa.T
