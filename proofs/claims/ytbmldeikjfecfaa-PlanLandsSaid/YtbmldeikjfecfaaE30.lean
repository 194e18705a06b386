/- A part of the proof of the statement PlanLands: words, contracts of functions that it reaches, and what they compute. No condition. -/
import Derived.Test.YtbmldeikjfecfaaE01
import Derived.Test.YtbmldeikjfecfaaE04
import Derived.Test.YtbmldeikjfecfaaE29
set_option linter.unusedVariables false
set_option linter.unusedSimpArgs false
namespace Go.Proofs.Ytbmldeikjfecfaa.T
open Go.RowKit Go.Proofs.YtbmldeikjfecfaaW.PrintWords Go.Proofs.YtbmldeikjfecfaaW.PrintLast Go.Proofs.YtbmldeikjfecfaaW.PrintMore
attribute [local go_sem] max2_int min2_int max_two min_two max_three min_three max_four min_four
attribute [local go_sem] at34_0 at34_1 at34_2 at42_0 at42_1 at42_2 at42_3 at47_0 at47_1 at47_2 at47_3 at47_4
def plan_Send.f (a0_0 : Int) (a0_1 : Int) (a0_2 : Int) (a0_3 : Int) (a0_4 : Int) (l0_5 : List (List Int)) (l0_6 : List (S40)) (l0_7 : List (S63)) (a0_8 : Int) (a1 : Int) (a2 : Int) : Option (Int × Bool) := (plan_of.f a0_0 a0_1 a0_2 a0_3 a0_4 l0_5 l0_6 l0_7 a0_8 a1 a2).bind fun bt199 => (if bt199.2.2.2.2.2.2 = true then (if bt199.2.2.2.2.2.1 > bt199.2.2.1 then (some (wrap64 ((wrap64 ((wrap64 (bt199.2.2.2.2.1 + 1)) * a0_1)) + bt199.2.2.1), true)) else (some (wrap64 ((wrap64 (bt199.2.2.2.2.1 * a0_1)) + bt199.2.2.1), true))) else (some (0, false)))
set_option maxHeartbeats 8000000 in
set_option maxRecDepth 100000 in
theorem plan_Send.calls (a0_0 : Int) (a0_1 : Int) (a0_2 : Int) (a0_3 : Int) (a0_4 : Int) (A0_5 : Option Addr) (c0_5 : Nat) (l0_5 : List (List Int)) (A0_6 : Option Addr) (c0_6 : Nat) (l0_6 : List (S40)) (A0_7 : Option Addr) (c0_7 : Nat) (l0_7 : List (S63)) (a0_8 : Int) (a1 : Int) (a2 : Int) (r1 : Int) (r2 : Bool) (w : World) (hr0_5 : Kd.C (Kd.slice 2 (Kd.int .i64)) w A0_5 l0_5.length l0_5) (hc0_5 : l0_5.length ≤ c0_5) (hr0_6 : Kd.C k40 w A0_6 l0_6.length l0_6) (hc0_6 : l0_6.length ≤ c0_6) (hr0_7 : Kd.C k63 w A0_7 l0_7.length l0_7) (hc0_7 : l0_7.length ≤ c0_7) (h : plan_Send.f a0_0 a0_1 a0_2 a0_3 a0_4 l0_5 l0_6 l0_7 a0_8 a1 a2 = some (r1, r2)) :
  Calls Try.prog 11 #[.agg #[.int .i64 a0_0, .int .i64 a0_1, .int .i64 a0_2, .int .i64 a0_3, .int .i64 a0_4, .slice A0_5 l0_5.length c0_5, .slice A0_6 l0_6.length c0_6, .slice A0_7 l0_7.length c0_7, .int .i64 a0_8], .int .i64 a1, .int .i64 a2] w fun e w' => e = .returned (.tuple #[.int .i64 r1, .bool r2]) ∧ Below w.heap.size w w' := by
 have hu26 := Try.underlying26
 have hu40 := Try.underlying40
 have HR0_5 := Aside0.mk hr0_5
 have HC0_5 := Aside0.mk hc0_5
 clear hr0_5 hc0_5
 have HR0_6 := Aside0.mk hr0_6
 have HC0_6 := Aside0.mk hc0_6
 clear hr0_6 hc0_6
 have HR0_7 := Aside0.mk hr0_7
 have HC0_7 := Aside0.mk hc0_7
 clear hr0_7 hc0_7
 have HB := Aside0.mk (Below.refl w.heap.size w)
 have H : ((plan_of.f a0_0 a0_1 a0_2 a0_3 a0_4 l0_5 l0_6 l0_7 a0_8 a1 a2).bind fun bt199 => (if bt199.2.2.2.2.2.2 = true then (if bt199.2.2.2.2.2.1 > bt199.2.2.1 then (some (wrap64 ((wrap64 ((wrap64 (bt199.2.2.2.2.1 + 1)) * a0_1)) + bt199.2.2.1), true)) else (some (wrap64 ((wrap64 (bt199.2.2.2.2.1 * a0_1)) + bt199.2.2.1), true))) else (some (0, false)))) = some (r1, r2) := h
 clear h
 replace H := Option.bind_eq_some_iff.mp H
 obtain ⟨⟨t199, t200, t201, t202, t203, t204, t205⟩, A40, H⟩ := H
 replace H : (if t205 = true then (if t204 > t201 then (some (wrap64 ((wrap64 ((wrap64 (t203 + 1)) * a0_1)) + t201), true)) else (some (wrap64 ((wrap64 (t203 * a0_1)) + t201), true))) else (some (0, false))) = some (r1, r2) := H
 have A4 := Aside0.mk A40
 clear A40
 by_cases c5 : t205 = true
 ·subst c5
  have H1 : (if t204 > t201 then (some (wrap64 ((wrap64 ((wrap64 (t203 + 1)) * a0_1)) + t201), true)) else (some (wrap64 ((wrap64 (t203 * a0_1)) + t201), true))) = some (r1, r2) := by rw [if_pos rfl] at H; exact H
  clear H
  have H := H1
  clear H1
  by_cases c6 : t204 > t201
  ·rw [if_pos c6] at H
   have c6b0 : decide (t201 < t204) = true := decide_eq_true c6
   clear c6
   simp only [Option.some.injEq, Prod.mk.injEq] at H
   obtain ⟨rfl, rfl⟩ := H
   go_enter Try.func11, Try.ntmps11
   go_wp2_with (first | ((with_reducible refine gate_dst (N := 3) rfl ?_); refine boxe (N := 3) (cs := #[.int .i64 a0_0, .int .i64 a0_1, .int .i64 a0_2, .int .i64 a0_3, .int .i64 a0_4, .slice A0_5 l0_5.length c0_5, .slice A0_6 l0_6.length c0_6, .slice A0_7 l0_7.length c0_7, .int .i64 a0_8]) (t := 26) ?_; intro gb198 hg w7 hbox hb; have BK198 := Aside0.mk (hbox); have GW198 := bg0 hg HB; have GE198 := GW198; replace HB := bs0 HB hb; clear hb hbox hg; obtain ⟨hcz8_0, hcz8_1, hcz8_2, hcz8_3, hcz8_4, hcz8_5, hcz8_6, hcz8_7, hcz8_8, hfz8_0, hfz8_1, hfz8_2, hfz8_3, hfz8_4, hfz8_5, hfz8_6, hfz8_7, hfz8_8⟩ := bz9 BK198) | ((with_reducible refine gate_callee (f := 28) rfl ?_); refine gol (some 16) Try.func28 #[.agg #[.int .i64 a0_0, .int .i64 a0_1, .int .i64 a0_2, .int .i64 a0_3, .int .i64 a0_4, .slice A0_5 l0_5.length c0_5, .slice A0_6 l0_6.length c0_6, .slice A0_7 l0_7.length c0_7, .int .i64 a0_8], .int .i64 a1, .int .i64 a2] ?_; (with_reducible refine (plan_of.calls a0_0 a0_1 a0_2 a0_3 a0_4 _ _ l0_5 _ _ l0_6 _ _ l0_7 a0_8 a1 a2 t199 t200 t201 t202 t203 t204 true _ ?side1 ?side2 ?side3 ?side4 ?side5 ?side6 A4.out).mono ?_); (case side1 => exact kC (Kd.C_below HR0_5.out HB.out)); (case side2 => exact HC0_5.out); (case side3 => exact kC (Kd.C_below HR0_6.out HB.out)); (case side4 => exact HC0_6.out); (case side5 => exact kC (Kd.C_below HR0_7.out HB.out)); (case side6 => exact HC0_7.out); rintro e w9 ⟨rfl, hb⟩; refine ⟨_, rfl, ?_⟩; replace BK198 := bb BK198 hb; replace HB := bs1 HB GE198 hb; (try clear hb); (try clear hb2); (try clear hk); (try clear hi)) | ((with_reducible refine gate_dst (N := 8) rfl ?_); refine boxe (N := 8) (cs := #[.int .i64 0, .int .u32 0, .int .i64 0, .int .i64 0]) (t := 40) ?_; intro gb206 hg w10 hbox hb; have BK206 := Aside0.mk (hbox); have GW206 := bg1 hg HB GE198; have GE206 := GW206; have NB198_206 := nl hg BK198; have NB206_198 := ng hg BK198; replace BK198 := bb BK198 hb; replace HB := bs1 HB GE198 hb; clear hb hbox hg; have hnb11 := NB206_198.out; have hnc11 := NB198_206.out; obtain ⟨hcz12_0, hcz12_1, hcz12_2, hcz12_3, hfz12_0, hfz12_1, hfz12_2, hfz12_3⟩ := bz4 BK206; obtain ⟨hcz13_0, hcz13_1, hcz13_2, hcz13_3, hcz13_4, hcz13_5, hcz13_6, hcz13_7, hcz13_8, hfz13_0, hfz13_1, hfz13_2, hfz13_3, hfz13_4, hfz13_5, hfz13_6, hfz13_7, hfz13_8⟩ := bz9 BK198))
   go_ret2
   exact ⟨re, bw2 HB GE198 GE206⟩
  ·rw [if_neg c6] at H
   have c6b0 : decide (t201 < t204) = false := decide_eq_false c6
   clear c6
   simp only [Option.some.injEq, Prod.mk.injEq] at H
   obtain ⟨rfl, rfl⟩ := H
   go_enter Try.func11, Try.ntmps11
   go_wp2_with (first | ((with_reducible refine gate_dst (N := 3) rfl ?_); refine boxe (N := 3) (cs := #[.int .i64 a0_0, .int .i64 a0_1, .int .i64 a0_2, .int .i64 a0_3, .int .i64 a0_4, .slice A0_5 l0_5.length c0_5, .slice A0_6 l0_6.length c0_6, .slice A0_7 l0_7.length c0_7, .int .i64 a0_8]) (t := 26) ?_; intro gb198 hg w14 hbox hb; have BK198 := Aside0.mk (hbox); have GW198 := bg0 hg HB; have GE198 := GW198; replace HB := bs0 HB hb; clear hb hbox hg; obtain ⟨hcz15_0, hcz15_1, hcz15_2, hcz15_3, hcz15_4, hcz15_5, hcz15_6, hcz15_7, hcz15_8, hfz15_0, hfz15_1, hfz15_2, hfz15_3, hfz15_4, hfz15_5, hfz15_6, hfz15_7, hfz15_8⟩ := bz9 BK198) | ((with_reducible refine gate_callee (f := 28) rfl ?_); refine gol (some 16) Try.func28 #[.agg #[.int .i64 a0_0, .int .i64 a0_1, .int .i64 a0_2, .int .i64 a0_3, .int .i64 a0_4, .slice A0_5 l0_5.length c0_5, .slice A0_6 l0_6.length c0_6, .slice A0_7 l0_7.length c0_7, .int .i64 a0_8], .int .i64 a1, .int .i64 a2] ?_; (with_reducible refine (plan_of.calls a0_0 a0_1 a0_2 a0_3 a0_4 _ _ l0_5 _ _ l0_6 _ _ l0_7 a0_8 a1 a2 t199 t200 t201 t202 t203 t204 true _ ?side1 ?side2 ?side3 ?side4 ?side5 ?side6 A4.out).mono ?_); (case side1 => exact kC (Kd.C_below HR0_5.out HB.out)); (case side2 => exact HC0_5.out); (case side3 => exact kC (Kd.C_below HR0_6.out HB.out)); (case side4 => exact HC0_6.out); (case side5 => exact kC (Kd.C_below HR0_7.out HB.out)); (case side6 => exact HC0_7.out); rintro e w16 ⟨rfl, hb⟩; refine ⟨_, rfl, ?_⟩; replace BK198 := bb BK198 hb; replace HB := bs1 HB GE198 hb; (try clear hb); (try clear hb2); (try clear hk); (try clear hi)) | ((with_reducible refine gate_dst (N := 8) rfl ?_); refine boxe (N := 8) (cs := #[.int .i64 0, .int .u32 0, .int .i64 0, .int .i64 0]) (t := 40) ?_; intro gb206 hg w17 hbox hb; have BK206 := Aside0.mk (hbox); have GW206 := bg1 hg HB GE198; have GE206 := GW206; have NB198_206 := nl hg BK198; have NB206_198 := ng hg BK198; replace BK198 := bb BK198 hb; replace HB := bs1 HB GE198 hb; clear hb hbox hg; have hnb18 := NB206_198.out; have hnc18 := NB198_206.out; obtain ⟨hcz19_0, hcz19_1, hcz19_2, hcz19_3, hfz19_0, hfz19_1, hfz19_2, hfz19_3⟩ := bz4 BK206; obtain ⟨hcz20_0, hcz20_1, hcz20_2, hcz20_3, hcz20_4, hcz20_5, hcz20_6, hcz20_7, hcz20_8, hfz20_0, hfz20_1, hfz20_2, hfz20_3, hfz20_4, hfz20_5, hfz20_6, hfz20_7, hfz20_8⟩ := bz9 BK198))
   go_ret2
   exact ⟨re, bw2 HB GE198 GE206⟩
 ·replace c5 := Bool.eq_false_iff.mpr c5
  subst c5
  have H1 : (some (0, false)) = some (r1, r2) := by rw [if_neg (show ¬ (false = true) by decide)] at H; exact H
  clear H
  have H := H1
  clear H1
  simp only [Option.some.injEq, Prod.mk.injEq] at H
  obtain ⟨rfl, rfl⟩ := H
  go_enter Try.func11, Try.ntmps11
  go_wp2_with (first | ((with_reducible refine gate_dst (N := 3) rfl ?_); refine boxe (N := 3) (cs := #[.int .i64 a0_0, .int .i64 a0_1, .int .i64 a0_2, .int .i64 a0_3, .int .i64 a0_4, .slice A0_5 l0_5.length c0_5, .slice A0_6 l0_6.length c0_6, .slice A0_7 l0_7.length c0_7, .int .i64 a0_8]) (t := 26) ?_; intro gb198 hg w21 hbox hb; have BK198 := Aside0.mk (hbox); have GW198 := bg0 hg HB; have GE198 := GW198; replace HB := bs0 HB hb; clear hb hbox hg; obtain ⟨hcz22_0, hcz22_1, hcz22_2, hcz22_3, hcz22_4, hcz22_5, hcz22_6, hcz22_7, hcz22_8, hfz22_0, hfz22_1, hfz22_2, hfz22_3, hfz22_4, hfz22_5, hfz22_6, hfz22_7, hfz22_8⟩ := bz9 BK198) | ((with_reducible refine gate_callee (f := 28) rfl ?_); refine gol (some 16) Try.func28 #[.agg #[.int .i64 a0_0, .int .i64 a0_1, .int .i64 a0_2, .int .i64 a0_3, .int .i64 a0_4, .slice A0_5 l0_5.length c0_5, .slice A0_6 l0_6.length c0_6, .slice A0_7 l0_7.length c0_7, .int .i64 a0_8], .int .i64 a1, .int .i64 a2] ?_; (with_reducible refine (plan_of.calls a0_0 a0_1 a0_2 a0_3 a0_4 _ _ l0_5 _ _ l0_6 _ _ l0_7 a0_8 a1 a2 t199 t200 t201 t202 t203 t204 false _ ?side1 ?side2 ?side3 ?side4 ?side5 ?side6 A4.out).mono ?_); (case side1 => exact kC (Kd.C_below HR0_5.out HB.out)); (case side2 => exact HC0_5.out); (case side3 => exact kC (Kd.C_below HR0_6.out HB.out)); (case side4 => exact HC0_6.out); (case side5 => exact kC (Kd.C_below HR0_7.out HB.out)); (case side6 => exact HC0_7.out); rintro e w23 ⟨rfl, hb⟩; refine ⟨_, rfl, ?_⟩; replace BK198 := bb BK198 hb; replace HB := bs1 HB GE198 hb; (try clear hb); (try clear hb2); (try clear hk); (try clear hi)) | ((with_reducible refine gate_dst (N := 8) rfl ?_); refine boxe (N := 8) (cs := #[.int .i64 0, .int .u32 0, .int .i64 0, .int .i64 0]) (t := 40) ?_; intro gb206 hg w24 hbox hb; have BK206 := Aside0.mk (hbox); have GW206 := bg1 hg HB GE198; have GE206 := GW206; have NB198_206 := nl hg BK198; have NB206_198 := ng hg BK198; replace BK198 := bb BK198 hb; replace HB := bs1 HB GE198 hb; clear hb hbox hg; have hnb25 := NB206_198.out; have hnc25 := NB198_206.out; obtain ⟨hcz26_0, hcz26_1, hcz26_2, hcz26_3, hfz26_0, hfz26_1, hfz26_2, hfz26_3⟩ := bz4 BK206))
  go_ret2
  exact ⟨re, bw2 HB GE198 GE206⟩
end Go.Proofs.Ytbmldeikjfecfaa.T
