/- A part of the proof of the statement PlanLands: words, contracts of functions that it reaches, and what they compute. No condition. -/
import Derived.Test.YtbmldeikjfecfaaE01
import Derived.Test.YtbmldeikjfecfaaE04
set_option linter.unusedVariables false
set_option linter.unusedSimpArgs false
namespace Go.Proofs.Ytbmldeikjfecfaa.T
open Go.RowKit Go.Proofs.YtbmldeikjfecfaaW.PrintWords Go.Proofs.YtbmldeikjfecfaaW.PrintLast Go.Proofs.YtbmldeikjfecfaaW.PrintMore
attribute [local go_sem] max2_int min2_int max_two min_two max_three min_three max_four min_four
attribute [local go_sem] at34_0 at34_1 at34_2 at42_0 at42_1 at42_2 at42_3 at47_0 at47_1 at47_2 at47_3 at47_4
def tocsinref06_Time.f (a0 : Int) : Option (Int) := if a0 < 64 then (some 512) else (if a0 > 1518 then (some 12144) else (some (wrap64 (a0 * 8))))
set_option maxHeartbeats 8000000 in
set_option maxRecDepth 100000 in
theorem tocsinref06_Time.calls (a0 : Int) (r : Int) (w : World) (h : tocsinref06_Time.f a0 = some r) :
  Calls Try.prog 39 #[.int .i64 a0] w fun e w' => e = .returned (.int .i64 r) ∧ Drawn0 w w' := by
 have H : (if a0 < 64 then (some 512) else (if a0 > 1518 then (some 12144) else (some (wrap64 (a0 * 8))))) = some r := h
 clear h
 by_cases c2 : a0 < 64
 ·rw [if_pos c2] at H
  have c2b0 : decide (a0 < 64) = true := decide_eq_true c2
  clear c2
  obtain rfl := Option.some.inj H
  go_enter Try.func39, Try.ntmps39
  go_wp2
  go_ret
  exact ⟨by first | rfl | (simp; done) | (simp [*]; done), by repeat (first | exact Drawn0.refl _ | apply Drawn0.step)⟩
 ·rw [if_neg c2] at H
  have c2b0 : decide (a0 < 64) = false := decide_eq_false c2
  clear c2
  by_cases c3 : a0 > 1518
  ·rw [if_pos c3] at H
   have c3b0 : decide (1518 < a0) = true := decide_eq_true c3
   clear c3
   obtain rfl := Option.some.inj H
   go_enter Try.func39, Try.ntmps39
   go_wp2
   go_ret
   exact ⟨by first | rfl | (simp; done) | (simp [*]; done), by repeat (first | exact Drawn0.refl _ | apply Drawn0.step)⟩
  ·rw [if_neg c3] at H
   have c3b0 : decide (1518 < a0) = false := decide_eq_false c3
   clear c3
   obtain rfl := Option.some.inj H
   go_enter Try.func39, Try.ntmps39
   go_wp2
   go_ret
   exact ⟨by first | rfl | (simp; done) | (simp [*]; done), by repeat (first | exact Drawn0.refl _ | apply Drawn0.step)⟩
def tocsinref08_Times.f (a0_0 : Int) (a0_1 : Int) (a0_2 : Int) (a0_3 : Int) (a0_4 : Int) (l0_5 : List (List Int)) (l0_6 : List (S40)) (l0_7 : List (S63)) (a0_8 : Int) (a1_0 : Int) (a1_1 : Int) (a1_2 : Int) (a1_3 : Int) : Option (Int × Int × Int × Int × Int) := (tocsinref06_Time.f a1_3).bind fun t146 => (some (wrap64 ((wrap64 (a1_2 + t146)) - a0_4), wrap64 ((wrap64 ((wrap64 (a1_2 + t146)) + a0_2)) + a0_4), wrap64 ((wrap64 ((wrap64 ((wrap64 (a1_2 + t146)) + a0_2)) + a0_4)) + a0_4), wrap64 ((wrap64 ((wrap64 ((wrap64 ((wrap64 ((wrap64 (a1_2 + t146)) + a0_2)) + a0_4)) + a0_4)) + t146)) - a0_4), wrap64 ((wrap64 ((wrap64 ((wrap64 ((wrap64 ((wrap64 ((wrap64 (a1_2 + t146)) + a0_2)) + a0_4)) + a0_4)) + t146)) + a0_2)) + a0_4)))
set_option maxHeartbeats 8000000 in
set_option maxRecDepth 100000 in
theorem tocsinref08_Times.calls (a0_0 : Int) (a0_1 : Int) (a0_2 : Int) (a0_3 : Int) (a0_4 : Int) (A0_5 : Option Addr) (c0_5 : Nat) (l0_5 : List (List Int)) (A0_6 : Option Addr) (c0_6 : Nat) (l0_6 : List (S40)) (A0_7 : Option Addr) (c0_7 : Nat) (l0_7 : List (S63)) (a0_8 : Int) (a1_0 : Int) (a1_1 : Int) (a1_2 : Int) (a1_3 : Int) (r1 : Int) (r2 : Int) (r3 : Int) (r4 : Int) (r5 : Int) (w : World) (hr0_5 : Kd.C (Kd.slice 2 (Kd.int .i64)) w A0_5 l0_5.length l0_5) (hc0_5 : l0_5.length ≤ c0_5) (hr0_6 : Kd.C k40 w A0_6 l0_6.length l0_6) (hc0_6 : l0_6.length ≤ c0_6) (hr0_7 : Kd.C k63 w A0_7 l0_7.length l0_7) (hc0_7 : l0_7.length ≤ c0_7) (h : tocsinref08_Times.f a0_0 a0_1 a0_2 a0_3 a0_4 l0_5 l0_6 l0_7 a0_8 a1_0 a1_1 a1_2 a1_3 = some (r1, r2, r3, r4, r5)) :
  Calls Try.prog 25 #[.agg #[.int .i64 a0_0, .int .i64 a0_1, .int .i64 a0_2, .int .i64 a0_3, .int .i64 a0_4, .slice A0_5 l0_5.length c0_5, .slice A0_6 l0_6.length c0_6, .slice A0_7 l0_7.length c0_7, .int .i64 a0_8], .agg #[.int .i64 a1_0, .int .u32 a1_1, .int .i64 a1_2, .int .i64 a1_3]] w fun e w' => e = .returned (.agg #[.int .i64 r1, .int .i64 r2, .int .i64 r3, .int .i64 r4, .int .i64 r5]) ∧ Below w.heap.size w w' := by
 have hu26 := Try.underlying26
 have hu40 := Try.underlying40
 have hu47 := Try.underlying47
 have HR0_5 := Aside0.mk hr0_5
 have HC0_5 := Aside0.mk hc0_5
 clear hr0_5 hc0_5
 have HR0_6 := Aside0.mk hr0_6
 have HC0_6 := Aside0.mk hc0_6
 clear hr0_6 hc0_6
 have HR0_7 := Aside0.mk hr0_7
 have HC0_7 := Aside0.mk hc0_7
 clear hr0_7 hc0_7
 have HB := Aside0.mk (Below.refl w.heap.size w)
 have H : ((tocsinref06_Time.f a1_3).bind fun t146 => (some (wrap64 ((wrap64 (a1_2 + t146)) - a0_4), wrap64 ((wrap64 ((wrap64 (a1_2 + t146)) + a0_2)) + a0_4), wrap64 ((wrap64 ((wrap64 ((wrap64 (a1_2 + t146)) + a0_2)) + a0_4)) + a0_4), wrap64 ((wrap64 ((wrap64 ((wrap64 ((wrap64 ((wrap64 (a1_2 + t146)) + a0_2)) + a0_4)) + a0_4)) + t146)) - a0_4), wrap64 ((wrap64 ((wrap64 ((wrap64 ((wrap64 ((wrap64 ((wrap64 (a1_2 + t146)) + a0_2)) + a0_4)) + a0_4)) + t146)) + a0_2)) + a0_4)))) = some (r1, r2, r3, r4, r5) := h
 clear h
 replace H := Option.bind_eq_some_iff.mp H
 obtain ⟨t146, A30, H⟩ := H
 replace H : (some (wrap64 ((wrap64 (a1_2 + t146)) - a0_4), wrap64 ((wrap64 ((wrap64 (a1_2 + t146)) + a0_2)) + a0_4), wrap64 ((wrap64 ((wrap64 ((wrap64 (a1_2 + t146)) + a0_2)) + a0_4)) + a0_4), wrap64 ((wrap64 ((wrap64 ((wrap64 ((wrap64 ((wrap64 (a1_2 + t146)) + a0_2)) + a0_4)) + a0_4)) + t146)) - a0_4), wrap64 ((wrap64 ((wrap64 ((wrap64 ((wrap64 ((wrap64 ((wrap64 (a1_2 + t146)) + a0_2)) + a0_4)) + a0_4)) + t146)) + a0_2)) + a0_4))) = some (r1, r2, r3, r4, r5) := H
 have A3 := Aside0.mk A30
 clear A30
 simp only [Option.some.injEq, Prod.mk.injEq] at H
 obtain ⟨rfl, rfl, rfl, rfl, rfl⟩ := H
 go_enter Try.func25, Try.ntmps25
 go_wp2_with (first | ((with_reducible refine gate_dst (N := 2) rfl ?_); refine boxe (N := 2) (cs := #[.int .i64 a0_0, .int .i64 a0_1, .int .i64 a0_2, .int .i64 a0_3, .int .i64 a0_4, .slice A0_5 l0_5.length c0_5, .slice A0_6 l0_6.length c0_6, .slice A0_7 l0_7.length c0_7, .int .i64 a0_8]) (t := 26) ?_; intro gb143 hg w4 hbox hb; have BK143 := Aside0.mk (hbox); have GW143 := bg0 hg HB; have GE143 := GW143; replace HB := bs0 HB hb; clear hb hbox hg) | ((with_reducible refine gate_dst (N := 3) rfl ?_); refine boxe (N := 3) (cs := #[.int .i64 a1_0, .int .u32 a1_1, .int .i64 a1_2, .int .i64 a1_3]) (t := 40) ?_; intro gb144 hg w5 hbox hb; have BK144 := Aside0.mk (hbox); have GW144 := bg1 hg HB GE143; have GE144 := GW144; have NB143_144 := nl hg BK143; have NB144_143 := ng hg BK143; replace BK143 := bb BK143 hb; replace HB := bs1 HB GE143 hb; clear hb hbox hg) | ((with_reducible refine gate_dst (N := 4) rfl ?_); refine boxe (N := 4) (cs := #[.int .i64 0, .int .i64 0, .int .i64 0, .int .i64 0, .int .i64 0]) (t := 47) ?_; intro gb145 hg w6 hbox hb; have BK145 := Aside0.mk (hbox); have GW145 := bg2 hg HB GE143 GE144; have GE145 := GW145; have NB143_145 := nl hg BK143; have NB145_143 := ng hg BK143; have NB144_145 := nl hg BK144; have NB145_144 := ng hg BK144; replace BK143 := bb BK143 hb; replace BK144 := bb BK144 hb; replace HB := bs2 HB GE143 GE144 hb; clear hb hbox hg; have hnb7 := NB144_143.out; have hnc7 := NB143_144.out; have hnb8 := NB144_145.out; have hnc8 := NB145_144.out; obtain ⟨hcz9_0, hcz9_1, hcz9_2, hcz9_3, hfz9_0, hfz9_1, hfz9_2, hfz9_3⟩ := bz4 BK144) | ((with_reducible refine gate_callee (f := 39) rfl ?_); refine gol (some 10) Try.func39 #[.int .i64 a1_3] ?_; (with_reducible refine (tocsinref06_Time.calls a1_3 t146 _ A3.out).mono ?_); rintro e w' ⟨rfl, ⟨nd, rfl⟩⟩; refine ⟨_, rfl, ?_⟩; (try (rw [drewN_self w6]; generalize hq_ : World.drewN w6 _ = w6; have n0_ : Aside0 (w6.heap[gb143]? = some (.cells #[.int .i64 a0_0, .int .i64 a0_1, .int .i64 a0_2, .int .i64 a0_3, .int .i64 a0_4, .slice A0_5 l0_5.length c0_5, .slice A0_6 l0_6.length c0_6, .slice A0_7 l0_7.length c0_7, .int .i64 a0_8] 26 (0, 0))) := ⟨by rw [← hq_]; exact (bk BK143)⟩; have n1_ : Aside0 (w6.heap[gb144]? = some (.cells #[.int .i64 a1_0, .int .u32 a1_1, .int .i64 a1_2, .int .i64 a1_3] 40 (0, 0))) := ⟨by rw [← hq_]; exact (bk BK144)⟩; have n2_ : Aside0 (w6.heap[gb145]? = some (.cells #[.int .i64 0, .int .i64 0, .int .i64 0, .int .i64 0, .int .i64 0] 47 (0, 0))) := ⟨by rw [← hq_]; exact (bk BK145)⟩; have n3_ : Aside0 (Below w.heap.size w w6) := ⟨by rw [← hq_]; exact (bw3 HB GE143 GE144 GE145)⟩; clear BK143 BK144 BK145 HB hq_; have BK143 := n0_; have BK144 := n1_; have BK145 := n2_; have HB := n3_; clear n0_ n1_ n2_ n3_)); obtain ⟨hcz10_0, hcz10_1, hcz10_2, hcz10_3, hfz10_0, hfz10_1, hfz10_2, hfz10_3⟩ := bz4 BK144; have hnb11 := NB143_145.out; have hnc11 := NB145_143.out; obtain ⟨hcz12_0, hcz12_1, hcz12_2, hcz12_3, hcz12_4, hcz12_5, hcz12_6, hcz12_7, hcz12_8, hfz12_0, hfz12_1, hfz12_2, hfz12_3, hfz12_4, hfz12_5, hfz12_6, hfz12_7, hfz12_8⟩ := bz9 BK143; obtain ⟨hcz13_0, hcz13_1, hcz13_2, hcz13_3, hcz13_4, hfz13_0, hfz13_1, hfz13_2, hfz13_3, hfz13_4⟩ := bz5 BK145))
 refine bodyPost_ret (results_cell_row rfl _ _ gb145 47 #[.int .i64 (wrap64 ((wrap64 (a1_2 + t146)) - a0_4)), .int .i64 (wrap64 ((wrap64 ((wrap64 (a1_2 + t146)) + a0_2)) + a0_4)), .int .i64 (wrap64 ((wrap64 ((wrap64 ((wrap64 (a1_2 + t146)) + a0_2)) + a0_4)) + a0_4)), .int .i64 (wrap64 ((wrap64 ((wrap64 ((wrap64 ((wrap64 ((wrap64 (a1_2 + t146)) + a0_2)) + a0_4)) + a0_4)) + t146)) - a0_4)), .int .i64 (wrap64 ((wrap64 ((wrap64 ((wrap64 ((wrap64 ((wrap64 ((wrap64 (a1_2 + t146)) + a0_2)) + a0_4)) + a0_4)) + t146)) + a0_2)) + a0_4))] (0, 0) _ rfl (by (with_reducible repeat (first | refine blk_drewN ?_ _ | refine blk_drew ?_ | refine blk_alloc ?_ _)); refine blk_put (cs := #[.int .i64 (wrap64 ((wrap64 (a1_2 + t146)) - a0_4)), .int .i64 (wrap64 ((wrap64 ((wrap64 (a1_2 + t146)) + a0_2)) + a0_4)), .int .i64 (wrap64 ((wrap64 ((wrap64 ((wrap64 (a1_2 + t146)) + a0_2)) + a0_4)) + a0_4)), .int .i64 (wrap64 ((wrap64 ((wrap64 ((wrap64 ((wrap64 ((wrap64 (a1_2 + t146)) + a0_2)) + a0_4)) + a0_4)) + t146)) - a0_4)), .int .i64 0]) ?_ 4 _ rt; (with_reducible repeat (first | refine blk_drewN ?_ _ | refine blk_drew ?_ | refine blk_alloc ?_ _)); refine blk_put (cs := #[.int .i64 (wrap64 ((wrap64 (a1_2 + t146)) - a0_4)), .int .i64 (wrap64 ((wrap64 ((wrap64 (a1_2 + t146)) + a0_2)) + a0_4)), .int .i64 (wrap64 ((wrap64 ((wrap64 ((wrap64 (a1_2 + t146)) + a0_2)) + a0_4)) + a0_4)), .int .i64 0, .int .i64 0]) ?_ 3 _ rt; (with_reducible repeat (first | refine blk_drewN ?_ _ | refine blk_drew ?_ | refine blk_alloc ?_ _)); refine blk_put (cs := #[.int .i64 (wrap64 ((wrap64 (a1_2 + t146)) - a0_4)), .int .i64 (wrap64 ((wrap64 ((wrap64 (a1_2 + t146)) + a0_2)) + a0_4)), .int .i64 0, .int .i64 0, .int .i64 0]) ?_ 2 _ rt; (with_reducible repeat (first | refine blk_drewN ?_ _ | refine blk_drew ?_ | refine blk_alloc ?_ _)); refine blk_put (cs := #[.int .i64 (wrap64 ((wrap64 (a1_2 + t146)) - a0_4)), .int .i64 0, .int .i64 0, .int .i64 0, .int .i64 0]) ?_ 1 _ rt; (with_reducible repeat (first | refine blk_drewN ?_ _ | refine blk_drew ?_ | refine blk_alloc ?_ _)); refine blk_put (cs := #[.int .i64 0, .int .i64 0, .int .i64 0, .int .i64 0, .int .i64 0]) ?_ 0 _ rt; (with_reducible repeat (first | refine blk_drewN ?_ _ | refine blk_drew ?_ | refine blk_alloc ?_ _)); exact BK145.out) Try.underlying47 rfl (by kernel_rfl)) rfl ?_
 exact ⟨re, bw3 HB GE143 GE144 GE145⟩
mutual
def tocsinref07_Has.j0 : Nat → Int → Int → Bool → Option (Bool)
 | 0, _, _, _ => none
 | k + 1, x0, x1, x11 => if x11 = true then (some false) else (tocsinref07_Has.l0 k x0 x1 0)
def tocsinref07_Has.l0 : Nat → Int → Int → Int → Option (Bool)
 | 0, _, _, _ => none
 | k + 1, x0, x1, x5 => if x5 < x1 then (tocsinref07_Has.l0 k ((Int.tdiv x0 2) % 4294967296) x1 (wrap64 (x5 + 1))) else (some ((Int.tmod x0 2) == 1))
end
def tocsinref07_Has.f (k : Nat) (a0 : Int) (a1 : Int) : Option (Bool) := if a1 < 0 then (tocsinref07_Has.j0 k a0 a1 true) else (tocsinref07_Has.j0 k a0 a1 (decide (a1 > 5)))
theorem tocsinref07_Has.mono_l : ∀ k, (∀ y0 y1 y2, LeO (tocsinref07_Has.j0 k y0 y1 y2) (tocsinref07_Has.j0 (k + 1) y0 y1 y2)) ∧ (∀ y0 y1 y2, LeO (tocsinref07_Has.l0 k y0 y1 y2) (tocsinref07_Has.l0 (k + 1) y0 y1 y2))
 | 0 => ⟨fun _ _ _ r h => by simp [tocsinref07_Has.j0] at h, fun _ _ _ r h => by simp [tocsinref07_Has.l0] at h⟩
 | k + 1 => by
  obtain ⟨ih0, ih1⟩ := tocsinref07_Has.mono_l k
  refine ⟨?_, ?_⟩
  ·intro y0 y1 y2
   unfold tocsinref07_Has.j0
   repeat' first
   | (with_reducible exact ih0 _ _ _)
   | (with_reducible exact ih1 _ _ _)
   | (with_reducible exact LeO.refl _)
   | (with_reducible exact LeO.none _)
   | (with_reducible refine LeO.ite ?_ ?_)
   | (with_reducible refine LeO.bind ?_ (fun _ => ?_))
   | exact ih0 _ _ _
   | exact ih1 _ _ _
   | exact LeO.none _
   | refine LeO.ite ?_ ?_
   | refine LeO.bind ?_ (fun _ => ?_)
  ·intro y0 y1 y2
   unfold tocsinref07_Has.l0
   repeat' first
   | (with_reducible exact ih0 _ _ _)
   | (with_reducible exact ih1 _ _ _)
   | (with_reducible exact LeO.refl _)
   | (with_reducible exact LeO.none _)
   | (with_reducible refine LeO.ite ?_ ?_)
   | (with_reducible refine LeO.bind ?_ (fun _ => ?_))
   | exact ih0 _ _ _
   | exact ih1 _ _ _
   | exact LeO.none _
   | refine LeO.ite ?_ ?_
   | refine LeO.bind ?_ (fun _ => ?_)
theorem tocsinref07_Has.mono : ∀ a0 a1 k, LeO (tocsinref07_Has.f k a0 a1) (tocsinref07_Has.f (k + 1) a0 a1) := by
 intro a0 a1 k
 obtain ⟨ih0, ih1⟩ := tocsinref07_Has.mono_l k
 unfold tocsinref07_Has.f
 repeat' first
   | (with_reducible exact ih0 _ _ _)
   | (with_reducible exact ih1 _ _ _)
   | (with_reducible exact LeO.refl _)
   | (with_reducible exact LeO.none _)
   | (with_reducible refine LeO.ite ?_ ?_)
   | (with_reducible refine LeO.bind ?_ (fun _ => ?_))
   | exact ih0 _ _ _
   | exact ih1 _ _ _
   | exact LeO.none _
   | refine LeO.ite ?_ ?_
   | refine LeO.bind ?_ (fun _ => ?_)
set_option maxHeartbeats 8000000 in
set_option maxRecDepth 100000 in
theorem tocsinref07_Has.calls (k : Nat) (a0 : Int) (a1 : Int) (r : Bool) (w : World) (h : tocsinref07_Has.f k a0 a1 = some r) :
  Calls Try.prog 50 #[.int .u32 a0, .int .i64 a1] w fun e w' => e = .returned (.bool r) ∧ Drawn0 w w' := by
 have H : (if a1 < 0 then (tocsinref07_Has.j0 k a0 a1 true) else (tocsinref07_Has.j0 k a0 a1 (decide (a1 > 5)))) = some r := h
 clear h
 have HC3 := Aside0.mk H
 clear H
 go_enter Try.func50, Try.ntmps50
 go_upto_region 1 with (fail)
 go_cut [11] (fun v11 wc => ∃ (kq : Nat) (x11_2 : Bool), v11 = .bool x11_2 ∧ Aside0 (tocsinref07_Has.j0 kq a0 a1 x11_2 = some r) ∧ Aside0 (kq ≤ k) ∧ Drawn0 w wc)
 case first =>
  have H := HC3.out
  clear HC3
  by_cases c4 : a1 < 0
  ·rw [if_pos c4] at H
   have c4b0 : decide (a1 < 0) = true := decide_eq_true c4
   clear c4
   (first | rw [c4b0] | (simp only [i64_w, i32_w]; rw [c4b0]) | skip)
   have H' := Aside0.mk H
   clear H
   go_wp2
   go_meet
   case rel => exact ⟨_, (true), rs, H', ⟨by first | omega | exact Nat.le_refl _⟩, by repeat (first | exact Drawn0.refl _ | apply Drawn0.step)⟩
  ·rw [if_neg c4] at H
   have c4b0 : decide (a1 < 0) = false := decide_eq_false c4
   clear c4
   (first | rw [c4b0] | (simp only [i64_w, i32_w]; rw [c4b0]) | skip)
   have H' := Aside0.mk H
   clear H
   go_wp2
   go_meet
   case rel => exact ⟨_, (decide (a1 > 5)), rs, H', ⟨by first | omega | exact Nat.le_refl _⟩, by repeat (first | exact Drawn0.refl _ | apply Drawn0.step)⟩
 case rest =>
  clear HC3
  try clear p2
  try clear c4
  try clear c4b0
  obtain ⟨kq, x11_2, rfl, HA, HJ2, ⟨mc2, rfl⟩⟩ := hcut
  cases kq with
  | zero => exact absurd HA.out (by simp [tocsinref07_Has.j0])
  | succ kj2 =>
   have H := HA.out
   clear HA
   simp only [tocsinref07_Has.j0] at H
   by_cases c5 : x11_2 = true
   ·subst c5
    have H1 : (some false) = some r := by rw [if_pos rfl] at H; exact H
    clear H
    have H := H1
    clear H1
    obtain rfl := Option.some.inj H
    go_wp2
    go_ret
    exact ⟨by first | rfl | (simp; done) | (simp [*]; done), by repeat (first | exact Drawn0.refl _ | apply Drawn0.step)⟩
   ·replace c5 := Bool.eq_false_iff.mpr c5
    subst c5
    have H1 : (tocsinref07_Has.l0 kj2 a0 a1 0) = some r := by rw [if_neg (show ¬ (false = true) by decide)] at H; exact H
    clear H
    have H := H1
    clear H1
    have H' := Aside0.mk H
    clear H
    go_wp2
    (try simp only [Act.put, sT, sZ, sS])
    go_loopg [0, 5] kj2 (fun kq v0 v5 w' => ∃ (x0_2 : Int) (x5_2 : Int), v0 = .int .u32 x0_2 ∧ v5 = .int .i64 x5_2 ∧ Aside0 (tocsinref07_Has.l0 kq x0_2 a1 x5_2 = some r) ∧ Aside0 (kq ≤ kj2) ∧ Drawn0 w w')
    case atStart => exact ⟨(a0), (0), rs, rs, H', ⟨Nat.le_refl _⟩, by repeat (first | exact Drawn0.refl _ | apply Drawn0.step)⟩
    case round =>
     clear H'
     try clear c2
     try clear p2
     try clear c4
     try clear c4b0
     try clear c5
     try clear p2
     obtain ⟨x0_2, x5_2, rfl, rfl, HA, HK2, ⟨m2, rfl⟩⟩ := hrel
     cases gk with
     | zero => exact absurd HA.out (by simp [tocsinref07_Has.l0])
     | succ k2 =>
      have H := HA.out
      clear HA
      simp only [tocsinref07_Has.l0] at H
      by_cases c6 : x5_2 < a1
      ·rw [if_pos c6] at H
       have c6b0 : decide (x5_2 < a1) = true := decide_eq_true c6
       clear c6
       have H' := Aside0.mk H
       clear H
       go_wp2
       go_roundg k2
       case measure => have := HJ2.out; have := HK2.out; omega
       case rel => exact ⟨((Int.tdiv x0_2 2) % 4294967296), (wrap64 (x5_2 + 1)), rs, rs, H', ⟨by have := HJ2.out; have := HK2.out; omega⟩, by repeat (first | exact Drawn0.refl _ | apply Drawn0.step)⟩
      ·rw [if_neg c6] at H
       have c6b0 : decide (x5_2 < a1) = false := decide_eq_false c6
       clear c6
       obtain rfl := Option.some.inj H
       go_wp2
       go_ret
       exact ⟨by first | rfl | (simp; done) | (simp [*]; done), by repeat (first | exact Drawn0.refl _ | apply Drawn0.step)⟩
mutual
def tocsinref08_Route.j0 : Nat → Int → Int → Int → Bool → Option (Bool)
 | 0, _, _, _, _ => none
 | k + 1, x0, x1, x2, x29 => if x29 = true then (some false) else (tocsinref08_Route.l0 k x0 x1 x2 1 0)
def tocsinref08_Route.l0 : Nat → Int → Int → Int → Int → Int → Option (Bool)
 | 0, _, _, _, _, _ => none
 | k + 1, x0, x1, x2, x9, x10 => if x10 < x0 then (tocsinref08_Route.l0 k x0 x1 x2 ((x9 * 2) % 4294967296) (wrap64 (x10 + 1))) else (if x2 < x9 then ((tocsinref07_Has.f k x2 x1).bind fun t147 => (some (!t147))) else (some false))
end
def tocsinref08_Route.f (k : Nat) (a0 : Int) (a1 : Int) (a2 : Int) (a3 : Int) : Option (Bool) := if a1 < 0 then (tocsinref08_Route.j0 k a0 a1 a2 true) else (if a1 ≥ a0 then (tocsinref08_Route.j0 k a0 a1 a2 true) else (if a2 = 0 then (tocsinref08_Route.j0 k a0 a1 a2 true) else (if a3 < 64 then (tocsinref08_Route.j0 k a0 a1 a2 true) else (tocsinref08_Route.j0 k a0 a1 a2 (decide (a3 > 1518))))))
theorem tocsinref08_Route.mono_l : ∀ k, (∀ y0 y1 y2 y3, LeO (tocsinref08_Route.j0 k y0 y1 y2 y3) (tocsinref08_Route.j0 (k + 1) y0 y1 y2 y3)) ∧ (∀ y0 y1 y2 y3 y4, LeO (tocsinref08_Route.l0 k y0 y1 y2 y3 y4) (tocsinref08_Route.l0 (k + 1) y0 y1 y2 y3 y4))
 | 0 => ⟨fun _ _ _ _ r h => by simp [tocsinref08_Route.j0] at h, fun _ _ _ _ _ r h => by simp [tocsinref08_Route.l0] at h⟩
 | k + 1 => by
  obtain ⟨ih0, ih1⟩ := tocsinref08_Route.mono_l k
  refine ⟨?_, ?_⟩
  ·intro y0 y1 y2 y3
   unfold tocsinref08_Route.j0
   repeat' first
   | (with_reducible exact ih0 _ _ _ _)
   | (with_reducible exact ih1 _ _ _ _ _)
   | (with_reducible exact tocsinref07_Has.mono _ _ _)
   | (with_reducible exact LeO.refl _)
   | (with_reducible exact LeO.none _)
   | (with_reducible refine LeO.ite ?_ ?_)
   | (with_reducible refine LeO.bind ?_ (fun _ => ?_))
   | exact ih0 _ _ _ _
   | exact ih1 _ _ _ _ _
   | exact tocsinref07_Has.mono _ _ _
   | exact LeO.none _
   | refine LeO.ite ?_ ?_
   | refine LeO.bind ?_ (fun _ => ?_)
  ·intro y0 y1 y2 y3 y4
   unfold tocsinref08_Route.l0
   repeat' first
   | (with_reducible exact ih0 _ _ _ _)
   | (with_reducible exact ih1 _ _ _ _ _)
   | (with_reducible exact tocsinref07_Has.mono _ _ _)
   | (with_reducible exact LeO.refl _)
   | (with_reducible exact LeO.none _)
   | (with_reducible refine LeO.ite ?_ ?_)
   | (with_reducible refine LeO.bind ?_ (fun _ => ?_))
   | exact ih0 _ _ _ _
   | exact ih1 _ _ _ _ _
   | exact tocsinref07_Has.mono _ _ _
   | exact LeO.none _
   | refine LeO.ite ?_ ?_
   | refine LeO.bind ?_ (fun _ => ?_)
theorem tocsinref08_Route.mono : ∀ a0 a1 a2 a3 k, LeO (tocsinref08_Route.f k a0 a1 a2 a3) (tocsinref08_Route.f (k + 1) a0 a1 a2 a3) := by
 intro a0 a1 a2 a3 k
 obtain ⟨ih0, ih1⟩ := tocsinref08_Route.mono_l k
 unfold tocsinref08_Route.f
 repeat' first
   | (with_reducible exact ih0 _ _ _ _)
   | (with_reducible exact ih1 _ _ _ _ _)
   | (with_reducible exact tocsinref07_Has.mono _ _ _)
   | (with_reducible exact LeO.refl _)
   | (with_reducible exact LeO.none _)
   | (with_reducible refine LeO.ite ?_ ?_)
   | (with_reducible refine LeO.bind ?_ (fun _ => ?_))
   | exact ih0 _ _ _ _
   | exact ih1 _ _ _ _ _
   | exact tocsinref07_Has.mono _ _ _
   | exact LeO.none _
   | refine LeO.ite ?_ ?_
   | refine LeO.bind ?_ (fun _ => ?_)
set_option maxHeartbeats 8000000 in
set_option maxRecDepth 100000 in
theorem tocsinref08_Route.calls (k : Nat) (a0 : Int) (a1 : Int) (a2 : Int) (a3 : Int) (r : Bool) (w : World) (h : tocsinref08_Route.f k a0 a1 a2 a3 = some r) :
  Calls Try.prog 43 #[.int .i64 a0, .int .i64 a1, .int .u32 a2, .int .i64 a3] w fun e w' => e = .returned (.bool r) ∧ Drawn0 w w' := by
 have H : (if a1 < 0 then (tocsinref08_Route.j0 k a0 a1 a2 true) else (if a1 ≥ a0 then (tocsinref08_Route.j0 k a0 a1 a2 true) else (if a2 = 0 then (tocsinref08_Route.j0 k a0 a1 a2 true) else (if a3 < 64 then (tocsinref08_Route.j0 k a0 a1 a2 true) else (tocsinref08_Route.j0 k a0 a1 a2 (decide (a3 > 1518))))))) = some r := h
 clear h
 have HC5 := Aside0.mk H
 clear H
 go_enter Try.func43, Try.ntmps43
 go_upto_region 1 with (fail)
 go_cut [29] (fun v29 wc => ∃ (kq : Nat) (x29_4 : Bool), v29 = .bool x29_4 ∧ Aside0 (tocsinref08_Route.j0 kq a0 a1 a2 x29_4 = some r) ∧ Aside0 (kq ≤ k) ∧ Drawn0 w wc)
 case first =>
  have H := HC5.out
  clear HC5
  by_cases c6 : a1 < 0
  ·rw [if_pos c6] at H
   have c6b0 : decide (a1 < 0) = true := decide_eq_true c6
   clear c6
   (first | rw [c6b0] | (simp only [i64_w, i32_w]; rw [c6b0]) | skip)
   have H' := Aside0.mk H
   clear H
   go_wp2
   go_meet
   case rel => exact ⟨_, (true), rs, H', ⟨by first | omega | exact Nat.le_refl _⟩, by repeat (first | exact Drawn0.refl _ | apply Drawn0.step)⟩
  ·rw [if_neg c6] at H
   have c6b0 : decide (a1 < 0) = false := decide_eq_false c6
   clear c6
   (first | rw [c6b0] | (simp only [i64_w, i32_w]; rw [c6b0]) | skip)
   by_cases c7 : a1 ≥ a0
   ·rw [if_pos c7] at H
    have c7b0 : decide (a0 ≤ a1) = true := decide_eq_true c7
    clear c7
    have H' := Aside0.mk H
    clear H
    go_wp2
    go_meet
    case rel => exact ⟨_, (true), rs, H', ⟨by first | omega | exact Nat.le_refl _⟩, by repeat (first | exact Drawn0.refl _ | apply Drawn0.step)⟩
   ·rw [if_neg c7] at H
    have c7b0 : decide (a0 ≤ a1) = false := decide_eq_false c7
    clear c7
    by_cases c8 : a2 = 0
    ·rw [if_pos c8] at H
     have c8b0 : (a2 == 0) = true := beq_iff_eq.mpr c8
     have c8b1 : (a2 != 0) = false := bne_eq_false_iff_eq.mpr c8
     clear c8
     have H' := Aside0.mk H
     clear H
     go_wp2
     go_meet
     case rel => exact ⟨_, (true), rs, H', ⟨by first | omega | exact Nat.le_refl _⟩, by repeat (first | exact Drawn0.refl _ | apply Drawn0.step)⟩
    ·rw [if_neg c8] at H
     have c8b0 : (a2 == 0) = false := beq_eq_false_iff_ne.mpr c8
     have c8b1 : (a2 != 0) = true := bne_iff_ne.mpr c8
     by_cases c9 : a3 < 64
     ·rw [if_pos c9] at H
      have c9b0 : decide (a3 < 64) = true := decide_eq_true c9
      clear c9
      have H' := Aside0.mk H
      clear H
      go_wp2
      go_meet
      case rel => exact ⟨_, (true), rs, H', ⟨by first | omega | exact Nat.le_refl _⟩, by repeat (first | exact Drawn0.refl _ | apply Drawn0.step)⟩
     ·rw [if_neg c9] at H
      have c9b0 : decide (a3 < 64) = false := decide_eq_false c9
      clear c9
      have H' := Aside0.mk H
      clear H
      go_wp2
      go_meet
      case rel => exact ⟨_, (decide (a3 > 1518)), rs, H', ⟨by first | omega | exact Nat.le_refl _⟩, by repeat (first | exact Drawn0.refl _ | apply Drawn0.step)⟩
 case rest =>
  clear HC5
  try clear p2
  try clear c4
  try clear c6
  try clear c6b0
  try clear c7
  try clear c7b0
  try clear c8
  try clear c8b0
  try clear c8b1
  try clear c9
  try clear c9b0
  obtain ⟨kq, x29_4, rfl, HA, HJ4, ⟨mc4, rfl⟩⟩ := hcut
  cases kq with
  | zero => exact absurd HA.out (by simp [tocsinref08_Route.j0])
  | succ kj4 =>
   have H := HA.out
   clear HA
   simp only [tocsinref08_Route.j0] at H
   by_cases c10 : x29_4 = true
   ·subst c10
    have H1 : (some false) = some r := by rw [if_pos rfl] at H; exact H
    clear H
    have H := H1
    clear H1
    obtain rfl := Option.some.inj H
    go_wp2
    go_ret
    exact ⟨by first | rfl | (simp; done) | (simp [*]; done), by repeat (first | exact Drawn0.refl _ | apply Drawn0.step)⟩
   ·replace c10 := Bool.eq_false_iff.mpr c10
    subst c10
    have H1 : (tocsinref08_Route.l0 kj4 a0 a1 a2 1 0) = some r := by rw [if_neg (show ¬ (false = true) by decide)] at H; exact H
    clear H
    have H := H1
    clear H1
    have H' := Aside0.mk H
    clear H
    go_wp2
    (try simp only [Act.put, sT, sZ, sS])
    go_loopg [9, 10] kj4 (fun kq v9 v10 w' => ∃ (x9_2 : Int) (x10_2 : Int), v9 = .int .u32 x9_2 ∧ v10 = .int .i64 x10_2 ∧ Aside0 (tocsinref08_Route.l0 kq a0 a1 a2 x9_2 x10_2 = some r) ∧ Aside0 (kq ≤ kj4) ∧ Drawn0 w w')
    case atStart => exact ⟨(1), (0), rs, rs, H', ⟨Nat.le_refl _⟩, by repeat (first | exact Drawn0.refl _ | apply Drawn0.step)⟩
    case round =>
     clear H'
     try clear c1
     try clear p2
     try clear c4
     try clear c6
     try clear c6b0
     try clear c7
     try clear c7b0
     try clear c8
     try clear c8b0
     try clear c8b1
     try clear c9
     try clear c9b0
     try clear c10
     try clear p2
     obtain ⟨x9_2, x10_2, rfl, rfl, HA, HK2, ⟨m2, rfl⟩⟩ := hrel
     cases gk with
     | zero => exact absurd HA.out (by simp [tocsinref08_Route.l0])
     | succ k2 =>
      have H := HA.out
      clear HA
      simp only [tocsinref08_Route.l0] at H
      by_cases c11 : x10_2 < a0
      ·rw [if_pos c11] at H
       have c11b0 : decide (x10_2 < a0) = true := decide_eq_true c11
       clear c11
       have H' := Aside0.mk H
       clear H
       go_wp2
       go_roundg k2
       case measure => have := HJ4.out; have := HK2.out; omega
       case rel => exact ⟨((x9_2 * 2) % 4294967296), (wrap64 (x10_2 + 1)), rs, rs, H', ⟨by have := HJ4.out; have := HK2.out; omega⟩, by repeat (first | exact Drawn0.refl _ | apply Drawn0.step)⟩
      ·rw [if_neg c11] at H
       have c11b0 : decide (x10_2 < a0) = false := decide_eq_false c11
       clear c11
       by_cases c12 : a2 < x9_2
       ·rw [if_pos c12] at H
        have c12b0 : decide (a2 < x9_2) = true := decide_eq_true c12
        clear c12
        replace H := Option.bind_eq_some_iff.mp H
        obtain ⟨t147, A130, H⟩ := H
        replace H : (some (!t147)) = some r := H
        have A13 := Aside0.mk A130
        clear A130
        obtain rfl := Option.some.inj H
        go_wp2_with (first | (go_at_call 50; (with_reducible refine (tocsinref07_Has.calls k2 a2 a1 t147 _ A13.out).mono ?_); rintro e w' ⟨rfl, ⟨nd, rfl⟩⟩))
        go_ret
        exact ⟨by first | rfl | (simp; done) | (simp [*]; done), by repeat (first | exact Drawn0.refl _ | apply Drawn0.step)⟩
       ·rw [if_neg c12] at H
        have c12b0 : decide (a2 < x9_2) = false := decide_eq_false c12
        clear c12
        obtain rfl := Option.some.inj H
        go_wp2
        go_ret
        exact ⟨by first | rfl | (simp; done) | (simp [*]; done), by repeat (first | exact Drawn0.refl _ | apply Drawn0.step)⟩
end Go.Proofs.Ytbmldeikjfecfaa.T
