/- A part of the proof of the statement PlanLands: words, contracts of functions that it reaches, and what they compute. No condition. -/
import Derived.Test.YtbmldeikjfecfaaE01
import Derived.Test.YtbmldeikjfecfaaE04
import Derived.Test.YtbmldeikjfecfaaE05
import Derived.Test.YtbmldeikjfecfaaE06
set_option linter.unusedVariables false
set_option linter.unusedSimpArgs false
namespace Go.Proofs.Ytbmldeikjfecfaa.T
open Go.RowKit Go.Proofs.YtbmldeikjfecfaaW.PrintWords Go.Proofs.YtbmldeikjfecfaaW.PrintLast Go.Proofs.YtbmldeikjfecfaaW.PrintMore
attribute [local go_sem] max2_int min2_int max_two min_two max_three min_three max_four min_four
attribute [local go_sem] at34_0 at34_1 at34_2 at42_0 at42_1 at42_2 at42_3 at47_0 at47_1 at47_2 at47_3 at47_4
def conf_Early.f (a0_0 : Int) (a0_1 : Int) (a0_2 : Int) (a0_3 : Int) (a0_4 : Int) (l0_5 : List (List Int)) (l0_6 : List (S40)) (l0_7 : List (S63)) (a0_8 : Int) (a1_0 : Int) (a1_1 : Int) (a1_2 : Int) (a1_3 : Int) : Option (Int) := (conf_plain.f a0_0 a0_1 a0_2 a0_3 a0_4 l0_5 l0_6 l0_7 a0_8 a1_0 a1_1 a1_2 a1_3).bind fun t130 => (if t130 = true then ((conf_Forward.f a0_0 a0_1 a0_2 a0_3 a0_4 l0_5 l0_6 l0_7 a0_8 a1_0 a1_1 a1_2 a1_3).bind fun t131 => ((frame_Time.f a1_3).bind fun t132 => (some (wrap64 ((wrap64 (t131 + t132)) - a0_4))))) else (some 0))
def conf_Early.T3 : Bool × List (List Nat × List Nat) := (true, [([], []), ([], []), ([0, 1], [0, 1]), ([], []), ([3], [3]), ([4, 2], [4]), ([2, 5], [2, 5]), ([], []), ([7], [7]), ([6, 8], [6, 8]), ([9, 5, 0, 1, 2, 3, 4, 5, 6, 7, 8, 9], [9])])
def conf_Early.B3 : List Nat := [0, 0, 3, 0, 8, 31, 63, 0, 128, 511, 1023]
theorem conf_Early.tab3 : rtab .any (opsOf Try.f31 3) = conf_Early.T3 := by kernel_rfl
theorem conf_Early.bits3 : waitsOk conf_Early.T3.2 conf_Early.B3 = true := by kernel_rfl
set_option maxHeartbeats 8000000 in
set_option maxRecDepth 100000 in
theorem conf_Early.calls (a0_0 : Int) (a0_1 : Int) (a0_2 : Int) (a0_3 : Int) (a0_4 : Int) (A0_5 : Option Addr) (c0_5 : Nat) (l0_5 : List (List Int)) (A0_6 : Option Addr) (c0_6 : Nat) (l0_6 : List (S40)) (A0_7 : Option Addr) (c0_7 : Nat) (l0_7 : List (S63)) (a0_8 : Int) (a1_0 : Int) (a1_1 : Int) (a1_2 : Int) (a1_3 : Int) (r : Int) (w : World) (hr0_5 : Kd.C (Kd.slice 2 (Kd.int .i64)) w A0_5 l0_5.length l0_5) (hc0_5 : l0_5.length ≤ c0_5) (hr0_6 : Kd.C k40 w A0_6 l0_6.length l0_6) (hc0_6 : l0_6.length ≤ c0_6) (hr0_7 : Kd.C k63 w A0_7 l0_7.length l0_7) (hc0_7 : l0_7.length ≤ c0_7) (h : conf_Early.f a0_0 a0_1 a0_2 a0_3 a0_4 l0_5 l0_6 l0_7 a0_8 a1_0 a1_1 a1_2 a1_3 = some r) :
  Calls Try.prog 31 #[.agg #[.int .i64 a0_0, .int .i64 a0_1, .int .i64 a0_2, .int .i64 a0_3, .int .i64 a0_4, .slice A0_5 l0_5.length c0_5, .slice A0_6 l0_6.length c0_6, .slice A0_7 l0_7.length c0_7, .int .i64 a0_8], .agg #[.int .i64 a1_0, .int .u32 a1_1, .int .i64 a1_2, .int .i64 a1_3]] w fun e w' => e = .returned (.int .i64 r) ∧ Below w.heap.size w w' := by
 have hu26 := Try.underlying26
 have hu40 := Try.underlying40
 have HR0_5 := Aside0.mk hr0_5
 have HC0_5 := Aside0.mk hc0_5
 clear hr0_5 hc0_5
 have HR0_6 := Aside0.mk hr0_6
 have HC0_6 := Aside0.mk hc0_6
 clear hr0_6 hc0_6
 have HR0_7 := Aside0.mk hr0_7
 have HC0_7 := Aside0.mk hc0_7
 clear hr0_7 hc0_7
 have HB := Aside0.mk (Below.refl w.heap.size w)
 have H : ((conf_plain.f a0_0 a0_1 a0_2 a0_3 a0_4 l0_5 l0_6 l0_7 a0_8 a1_0 a1_1 a1_2 a1_3).bind fun t130 => (if t130 = true then ((conf_Forward.f a0_0 a0_1 a0_2 a0_3 a0_4 l0_5 l0_6 l0_7 a0_8 a1_0 a1_1 a1_2 a1_3).bind fun t131 => ((frame_Time.f a1_3).bind fun t132 => (some (wrap64 ((wrap64 (t131 + t132)) - a0_4))))) else (some 0))) = some r := h
 clear h
 replace H := Option.bind_eq_some_iff.mp H
 obtain ⟨t130, A30, H⟩ := H
 replace H : (if t130 = true then ((conf_Forward.f a0_0 a0_1 a0_2 a0_3 a0_4 l0_5 l0_6 l0_7 a0_8 a1_0 a1_1 a1_2 a1_3).bind fun t131 => ((frame_Time.f a1_3).bind fun t132 => (some (wrap64 ((wrap64 (t131 + t132)) - a0_4))))) else (some 0)) = some r := H
 have A3 := Aside0.mk A30
 clear A30
 by_cases c4 : t130 = true
 ·subst c4
  have H1 : ((conf_Forward.f a0_0 a0_1 a0_2 a0_3 a0_4 l0_5 l0_6 l0_7 a0_8 a1_0 a1_1 a1_2 a1_3).bind fun t131 => ((frame_Time.f a1_3).bind fun t132 => (some (wrap64 ((wrap64 (t131 + t132)) - a0_4))))) = some r := by rw [if_pos rfl] at H; exact H
  clear H
  have H := H1
  clear H1
  replace H := Option.bind_eq_some_iff.mp H
  obtain ⟨t131, A50, H⟩ := H
  replace H : ((frame_Time.f a1_3).bind fun t132 => (some (wrap64 ((wrap64 (t131 + t132)) - a0_4)))) = some r := H
  have A5 := Aside0.mk A50
  clear A50
  replace H := Option.bind_eq_some_iff.mp H
  obtain ⟨t132, A60, H⟩ := H
  replace H : (some (wrap64 ((wrap64 (t131 + t132)) - a0_4))) = some r := H
  have A6 := Aside0.mk A60
  clear A60
  obtain rfl := Option.some.inj H
  go_enter Try.func31, Try.ntmps31
  try go_wp2_with (first | ((with_reducible refine gate_dst (N := 2) rfl ?_); refine boxe (N := 2) (cs := #[.int .i64 a0_0, .int .i64 a0_1, .int .i64 a0_2, .int .i64 a0_3, .int .i64 a0_4, .slice A0_5 l0_5.length c0_5, .slice A0_6 l0_6.length c0_6, .slice A0_7 l0_7.length c0_7, .int .i64 a0_8]) (t := 26) ?_; intro gb128 hg w7 hbox hb; have BK128 := Aside0.mk (hbox); have GW128 := bg0 hg HB; have GE128 := GW128; replace HB := bs0 HB hb; clear hb hbox hg) | ((with_reducible refine gate_dst (N := 3) rfl ?_); refine boxe (N := 3) (cs := #[.int .i64 a1_0, .int .u32 a1_1, .int .i64 a1_2, .int .i64 a1_3]) (t := 40) ?_; intro gb129 hg w8 hbox hb; have BK129 := Aside0.mk (hbox); have GW129 := bg1 hg HB GE128; have GE129 := GW129; have NB128_129 := nl hg BK128; have NB129_128 := ng hg BK128; replace BK128 := bb BK128 hb; replace HB := bs1 HB GE128 hb; clear hb hbox hg; have hnb9 := NB128_129.out; have hnc9 := NB129_128.out; obtain ⟨hcz10_0, hcz10_1, hcz10_2, hcz10_3, hcz10_4, hcz10_5, hcz10_6, hcz10_7, hcz10_8, hfz10_0, hfz10_1, hfz10_2, hfz10_3, hfz10_4, hfz10_5, hfz10_6, hfz10_7, hfz10_8⟩ := bz9 BK128; obtain ⟨hcz11_0, hcz11_1, hcz11_2, hcz11_3, hfz11_0, hfz11_1, hfz11_2, hfz11_3⟩ := bz4 BK129) | ((with_reducible refine gate_callee (f := 46) rfl ?_); refine gol (some 7) Try.func46 #[.agg #[.int .i64 a0_0, .int .i64 a0_1, .int .i64 a0_2, .int .i64 a0_3, .int .i64 a0_4, .slice A0_5 l0_5.length c0_5, .slice A0_6 l0_6.length c0_6, .slice A0_7 l0_7.length c0_7, .int .i64 a0_8], .agg #[.int .i64 a1_0, .int .u32 a1_1, .int .i64 a1_2, .int .i64 a1_3]] ?_; (with_reducible refine (conf_plain.calls a0_0 a0_1 a0_2 a0_3 a0_4 _ _ l0_5 _ _ l0_6 _ _ l0_7 a0_8 a1_0 a1_1 a1_2 a1_3 true _ ?side1 ?side2 ?side3 ?side4 ?side5 ?side6 A3.out).mono ?_); (case side1 => exact kC (Kd.C_below HR0_5.out HB.out)); (case side2 => exact HC0_5.out); (case side3 => exact kC (Kd.C_below HR0_6.out HB.out)); (case side4 => exact HC0_6.out); (case side5 => exact kC (Kd.C_below HR0_7.out HB.out)); (case side6 => exact HC0_7.out); rintro e w12 ⟨rfl, hb⟩; refine ⟨_, rfl, ?_⟩; replace BK128 := bb BK128 hb; replace BK129 := bb BK129 hb; replace HB := bs2 HB GE128 GE129 hb; (try clear hb); (try clear hb2); (try clear hk); (try clear hi)))
  have n0_ := Aside0.mk (blk_drew BK128.out)
  have n1_ := Aside0.mk (blk_drew BK129.out)
  have n2_ := Aside0.mk (below_drew1 HB.out)
  clear BK128
  clear BK129
  clear HB
  have BK128 := n0_
  have BK129 := n1_
  have HB := n2_
  clear n0_ n1_ n2_
  refine start_ (n := 11) (S := fun w' => w'.cell? ⟨gb128, 0, none⟩ = some (.int .i64 a0_0) ∧ w'.cell? ⟨gb128, 1, none⟩ = some (.int .i64 a0_1) ∧ w'.cell? ⟨gb128, 2, none⟩ = some (.int .i64 a0_2) ∧ w'.cell? ⟨gb128, 3, none⟩ = some (.int .i64 a0_3) ∧ w'.cell? ⟨gb128, 4, none⟩ = some (.int .i64 a0_4) ∧ w'.cell? ⟨gb128, 5, none⟩ = some (.slice A0_5 l0_5.length c0_5) ∧ w'.cell? ⟨gb128, 6, none⟩ = some (.slice A0_6 l0_6.length c0_6) ∧ w'.cell? ⟨gb128, 7, none⟩ = some (.slice A0_7 l0_7.length c0_7) ∧ w'.cell? ⟨gb128, 8, none⟩ = some (.int .i64 a0_8) ∧ w'.cell? ⟨gb129, 0, none⟩ = some (.int .i64 a1_0) ∧ w'.cell? ⟨gb129, 1, none⟩ = some (.int .u32 a1_1) ∧ w'.cell? ⟨gb129, 2, none⟩ = some (.int .i64 a1_2) ∧ w'.cell? ⟨gb129, 3, none⟩ = some (.int .i64 a1_3)) (ds := []) #[false, false, false, false, false, false, false, false, false, false, false] (by kernel_rfl) rfl rfl ⟨(blk_cell BK128.out 0).trans rfl, (blk_cell BK128.out 1).trans rfl, (blk_cell BK128.out 2).trans rfl, (blk_cell BK128.out 3).trans rfl, (blk_cell BK128.out 4).trans rfl, (blk_cell BK128.out 5).trans rfl, (blk_cell BK128.out 6).trans rfl, (blk_cell BK128.out 7).trans rfl, (blk_cell BK128.out 8).trans rfl, (blk_cell BK129.out 0).trans rfl, (blk_cell BK129.out 1).trans rfl, (blk_cell BK129.out 2).trans rfl, (blk_cell BK129.out 3).trans rfl⟩ (fun hHeld => ?_); refine with_tabW conf_Early.tab3 conf_Early.bits3 (fun HT_ HW_ => ?_)
  generalize w12.drew = w13 at BK128 BK129 HB hHeld ⊢
  refine pl 3 12 #[false, false, false, true, false, false, false, false, false, false, false] HT_ ?_
  refine pl 7 16 #[false, false, false, true, false, false, false, true, false, false, false] HT_ ?_
  refine tk13 0 9 #[true, false, false, true, false, false, false, true, false, false, false] HT_ HW_ hHeld ?_
  refine tk13 1 10 #[true, true, false, true, false, false, false, true, false, false, false] HT_ HW_ hHeld ?_
  refine tk13 4 13 #[true, true, false, true, true, false, false, true, false, false, false] HT_ HW_ hHeld ?_
  refine tk13 8 17 #[true, true, false, true, true, false, false, true, true, false, false] HT_ HW_ hHeld ?_
  refine one_ (i := 2) (N := some 11) #[true, true, true, true, true, false, false, true, true, false, false] rfl rfl (one_of HT_.out (by kernel_rfl)) (by decide) (fun K hK => ?_)
  refine gor Try.func30 #[.agg #[.int .i64 a0_0, .int .i64 a0_1, .int .i64 a0_2, .int .i64 a0_3, .int .i64 a0_4, .slice A0_5 l0_5.length c0_5, .slice A0_6 l0_6.length c0_6, .slice A0_7 l0_7.length c0_7, .int .i64 a0_8], .agg #[.int .i64 a1_0, .int .u32 a1_1, .int .i64 a1_2, .int .i64 a1_3]] ?_
  with_reducible refine (conf_Forward.calls a0_0 a0_1 a0_2 a0_3 a0_4 _ _ l0_5 _ _ l0_6 _ _ l0_7 a0_8 a1_0 a1_1 a1_2 a1_3 t131 _ ?side1 ?side2 ?side3 ?side4 ?side5 ?side6 A5.out).mono ?_
  (case side1 => exact kC (Kd.C_below HR0_5.out HB.out))
  (case side2 => exact HC0_5.out)
  (case side3 => exact kC (Kd.C_below HR0_6.out HB.out))
  (case side4 => exact HC0_6.out)
  (case side5 => exact kC (Kd.C_below HR0_7.out HB.out))
  (case side6 => exact HC0_7.out)
  rintro e w14 ⟨rfl, hb⟩
  refine ⟨_, rfl, ?_⟩
  have n0_ := bb BK128 hb
  have n1_ := bb BK129 hb
  have n2_ := bs2 HB GE128 GE129 hb
  clear BK128
  clear BK129
  clear HB
  have BK128 := n0_
  have BK129 := n1_
  have HB := n2_
  clear n0_ n1_ n2_
  (try clear hb)
  (try clear hb2)
  (try clear hk)
  (try clear hi)
  refine hK.out _ _ ⟨(blk_cell BK128.out 0).trans rfl, (blk_cell BK128.out 1).trans rfl, (blk_cell BK128.out 2).trans rfl, (blk_cell BK128.out 3).trans rfl, (blk_cell BK128.out 4).trans rfl, (blk_cell BK128.out 5).trans rfl, (blk_cell BK128.out 6).trans rfl, (blk_cell BK128.out 7).trans rfl, (blk_cell BK128.out 8).trans rfl, (blk_cell BK129.out 0).trans rfl, (blk_cell BK129.out 1).trans rfl, (blk_cell BK129.out 2).trans rfl, (blk_cell BK129.out 3).trans rfl⟩ (fun hHeld => ?_)
  clear hK K
  refine norm_ (a' := ?_) ?_ ?_
  rotate_left
  ·show Act.put _ (some 11) _ = _
   simp only [Act.put, sT, sZ, sS, i64_w, i32_w]
   rfl
  refine one_ (i := 5) (N := some 14) #[true, true, true, true, true, true, false, true, true, false, false] rfl rfl (one_of HT_.out (by kernel_rfl)) (by decide) (fun K hK => ?_)
  refine gor Try.func21 #[.int .i64 a1_3] ?_
  with_reducible refine (frame_Time.calls a1_3 t132 _ A6.out).mono ?_
  rintro e w15 ⟨rfl, hb⟩
  refine ⟨_, rfl, ?_⟩
  have n0_ := bb BK128 hb
  have n1_ := bb BK129 hb
  have n2_ := bs2 HB GE128 GE129 hb
  clear BK128
  clear BK129
  clear HB
  have BK128 := n0_
  have BK129 := n1_
  have HB := n2_
  clear n0_ n1_ n2_
  (try clear hb)
  (try clear hb2)
  (try clear hk)
  (try clear hi)
  refine hK.out _ _ ⟨(blk_cell BK128.out 0).trans rfl, (blk_cell BK128.out 1).trans rfl, (blk_cell BK128.out 2).trans rfl, (blk_cell BK128.out 3).trans rfl, (blk_cell BK128.out 4).trans rfl, (blk_cell BK128.out 5).trans rfl, (blk_cell BK128.out 6).trans rfl, (blk_cell BK128.out 7).trans rfl, (blk_cell BK128.out 8).trans rfl, (blk_cell BK129.out 0).trans rfl, (blk_cell BK129.out 1).trans rfl, (blk_cell BK129.out 2).trans rfl, (blk_cell BK129.out 3).trans rfl⟩ (fun hHeld => ?_)
  clear hK K
  refine norm_ (a' := ?_) ?_ ?_
  rotate_left
  ·show Act.put _ (some 14) _ = _
   simp only [Act.put, sT, sZ, sS, i64_w, i32_w]
   rfl
  refine pl 6 15 #[true, true, true, true, true, true, true, true, true, false, false] HT_ ?_
  refine pl 9 18 #[true, true, true, true, true, true, true, true, true, true, false] HT_ ?_
  refine pl 10 4 #[true, true, true, true, true, true, true, true, true, true, true] HT_ ?_
  refine done_ (done_of HT_.out (by kernel_rfl)) ?_
  try go_wp2
  go_ret
  exact ⟨re, bw2 HB GE128 GE129⟩
 ·replace c4 := Bool.eq_false_iff.mpr c4
  subst c4
  have H1 : (some 0) = some r := by rw [if_neg (show ¬ (false = true) by decide)] at H; exact H
  clear H
  have H := H1
  clear H1
  obtain rfl := Option.some.inj H
  go_enter Try.func31, Try.ntmps31
  go_wp2_with (first | ((with_reducible refine gate_dst (N := 2) rfl ?_); refine boxe (N := 2) (cs := #[.int .i64 a0_0, .int .i64 a0_1, .int .i64 a0_2, .int .i64 a0_3, .int .i64 a0_4, .slice A0_5 l0_5.length c0_5, .slice A0_6 l0_6.length c0_6, .slice A0_7 l0_7.length c0_7, .int .i64 a0_8]) (t := 26) ?_; intro gb128 hg w16 hbox hb; have BK128 := Aside0.mk (hbox); have GW128 := bg0 hg HB; have GE128 := GW128; replace HB := bs0 HB hb; clear hb hbox hg) | ((with_reducible refine gate_dst (N := 3) rfl ?_); refine boxe (N := 3) (cs := #[.int .i64 a1_0, .int .u32 a1_1, .int .i64 a1_2, .int .i64 a1_3]) (t := 40) ?_; intro gb129 hg w17 hbox hb; have BK129 := Aside0.mk (hbox); have GW129 := bg1 hg HB GE128; have GE129 := GW129; have NB128_129 := nl hg BK128; have NB129_128 := ng hg BK128; replace BK128 := bb BK128 hb; replace HB := bs1 HB GE128 hb; clear hb hbox hg; have hnb18 := NB128_129.out; have hnc18 := NB129_128.out; obtain ⟨hcz19_0, hcz19_1, hcz19_2, hcz19_3, hcz19_4, hcz19_5, hcz19_6, hcz19_7, hcz19_8, hfz19_0, hfz19_1, hfz19_2, hfz19_3, hfz19_4, hfz19_5, hfz19_6, hfz19_7, hfz19_8⟩ := bz9 BK128; obtain ⟨hcz20_0, hcz20_1, hcz20_2, hcz20_3, hfz20_0, hfz20_1, hfz20_2, hfz20_3⟩ := bz4 BK129) | ((with_reducible refine gate_callee (f := 46) rfl ?_); refine gol (some 7) Try.func46 #[.agg #[.int .i64 a0_0, .int .i64 a0_1, .int .i64 a0_2, .int .i64 a0_3, .int .i64 a0_4, .slice A0_5 l0_5.length c0_5, .slice A0_6 l0_6.length c0_6, .slice A0_7 l0_7.length c0_7, .int .i64 a0_8], .agg #[.int .i64 a1_0, .int .u32 a1_1, .int .i64 a1_2, .int .i64 a1_3]] ?_; (with_reducible refine (conf_plain.calls a0_0 a0_1 a0_2 a0_3 a0_4 _ _ l0_5 _ _ l0_6 _ _ l0_7 a0_8 a1_0 a1_1 a1_2 a1_3 false _ ?side1 ?side2 ?side3 ?side4 ?side5 ?side6 A3.out).mono ?_); (case side1 => exact kC (Kd.C_below HR0_5.out HB.out)); (case side2 => exact HC0_5.out); (case side3 => exact kC (Kd.C_below HR0_6.out HB.out)); (case side4 => exact HC0_6.out); (case side5 => exact kC (Kd.C_below HR0_7.out HB.out)); (case side6 => exact HC0_7.out); rintro e w21 ⟨rfl, hb⟩; refine ⟨_, rfl, ?_⟩; replace BK128 := bb BK128 hb; replace BK129 := bb BK129 hb; replace HB := bs2 HB GE128 GE129 hb; (try clear hb); (try clear hb2); (try clear hk); (try clear hi)))
  go_ret
  exact ⟨re, bw2 HB GE128 GE129⟩
end Go.Proofs.Ytbmldeikjfecfaa.T
