/- A part of the proof of the statement PlanLands: words, contracts of functions that it reaches, and what they compute. No condition. -/
import Derived.Test.YtbmldeikjfecfaaE01
import Derived.Test.YtbmldeikjfecfaaE04
import Derived.Test.YtbmldeikjfecfaaE27
set_option linter.unusedVariables false
set_option linter.unusedSimpArgs false
namespace Go.Proofs.Ytbmldeikjfecfaa.T
open Go.RowKit Go.Proofs.YtbmldeikjfecfaaW.PrintWords Go.Proofs.YtbmldeikjfecfaaW.PrintLast Go.Proofs.YtbmldeikjfecfaaW.PrintMore
attribute [local go_sem] max2_int min2_int max_two min_two max_three min_three max_four min_four
attribute [local go_sem] at34_0 at34_1 at34_2 at42_0 at42_1 at42_2 at42_3 at47_0 at47_1 at47_2 at47_3 at47_4
def plan_of.f (a0_0 : Int) (a0_1 : Int) (a0_2 : Int) (a0_3 : Int) (a0_4 : Int) (l0_5 : List (List Int)) (l0_6 : List (S40)) (l0_7 : List (S63)) (a0_8 : Int) (a1 : Int) (a2 : Int) : Option (Int × Int × Int × Int × Int × Int × Bool) := (plan_good.f a0_0 a0_1 a0_2 a0_3 a0_4 l0_5 l0_6 l0_7 a0_8 a2).bind fun t196 => (if t196 = true then (if a1 < 0 then (some (0, 0, 0, 0, 0, 0, false)) else (if a1 ≥ (l0_6.length : Int) then (some (0, 0, 0, 0, 0, 0, false)) else (if 0 ≤ a1 then (if a1 < (l0_6.length : Int) then (if a0_1 = 0 then (none) else (some ((rd_T40 l0_6 a1).f0, (rd_T40 l0_6 a1).f1, (rd_T40 l0_6 a1).f2, (rd_T40 l0_6 a1).f3, wrap64 (Int.tdiv a2 a0_1), Int.tmod a2 a0_1, true))) else (none)) else (none)))) else (some (0, 0, 0, 0, 0, 0, false)))
def plan_of.T3 : Bool × List (List Nat × List Nat) := (true, [([], []), ([0], [0]), ([], []), ([1, 2], [1, 2]), ([3], [3]), ([], []), ([], []), ([6], [6]), ([5, 7], [5, 7]), ([], []), ([], []), ([10], [10]), ([9, 11], [9, 11]), ([4, 0, 1, 2, 3, 4], [4]), ([8, 13, 0, 1, 2, 3, 4, 5, 6, 7, 8, 13], [8]), ([12, 14, 0, 1, 2, 3, 4, 5, 6, 7, 8, 9, 10, 11, 12, 13, 14], [12]), ([15, 0, 1, 2, 3, 4, 5, 6, 7, 8, 9, 10, 11, 12, 13, 14, 15], [])])
def plan_of.B3 : List Nat := [0, 1, 0, 7, 15, 0, 0, 64, 224, 0, 0, 1024, 3584, 31, 8703, 32767, 65535]
theorem plan_of.tab3 : rtab .any (opsOf Try.f28 3) = plan_of.T3 := by kernel_rfl
theorem plan_of.bits3 : waitsOk plan_of.T3.2 plan_of.B3 = true := by kernel_rfl
set_option maxHeartbeats 8000000 in
set_option maxRecDepth 100000 in
theorem plan_of.calls (a0_0 : Int) (a0_1 : Int) (a0_2 : Int) (a0_3 : Int) (a0_4 : Int) (A0_5 : Option Addr) (c0_5 : Nat) (l0_5 : List (List Int)) (A0_6 : Option Addr) (c0_6 : Nat) (l0_6 : List (S40)) (A0_7 : Option Addr) (c0_7 : Nat) (l0_7 : List (S63)) (a0_8 : Int) (a1 : Int) (a2 : Int) (r1 : Int) (r2 : Int) (r3 : Int) (r4 : Int) (r5 : Int) (r6 : Int) (r7 : Bool) (w : World) (hr0_5 : Kd.C (Kd.slice 2 (Kd.int .i64)) w A0_5 l0_5.length l0_5) (hc0_5 : l0_5.length ≤ c0_5) (hr0_6 : Kd.C k40 w A0_6 l0_6.length l0_6) (hc0_6 : l0_6.length ≤ c0_6) (hr0_7 : Kd.C k63 w A0_7 l0_7.length l0_7) (hc0_7 : l0_7.length ≤ c0_7) (h : plan_of.f a0_0 a0_1 a0_2 a0_3 a0_4 l0_5 l0_6 l0_7 a0_8 a1 a2 = some (r1, r2, r3, r4, r5, r6, r7)) :
  Calls Try.prog 28 #[.agg #[.int .i64 a0_0, .int .i64 a0_1, .int .i64 a0_2, .int .i64 a0_3, .int .i64 a0_4, .slice A0_5 l0_5.length c0_5, .slice A0_6 l0_6.length c0_6, .slice A0_7 l0_7.length c0_7, .int .i64 a0_8], .int .i64 a1, .int .i64 a2] w fun e w' => e = .returned (.tuple #[.agg #[.int .i64 r1, .int .u32 r2, .int .i64 r3, .int .i64 r4], .int .i64 r5, .int .i64 r6, .bool r7]) ∧ Below w.heap.size w w' := by
 have hu26 := Try.underlying26
 have hu40 := Try.underlying40
 have HR0_5 := Aside0.mk hr0_5
 have HC0_5 := Aside0.mk hc0_5
 clear hr0_5 hc0_5
 have HR0_6 := Aside0.mk hr0_6
 have HC0_6 := Aside0.mk hc0_6
 clear hr0_6 hc0_6
 have HR0_7 := Aside0.mk hr0_7
 have HC0_7 := Aside0.mk hc0_7
 clear hr0_7 hc0_7
 have HB := Aside0.mk (Below.refl w.heap.size w)
 have H : ((plan_good.f a0_0 a0_1 a0_2 a0_3 a0_4 l0_5 l0_6 l0_7 a0_8 a2).bind fun t196 => (if t196 = true then (if a1 < 0 then (some (0, 0, 0, 0, 0, 0, false)) else (if a1 ≥ (l0_6.length : Int) then (some (0, 0, 0, 0, 0, 0, false)) else (if 0 ≤ a1 then (if a1 < (l0_6.length : Int) then (if a0_1 = 0 then (none) else (some ((rd_T40 l0_6 a1).f0, (rd_T40 l0_6 a1).f1, (rd_T40 l0_6 a1).f2, (rd_T40 l0_6 a1).f3, wrap64 (Int.tdiv a2 a0_1), Int.tmod a2 a0_1, true))) else (none)) else (none)))) else (some (0, 0, 0, 0, 0, 0, false)))) = some (r1, r2, r3, r4, r5, r6, r7) := h
 clear h
 replace H := Option.bind_eq_some_iff.mp H
 obtain ⟨t196, A40, H⟩ := H
 replace H : (if t196 = true then (if a1 < 0 then (some (0, 0, 0, 0, 0, 0, false)) else (if a1 ≥ (l0_6.length : Int) then (some (0, 0, 0, 0, 0, 0, false)) else (if 0 ≤ a1 then (if a1 < (l0_6.length : Int) then (if a0_1 = 0 then (none) else (some ((rd_T40 l0_6 a1).f0, (rd_T40 l0_6 a1).f1, (rd_T40 l0_6 a1).f2, (rd_T40 l0_6 a1).f3, wrap64 (Int.tdiv a2 a0_1), Int.tmod a2 a0_1, true))) else (none)) else (none)))) else (some (0, 0, 0, 0, 0, 0, false))) = some (r1, r2, r3, r4, r5, r6, r7) := H
 have A4 := Aside0.mk A40
 clear A40
 by_cases c5 : t196 = true
 ·subst c5
  have H1 : (if a1 < 0 then (some (0, 0, 0, 0, 0, 0, false)) else (if a1 ≥ (l0_6.length : Int) then (some (0, 0, 0, 0, 0, 0, false)) else (if 0 ≤ a1 then (if a1 < (l0_6.length : Int) then (if a0_1 = 0 then (none) else (some ((rd_T40 l0_6 a1).f0, (rd_T40 l0_6 a1).f1, (rd_T40 l0_6 a1).f2, (rd_T40 l0_6 a1).f3, wrap64 (Int.tdiv a2 a0_1), Int.tmod a2 a0_1, true))) else (none)) else (none)))) = some (r1, r2, r3, r4, r5, r6, r7) := by rw [if_pos rfl] at H; exact H
  clear H
  have H := H1
  clear H1
  by_cases c6 : a1 < 0
  ·rw [if_pos c6] at H
   have c6b0 : decide (a1 < 0) = true := decide_eq_true c6
   clear c6
   simp only [Option.some.injEq, Prod.mk.injEq] at H
   obtain ⟨rfl, rfl, rfl, rfl, rfl, rfl, rfl⟩ := H
   go_enter Try.func28, Try.ntmps28
   go_wp2_with (first | ((with_reducible refine gate_dst (N := 3) rfl ?_); (try (refine gate_guard (by rfl) ?_; dsimp only)); refine boxe (N := 3) (cs := #[.int .i64 a0_0, .int .i64 a0_1, .int .i64 a0_2, .int .i64 a0_3, .int .i64 a0_4, .slice A0_5 l0_5.length c0_5, .slice A0_6 l0_6.length c0_6, .slice A0_7 l0_7.length c0_7, .int .i64 a0_8]) (t := 26) ?_; intro gb194 hg w7 hbox hb; have BK194 := Aside0.mk (hbox); have GW194 := bg0 hg HB; have GE194 := GW194; replace HB := bs0 HB hb; clear hb hbox hg) | ((with_reducible refine gate_dst (N := 6) rfl ?_); (try (refine gate_guard (by rfl) ?_; dsimp only)); refine boxe (N := 6) (cs := #[.int .i64 0, .int .u32 0, .int .i64 0, .int .i64 0]) (t := 40) ?_; intro gb195 hg w8 hbox hb; have BK195 := Aside0.mk (hbox); have GW195 := bg1 hg HB GE194; have GE195 := GW195; have NB194_195 := nl hg BK194; have NB195_194 := ng hg BK194; replace BK194 := bb BK194 hb; replace HB := bs1 HB GE194 hb; clear hb hbox hg; have hnb9 := NB194_195.out; have hnc9 := NB195_194.out; obtain ⟨hcz10_0, hcz10_1, hcz10_2, hcz10_3, hcz10_4, hcz10_5, hcz10_6, hcz10_7, hcz10_8, hfz10_0, hfz10_1, hfz10_2, hfz10_3, hfz10_4, hfz10_5, hfz10_6, hfz10_7, hfz10_8⟩ := bz9 BK194) | ((with_reducible refine gate_callee (f := 27) rfl ?_); refine gol (some 12) Try.func27 #[.agg #[.int .i64 a0_0, .int .i64 a0_1, .int .i64 a0_2, .int .i64 a0_3, .int .i64 a0_4, .slice A0_5 l0_5.length c0_5, .slice A0_6 l0_6.length c0_6, .slice A0_7 l0_7.length c0_7, .int .i64 a0_8], .int .i64 a2] ?_; (with_reducible refine (plan_good.calls a0_0 a0_1 a0_2 a0_3 a0_4 _ _ l0_5 _ _ l0_6 _ _ l0_7 a0_8 a2 true _ ?side1 ?side2 ?side3 ?side4 ?side5 ?side6 A4.out).mono ?_); (case side1 => exact kC (Kd.C_below HR0_5.out HB.out)); (case side2 => exact HC0_5.out); (case side3 => exact kC (Kd.C_below HR0_6.out HB.out)); (case side4 => exact HC0_6.out); (case side5 => exact kC (Kd.C_below HR0_7.out HB.out)); (case side6 => exact HC0_7.out); rintro e w11 ⟨rfl, hb⟩; refine ⟨_, rfl, ?_⟩; replace BK194 := bb BK194 hb; replace BK195 := bb BK195 hb; replace HB := bs2 HB GE194 GE195 hb; (try clear hb); (try clear hb2); (try clear hk); (try clear hi); obtain ⟨hcz12_0, hcz12_1, hcz12_2, hcz12_3, hfz12_0, hfz12_1, hfz12_2, hfz12_3⟩ := bz4 BK195))
   refine bodyPost_ret (results_list (rs := [.cell 6 40, .tmp 7, .tmp 8, .tmp 9]) rfl (by simp) (.cell gb195 40 #[.int .i64 0, .int .u32 0, .int .i64 0, .int .i64 0] (0, 0) _ rfl (by (with_reducible repeat (first | refine blk_drewN ?_ _ | refine blk_drew ?_ | refine blk_alloc ?_ _)); refine blk_put (cs := #[.int .i64 0, .int .u32 0, .int .i64 0, .int .i64 0]) ?_ 3 _ rt; (with_reducible repeat (first | refine blk_drewN ?_ _ | refine blk_drew ?_ | refine blk_alloc ?_ _)); refine blk_put (cs := #[.int .i64 0, .int .u32 0, .int .i64 0, .int .i64 0]) ?_ 2 _ rt; (with_reducible repeat (first | refine blk_drewN ?_ _ | refine blk_drew ?_ | refine blk_alloc ?_ _)); refine blk_put (cs := #[.int .i64 0, .int .u32 0, .int .i64 0, .int .i64 0]) ?_ 1 _ rt; (with_reducible repeat (first | refine blk_drewN ?_ _ | refine blk_drew ?_ | refine blk_alloc ?_ _)); refine blk_put (cs := #[.int .i64 0, .int .u32 0, .int .i64 0, .int .i64 0]) ?_ 0 _ rt; (with_reducible repeat (first | refine blk_drewN ?_ _ | refine blk_drew ?_ | refine blk_alloc ?_ _)); exact BK195.out) Try.underlying40 rfl (by kernel_rfl) (.tmp (.tmp (.tmp .nil))))) rfl ?_
   exact ⟨re, bw2 HB GE194 GE195⟩
  ·rw [if_neg c6] at H
   have c6b0 : decide (a1 < 0) = false := decide_eq_false c6
   clear c6
   by_cases c13 : a1 ≥ (l0_6.length : Int)
   ·rw [if_pos c13] at H
    have c13b0 : decide ((l0_6.length : Int) ≤ a1) = true := decide_eq_true c13
    clear c13
    simp only [Option.some.injEq, Prod.mk.injEq] at H
    obtain ⟨rfl, rfl, rfl, rfl, rfl, rfl, rfl⟩ := H
    go_enter Try.func28, Try.ntmps28
    go_wp2_with (first | ((with_reducible refine gate_dst (N := 3) rfl ?_); (try (refine gate_guard (by rfl) ?_; dsimp only)); refine boxe (N := 3) (cs := #[.int .i64 a0_0, .int .i64 a0_1, .int .i64 a0_2, .int .i64 a0_3, .int .i64 a0_4, .slice A0_5 l0_5.length c0_5, .slice A0_6 l0_6.length c0_6, .slice A0_7 l0_7.length c0_7, .int .i64 a0_8]) (t := 26) ?_; intro gb194 hg w14 hbox hb; have BK194 := Aside0.mk (hbox); have GW194 := bg0 hg HB; have GE194 := GW194; replace HB := bs0 HB hb; clear hb hbox hg) | ((with_reducible refine gate_dst (N := 6) rfl ?_); (try (refine gate_guard (by rfl) ?_; dsimp only)); refine boxe (N := 6) (cs := #[.int .i64 0, .int .u32 0, .int .i64 0, .int .i64 0]) (t := 40) ?_; intro gb195 hg w15 hbox hb; have BK195 := Aside0.mk (hbox); have GW195 := bg1 hg HB GE194; have GE195 := GW195; have NB194_195 := nl hg BK194; have NB195_194 := ng hg BK194; replace BK194 := bb BK194 hb; replace HB := bs1 HB GE194 hb; clear hb hbox hg; have hnb16 := NB194_195.out; have hnc16 := NB195_194.out; obtain ⟨hcz17_0, hcz17_1, hcz17_2, hcz17_3, hcz17_4, hcz17_5, hcz17_6, hcz17_7, hcz17_8, hfz17_0, hfz17_1, hfz17_2, hfz17_3, hfz17_4, hfz17_5, hfz17_6, hfz17_7, hfz17_8⟩ := bz9 BK194) | ((with_reducible refine gate_callee (f := 27) rfl ?_); refine gol (some 12) Try.func27 #[.agg #[.int .i64 a0_0, .int .i64 a0_1, .int .i64 a0_2, .int .i64 a0_3, .int .i64 a0_4, .slice A0_5 l0_5.length c0_5, .slice A0_6 l0_6.length c0_6, .slice A0_7 l0_7.length c0_7, .int .i64 a0_8], .int .i64 a2] ?_; (with_reducible refine (plan_good.calls a0_0 a0_1 a0_2 a0_3 a0_4 _ _ l0_5 _ _ l0_6 _ _ l0_7 a0_8 a2 true _ ?side1 ?side2 ?side3 ?side4 ?side5 ?side6 A4.out).mono ?_); (case side1 => exact kC (Kd.C_below HR0_5.out HB.out)); (case side2 => exact HC0_5.out); (case side3 => exact kC (Kd.C_below HR0_6.out HB.out)); (case side4 => exact HC0_6.out); (case side5 => exact kC (Kd.C_below HR0_7.out HB.out)); (case side6 => exact HC0_7.out); rintro e w18 ⟨rfl, hb⟩; refine ⟨_, rfl, ?_⟩; replace BK194 := bb BK194 hb; replace BK195 := bb BK195 hb; replace HB := bs2 HB GE194 GE195 hb; (try clear hb); (try clear hb2); (try clear hk); (try clear hi); obtain ⟨hcz19_0, hcz19_1, hcz19_2, hcz19_3, hcz19_4, hcz19_5, hcz19_6, hcz19_7, hcz19_8, hfz19_0, hfz19_1, hfz19_2, hfz19_3, hfz19_4, hfz19_5, hfz19_6, hfz19_7, hfz19_8⟩ := bz9 BK194; obtain ⟨hcz20_0, hcz20_1, hcz20_2, hcz20_3, hfz20_0, hfz20_1, hfz20_2, hfz20_3⟩ := bz4 BK195))
    all_goals try (exfalso; (try have z0_ := of_decide_eq_true c13b0); omega)
    refine bodyPost_ret (results_list (rs := [.cell 6 40, .tmp 7, .tmp 8, .tmp 9]) rfl (by simp) (.cell gb195 40 #[.int .i64 0, .int .u32 0, .int .i64 0, .int .i64 0] (0, 0) _ rfl (by (with_reducible repeat (first | refine blk_drewN ?_ _ | refine blk_drew ?_ | refine blk_alloc ?_ _)); refine blk_put (cs := #[.int .i64 0, .int .u32 0, .int .i64 0, .int .i64 0]) ?_ 3 _ rt; (with_reducible repeat (first | refine blk_drewN ?_ _ | refine blk_drew ?_ | refine blk_alloc ?_ _)); refine blk_put (cs := #[.int .i64 0, .int .u32 0, .int .i64 0, .int .i64 0]) ?_ 2 _ rt; (with_reducible repeat (first | refine blk_drewN ?_ _ | refine blk_drew ?_ | refine blk_alloc ?_ _)); refine blk_put (cs := #[.int .i64 0, .int .u32 0, .int .i64 0, .int .i64 0]) ?_ 1 _ rt; (with_reducible repeat (first | refine blk_drewN ?_ _ | refine blk_drew ?_ | refine blk_alloc ?_ _)); refine blk_put (cs := #[.int .i64 0, .int .u32 0, .int .i64 0, .int .i64 0]) ?_ 0 _ rt; (with_reducible repeat (first | refine blk_drewN ?_ _ | refine blk_drew ?_ | refine blk_alloc ?_ _)); exact BK195.out) Try.underlying40 rfl (by kernel_rfl) (.tmp (.tmp (.tmp .nil))))) rfl ?_
    exact ⟨re, bw2 HB GE194 GE195⟩
   ·rw [if_neg c13] at H
    have c13b0 : decide ((l0_6.length : Int) ≤ a1) = false := decide_eq_false c13
    clear c13
    by_cases c21 : 0 ≤ a1
    ·rw [if_pos c21] at H
     have c21b0 : decide (0 ≤ a1) = true := decide_eq_true c21
     clear c21
     by_cases c22 : a1 < (l0_6.length : Int)
     ·rw [if_pos c22] at H
      have c22b0 : decide (a1 < (l0_6.length : Int)) = true := decide_eq_true c22
      clear c22
      by_cases c23 : a0_1 = 0
      ·rw [if_pos c23] at H
       exact absurd H (by simp)
      ·rw [if_neg c23] at H
       have c23b0 : (a0_1 == 0) = false := beq_eq_false_iff_ne.mpr c23
       have c23b1 : (a0_1 != 0) = true := bne_iff_ne.mpr c23
       simp only [Option.some.injEq, Prod.mk.injEq] at H
       obtain ⟨rfl, rfl, rfl, rfl, rfl, rfl, rfl⟩ := H
       go_enter Try.func28, Try.ntmps28
       try go_wp2_with (first | ((with_reducible refine gate_dst (N := 3) rfl ?_); (try (refine gate_guard (by rfl) ?_; dsimp only)); refine boxe (N := 3) (cs := #[.int .i64 a0_0, .int .i64 a0_1, .int .i64 a0_2, .int .i64 a0_3, .int .i64 a0_4, .slice A0_5 l0_5.length c0_5, .slice A0_6 l0_6.length c0_6, .slice A0_7 l0_7.length c0_7, .int .i64 a0_8]) (t := 26) ?_; intro gb194 hg w24 hbox hb; have BK194 := Aside0.mk (hbox); have GW194 := bg0 hg HB; have GE194 := GW194; replace HB := bs0 HB hb; clear hb hbox hg) | ((with_reducible refine gate_dst (N := 6) rfl ?_); (try (refine gate_guard (by rfl) ?_; dsimp only)); refine boxe (N := 6) (cs := #[.int .i64 0, .int .u32 0, .int .i64 0, .int .i64 0]) (t := 40) ?_; intro gb195 hg w25 hbox hb; have BK195 := Aside0.mk (hbox); have GW195 := bg1 hg HB GE194; have GE195 := GW195; have NB194_195 := nl hg BK194; have NB195_194 := ng hg BK194; replace BK194 := bb BK194 hb; replace HB := bs1 HB GE194 hb; clear hb hbox hg; have hnb26 := NB194_195.out; have hnc26 := NB195_194.out; obtain ⟨hcz27_0, hcz27_1, hcz27_2, hcz27_3, hcz27_4, hcz27_5, hcz27_6, hcz27_7, hcz27_8, hfz27_0, hfz27_1, hfz27_2, hfz27_3, hfz27_4, hfz27_5, hfz27_6, hfz27_7, hfz27_8⟩ := bz9 BK194) | ((with_reducible refine gate_callee (f := 27) rfl ?_); refine gol (some 12) Try.func27 #[.agg #[.int .i64 a0_0, .int .i64 a0_1, .int .i64 a0_2, .int .i64 a0_3, .int .i64 a0_4, .slice A0_5 l0_5.length c0_5, .slice A0_6 l0_6.length c0_6, .slice A0_7 l0_7.length c0_7, .int .i64 a0_8], .int .i64 a2] ?_; (with_reducible refine (plan_good.calls a0_0 a0_1 a0_2 a0_3 a0_4 _ _ l0_5 _ _ l0_6 _ _ l0_7 a0_8 a2 true _ ?side1 ?side2 ?side3 ?side4 ?side5 ?side6 A4.out).mono ?_); (case side1 => exact kC (Kd.C_below HR0_5.out HB.out)); (case side2 => exact HC0_5.out); (case side3 => exact kC (Kd.C_below HR0_6.out HB.out)); (case side4 => exact HC0_6.out); (case side5 => exact kC (Kd.C_below HR0_7.out HB.out)); (case side6 => exact HC0_7.out); rintro e w28 ⟨rfl, hb⟩; refine ⟨_, rfl, ?_⟩; replace BK194 := bb BK194 hb; replace BK195 := bb BK195 hb; replace HB := bs2 HB GE194 GE195 hb; (try clear hb); (try clear hb2); (try clear hk); (try clear hi); obtain ⟨hcz29_0, hcz29_1, hcz29_2, hcz29_3, hcz29_4, hcz29_5, hcz29_6, hcz29_7, hcz29_8, hfz29_0, hfz29_1, hfz29_2, hfz29_3, hfz29_4, hfz29_5, hfz29_6, hfz29_7, hfz29_8⟩ := bz9 BK194))
       have n0_ := Aside0.mk (blk_drew BK194.out)
       have n1_ := Aside0.mk (blk_drew BK195.out)
       have n2_ := Aside0.mk (below_drew1 HB.out)
       clear BK194
       clear BK195
       clear HB
       have BK194 := n0_
       have BK195 := n1_
       have HB := n2_
       clear n0_ n1_ n2_
       have p197 : 0 ≤ (a1 : Int) := of_decide_eq_true (by first | (with_reducible assumption) | assumption)
       have q197 : a1 < (l0_6.length : Int) := of_decide_eq_true (by first | (with_reducible assumption) | assumption)
       obtain ⟨ad197, e197, hx197_0, hx197_1, hx197_2, hx197_3⟩ := at_T40 HR0_6.out a1 p197 q197
       have hw197_3 := hx197_3
       have hw197_2 := hx197_2
       have hw197_1 := hx197_1
       have hw197_0 := hx197_0
       cases e197
       replace hx197_0 := pcb HB hx197_0
       replace hx197_1 := pcb HB hx197_1
       replace hx197_2 := pcb HB hx197_2
       replace hx197_3 := pcb HB hx197_3
       replace p197 := eq_true p197
       replace q197 := eq_true q197
       refine start_ (n := 17) (S := fun w' => w'.cell? ⟨gb194, 0, none⟩ = some (.int .i64 a0_0) ∧ w'.cell? ⟨gb194, 1, none⟩ = some (.int .i64 a0_1) ∧ w'.cell? ⟨gb194, 2, none⟩ = some (.int .i64 a0_2) ∧ w'.cell? ⟨gb194, 3, none⟩ = some (.int .i64 a0_3) ∧ w'.cell? ⟨gb194, 4, none⟩ = some (.int .i64 a0_4) ∧ w'.cell? ⟨gb194, 5, none⟩ = some (.slice A0_5 l0_5.length c0_5) ∧ w'.cell? ⟨gb194, 6, none⟩ = some (.slice (some ad197) l0_6.length c0_6) ∧ w'.cell? ⟨gb194, 7, none⟩ = some (.slice A0_7 l0_7.length c0_7) ∧ w'.cell? ⟨gb194, 8, none⟩ = some (.int .i64 a0_8) ∧ w'.cell? (ad197.add ((a1).toNat * 4)) = some (.int .i64 ((rd_T40 l0_6 a1).f0)) ∧ w'.cell? ⟨(ad197.add ((a1).toNat * 4)).block, (ad197.add ((a1).toNat * 4)).off + 1, none⟩ = some (.int .u32 ((rd_T40 l0_6 a1).f1)) ∧ w'.cell? ⟨(ad197.add ((a1).toNat * 4)).block, (ad197.add ((a1).toNat * 4)).off + 2, none⟩ = some (.int .i64 ((rd_T40 l0_6 a1).f2)) ∧ w'.cell? ⟨(ad197.add ((a1).toNat * 4)).block, (ad197.add ((a1).toNat * 4)).off + 3, none⟩ = some (.int .i64 ((rd_T40 l0_6 a1).f3))) (ds := []) #[false, false, false, false, false, false, false, false, false, false, false, false, false, false, false, false, false] (by kernel_rfl) rfl rfl ⟨(blk_cell BK194.out 0).trans rfl, (blk_cell BK194.out 1).trans rfl, (blk_cell BK194.out 2).trans rfl, (blk_cell BK194.out 3).trans rfl, (blk_cell BK194.out 4).trans rfl, (blk_cell BK194.out 5).trans rfl, (blk_cell BK194.out 6).trans rfl, (blk_cell BK194.out 7).trans rfl, (blk_cell BK194.out 8).trans rfl, ((HB.out.cell (World.block_lt_of_cell? w _ hw197_0)).trans hw197_0), ((HB.out.cell (World.block_lt_of_cell? w _ hw197_1)).trans hw197_1), ((HB.out.cell (World.block_lt_of_cell? w _ hw197_2)).trans hw197_2), ((HB.out.cell (World.block_lt_of_cell? w _ hw197_3)).trans hw197_3)⟩ (fun hHeld => ?_); refine with_tabW plan_of.tab3 plan_of.bits3 (fun HT_ HW_ => ?_)
       generalize w28.drew = w30 at BK194 BK195 HB hx197_0 hx197_1 hx197_2 hx197_3 hHeld ⊢
       refine pl 0 26 #[true, false, false, false, false, false, false, false, false, false, false, false, false, false, false, false, false] HT_ ?_
       refine pl 2 28 #[true, false, true, false, false, false, false, false, false, false, false, false, false, false, false, false, false] HT_ ?_
       refine pl 5 31 #[true, false, true, false, false, true, false, false, false, false, false, false, false, false, false, false, false] HT_ ?_
       refine pl 6 32 #[true, false, true, false, false, true, true, false, false, false, false, false, false, false, false, false, false] HT_ ?_
       refine pl 9 35 #[true, false, true, false, false, true, true, false, false, true, false, false, false, false, false, false, false] HT_ ?_
       refine pl 10 36 #[true, false, true, false, false, true, true, false, false, true, true, false, false, false, false, false, false] HT_ ?_
       refine tk13 1 27 #[true, true, true, false, false, true, true, false, false, true, true, false, false, false, false, false, false] HT_ HW_ hHeld ?_
       refine pl 3 29 #[true, true, true, true, false, true, true, false, false, true, true, false, false, false, false, false, false] HT_ ?_
       refine tk13 4 30 #[true, true, true, true, true, true, true, false, false, true, true, false, false, false, false, false, false] HT_ HW_ hHeld ?_
       refine tk13 7 33 #[true, true, true, true, true, true, true, true, false, true, true, false, false, false, false, false, false] HT_ HW_ hHeld ?_
       refine pl 8 34 #[true, true, true, true, true, true, true, true, true, true, true, false, false, false, false, false, false] HT_ ?_
       refine tk13 11 37 #[true, true, true, true, true, true, true, true, true, true, true, true, false, false, false, false, false] HT_ HW_ hHeld ?_
       refine pl 12 38 #[true, true, true, true, true, true, true, true, true, true, true, true, true, false, false, false, false] HT_ ?_
       refine one_ (i := 13) (N := none) #[true, true, true, true, true, true, true, true, true, true, true, true, true, true, false, false, false] rfl rfl (one_of HT_.out (by kernel_rfl)) (by decide) (fun K hK => ?_)
       have hs31 : w30.cell? ⟨gb195, 0, none⟩ = some (.int .i64 0) := (blk_cell BK195.out 0).trans rfl
       have hfs31 := blk_frozen BK195.out 0
       have hns31_0 := NB194_195.out
       have hms31_0 := NB195_194.out
       have hs32 : w30.cell? ⟨gb195, 1, none⟩ = some (.int .u32 0) := (blk_cell BK195.out 1).trans rfl
       have hfs32 := blk_frozen BK195.out 1
       have hns32_0 := NB194_195.out
       have hms32_0 := NB195_194.out
       have hs33 : w30.cell? ⟨gb195, 2, none⟩ = some (.int .i64 0) := (blk_cell BK195.out 2).trans rfl
       have hfs33 := blk_frozen BK195.out 2
       have hns33_0 := NB194_195.out
       have hms33_0 := NB195_194.out
       have hs34 : w30.cell? ⟨gb195, 3, none⟩ = some (.int .i64 0) := (blk_cell BK195.out 3).trans rfl
       have hfs34 := blk_frozen BK195.out 3
       have hns34_0 := NB194_195.out
       have hms34_0 := NB195_194.out
       refine skip_ (w1 := ?_) (by rfl) rfl ?_ ?_
       rotate_left
       ·go_simp
        rfl
       refine hK.out _ _ ⟨(cf NB194_195 hHeld.1), (cf NB194_195 hHeld.2.1), (cf NB194_195 hHeld.2.2.1), (cf NB194_195 hHeld.2.2.2.1), (cf NB194_195 hHeld.2.2.2.2.1), (cf NB194_195 hHeld.2.2.2.2.2.1), (cf NB194_195 hHeld.2.2.2.2.2.2.1), (cf NB194_195 hHeld.2.2.2.2.2.2.2.1), (cf NB194_195 hHeld.2.2.2.2.2.2.2.2.1), (cfa hw197_0 GW195 hHeld.2.2.2.2.2.2.2.2.2.1), (cfa hw197_1 GW195 hHeld.2.2.2.2.2.2.2.2.2.2.1), (cfa hw197_2 GW195 hHeld.2.2.2.2.2.2.2.2.2.2.2.1), (cfa hw197_3 GW195 hHeld.2.2.2.2.2.2.2.2.2.2.2.2)⟩ (fun hHeld => ?_)
       clear hK K
       refine pl 14 7 #[true, true, true, true, true, true, true, true, true, true, true, true, true, true, true, false, false] HT_ ?_
       refine pl 15 8 #[true, true, true, true, true, true, true, true, true, true, true, true, true, true, true, true, false] HT_ ?_
       refine pl 16 9 #[true, true, true, true, true, true, true, true, true, true, true, true, true, true, true, true, true] HT_ ?_
       refine done_ (done_of HT_.out (by kernel_rfl)) ?_
       try go_wp2
       refine bodyPost_ret (results_list (rs := [.cell 6 40, .tmp 7, .tmp 8, .tmp 9]) rfl (by simp) (.cell gb195 40 #[.int .i64 ((rd_T40 l0_6 a1).f0), .int .u32 ((rd_T40 l0_6 a1).f1), .int .i64 ((rd_T40 l0_6 a1).f2), .int .i64 ((rd_T40 l0_6 a1).f3)] (0, 0) _ rfl (by (with_reducible repeat (first | refine blk_drewN ?_ _ | refine blk_drew ?_ | refine blk_alloc ?_ _)); refine blk_put (cs := #[.int .i64 ((rd_T40 l0_6 a1).f0), .int .u32 ((rd_T40 l0_6 a1).f1), .int .i64 ((rd_T40 l0_6 a1).f2), .int .i64 0]) ?_ 3 _ rt; (with_reducible repeat (first | refine blk_drewN ?_ _ | refine blk_drew ?_ | refine blk_alloc ?_ _)); refine blk_put (cs := #[.int .i64 ((rd_T40 l0_6 a1).f0), .int .u32 ((rd_T40 l0_6 a1).f1), .int .i64 0, .int .i64 0]) ?_ 2 _ rt; (with_reducible repeat (first | refine blk_drewN ?_ _ | refine blk_drew ?_ | refine blk_alloc ?_ _)); refine blk_put (cs := #[.int .i64 ((rd_T40 l0_6 a1).f0), .int .u32 0, .int .i64 0, .int .i64 0]) ?_ 1 _ rt; (with_reducible repeat (first | refine blk_drewN ?_ _ | refine blk_drew ?_ | refine blk_alloc ?_ _)); refine blk_put (cs := #[.int .i64 0, .int .u32 0, .int .i64 0, .int .i64 0]) ?_ 0 _ rt; (with_reducible repeat (first | refine blk_drewN ?_ _ | refine blk_drew ?_ | refine blk_alloc ?_ _)); exact BK195.out) Try.underlying40 rfl (by kernel_rfl) (.tmp (.tmp (.tmp .nil))))) rfl ?_
       exact ⟨re, bw2 HB GE194 GE195⟩
     ·rw [if_neg c22] at H
      exact absurd H (by simp)
    ·rw [if_neg c21] at H
     exact absurd H (by simp)
 ·replace c5 := Bool.eq_false_iff.mpr c5
  subst c5
  have H1 : (some (0, 0, 0, 0, 0, 0, false)) = some (r1, r2, r3, r4, r5, r6, r7) := by rw [if_neg (show ¬ (false = true) by decide)] at H; exact H
  clear H
  have H := H1
  clear H1
  simp only [Option.some.injEq, Prod.mk.injEq] at H
  obtain ⟨rfl, rfl, rfl, rfl, rfl, rfl, rfl⟩ := H
  go_enter Try.func28, Try.ntmps28
  go_wp2_with (first | ((with_reducible refine gate_dst (N := 3) rfl ?_); (try (refine gate_guard (by rfl) ?_; dsimp only)); refine boxe (N := 3) (cs := #[.int .i64 a0_0, .int .i64 a0_1, .int .i64 a0_2, .int .i64 a0_3, .int .i64 a0_4, .slice A0_5 l0_5.length c0_5, .slice A0_6 l0_6.length c0_6, .slice A0_7 l0_7.length c0_7, .int .i64 a0_8]) (t := 26) ?_; intro gb194 hg w35 hbox hb; have BK194 := Aside0.mk (hbox); have GW194 := bg0 hg HB; have GE194 := GW194; replace HB := bs0 HB hb; clear hb hbox hg) | ((with_reducible refine gate_dst (N := 6) rfl ?_); (try (refine gate_guard (by rfl) ?_; dsimp only)); refine boxe (N := 6) (cs := #[.int .i64 0, .int .u32 0, .int .i64 0, .int .i64 0]) (t := 40) ?_; intro gb195 hg w36 hbox hb; have BK195 := Aside0.mk (hbox); have GW195 := bg1 hg HB GE194; have GE195 := GW195; have NB194_195 := nl hg BK194; have NB195_194 := ng hg BK194; replace BK194 := bb BK194 hb; replace HB := bs1 HB GE194 hb; clear hb hbox hg; have hnb37 := NB194_195.out; have hnc37 := NB195_194.out; obtain ⟨hcz38_0, hcz38_1, hcz38_2, hcz38_3, hcz38_4, hcz38_5, hcz38_6, hcz38_7, hcz38_8, hfz38_0, hfz38_1, hfz38_2, hfz38_3, hfz38_4, hfz38_5, hfz38_6, hfz38_7, hfz38_8⟩ := bz9 BK194) | ((with_reducible refine gate_callee (f := 27) rfl ?_); refine gol (some 12) Try.func27 #[.agg #[.int .i64 a0_0, .int .i64 a0_1, .int .i64 a0_2, .int .i64 a0_3, .int .i64 a0_4, .slice A0_5 l0_5.length c0_5, .slice A0_6 l0_6.length c0_6, .slice A0_7 l0_7.length c0_7, .int .i64 a0_8], .int .i64 a2] ?_; (with_reducible refine (plan_good.calls a0_0 a0_1 a0_2 a0_3 a0_4 _ _ l0_5 _ _ l0_6 _ _ l0_7 a0_8 a2 false _ ?side1 ?side2 ?side3 ?side4 ?side5 ?side6 A4.out).mono ?_); (case side1 => exact kC (Kd.C_below HR0_5.out HB.out)); (case side2 => exact HC0_5.out); (case side3 => exact kC (Kd.C_below HR0_6.out HB.out)); (case side4 => exact HC0_6.out); (case side5 => exact kC (Kd.C_below HR0_7.out HB.out)); (case side6 => exact HC0_7.out); rintro e w39 ⟨rfl, hb⟩; refine ⟨_, rfl, ?_⟩; replace BK194 := bb BK194 hb; replace BK195 := bb BK195 hb; replace HB := bs2 HB GE194 GE195 hb; (try clear hb); (try clear hb2); (try clear hk); (try clear hi); obtain ⟨hcz40_0, hcz40_1, hcz40_2, hcz40_3, hfz40_0, hfz40_1, hfz40_2, hfz40_3⟩ := bz4 BK195))
  refine bodyPost_ret (results_list (rs := [.cell 6 40, .tmp 7, .tmp 8, .tmp 9]) rfl (by simp) (.cell gb195 40 #[.int .i64 0, .int .u32 0, .int .i64 0, .int .i64 0] (0, 0) _ rfl (by (with_reducible repeat (first | refine blk_drewN ?_ _ | refine blk_drew ?_ | refine blk_alloc ?_ _)); refine blk_put (cs := #[.int .i64 0, .int .u32 0, .int .i64 0, .int .i64 0]) ?_ 3 _ rt; (with_reducible repeat (first | refine blk_drewN ?_ _ | refine blk_drew ?_ | refine blk_alloc ?_ _)); refine blk_put (cs := #[.int .i64 0, .int .u32 0, .int .i64 0, .int .i64 0]) ?_ 2 _ rt; (with_reducible repeat (first | refine blk_drewN ?_ _ | refine blk_drew ?_ | refine blk_alloc ?_ _)); refine blk_put (cs := #[.int .i64 0, .int .u32 0, .int .i64 0, .int .i64 0]) ?_ 1 _ rt; (with_reducible repeat (first | refine blk_drewN ?_ _ | refine blk_drew ?_ | refine blk_alloc ?_ _)); refine blk_put (cs := #[.int .i64 0, .int .u32 0, .int .i64 0, .int .i64 0]) ?_ 0 _ rt; (with_reducible repeat (first | refine blk_drewN ?_ _ | refine blk_drew ?_ | refine blk_alloc ?_ _)); exact BK195.out) Try.underlying40 rfl (by kernel_rfl) (.tmp (.tmp (.tmp .nil))))) rfl ?_
  exact ⟨re, bw2 HB GE194 GE195⟩
end Go.Proofs.Ytbmldeikjfecfaa.T
