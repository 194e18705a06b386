/- A part of the proof of the statement PlanWheres: words, contracts of functions that it reaches, and what they compute. No condition. -/
import Derived.Test.YtbmldeikjfecfaaJ01
import Derived.Test.YtbmldeikjfecfaaJ04
import Derived.Test.YtbmldeikjfecfaaJ12
import Derived.Test.YtbmldeikjfecfaaJ35
set_option linter.unusedVariables false
set_option linter.unusedSimpArgs false
namespace Go.Proofs.Ytbmldeikjfecfaa.T
open Go.RowKit Go.Proofs.YtbmldeikjfecfaaW.PrintWords Go.Proofs.YtbmldeikjfecfaaW.PrintLast Go.Proofs.YtbmldeikjfecfaaW.PrintMore
attribute [local go_sem] max2_int min2_int max_two min_two max_three min_three max_four min_four
attribute [local go_sem] at34_0 at34_1 at34_2 at42_0 at42_1 at42_2 at42_3 at47_0 at47_1 at47_2 at47_3 at47_4
def tocsinref15_Relay.f (k : Nat) (a0_0 : Int) (a0_1 : Int) (a0_2 : Int) (a0_3 : Int) (a0_4 : Int) (l0_5 : List (List Int)) (l0_6 : List (S40)) (l0_7 : List (S63)) (a0_8 : Int) (a1 : Int) (a2 : Int) : Option (Int × Bool) := (tocsinref15_Entry.f k a0_0 a0_1 a0_2 a0_3 a0_4 l0_5 l0_6 l0_7 a0_8 a1 a2).bind fun t236 => (if t236 = true then (if a0_1 = 0 then (none) else (if 0 ≤ a1 then (if a1 < (l0_6.length : Int) then ((tocsinref08_Times.f a0_0 a0_1 a0_2 a0_3 a0_4 l0_5 l0_6 l0_7 a0_8 ((rd_T40 l0_6 a1).f0) ((rd_T40 l0_6 a1).f1) ((rd_T40 l0_6 a1).f2) ((rd_T40 l0_6 a1).f3)).bind fun bt238 => (if a2 < (wrap64 ((wrap64 ((wrap64 (Int.tdiv a2 a0_1)) * a0_1)) + bt238.1)) then (some (0, false)) else (if a2 > (wrap64 ((wrap64 ((wrap64 (Int.tdiv a2 a0_1)) * a0_1)) + bt238.2.1)) then (some (0, false)) else (some (wrap64 ((wrap64 ((wrap64 (Int.tdiv a2 a0_1)) * a0_1)) + bt238.2.2.1), true))))) else (none)) else (none))) else (some (0, false)))
theorem tocsinref15_Relay.mono : ∀ a0 a1 a2 a3 a4 a5 a6 a7 a8 a9 a10 k, LeO (tocsinref15_Relay.f k a0 a1 a2 a3 a4 a5 a6 a7 a8 a9 a10) (tocsinref15_Relay.f (k + 1) a0 a1 a2 a3 a4 a5 a6 a7 a8 a9 a10) := by
 intro a0 a1 a2 a3 a4 a5 a6 a7 a8 a9 a10 k
 unfold tocsinref15_Relay.f
 repeat' first
   | (with_reducible exact tocsinref15_Entry.mono _ _ _ _ _ _ _ _ _ _ _ _)
   | (with_reducible exact LeO.refl _)
   | (with_reducible exact LeO.none _)
   | (with_reducible refine LeO.ite ?_ ?_)
   | (with_reducible refine LeO.bind ?_ (fun _ => ?_))
   | exact tocsinref15_Entry.mono _ _ _ _ _ _ _ _ _ _ _ _
   | exact LeO.none _
   | refine LeO.ite ?_ ?_
   | refine LeO.bind ?_ (fun _ => ?_)
def tocsinref15_Relay.T3 : Bool × List (List Nat × List Nat) := (true, [([], []), ([], []), ([1], [1]), ([0, 2], [0, 2]), ([], []), ([4], [4]), ([3, 5], [3, 5]), ([6, 0, 1, 2, 3, 4, 5, 6], [6])])
def tocsinref15_Relay.B3 : List Nat := [0, 0, 2, 7, 0, 16, 63, 127]
theorem tocsinref15_Relay.tab3 : rtab .any (opsOf Try.f15 3) = tocsinref15_Relay.T3 := by kernel_rfl
theorem tocsinref15_Relay.bits3 : waitsOk tocsinref15_Relay.T3.2 tocsinref15_Relay.B3 = true := by kernel_rfl
def tocsinref15_Relay.T4 : Bool × List (List Nat × List Nat) := (true, [([], []), ([], []), ([1], [1]), ([], []), ([2, 3], [2, 3]), ([4], [4]), ([0, 5], [0, 5]), ([], []), ([7, 6, 6, 0, 1, 2, 3, 4, 5, 6, 7], [6, 7])])
def tocsinref15_Relay.B4 : List Nat := [0, 0, 2, 0, 14, 30, 63, 0, 255]
theorem tocsinref15_Relay.tab4 : rtab .any (opsOf Try.f15 4) = tocsinref15_Relay.T4 := by kernel_rfl
theorem tocsinref15_Relay.bits4 : waitsOk tocsinref15_Relay.T4.2 tocsinref15_Relay.B4 = true := by kernel_rfl
set_option maxHeartbeats 8000000 in
set_option maxRecDepth 100000 in
theorem tocsinref15_Relay.calls (k : Nat) (a0_0 : Int) (a0_1 : Int) (a0_2 : Int) (a0_3 : Int) (a0_4 : Int) (A0_5 : Option Addr) (c0_5 : Nat) (l0_5 : List (List Int)) (A0_6 : Option Addr) (c0_6 : Nat) (l0_6 : List (S40)) (A0_7 : Option Addr) (c0_7 : Nat) (l0_7 : List (S63)) (a0_8 : Int) (a1 : Int) (a2 : Int) (r1 : Int) (r2 : Bool) (w : World) (hr0_5 : Kd.C (Kd.slice 2 (Kd.int .i64)) w A0_5 l0_5.length l0_5) (hc0_5 : l0_5.length ≤ c0_5) (hr0_6 : Kd.C k40 w A0_6 l0_6.length l0_6) (hc0_6 : l0_6.length ≤ c0_6) (hr0_7 : Kd.C k63 w A0_7 l0_7.length l0_7) (hc0_7 : l0_7.length ≤ c0_7) (h : tocsinref15_Relay.f k a0_0 a0_1 a0_2 a0_3 a0_4 l0_5 l0_6 l0_7 a0_8 a1 a2 = some (r1, r2)) :
  Calls Try.prog 15 #[.agg #[.int .i64 a0_0, .int .i64 a0_1, .int .i64 a0_2, .int .i64 a0_3, .int .i64 a0_4, .slice A0_5 l0_5.length c0_5, .slice A0_6 l0_6.length c0_6, .slice A0_7 l0_7.length c0_7, .int .i64 a0_8], .int .i64 a1, .int .i64 a2] w fun e w' => e = .returned (.tuple #[.int .i64 r1, .bool r2]) ∧ Below w.heap.size w w' := by
 have hu26 := Try.underlying26
 have hu40 := Try.underlying40
 have hu47 := Try.underlying47
 have HR0_5 := Aside0.mk hr0_5
 have HC0_5 := Aside0.mk hc0_5
 clear hr0_5 hc0_5
 have HR0_6 := Aside0.mk hr0_6
 have HC0_6 := Aside0.mk hc0_6
 clear hr0_6 hc0_6
 have HR0_7 := Aside0.mk hr0_7
 have HC0_7 := Aside0.mk hc0_7
 clear hr0_7 hc0_7
 have HB := Aside0.mk (Below.refl w.heap.size w)
 have H : ((tocsinref15_Entry.f k a0_0 a0_1 a0_2 a0_3 a0_4 l0_5 l0_6 l0_7 a0_8 a1 a2).bind fun t236 => (if t236 = true then (if a0_1 = 0 then (none) else (if 0 ≤ a1 then (if a1 < (l0_6.length : Int) then ((tocsinref08_Times.f a0_0 a0_1 a0_2 a0_3 a0_4 l0_5 l0_6 l0_7 a0_8 ((rd_T40 l0_6 a1).f0) ((rd_T40 l0_6 a1).f1) ((rd_T40 l0_6 a1).f2) ((rd_T40 l0_6 a1).f3)).bind fun bt238 => (if a2 < (wrap64 ((wrap64 ((wrap64 (Int.tdiv a2 a0_1)) * a0_1)) + bt238.1)) then (some (0, false)) else (if a2 > (wrap64 ((wrap64 ((wrap64 (Int.tdiv a2 a0_1)) * a0_1)) + bt238.2.1)) then (some (0, false)) else (some (wrap64 ((wrap64 ((wrap64 (Int.tdiv a2 a0_1)) * a0_1)) + bt238.2.2.1), true))))) else (none)) else (none))) else (some (0, false)))) = some (r1, r2) := h
 clear h
 replace H := Option.bind_eq_some_iff.mp H
 obtain ⟨t236, A40, H⟩ := H
 replace H : (if t236 = true then (if a0_1 = 0 then (none) else (if 0 ≤ a1 then (if a1 < (l0_6.length : Int) then ((tocsinref08_Times.f a0_0 a0_1 a0_2 a0_3 a0_4 l0_5 l0_6 l0_7 a0_8 ((rd_T40 l0_6 a1).f0) ((rd_T40 l0_6 a1).f1) ((rd_T40 l0_6 a1).f2) ((rd_T40 l0_6 a1).f3)).bind fun bt238 => (if a2 < (wrap64 ((wrap64 ((wrap64 (Int.tdiv a2 a0_1)) * a0_1)) + bt238.1)) then (some (0, false)) else (if a2 > (wrap64 ((wrap64 ((wrap64 (Int.tdiv a2 a0_1)) * a0_1)) + bt238.2.1)) then (some (0, false)) else (some (wrap64 ((wrap64 ((wrap64 (Int.tdiv a2 a0_1)) * a0_1)) + bt238.2.2.1), true))))) else (none)) else (none))) else (some (0, false))) = some (r1, r2) := H
 have A4 := Aside0.mk A40
 clear A40
 by_cases c5 : t236 = true
 ·subst c5
  have H1 : (if a0_1 = 0 then (none) else (if 0 ≤ a1 then (if a1 < (l0_6.length : Int) then ((tocsinref08_Times.f a0_0 a0_1 a0_2 a0_3 a0_4 l0_5 l0_6 l0_7 a0_8 ((rd_T40 l0_6 a1).f0) ((rd_T40 l0_6 a1).f1) ((rd_T40 l0_6 a1).f2) ((rd_T40 l0_6 a1).f3)).bind fun bt238 => (if a2 < (wrap64 ((wrap64 ((wrap64 (Int.tdiv a2 a0_1)) * a0_1)) + bt238.1)) then (some (0, false)) else (if a2 > (wrap64 ((wrap64 ((wrap64 (Int.tdiv a2 a0_1)) * a0_1)) + bt238.2.1)) then (some (0, false)) else (some (wrap64 ((wrap64 ((wrap64 (Int.tdiv a2 a0_1)) * a0_1)) + bt238.2.2.1), true))))) else (none)) else (none))) = some (r1, r2) := by rw [if_pos rfl] at H; exact H
  clear H
  have H := H1
  clear H1
  by_cases c6 : a0_1 = 0
  ·rw [if_pos c6] at H
   exact absurd H (by simp)
  ·rw [if_neg c6] at H
   have c6b0 : (a0_1 == 0) = false := beq_eq_false_iff_ne.mpr c6
   have c6b1 : (a0_1 != 0) = true := bne_iff_ne.mpr c6
   by_cases c7 : 0 ≤ a1
   ·rw [if_pos c7] at H
    have c7b0 : decide (0 ≤ a1) = true := decide_eq_true c7
    clear c7
    by_cases c8 : a1 < (l0_6.length : Int)
    ·rw [if_pos c8] at H
     have c8b0 : decide (a1 < (l0_6.length : Int)) = true := decide_eq_true c8
     clear c8
     replace H := Option.bind_eq_some_iff.mp H
     obtain ⟨⟨t238, t239, t240, t241, t242⟩, A90, H⟩ := H
     replace H : (if a2 < (wrap64 ((wrap64 ((wrap64 (Int.tdiv a2 a0_1)) * a0_1)) + t238)) then (some (0, false)) else (if a2 > (wrap64 ((wrap64 ((wrap64 (Int.tdiv a2 a0_1)) * a0_1)) + t239)) then (some (0, false)) else (some (wrap64 ((wrap64 ((wrap64 (Int.tdiv a2 a0_1)) * a0_1)) + t240), true)))) = some (r1, r2) := H
     have A9 := Aside0.mk A90
     clear A90
     by_cases c10 : a2 < (wrap64 ((wrap64 ((wrap64 (Int.tdiv a2 a0_1)) * a0_1)) + t238))
     ·rw [if_pos c10] at H
      have c10b0 : decide (a2 < (wrap64 ((wrap64 ((wrap64 (Int.tdiv a2 a0_1)) * a0_1)) + t238))) = true := decide_eq_true c10
      clear c10
      simp only [Option.some.injEq, Prod.mk.injEq] at H
      obtain ⟨rfl, rfl⟩ := H
      go_enter Try.func15, Try.ntmps15
      try go_wp2_with (first | ((with_reducible refine gate_dst (N := 3) rfl ?_); refine boxe (N := 3) (cs := #[.int .i64 a0_0, .int .i64 a0_1, .int .i64 a0_2, .int .i64 a0_3, .int .i64 a0_4, .slice A0_5 l0_5.length c0_5, .slice A0_6 l0_6.length c0_6, .slice A0_7 l0_7.length c0_7, .int .i64 a0_8]) (t := 26) ?_; intro gb235 hg w11 hbox hb; have BK235 := Aside0.mk (hbox); have GW235 := bg0 hg HB; have GE235 := GW235; replace HB := bs0 HB hb; clear hb hbox hg; obtain ⟨hcz12_0, hcz12_1, hcz12_2, hcz12_3, hcz12_4, hcz12_5, hcz12_6, hcz12_7, hcz12_8, hfz12_0, hfz12_1, hfz12_2, hfz12_3, hfz12_4, hfz12_5, hfz12_6, hfz12_7, hfz12_8⟩ := bz9 BK235) | ((with_reducible refine gate_callee (f := 33) rfl ?_); refine gol (some 13) Try.func33 #[.agg #[.int .i64 a0_0, .int .i64 a0_1, .int .i64 a0_2, .int .i64 a0_3, .int .i64 a0_4, .slice A0_5 l0_5.length c0_5, .slice A0_6 l0_6.length c0_6, .slice A0_7 l0_7.length c0_7, .int .i64 a0_8], .int .i64 a1, .int .i64 a2] ?_; (with_reducible refine (tocsinref15_Entry.calls k a0_0 a0_1 a0_2 a0_3 a0_4 _ _ l0_5 _ _ l0_6 _ _ l0_7 a0_8 a1 a2 true _ ?side1 ?side2 ?side3 ?side4 ?side5 ?side6 A4.out).mono ?_); (case side1 => exact kC (Kd.C_below HR0_5.out HB.out)); (case side2 => exact HC0_5.out); (case side3 => exact kC (Kd.C_below HR0_6.out HB.out)); (case side4 => exact HC0_6.out); (case side5 => exact kC (Kd.C_below HR0_7.out HB.out)); (case side6 => exact HC0_7.out); rintro e w13 ⟨rfl, hb⟩; refine ⟨_, rfl, ?_⟩; replace BK235 := bb BK235 hb; replace HB := bs1 HB GE235 hb; (try clear hb); (try clear hb2); (try clear hk); (try clear hi)))
      have n0_ := Aside0.mk (blk_drew BK235.out)
      have n1_ := Aside0.mk (below_drew1 HB.out)
      clear BK235
      clear HB
      have BK235 := n0_
      have HB := n1_
      clear n0_ n1_
      refine start_ (n := 8) (S := fun w' => w'.cell? ⟨gb235, 0, none⟩ = some (.int .i64 a0_0) ∧ w'.cell? ⟨gb235, 1, none⟩ = some (.int .i64 a0_1) ∧ w'.cell? ⟨gb235, 2, none⟩ = some (.int .i64 a0_2) ∧ w'.cell? ⟨gb235, 3, none⟩ = some (.int .i64 a0_3) ∧ w'.cell? ⟨gb235, 4, none⟩ = some (.int .i64 a0_4) ∧ w'.cell? ⟨gb235, 5, none⟩ = some (.slice A0_5 l0_5.length c0_5) ∧ w'.cell? ⟨gb235, 6, none⟩ = some (.slice A0_6 l0_6.length c0_6) ∧ w'.cell? ⟨gb235, 7, none⟩ = some (.slice A0_7 l0_7.length c0_7) ∧ w'.cell? ⟨gb235, 8, none⟩ = some (.int .i64 a0_8)) (ds := []) #[false, false, false, false, false, false, false, false] (by kernel_rfl) rfl rfl (by exact bc9 BK235) (fun hHeld => ?_); refine with_tabW tocsinref15_Relay.tab3 tocsinref15_Relay.bits3 (fun HT_ HW_ => ?_)
      generalize w13.drew = w14 at BK235 HB hHeld ⊢
      refine pl 0 15 #[true, false, false, false, false, false, false, false] HT_ ?_
      refine pl 1 16 #[true, true, false, false, false, false, false, false] HT_ ?_
      refine pl 4 19 #[true, true, false, false, true, false, false, false] HT_ ?_
      refine tk9 2 17 #[true, true, true, false, true, false, false, false] HT_ HW_ hHeld ?_
      refine pl 3 18 #[true, true, true, true, true, false, false, false] HT_ ?_
      refine tk9 5 20 #[true, true, true, true, true, true, false, false] HT_ HW_ hHeld ?_
      refine pl 6 21 #[true, true, true, true, true, true, true, false] HT_ ?_
      refine pl 7 8 #[true, true, true, true, true, true, true, true] HT_ ?_
      refine done_ (done_of HT_.out (by kernel_rfl)) ?_
      try go_wp2
      have n0_ := Aside0.mk (blk_drew BK235.out)
      have n1_ := Aside0.mk (below_drew1 HB.out)
      clear BK235
      clear HB
      have BK235 := n0_
      have HB := n1_
      clear n0_ n1_
      have p237 : 0 ≤ (a1 : Int) := of_decide_eq_true (by first | (with_reducible assumption) | assumption)
      have q237 : a1 < (l0_6.length : Int) := of_decide_eq_true (by first | (with_reducible assumption) | assumption)
      obtain ⟨ad237, e237, hx237_0, hx237_1, hx237_2, hx237_3⟩ := at_T40 HR0_6.out a1 p237 q237
      have hw237_3 := hx237_3
      have hw237_2 := hx237_2
      have hw237_1 := hx237_1
      have hw237_0 := hx237_0
      cases e237
      replace hx237_0 := pcb HB hx237_0
      replace hx237_1 := pcb HB hx237_1
      replace hx237_2 := pcb HB hx237_2
      replace hx237_3 := pcb HB hx237_3
      replace p237 := eq_true p237
      replace q237 := eq_true q237
      refine start_ (n := 9) (S := fun w' => w'.cell? ⟨gb235, 0, none⟩ = some (.int .i64 a0_0) ∧ w'.cell? ⟨gb235, 1, none⟩ = some (.int .i64 a0_1) ∧ w'.cell? ⟨gb235, 2, none⟩ = some (.int .i64 a0_2) ∧ w'.cell? ⟨gb235, 3, none⟩ = some (.int .i64 a0_3) ∧ w'.cell? ⟨gb235, 4, none⟩ = some (.int .i64 a0_4) ∧ w'.cell? ⟨gb235, 5, none⟩ = some (.slice A0_5 l0_5.length c0_5) ∧ w'.cell? ⟨gb235, 6, none⟩ = some (.slice (some ad237) l0_6.length c0_6) ∧ w'.cell? ⟨gb235, 7, none⟩ = some (.slice A0_7 l0_7.length c0_7) ∧ w'.cell? ⟨gb235, 8, none⟩ = some (.int .i64 a0_8) ∧ w'.cell? (ad237.add ((a1).toNat * 4)) = some (.int .i64 ((rd_T40 l0_6 a1).f0)) ∧ w'.cell? ⟨(ad237.add ((a1).toNat * 4)).block, (ad237.add ((a1).toNat * 4)).off + 1, none⟩ = some (.int .u32 ((rd_T40 l0_6 a1).f1)) ∧ w'.cell? ⟨(ad237.add ((a1).toNat * 4)).block, (ad237.add ((a1).toNat * 4)).off + 2, none⟩ = some (.int .i64 ((rd_T40 l0_6 a1).f2)) ∧ w'.cell? ⟨(ad237.add ((a1).toNat * 4)).block, (ad237.add ((a1).toNat * 4)).off + 3, none⟩ = some (.int .i64 ((rd_T40 l0_6 a1).f3))) (ds := []) #[false, false, false, false, false, false, false, false, false] (by kernel_rfl) rfl rfl ⟨(blk_cell BK235.out 0).trans rfl, (blk_cell BK235.out 1).trans rfl, (blk_cell BK235.out 2).trans rfl, (blk_cell BK235.out 3).trans rfl, (blk_cell BK235.out 4).trans rfl, (blk_cell BK235.out 5).trans rfl, (blk_cell BK235.out 6).trans rfl, (blk_cell BK235.out 7).trans rfl, (blk_cell BK235.out 8).trans rfl, ((HB.out.cell (World.block_lt_of_cell? w _ hw237_0)).trans hw237_0), ((HB.out.cell (World.block_lt_of_cell? w _ hw237_1)).trans hw237_1), ((HB.out.cell (World.block_lt_of_cell? w _ hw237_2)).trans hw237_2), ((HB.out.cell (World.block_lt_of_cell? w _ hw237_3)).trans hw237_3)⟩ (fun hHeld => ?_); refine with_tabW tocsinref15_Relay.tab4 tocsinref15_Relay.bits4 (fun HT_ HW_ => ?_)
      generalize w14.drew = w15 at BK235 HB hx237_0 hx237_1 hx237_2 hx237_3 hHeld ⊢
      refine pl 1 23 #[false, true, false, false, false, false, false, false, false] HT_ ?_
      refine pl 3 25 #[false, true, false, true, false, false, false, false, false] HT_ ?_
      refine tk13 0 22 #[true, true, false, true, false, false, false, false, false] HT_ HW_ hHeld ?_
      refine tk13 2 24 #[true, true, true, true, false, false, false, false, false] HT_ HW_ hHeld ?_
      refine pl 4 26 #[true, true, true, true, true, false, false, false, false] HT_ ?_
      refine tk13 5 27 #[true, true, true, true, true, true, false, false, false] HT_ HW_ hHeld ?_
      refine join_ (σ := Nat) 1 #[true, true, true, true, true, true, true, true, false] (fun s_ => [(28, .agg #[.int .i64 t238, .int .i64 t239, .int .i64 t240, .int .i64 t241, .int .i64 t242]), (9, .pointer (some ⟨s_, 0, none⟩))]) (fun s_ w' => (w'.cell? ⟨gb235, 0, none⟩ = some (.int .i64 a0_0) ∧ w'.cell? ⟨gb235, 1, none⟩ = some (.int .i64 a0_1) ∧ w'.cell? ⟨gb235, 2, none⟩ = some (.int .i64 a0_2) ∧ w'.cell? ⟨gb235, 3, none⟩ = some (.int .i64 a0_3) ∧ w'.cell? ⟨gb235, 4, none⟩ = some (.int .i64 a0_4) ∧ w'.cell? ⟨gb235, 5, none⟩ = some (.slice A0_5 l0_5.length c0_5) ∧ w'.cell? ⟨gb235, 6, none⟩ = some (.slice (some ad237) l0_6.length c0_6) ∧ w'.cell? ⟨gb235, 7, none⟩ = some (.slice A0_7 l0_7.length c0_7) ∧ w'.cell? ⟨gb235, 8, none⟩ = some (.int .i64 a0_8) ∧ w'.cell? (ad237.add ((a1).toNat * 4)) = some (.int .i64 ((rd_T40 l0_6 a1).f0)) ∧ w'.cell? ⟨(ad237.add ((a1).toNat * 4)).block, (ad237.add ((a1).toNat * 4)).off + 1, none⟩ = some (.int .u32 ((rd_T40 l0_6 a1).f1)) ∧ w'.cell? ⟨(ad237.add ((a1).toNat * 4)).block, (ad237.add ((a1).toNat * 4)).off + 2, none⟩ = some (.int .i64 ((rd_T40 l0_6 a1).f2)) ∧ w'.cell? ⟨(ad237.add ((a1).toNat * 4)).block, (ad237.add ((a1).toNat * 4)).off + 3, none⟩ = some (.int .i64 ((rd_T40 l0_6 a1).f3))) ∧ (w'.heap[gb235]? = some (.cells #[.int .i64 a0_0, .int .i64 a0_1, .int .i64 a0_2, .int .i64 a0_3, .int .i64 a0_4, .slice A0_5 l0_5.length c0_5, .slice (some ad237) l0_6.length c0_6, .slice A0_7 l0_7.length c0_7, .int .i64 a0_8] 26 (0, 0))) ∧ (w'.heap[s_]? = some (.cells #[.int .i64 0, .int .i64 0, .int .i64 0, .int .i64 0, .int .i64 0] 47 (0, 0))) ∧ (w.heap.size ≤ s_) ∧ (w.heap.size ≤ s_) ∧ (gb235 ≠ s_) ∧ (s_ ≠ gb235) ∧ (Below w.heap.size w w')) ?_ ?_
      rotate_left
      ·intro hCont
       refine two_ (i := 6) (j := 7) (Ni := some 28) (Nj := some 9) #[true, true, true, true, true, true, true, false, false] #[true, true, true, true, true, true, false, true, false] rfl rfl rfl rfl (two_of HT_.out (by kernel_rfl)) (by decide) (by decide) (fun K hK => ?_) (fun K hK => ?_)
       ·skip
        refine gor Try.func25 #[.agg #[.int .i64 a0_0, .int .i64 a0_1, .int .i64 a0_2, .int .i64 a0_3, .int .i64 a0_4, .slice A0_5 l0_5.length c0_5, .slice (some ad237) l0_6.length c0_6, .slice A0_7 l0_7.length c0_7, .int .i64 a0_8], .agg #[.int .i64 ((rd_T40 l0_6 a1).f0), .int .u32 ((rd_T40 l0_6 a1).f1), .int .i64 ((rd_T40 l0_6 a1).f2), .int .i64 ((rd_T40 l0_6 a1).f3)]] ?_
        with_reducible refine (tocsinref08_Times.calls a0_0 a0_1 a0_2 a0_3 a0_4 _ _ l0_5 _ _ l0_6 _ _ l0_7 a0_8 ((rd_T40 l0_6 a1).f0) ((rd_T40 l0_6 a1).f1) ((rd_T40 l0_6 a1).f2) ((rd_T40 l0_6 a1).f3) t238 t239 t240 t241 t242 _ ?side1 ?side2 ?side3 ?side4 ?side5 ?side6 A9.out).mono ?_
        (case side1 => exact kC (Kd.C_below HR0_5.out HB.out))
        (case side2 => exact HC0_5.out)
        (case side3 => exact kC (Kd.C_below HR0_6.out HB.out))
        (case side4 => exact HC0_6.out)
        (case side5 => exact kC (Kd.C_below HR0_7.out HB.out))
        (case side6 => exact HC0_7.out)
        rintro e w16 ⟨rfl, hb⟩
        refine ⟨_, rfl, ?_⟩
        have n0_ := bb BK235 hb
        have n1_ := bs1 HB GE235 hb
        clear BK235
        clear HB
        have BK235 := n0_
        have HB := n1_
        clear n0_ n1_
        (try clear hb)
        (try clear hb2)
        (try clear hk)
        (try clear hi)
        refine hK.out _ _ ⟨(blk_cell BK235.out 0).trans rfl, (blk_cell BK235.out 1).trans rfl, (blk_cell BK235.out 2).trans rfl, (blk_cell BK235.out 3).trans rfl, (blk_cell BK235.out 4).trans rfl, (blk_cell BK235.out 5).trans rfl, (blk_cell BK235.out 6).trans rfl, (blk_cell BK235.out 7).trans rfl, (blk_cell BK235.out 8).trans rfl, ((HB.out.cell (World.block_lt_of_cell? w _ hw237_0)).trans hw237_0), ((HB.out.cell (World.block_lt_of_cell? w _ hw237_1)).trans hw237_1), ((HB.out.cell (World.block_lt_of_cell? w _ hw237_2)).trans hw237_2), ((HB.out.cell (World.block_lt_of_cell? w _ hw237_3)).trans hw237_3)⟩ (fun hHeld => ?_)
        clear hK K
        refine norm_ (a' := ?_) ?_ ?_
        rotate_left
        ·show Act.put _ (some 28) _ = _
         simp only [Act.put, sT, sZ, sS, i64_w, i32_w]
         rfl
        refine one_ (i := 7) (N := some 9) #[true, true, true, true, true, true, true, true, false] rfl rfl (one_of HT_.out (by kernel_rfl)) (by decide) (fun K hK => ?_)
        refine box_step ?hg (N := 9) ?hd (cs := #[.int .i64 0, .int .i64 0, .int .i64 0, .int .i64 0, .int .i64 0]) (t := 47) ?hr ?_; (case hd => rfl); (case hg => rfl); (case hr => first | (go_simp; done) | (go_simp; rfl))
        intro gb243 hg w17 hbox hb
        have n0_ := bb BK235 hb
        have n1_ := bs1 HB GE235 hb
        have n2_ := Aside0.mk (hbox)
        have n3_ := bg1 hg HB GE235
        have n4_ := bg1 hg HB GE235
        have n5_ := nl hg BK235
        have n6_ := ng hg BK235
        clear BK235
        clear HB
        have BK235 := n0_
        have HB := n1_
        have BK243 := n2_
        have GW243 := n3_
        have GE243 := n4_
        have NB235_243 := n5_
        have NB243_235 := n6_
        clear n0_ n1_ n2_ n3_ n4_ n5_ n6_
        clear hb hbox hg
        refine hK.out _ _ ⟨(blk_cell BK235.out 0).trans rfl, (blk_cell BK235.out 1).trans rfl, (blk_cell BK235.out 2).trans rfl, (blk_cell BK235.out 3).trans rfl, (blk_cell BK235.out 4).trans rfl, (blk_cell BK235.out 5).trans rfl, (blk_cell BK235.out 6).trans rfl, (blk_cell BK235.out 7).trans rfl, (blk_cell BK235.out 8).trans rfl, ((HB.out.cell (World.block_lt_of_cell? w _ hw237_0)).trans hw237_0), ((HB.out.cell (World.block_lt_of_cell? w _ hw237_1)).trans hw237_1), ((HB.out.cell (World.block_lt_of_cell? w _ hw237_2)).trans hw237_2), ((HB.out.cell (World.block_lt_of_cell? w _ hw237_3)).trans hw237_3)⟩ (fun hHeld => ?_)
        clear hK K
        refine norm_ (a' := ?_) ?_ ?_
        rotate_left
        ·show Act.put _ (some 9) _ = _
         simp only [Act.put, sT, sZ, sS, i64_w, i32_w]
         rfl
        exact norm_ (by simp only [putAll, Act.put, sT, sZ, sS]) (hCont (gb243) _ ⟨hHeld, (bk BK235), (bk BK243), GW243.out, GE243.out, NB235_243.out, NB243_235.out, (bw2 HB GE235 GE243)⟩)
       ·skip
        refine box_step ?hg (N := 9) ?hd (cs := #[.int .i64 0, .int .i64 0, .int .i64 0, .int .i64 0, .int .i64 0]) (t := 47) ?hr ?_; (case hd => rfl); (case hg => rfl); (case hr => first | (go_simp; done) | (go_simp; rfl))
        intro gb243 hg w16 hbox hb
        have n0_ := bb BK235 hb
        have n1_ := bs1 HB GE235 hb
        have n2_ := Aside0.mk (hbox)
        have n3_ := bg1 hg HB GE235
        have n4_ := bg1 hg HB GE235
        have n5_ := nl hg BK235
        have n6_ := ng hg BK235
        clear BK235
        clear HB
        have BK235 := n0_
        have HB := n1_
        have BK243 := n2_
        have GW243 := n3_
        have GE243 := n4_
        have NB235_243 := n5_
        have NB243_235 := n6_
        clear n0_ n1_ n2_ n3_ n4_ n5_ n6_
        clear hb hbox hg
        refine hK.out _ _ ⟨(blk_cell BK235.out 0).trans rfl, (blk_cell BK235.out 1).trans rfl, (blk_cell BK235.out 2).trans rfl, (blk_cell BK235.out 3).trans rfl, (blk_cell BK235.out 4).trans rfl, (blk_cell BK235.out 5).trans rfl, (blk_cell BK235.out 6).trans rfl, (blk_cell BK235.out 7).trans rfl, (blk_cell BK235.out 8).trans rfl, ((HB.out.cell (World.block_lt_of_cell? w _ hw237_0)).trans hw237_0), ((HB.out.cell (World.block_lt_of_cell? w _ hw237_1)).trans hw237_1), ((HB.out.cell (World.block_lt_of_cell? w _ hw237_2)).trans hw237_2), ((HB.out.cell (World.block_lt_of_cell? w _ hw237_3)).trans hw237_3)⟩ (fun hHeld => ?_)
        clear hK K
        refine norm_ (a' := ?_) ?_ ?_
        rotate_left
        ·show Act.put _ (some 9) _ = _
         simp only [Act.put, sT, sZ, sS, i64_w, i32_w]
         rfl
        refine one_ (i := 6) (N := some 28) #[true, true, true, true, true, true, true, true, false] rfl rfl (one_of HT_.out (by kernel_rfl)) (by decide) (fun K hK => ?_)
        refine gor Try.func25 #[.agg #[.int .i64 a0_0, .int .i64 a0_1, .int .i64 a0_2, .int .i64 a0_3, .int .i64 a0_4, .slice A0_5 l0_5.length c0_5, .slice (some ad237) l0_6.length c0_6, .slice A0_7 l0_7.length c0_7, .int .i64 a0_8], .agg #[.int .i64 ((rd_T40 l0_6 a1).f0), .int .u32 ((rd_T40 l0_6 a1).f1), .int .i64 ((rd_T40 l0_6 a1).f2), .int .i64 ((rd_T40 l0_6 a1).f3)]] ?_
        with_reducible refine (tocsinref08_Times.calls a0_0 a0_1 a0_2 a0_3 a0_4 _ _ l0_5 _ _ l0_6 _ _ l0_7 a0_8 ((rd_T40 l0_6 a1).f0) ((rd_T40 l0_6 a1).f1) ((rd_T40 l0_6 a1).f2) ((rd_T40 l0_6 a1).f3) t238 t239 t240 t241 t242 _ ?side1 ?side2 ?side3 ?side4 ?side5 ?side6 A9.out).mono ?_
        (case side1 => exact kC (Kd.C_below HR0_5.out HB.out))
        (case side2 => exact HC0_5.out)
        (case side3 => exact kC (Kd.C_below HR0_6.out HB.out))
        (case side4 => exact HC0_6.out)
        (case side5 => exact kC (Kd.C_below HR0_7.out HB.out))
        (case side6 => exact HC0_7.out)
        rintro e w17 ⟨rfl, hb⟩
        refine ⟨_, rfl, ?_⟩
        have n0_ := bb BK235 hb
        have n1_ := bb BK243 hb
        have n2_ := bs2 HB GE235 GE243 hb
        clear BK235
        clear BK243
        clear HB
        have BK235 := n0_
        have BK243 := n1_
        have HB := n2_
        clear n0_ n1_ n2_
        (try clear hb)
        (try clear hb2)
        (try clear hk)
        (try clear hi)
        refine hK.out _ _ ⟨(blk_cell BK235.out 0).trans rfl, (blk_cell BK235.out 1).trans rfl, (blk_cell BK235.out 2).trans rfl, (blk_cell BK235.out 3).trans rfl, (blk_cell BK235.out 4).trans rfl, (blk_cell BK235.out 5).trans rfl, (blk_cell BK235.out 6).trans rfl, (blk_cell BK235.out 7).trans rfl, (blk_cell BK235.out 8).trans rfl, ((HB.out.cell (World.block_lt_of_cell? w _ hw237_0)).trans hw237_0), ((HB.out.cell (World.block_lt_of_cell? w _ hw237_1)).trans hw237_1), ((HB.out.cell (World.block_lt_of_cell? w _ hw237_2)).trans hw237_2), ((HB.out.cell (World.block_lt_of_cell? w _ hw237_3)).trans hw237_3)⟩ (fun hHeld => ?_)
        clear hK K
        refine norm_ (a' := ?_) ?_ ?_
        rotate_left
        ·show Act.put _ (some 28) _ = _
         simp only [Act.put, sT, sZ, sS, i64_w, i32_w]
         rfl
        exact norm_ (by simp only [putAll, Act.put, sT, sZ, sS]) (hCont (gb243) _ ⟨hHeld, (bk BK235), (bk BK243), GW243.out, GE243.out, NB235_243.out, NB243_235.out, (bw2 HB GE235 GE243)⟩)
      rintro gb243 w18 ⟨hS_, h0_, h1_, h2_, h3_, h4_, h5_, h6_⟩
      have n0_ : Aside0 (w18.heap[gb235]? = some (.cells #[.int .i64 a0_0, .int .i64 a0_1, .int .i64 a0_2, .int .i64 a0_3, .int .i64 a0_4, .slice A0_5 l0_5.length c0_5, .slice (some ad237) l0_6.length c0_6, .slice A0_7 l0_7.length c0_7, .int .i64 a0_8] 26 (0, 0))) := ⟨h0_⟩
      have n1_ : Aside0 (w18.heap[gb243]? = some (.cells #[.int .i64 0, .int .i64 0, .int .i64 0, .int .i64 0, .int .i64 0] 47 (0, 0))) := ⟨h1_⟩
      have n2_ : Aside0 (w.heap.size ≤ gb243) := ⟨h2_⟩
      have n3_ : Aside0 (w.heap.size ≤ gb243) := ⟨h3_⟩
      have n4_ : Aside0 (gb235 ≠ gb243) := ⟨h4_⟩
      have n5_ : Aside0 (gb243 ≠ gb235) := ⟨h5_⟩
      have n6_ : Aside0 (Below w.heap.size w w18) := ⟨h6_⟩
      clear BK235
      clear HB
      clear h0_ h1_ h2_ h3_ h4_ h5_ h6_
      have BK235 := n0_
      have BK243 := n1_
      have GW243 := n2_
      have GE243 := n3_
      have NB235_243 := n4_
      have NB243_235 := n5_
      have HB := n6_
      clear n0_ n1_ n2_ n3_ n4_ n5_ n6_
      have hHeld : w18.cell? ⟨gb235, 0, none⟩ = some (.int .i64 a0_0) ∧ w18.cell? ⟨gb235, 1, none⟩ = some (.int .i64 a0_1) ∧ w18.cell? ⟨gb235, 2, none⟩ = some (.int .i64 a0_2) ∧ w18.cell? ⟨gb235, 3, none⟩ = some (.int .i64 a0_3) ∧ w18.cell? ⟨gb235, 4, none⟩ = some (.int .i64 a0_4) ∧ w18.cell? ⟨gb235, 5, none⟩ = some (.slice A0_5 l0_5.length c0_5) ∧ w18.cell? ⟨gb235, 6, none⟩ = some (.slice (some ad237) l0_6.length c0_6) ∧ w18.cell? ⟨gb235, 7, none⟩ = some (.slice A0_7 l0_7.length c0_7) ∧ w18.cell? ⟨gb235, 8, none⟩ = some (.int .i64 a0_8) ∧ w18.cell? (ad237.add ((a1).toNat * 4)) = some (.int .i64 ((rd_T40 l0_6 a1).f0)) ∧ w18.cell? ⟨(ad237.add ((a1).toNat * 4)).block, (ad237.add ((a1).toNat * 4)).off + 1, none⟩ = some (.int .u32 ((rd_T40 l0_6 a1).f1)) ∧ w18.cell? ⟨(ad237.add ((a1).toNat * 4)).block, (ad237.add ((a1).toNat * 4)).off + 2, none⟩ = some (.int .i64 ((rd_T40 l0_6 a1).f2)) ∧ w18.cell? ⟨(ad237.add ((a1).toNat * 4)).block, (ad237.add ((a1).toNat * 4)).off + 3, none⟩ = some (.int .i64 ((rd_T40 l0_6 a1).f3)) := hS_
      refine norm_ (a' := ?_) ?_ ?_
      rotate_left
      ·simp only [putAll, Act.put, sT, sZ, sS]
       rfl
      refine one_ (i := 8) (N := none) #[true, true, true, true, true, true, true, true, true] rfl rfl (one_of HT_.out (by kernel_rfl)) (by decide) (fun K hK => ?_)
      have hs19 : w18.cell? ⟨gb243, 0, none⟩ = some (.int .i64 0) := (blk_cell BK243.out 0).trans rfl
      have hfs19 := blk_frozen BK243.out 0
      have hns19_0 := NB235_243.out
      have hms19_0 := NB243_235.out
      have hs20 : w18.cell? ⟨gb243, 1, none⟩ = some (.int .i64 0) := (blk_cell BK243.out 1).trans rfl
      have hfs20 := blk_frozen BK243.out 1
      have hns20_0 := NB235_243.out
      have hms20_0 := NB243_235.out
      have hs21 : w18.cell? ⟨gb243, 2, none⟩ = some (.int .i64 0) := (blk_cell BK243.out 2).trans rfl
      have hfs21 := blk_frozen BK243.out 2
      have hns21_0 := NB235_243.out
      have hms21_0 := NB243_235.out
      have hs22 : w18.cell? ⟨gb243, 3, none⟩ = some (.int .i64 0) := (blk_cell BK243.out 3).trans rfl
      have hfs22 := blk_frozen BK243.out 3
      have hns22_0 := NB235_243.out
      have hms22_0 := NB243_235.out
      have hs23 : w18.cell? ⟨gb243, 4, none⟩ = some (.int .i64 0) := (blk_cell BK243.out 4).trans rfl
      have hfs23 := blk_frozen BK243.out 4
      have hns23_0 := NB235_243.out
      have hms23_0 := NB243_235.out
      refine skip_ (w1 := ?_) (by rfl) rfl ?_ ?_
      rotate_left
      ·go_simp
       rfl
      refine hK.out _ _ ⟨(cf NB235_243 hHeld.1), (cf NB235_243 hHeld.2.1), (cf NB235_243 hHeld.2.2.1), (cf NB235_243 hHeld.2.2.2.1), (cf NB235_243 hHeld.2.2.2.2.1), (cf NB235_243 hHeld.2.2.2.2.2.1), (cf NB235_243 hHeld.2.2.2.2.2.2.1), (cf NB235_243 hHeld.2.2.2.2.2.2.2.1), (cf NB235_243 hHeld.2.2.2.2.2.2.2.2.1), (cfa hw237_0 GW243 hHeld.2.2.2.2.2.2.2.2.2.1), (cfa hw237_1 GW243 hHeld.2.2.2.2.2.2.2.2.2.2.1), (cfa hw237_2 GW243 hHeld.2.2.2.2.2.2.2.2.2.2.2.1), (cfa hw237_3 GW243 hHeld.2.2.2.2.2.2.2.2.2.2.2.2)⟩ (fun hHeld => ?_)
      clear hK K
      refine done_ (done_of HT_.out (by kernel_rfl)) ?_
      have hnb24 := NB243_235.out
      have hnc24 := NB235_243.out
      obtain ⟨hcz25_0, hcz25_1, hcz25_2, hcz25_3, hcz25_4, hfz25_0, hfz25_1, hfz25_2, hfz25_3, hfz25_4⟩ := bz5 BK243
      try go_wp2
      go_ret2
      exact ⟨re, bw2 HB GE235 GE243⟩
     ·rw [if_neg c10] at H
      have c10b0 : decide (a2 < (wrap64 ((wrap64 ((wrap64 (Int.tdiv a2 a0_1)) * a0_1)) + t238))) = false := decide_eq_false c10
      clear c10
      by_cases c26 : a2 > (wrap64 ((wrap64 ((wrap64 (Int.tdiv a2 a0_1)) * a0_1)) + t239))
      ·rw [if_pos c26] at H
       have c26b0 : decide ((wrap64 ((wrap64 ((wrap64 (Int.tdiv a2 a0_1)) * a0_1)) + t239)) < a2) = true := decide_eq_true c26
       clear c26
       simp only [Option.some.injEq, Prod.mk.injEq] at H
       obtain ⟨rfl, rfl⟩ := H
       go_enter Try.func15, Try.ntmps15
       try go_wp2_with (first | ((with_reducible refine gate_dst (N := 3) rfl ?_); refine boxe (N := 3) (cs := #[.int .i64 a0_0, .int .i64 a0_1, .int .i64 a0_2, .int .i64 a0_3, .int .i64 a0_4, .slice A0_5 l0_5.length c0_5, .slice A0_6 l0_6.length c0_6, .slice A0_7 l0_7.length c0_7, .int .i64 a0_8]) (t := 26) ?_; intro gb235 hg w27 hbox hb; have BK235 := Aside0.mk (hbox); have GW235 := bg0 hg HB; have GE235 := GW235; replace HB := bs0 HB hb; clear hb hbox hg; obtain ⟨hcz28_0, hcz28_1, hcz28_2, hcz28_3, hcz28_4, hcz28_5, hcz28_6, hcz28_7, hcz28_8, hfz28_0, hfz28_1, hfz28_2, hfz28_3, hfz28_4, hfz28_5, hfz28_6, hfz28_7, hfz28_8⟩ := bz9 BK235) | ((with_reducible refine gate_callee (f := 33) rfl ?_); refine gol (some 13) Try.func33 #[.agg #[.int .i64 a0_0, .int .i64 a0_1, .int .i64 a0_2, .int .i64 a0_3, .int .i64 a0_4, .slice A0_5 l0_5.length c0_5, .slice A0_6 l0_6.length c0_6, .slice A0_7 l0_7.length c0_7, .int .i64 a0_8], .int .i64 a1, .int .i64 a2] ?_; (with_reducible refine (tocsinref15_Entry.calls k a0_0 a0_1 a0_2 a0_3 a0_4 _ _ l0_5 _ _ l0_6 _ _ l0_7 a0_8 a1 a2 true _ ?side1 ?side2 ?side3 ?side4 ?side5 ?side6 A4.out).mono ?_); (case side1 => exact kC (Kd.C_below HR0_5.out HB.out)); (case side2 => exact HC0_5.out); (case side3 => exact kC (Kd.C_below HR0_6.out HB.out)); (case side4 => exact HC0_6.out); (case side5 => exact kC (Kd.C_below HR0_7.out HB.out)); (case side6 => exact HC0_7.out); rintro e w29 ⟨rfl, hb⟩; refine ⟨_, rfl, ?_⟩; replace BK235 := bb BK235 hb; replace HB := bs1 HB GE235 hb; (try clear hb); (try clear hb2); (try clear hk); (try clear hi)))
       have n0_ := Aside0.mk (blk_drew BK235.out)
       have n1_ := Aside0.mk (below_drew1 HB.out)
       clear BK235
       clear HB
       have BK235 := n0_
       have HB := n1_
       clear n0_ n1_
       refine start_ (n := 8) (S := fun w' => w'.cell? ⟨gb235, 0, none⟩ = some (.int .i64 a0_0) ∧ w'.cell? ⟨gb235, 1, none⟩ = some (.int .i64 a0_1) ∧ w'.cell? ⟨gb235, 2, none⟩ = some (.int .i64 a0_2) ∧ w'.cell? ⟨gb235, 3, none⟩ = some (.int .i64 a0_3) ∧ w'.cell? ⟨gb235, 4, none⟩ = some (.int .i64 a0_4) ∧ w'.cell? ⟨gb235, 5, none⟩ = some (.slice A0_5 l0_5.length c0_5) ∧ w'.cell? ⟨gb235, 6, none⟩ = some (.slice A0_6 l0_6.length c0_6) ∧ w'.cell? ⟨gb235, 7, none⟩ = some (.slice A0_7 l0_7.length c0_7) ∧ w'.cell? ⟨gb235, 8, none⟩ = some (.int .i64 a0_8)) (ds := []) #[false, false, false, false, false, false, false, false] (by kernel_rfl) rfl rfl (by exact bc9 BK235) (fun hHeld => ?_); refine with_tabW tocsinref15_Relay.tab3 tocsinref15_Relay.bits3 (fun HT_ HW_ => ?_)
       generalize w29.drew = w30 at BK235 HB hHeld ⊢
       refine pl 0 15 #[true, false, false, false, false, false, false, false] HT_ ?_
       refine pl 1 16 #[true, true, false, false, false, false, false, false] HT_ ?_
       refine pl 4 19 #[true, true, false, false, true, false, false, false] HT_ ?_
       refine tk9 2 17 #[true, true, true, false, true, false, false, false] HT_ HW_ hHeld ?_
       refine pl 3 18 #[true, true, true, true, true, false, false, false] HT_ ?_
       refine tk9 5 20 #[true, true, true, true, true, true, false, false] HT_ HW_ hHeld ?_
       refine pl 6 21 #[true, true, true, true, true, true, true, false] HT_ ?_
       refine pl 7 8 #[true, true, true, true, true, true, true, true] HT_ ?_
       refine done_ (done_of HT_.out (by kernel_rfl)) ?_
       try go_wp2
       have n0_ := Aside0.mk (blk_drew BK235.out)
       have n1_ := Aside0.mk (below_drew1 HB.out)
       clear BK235
       clear HB
       have BK235 := n0_
       have HB := n1_
       clear n0_ n1_
       have p237 : 0 ≤ (a1 : Int) := of_decide_eq_true (by first | (with_reducible assumption) | assumption)
       have q237 : a1 < (l0_6.length : Int) := of_decide_eq_true (by first | (with_reducible assumption) | assumption)
       obtain ⟨ad237, e237, hx237_0, hx237_1, hx237_2, hx237_3⟩ := at_T40 HR0_6.out a1 p237 q237
       have hw237_3 := hx237_3
       have hw237_2 := hx237_2
       have hw237_1 := hx237_1
       have hw237_0 := hx237_0
       cases e237
       replace hx237_0 := pcb HB hx237_0
       replace hx237_1 := pcb HB hx237_1
       replace hx237_2 := pcb HB hx237_2
       replace hx237_3 := pcb HB hx237_3
       replace p237 := eq_true p237
       replace q237 := eq_true q237
       refine start_ (n := 9) (S := fun w' => w'.cell? ⟨gb235, 0, none⟩ = some (.int .i64 a0_0) ∧ w'.cell? ⟨gb235, 1, none⟩ = some (.int .i64 a0_1) ∧ w'.cell? ⟨gb235, 2, none⟩ = some (.int .i64 a0_2) ∧ w'.cell? ⟨gb235, 3, none⟩ = some (.int .i64 a0_3) ∧ w'.cell? ⟨gb235, 4, none⟩ = some (.int .i64 a0_4) ∧ w'.cell? ⟨gb235, 5, none⟩ = some (.slice A0_5 l0_5.length c0_5) ∧ w'.cell? ⟨gb235, 6, none⟩ = some (.slice (some ad237) l0_6.length c0_6) ∧ w'.cell? ⟨gb235, 7, none⟩ = some (.slice A0_7 l0_7.length c0_7) ∧ w'.cell? ⟨gb235, 8, none⟩ = some (.int .i64 a0_8) ∧ w'.cell? (ad237.add ((a1).toNat * 4)) = some (.int .i64 ((rd_T40 l0_6 a1).f0)) ∧ w'.cell? ⟨(ad237.add ((a1).toNat * 4)).block, (ad237.add ((a1).toNat * 4)).off + 1, none⟩ = some (.int .u32 ((rd_T40 l0_6 a1).f1)) ∧ w'.cell? ⟨(ad237.add ((a1).toNat * 4)).block, (ad237.add ((a1).toNat * 4)).off + 2, none⟩ = some (.int .i64 ((rd_T40 l0_6 a1).f2)) ∧ w'.cell? ⟨(ad237.add ((a1).toNat * 4)).block, (ad237.add ((a1).toNat * 4)).off + 3, none⟩ = some (.int .i64 ((rd_T40 l0_6 a1).f3))) (ds := []) #[false, false, false, false, false, false, false, false, false] (by kernel_rfl) rfl rfl ⟨(blk_cell BK235.out 0).trans rfl, (blk_cell BK235.out 1).trans rfl, (blk_cell BK235.out 2).trans rfl, (blk_cell BK235.out 3).trans rfl, (blk_cell BK235.out 4).trans rfl, (blk_cell BK235.out 5).trans rfl, (blk_cell BK235.out 6).trans rfl, (blk_cell BK235.out 7).trans rfl, (blk_cell BK235.out 8).trans rfl, ((HB.out.cell (World.block_lt_of_cell? w _ hw237_0)).trans hw237_0), ((HB.out.cell (World.block_lt_of_cell? w _ hw237_1)).trans hw237_1), ((HB.out.cell (World.block_lt_of_cell? w _ hw237_2)).trans hw237_2), ((HB.out.cell (World.block_lt_of_cell? w _ hw237_3)).trans hw237_3)⟩ (fun hHeld => ?_); refine with_tabW tocsinref15_Relay.tab4 tocsinref15_Relay.bits4 (fun HT_ HW_ => ?_)
       generalize w30.drew = w31 at BK235 HB hx237_0 hx237_1 hx237_2 hx237_3 hHeld ⊢
       refine pl 1 23 #[false, true, false, false, false, false, false, false, false] HT_ ?_
       refine pl 3 25 #[false, true, false, true, false, false, false, false, false] HT_ ?_
       refine tk13 0 22 #[true, true, false, true, false, false, false, false, false] HT_ HW_ hHeld ?_
       refine tk13 2 24 #[true, true, true, true, false, false, false, false, false] HT_ HW_ hHeld ?_
       refine pl 4 26 #[true, true, true, true, true, false, false, false, false] HT_ ?_
       refine tk13 5 27 #[true, true, true, true, true, true, false, false, false] HT_ HW_ hHeld ?_
       refine join_ (σ := Nat) 1 #[true, true, true, true, true, true, true, true, false] (fun s_ => [(28, .agg #[.int .i64 t238, .int .i64 t239, .int .i64 t240, .int .i64 t241, .int .i64 t242]), (9, .pointer (some ⟨s_, 0, none⟩))]) (fun s_ w' => (w'.cell? ⟨gb235, 0, none⟩ = some (.int .i64 a0_0) ∧ w'.cell? ⟨gb235, 1, none⟩ = some (.int .i64 a0_1) ∧ w'.cell? ⟨gb235, 2, none⟩ = some (.int .i64 a0_2) ∧ w'.cell? ⟨gb235, 3, none⟩ = some (.int .i64 a0_3) ∧ w'.cell? ⟨gb235, 4, none⟩ = some (.int .i64 a0_4) ∧ w'.cell? ⟨gb235, 5, none⟩ = some (.slice A0_5 l0_5.length c0_5) ∧ w'.cell? ⟨gb235, 6, none⟩ = some (.slice (some ad237) l0_6.length c0_6) ∧ w'.cell? ⟨gb235, 7, none⟩ = some (.slice A0_7 l0_7.length c0_7) ∧ w'.cell? ⟨gb235, 8, none⟩ = some (.int .i64 a0_8) ∧ w'.cell? (ad237.add ((a1).toNat * 4)) = some (.int .i64 ((rd_T40 l0_6 a1).f0)) ∧ w'.cell? ⟨(ad237.add ((a1).toNat * 4)).block, (ad237.add ((a1).toNat * 4)).off + 1, none⟩ = some (.int .u32 ((rd_T40 l0_6 a1).f1)) ∧ w'.cell? ⟨(ad237.add ((a1).toNat * 4)).block, (ad237.add ((a1).toNat * 4)).off + 2, none⟩ = some (.int .i64 ((rd_T40 l0_6 a1).f2)) ∧ w'.cell? ⟨(ad237.add ((a1).toNat * 4)).block, (ad237.add ((a1).toNat * 4)).off + 3, none⟩ = some (.int .i64 ((rd_T40 l0_6 a1).f3))) ∧ (w'.heap[gb235]? = some (.cells #[.int .i64 a0_0, .int .i64 a0_1, .int .i64 a0_2, .int .i64 a0_3, .int .i64 a0_4, .slice A0_5 l0_5.length c0_5, .slice (some ad237) l0_6.length c0_6, .slice A0_7 l0_7.length c0_7, .int .i64 a0_8] 26 (0, 0))) ∧ (w'.heap[s_]? = some (.cells #[.int .i64 0, .int .i64 0, .int .i64 0, .int .i64 0, .int .i64 0] 47 (0, 0))) ∧ (w.heap.size ≤ s_) ∧ (w.heap.size ≤ s_) ∧ (gb235 ≠ s_) ∧ (s_ ≠ gb235) ∧ (Below w.heap.size w w')) ?_ ?_
       rotate_left
       ·intro hCont
        refine two_ (i := 6) (j := 7) (Ni := some 28) (Nj := some 9) #[true, true, true, true, true, true, true, false, false] #[true, true, true, true, true, true, false, true, false] rfl rfl rfl rfl (two_of HT_.out (by kernel_rfl)) (by decide) (by decide) (fun K hK => ?_) (fun K hK => ?_)
        ·skip
         refine gor Try.func25 #[.agg #[.int .i64 a0_0, .int .i64 a0_1, .int .i64 a0_2, .int .i64 a0_3, .int .i64 a0_4, .slice A0_5 l0_5.length c0_5, .slice (some ad237) l0_6.length c0_6, .slice A0_7 l0_7.length c0_7, .int .i64 a0_8], .agg #[.int .i64 ((rd_T40 l0_6 a1).f0), .int .u32 ((rd_T40 l0_6 a1).f1), .int .i64 ((rd_T40 l0_6 a1).f2), .int .i64 ((rd_T40 l0_6 a1).f3)]] ?_
         with_reducible refine (tocsinref08_Times.calls a0_0 a0_1 a0_2 a0_3 a0_4 _ _ l0_5 _ _ l0_6 _ _ l0_7 a0_8 ((rd_T40 l0_6 a1).f0) ((rd_T40 l0_6 a1).f1) ((rd_T40 l0_6 a1).f2) ((rd_T40 l0_6 a1).f3) t238 t239 t240 t241 t242 _ ?side1 ?side2 ?side3 ?side4 ?side5 ?side6 A9.out).mono ?_
         (case side1 => exact kC (Kd.C_below HR0_5.out HB.out))
         (case side2 => exact HC0_5.out)
         (case side3 => exact kC (Kd.C_below HR0_6.out HB.out))
         (case side4 => exact HC0_6.out)
         (case side5 => exact kC (Kd.C_below HR0_7.out HB.out))
         (case side6 => exact HC0_7.out)
         rintro e w32 ⟨rfl, hb⟩
         refine ⟨_, rfl, ?_⟩
         have n0_ := bb BK235 hb
         have n1_ := bs1 HB GE235 hb
         clear BK235
         clear HB
         have BK235 := n0_
         have HB := n1_
         clear n0_ n1_
         (try clear hb)
         (try clear hb2)
         (try clear hk)
         (try clear hi)
         refine hK.out _ _ ⟨(blk_cell BK235.out 0).trans rfl, (blk_cell BK235.out 1).trans rfl, (blk_cell BK235.out 2).trans rfl, (blk_cell BK235.out 3).trans rfl, (blk_cell BK235.out 4).trans rfl, (blk_cell BK235.out 5).trans rfl, (blk_cell BK235.out 6).trans rfl, (blk_cell BK235.out 7).trans rfl, (blk_cell BK235.out 8).trans rfl, ((HB.out.cell (World.block_lt_of_cell? w _ hw237_0)).trans hw237_0), ((HB.out.cell (World.block_lt_of_cell? w _ hw237_1)).trans hw237_1), ((HB.out.cell (World.block_lt_of_cell? w _ hw237_2)).trans hw237_2), ((HB.out.cell (World.block_lt_of_cell? w _ hw237_3)).trans hw237_3)⟩ (fun hHeld => ?_)
         clear hK K
         refine norm_ (a' := ?_) ?_ ?_
         rotate_left
         ·show Act.put _ (some 28) _ = _
          simp only [Act.put, sT, sZ, sS, i64_w, i32_w]
          rfl
         refine one_ (i := 7) (N := some 9) #[true, true, true, true, true, true, true, true, false] rfl rfl (one_of HT_.out (by kernel_rfl)) (by decide) (fun K hK => ?_)
         refine box_step ?hg (N := 9) ?hd (cs := #[.int .i64 0, .int .i64 0, .int .i64 0, .int .i64 0, .int .i64 0]) (t := 47) ?hr ?_; (case hd => rfl); (case hg => rfl); (case hr => first | (go_simp; done) | (go_simp; rfl))
         intro gb243 hg w33 hbox hb
         have n0_ := bb BK235 hb
         have n1_ := bs1 HB GE235 hb
         have n2_ := Aside0.mk (hbox)
         have n3_ := bg1 hg HB GE235
         have n4_ := bg1 hg HB GE235
         have n5_ := nl hg BK235
         have n6_ := ng hg BK235
         clear BK235
         clear HB
         have BK235 := n0_
         have HB := n1_
         have BK243 := n2_
         have GW243 := n3_
         have GE243 := n4_
         have NB235_243 := n5_
         have NB243_235 := n6_
         clear n0_ n1_ n2_ n3_ n4_ n5_ n6_
         clear hb hbox hg
         refine hK.out _ _ ⟨(blk_cell BK235.out 0).trans rfl, (blk_cell BK235.out 1).trans rfl, (blk_cell BK235.out 2).trans rfl, (blk_cell BK235.out 3).trans rfl, (blk_cell BK235.out 4).trans rfl, (blk_cell BK235.out 5).trans rfl, (blk_cell BK235.out 6).trans rfl, (blk_cell BK235.out 7).trans rfl, (blk_cell BK235.out 8).trans rfl, ((HB.out.cell (World.block_lt_of_cell? w _ hw237_0)).trans hw237_0), ((HB.out.cell (World.block_lt_of_cell? w _ hw237_1)).trans hw237_1), ((HB.out.cell (World.block_lt_of_cell? w _ hw237_2)).trans hw237_2), ((HB.out.cell (World.block_lt_of_cell? w _ hw237_3)).trans hw237_3)⟩ (fun hHeld => ?_)
         clear hK K
         refine norm_ (a' := ?_) ?_ ?_
         rotate_left
         ·show Act.put _ (some 9) _ = _
          simp only [Act.put, sT, sZ, sS, i64_w, i32_w]
          rfl
         exact norm_ (by simp only [putAll, Act.put, sT, sZ, sS]) (hCont (gb243) _ ⟨hHeld, (bk BK235), (bk BK243), GW243.out, GE243.out, NB235_243.out, NB243_235.out, (bw2 HB GE235 GE243)⟩)
        ·skip
         refine box_step ?hg (N := 9) ?hd (cs := #[.int .i64 0, .int .i64 0, .int .i64 0, .int .i64 0, .int .i64 0]) (t := 47) ?hr ?_; (case hd => rfl); (case hg => rfl); (case hr => first | (go_simp; done) | (go_simp; rfl))
         intro gb243 hg w32 hbox hb
         have n0_ := bb BK235 hb
         have n1_ := bs1 HB GE235 hb
         have n2_ := Aside0.mk (hbox)
         have n3_ := bg1 hg HB GE235
         have n4_ := bg1 hg HB GE235
         have n5_ := nl hg BK235
         have n6_ := ng hg BK235
         clear BK235
         clear HB
         have BK235 := n0_
         have HB := n1_
         have BK243 := n2_
         have GW243 := n3_
         have GE243 := n4_
         have NB235_243 := n5_
         have NB243_235 := n6_
         clear n0_ n1_ n2_ n3_ n4_ n5_ n6_
         clear hb hbox hg
         refine hK.out _ _ ⟨(blk_cell BK235.out 0).trans rfl, (blk_cell BK235.out 1).trans rfl, (blk_cell BK235.out 2).trans rfl, (blk_cell BK235.out 3).trans rfl, (blk_cell BK235.out 4).trans rfl, (blk_cell BK235.out 5).trans rfl, (blk_cell BK235.out 6).trans rfl, (blk_cell BK235.out 7).trans rfl, (blk_cell BK235.out 8).trans rfl, ((HB.out.cell (World.block_lt_of_cell? w _ hw237_0)).trans hw237_0), ((HB.out.cell (World.block_lt_of_cell? w _ hw237_1)).trans hw237_1), ((HB.out.cell (World.block_lt_of_cell? w _ hw237_2)).trans hw237_2), ((HB.out.cell (World.block_lt_of_cell? w _ hw237_3)).trans hw237_3)⟩ (fun hHeld => ?_)
         clear hK K
         refine norm_ (a' := ?_) ?_ ?_
         rotate_left
         ·show Act.put _ (some 9) _ = _
          simp only [Act.put, sT, sZ, sS, i64_w, i32_w]
          rfl
         refine one_ (i := 6) (N := some 28) #[true, true, true, true, true, true, true, true, false] rfl rfl (one_of HT_.out (by kernel_rfl)) (by decide) (fun K hK => ?_)
         refine gor Try.func25 #[.agg #[.int .i64 a0_0, .int .i64 a0_1, .int .i64 a0_2, .int .i64 a0_3, .int .i64 a0_4, .slice A0_5 l0_5.length c0_5, .slice (some ad237) l0_6.length c0_6, .slice A0_7 l0_7.length c0_7, .int .i64 a0_8], .agg #[.int .i64 ((rd_T40 l0_6 a1).f0), .int .u32 ((rd_T40 l0_6 a1).f1), .int .i64 ((rd_T40 l0_6 a1).f2), .int .i64 ((rd_T40 l0_6 a1).f3)]] ?_
         with_reducible refine (tocsinref08_Times.calls a0_0 a0_1 a0_2 a0_3 a0_4 _ _ l0_5 _ _ l0_6 _ _ l0_7 a0_8 ((rd_T40 l0_6 a1).f0) ((rd_T40 l0_6 a1).f1) ((rd_T40 l0_6 a1).f2) ((rd_T40 l0_6 a1).f3) t238 t239 t240 t241 t242 _ ?side1 ?side2 ?side3 ?side4 ?side5 ?side6 A9.out).mono ?_
         (case side1 => exact kC (Kd.C_below HR0_5.out HB.out))
         (case side2 => exact HC0_5.out)
         (case side3 => exact kC (Kd.C_below HR0_6.out HB.out))
         (case side4 => exact HC0_6.out)
         (case side5 => exact kC (Kd.C_below HR0_7.out HB.out))
         (case side6 => exact HC0_7.out)
         rintro e w33 ⟨rfl, hb⟩
         refine ⟨_, rfl, ?_⟩
         have n0_ := bb BK235 hb
         have n1_ := bb BK243 hb
         have n2_ := bs2 HB GE235 GE243 hb
         clear BK235
         clear BK243
         clear HB
         have BK235 := n0_
         have BK243 := n1_
         have HB := n2_
         clear n0_ n1_ n2_
         (try clear hb)
         (try clear hb2)
         (try clear hk)
         (try clear hi)
         refine hK.out _ _ ⟨(blk_cell BK235.out 0).trans rfl, (blk_cell BK235.out 1).trans rfl, (blk_cell BK235.out 2).trans rfl, (blk_cell BK235.out 3).trans rfl, (blk_cell BK235.out 4).trans rfl, (blk_cell BK235.out 5).trans rfl, (blk_cell BK235.out 6).trans rfl, (blk_cell BK235.out 7).trans rfl, (blk_cell BK235.out 8).trans rfl, ((HB.out.cell (World.block_lt_of_cell? w _ hw237_0)).trans hw237_0), ((HB.out.cell (World.block_lt_of_cell? w _ hw237_1)).trans hw237_1), ((HB.out.cell (World.block_lt_of_cell? w _ hw237_2)).trans hw237_2), ((HB.out.cell (World.block_lt_of_cell? w _ hw237_3)).trans hw237_3)⟩ (fun hHeld => ?_)
         clear hK K
         refine norm_ (a' := ?_) ?_ ?_
         rotate_left
         ·show Act.put _ (some 28) _ = _
          simp only [Act.put, sT, sZ, sS, i64_w, i32_w]
          rfl
         exact norm_ (by simp only [putAll, Act.put, sT, sZ, sS]) (hCont (gb243) _ ⟨hHeld, (bk BK235), (bk BK243), GW243.out, GE243.out, NB235_243.out, NB243_235.out, (bw2 HB GE235 GE243)⟩)
       rintro gb243 w34 ⟨hS_, h0_, h1_, h2_, h3_, h4_, h5_, h6_⟩
       have n0_ : Aside0 (w34.heap[gb235]? = some (.cells #[.int .i64 a0_0, .int .i64 a0_1, .int .i64 a0_2, .int .i64 a0_3, .int .i64 a0_4, .slice A0_5 l0_5.length c0_5, .slice (some ad237) l0_6.length c0_6, .slice A0_7 l0_7.length c0_7, .int .i64 a0_8] 26 (0, 0))) := ⟨h0_⟩
       have n1_ : Aside0 (w34.heap[gb243]? = some (.cells #[.int .i64 0, .int .i64 0, .int .i64 0, .int .i64 0, .int .i64 0] 47 (0, 0))) := ⟨h1_⟩
       have n2_ : Aside0 (w.heap.size ≤ gb243) := ⟨h2_⟩
       have n3_ : Aside0 (w.heap.size ≤ gb243) := ⟨h3_⟩
       have n4_ : Aside0 (gb235 ≠ gb243) := ⟨h4_⟩
       have n5_ : Aside0 (gb243 ≠ gb235) := ⟨h5_⟩
       have n6_ : Aside0 (Below w.heap.size w w34) := ⟨h6_⟩
       clear BK235
       clear HB
       clear h0_ h1_ h2_ h3_ h4_ h5_ h6_
       have BK235 := n0_
       have BK243 := n1_
       have GW243 := n2_
       have GE243 := n3_
       have NB235_243 := n4_
       have NB243_235 := n5_
       have HB := n6_
       clear n0_ n1_ n2_ n3_ n4_ n5_ n6_
       have hHeld : w34.cell? ⟨gb235, 0, none⟩ = some (.int .i64 a0_0) ∧ w34.cell? ⟨gb235, 1, none⟩ = some (.int .i64 a0_1) ∧ w34.cell? ⟨gb235, 2, none⟩ = some (.int .i64 a0_2) ∧ w34.cell? ⟨gb235, 3, none⟩ = some (.int .i64 a0_3) ∧ w34.cell? ⟨gb235, 4, none⟩ = some (.int .i64 a0_4) ∧ w34.cell? ⟨gb235, 5, none⟩ = some (.slice A0_5 l0_5.length c0_5) ∧ w34.cell? ⟨gb235, 6, none⟩ = some (.slice (some ad237) l0_6.length c0_6) ∧ w34.cell? ⟨gb235, 7, none⟩ = some (.slice A0_7 l0_7.length c0_7) ∧ w34.cell? ⟨gb235, 8, none⟩ = some (.int .i64 a0_8) ∧ w34.cell? (ad237.add ((a1).toNat * 4)) = some (.int .i64 ((rd_T40 l0_6 a1).f0)) ∧ w34.cell? ⟨(ad237.add ((a1).toNat * 4)).block, (ad237.add ((a1).toNat * 4)).off + 1, none⟩ = some (.int .u32 ((rd_T40 l0_6 a1).f1)) ∧ w34.cell? ⟨(ad237.add ((a1).toNat * 4)).block, (ad237.add ((a1).toNat * 4)).off + 2, none⟩ = some (.int .i64 ((rd_T40 l0_6 a1).f2)) ∧ w34.cell? ⟨(ad237.add ((a1).toNat * 4)).block, (ad237.add ((a1).toNat * 4)).off + 3, none⟩ = some (.int .i64 ((rd_T40 l0_6 a1).f3)) := hS_
       refine norm_ (a' := ?_) ?_ ?_
       rotate_left
       ·simp only [putAll, Act.put, sT, sZ, sS]
        rfl
       refine one_ (i := 8) (N := none) #[true, true, true, true, true, true, true, true, true] rfl rfl (one_of HT_.out (by kernel_rfl)) (by decide) (fun K hK => ?_)
       have hs35 : w34.cell? ⟨gb243, 0, none⟩ = some (.int .i64 0) := (blk_cell BK243.out 0).trans rfl
       have hfs35 := blk_frozen BK243.out 0
       have hns35_0 := NB235_243.out
       have hms35_0 := NB243_235.out
       have hs36 : w34.cell? ⟨gb243, 1, none⟩ = some (.int .i64 0) := (blk_cell BK243.out 1).trans rfl
       have hfs36 := blk_frozen BK243.out 1
       have hns36_0 := NB235_243.out
       have hms36_0 := NB243_235.out
       have hs37 : w34.cell? ⟨gb243, 2, none⟩ = some (.int .i64 0) := (blk_cell BK243.out 2).trans rfl
       have hfs37 := blk_frozen BK243.out 2
       have hns37_0 := NB235_243.out
       have hms37_0 := NB243_235.out
       have hs38 : w34.cell? ⟨gb243, 3, none⟩ = some (.int .i64 0) := (blk_cell BK243.out 3).trans rfl
       have hfs38 := blk_frozen BK243.out 3
       have hns38_0 := NB235_243.out
       have hms38_0 := NB243_235.out
       have hs39 : w34.cell? ⟨gb243, 4, none⟩ = some (.int .i64 0) := (blk_cell BK243.out 4).trans rfl
       have hfs39 := blk_frozen BK243.out 4
       have hns39_0 := NB235_243.out
       have hms39_0 := NB243_235.out
       refine skip_ (w1 := ?_) (by rfl) rfl ?_ ?_
       rotate_left
       ·go_simp
        rfl
       refine hK.out _ _ ⟨(cf NB235_243 hHeld.1), (cf NB235_243 hHeld.2.1), (cf NB235_243 hHeld.2.2.1), (cf NB235_243 hHeld.2.2.2.1), (cf NB235_243 hHeld.2.2.2.2.1), (cf NB235_243 hHeld.2.2.2.2.2.1), (cf NB235_243 hHeld.2.2.2.2.2.2.1), (cf NB235_243 hHeld.2.2.2.2.2.2.2.1), (cf NB235_243 hHeld.2.2.2.2.2.2.2.2.1), (cfa hw237_0 GW243 hHeld.2.2.2.2.2.2.2.2.2.1), (cfa hw237_1 GW243 hHeld.2.2.2.2.2.2.2.2.2.2.1), (cfa hw237_2 GW243 hHeld.2.2.2.2.2.2.2.2.2.2.2.1), (cfa hw237_3 GW243 hHeld.2.2.2.2.2.2.2.2.2.2.2.2)⟩ (fun hHeld => ?_)
       clear hK K
       refine done_ (done_of HT_.out (by kernel_rfl)) ?_
       have hnb40 := NB243_235.out
       have hnc40 := NB235_243.out
       obtain ⟨hcz41_0, hcz41_1, hcz41_2, hcz41_3, hcz41_4, hfz41_0, hfz41_1, hfz41_2, hfz41_3, hfz41_4⟩ := bz5 BK243
       try go_wp2
       go_ret2
       exact ⟨re, bw2 HB GE235 GE243⟩
      ·rw [if_neg c26] at H
       have c26b0 : decide ((wrap64 ((wrap64 ((wrap64 (Int.tdiv a2 a0_1)) * a0_1)) + t239)) < a2) = false := decide_eq_false c26
       clear c26
       simp only [Option.some.injEq, Prod.mk.injEq] at H
       obtain ⟨rfl, rfl⟩ := H
       go_enter Try.func15, Try.ntmps15
       try go_wp2_with (first | ((with_reducible refine gate_dst (N := 3) rfl ?_); refine boxe (N := 3) (cs := #[.int .i64 a0_0, .int .i64 a0_1, .int .i64 a0_2, .int .i64 a0_3, .int .i64 a0_4, .slice A0_5 l0_5.length c0_5, .slice A0_6 l0_6.length c0_6, .slice A0_7 l0_7.length c0_7, .int .i64 a0_8]) (t := 26) ?_; intro gb235 hg w42 hbox hb; have BK235 := Aside0.mk (hbox); have GW235 := bg0 hg HB; have GE235 := GW235; replace HB := bs0 HB hb; clear hb hbox hg; obtain ⟨hcz43_0, hcz43_1, hcz43_2, hcz43_3, hcz43_4, hcz43_5, hcz43_6, hcz43_7, hcz43_8, hfz43_0, hfz43_1, hfz43_2, hfz43_3, hfz43_4, hfz43_5, hfz43_6, hfz43_7, hfz43_8⟩ := bz9 BK235) | ((with_reducible refine gate_callee (f := 33) rfl ?_); refine gol (some 13) Try.func33 #[.agg #[.int .i64 a0_0, .int .i64 a0_1, .int .i64 a0_2, .int .i64 a0_3, .int .i64 a0_4, .slice A0_5 l0_5.length c0_5, .slice A0_6 l0_6.length c0_6, .slice A0_7 l0_7.length c0_7, .int .i64 a0_8], .int .i64 a1, .int .i64 a2] ?_; (with_reducible refine (tocsinref15_Entry.calls k a0_0 a0_1 a0_2 a0_3 a0_4 _ _ l0_5 _ _ l0_6 _ _ l0_7 a0_8 a1 a2 true _ ?side1 ?side2 ?side3 ?side4 ?side5 ?side6 A4.out).mono ?_); (case side1 => exact kC (Kd.C_below HR0_5.out HB.out)); (case side2 => exact HC0_5.out); (case side3 => exact kC (Kd.C_below HR0_6.out HB.out)); (case side4 => exact HC0_6.out); (case side5 => exact kC (Kd.C_below HR0_7.out HB.out)); (case side6 => exact HC0_7.out); rintro e w44 ⟨rfl, hb⟩; refine ⟨_, rfl, ?_⟩; replace BK235 := bb BK235 hb; replace HB := bs1 HB GE235 hb; (try clear hb); (try clear hb2); (try clear hk); (try clear hi)))
       have n0_ := Aside0.mk (blk_drew BK235.out)
       have n1_ := Aside0.mk (below_drew1 HB.out)
       clear BK235
       clear HB
       have BK235 := n0_
       have HB := n1_
       clear n0_ n1_
       refine start_ (n := 8) (S := fun w' => w'.cell? ⟨gb235, 0, none⟩ = some (.int .i64 a0_0) ∧ w'.cell? ⟨gb235, 1, none⟩ = some (.int .i64 a0_1) ∧ w'.cell? ⟨gb235, 2, none⟩ = some (.int .i64 a0_2) ∧ w'.cell? ⟨gb235, 3, none⟩ = some (.int .i64 a0_3) ∧ w'.cell? ⟨gb235, 4, none⟩ = some (.int .i64 a0_4) ∧ w'.cell? ⟨gb235, 5, none⟩ = some (.slice A0_5 l0_5.length c0_5) ∧ w'.cell? ⟨gb235, 6, none⟩ = some (.slice A0_6 l0_6.length c0_6) ∧ w'.cell? ⟨gb235, 7, none⟩ = some (.slice A0_7 l0_7.length c0_7) ∧ w'.cell? ⟨gb235, 8, none⟩ = some (.int .i64 a0_8)) (ds := []) #[false, false, false, false, false, false, false, false] (by kernel_rfl) rfl rfl (by exact bc9 BK235) (fun hHeld => ?_); refine with_tabW tocsinref15_Relay.tab3 tocsinref15_Relay.bits3 (fun HT_ HW_ => ?_)
       generalize w44.drew = w45 at BK235 HB hHeld ⊢
       refine pl 0 15 #[true, false, false, false, false, false, false, false] HT_ ?_
       refine pl 1 16 #[true, true, false, false, false, false, false, false] HT_ ?_
       refine pl 4 19 #[true, true, false, false, true, false, false, false] HT_ ?_
       refine tk9 2 17 #[true, true, true, false, true, false, false, false] HT_ HW_ hHeld ?_
       refine pl 3 18 #[true, true, true, true, true, false, false, false] HT_ ?_
       refine tk9 5 20 #[true, true, true, true, true, true, false, false] HT_ HW_ hHeld ?_
       refine pl 6 21 #[true, true, true, true, true, true, true, false] HT_ ?_
       refine pl 7 8 #[true, true, true, true, true, true, true, true] HT_ ?_
       refine done_ (done_of HT_.out (by kernel_rfl)) ?_
       try go_wp2
       have n0_ := Aside0.mk (blk_drew BK235.out)
       have n1_ := Aside0.mk (below_drew1 HB.out)
       clear BK235
       clear HB
       have BK235 := n0_
       have HB := n1_
       clear n0_ n1_
       have p237 : 0 ≤ (a1 : Int) := of_decide_eq_true (by first | (with_reducible assumption) | assumption)
       have q237 : a1 < (l0_6.length : Int) := of_decide_eq_true (by first | (with_reducible assumption) | assumption)
       obtain ⟨ad237, e237, hx237_0, hx237_1, hx237_2, hx237_3⟩ := at_T40 HR0_6.out a1 p237 q237
       have hw237_3 := hx237_3
       have hw237_2 := hx237_2
       have hw237_1 := hx237_1
       have hw237_0 := hx237_0
       cases e237
       replace hx237_0 := pcb HB hx237_0
       replace hx237_1 := pcb HB hx237_1
       replace hx237_2 := pcb HB hx237_2
       replace hx237_3 := pcb HB hx237_3
       replace p237 := eq_true p237
       replace q237 := eq_true q237
       refine start_ (n := 9) (S := fun w' => w'.cell? ⟨gb235, 0, none⟩ = some (.int .i64 a0_0) ∧ w'.cell? ⟨gb235, 1, none⟩ = some (.int .i64 a0_1) ∧ w'.cell? ⟨gb235, 2, none⟩ = some (.int .i64 a0_2) ∧ w'.cell? ⟨gb235, 3, none⟩ = some (.int .i64 a0_3) ∧ w'.cell? ⟨gb235, 4, none⟩ = some (.int .i64 a0_4) ∧ w'.cell? ⟨gb235, 5, none⟩ = some (.slice A0_5 l0_5.length c0_5) ∧ w'.cell? ⟨gb235, 6, none⟩ = some (.slice (some ad237) l0_6.length c0_6) ∧ w'.cell? ⟨gb235, 7, none⟩ = some (.slice A0_7 l0_7.length c0_7) ∧ w'.cell? ⟨gb235, 8, none⟩ = some (.int .i64 a0_8) ∧ w'.cell? (ad237.add ((a1).toNat * 4)) = some (.int .i64 ((rd_T40 l0_6 a1).f0)) ∧ w'.cell? ⟨(ad237.add ((a1).toNat * 4)).block, (ad237.add ((a1).toNat * 4)).off + 1, none⟩ = some (.int .u32 ((rd_T40 l0_6 a1).f1)) ∧ w'.cell? ⟨(ad237.add ((a1).toNat * 4)).block, (ad237.add ((a1).toNat * 4)).off + 2, none⟩ = some (.int .i64 ((rd_T40 l0_6 a1).f2)) ∧ w'.cell? ⟨(ad237.add ((a1).toNat * 4)).block, (ad237.add ((a1).toNat * 4)).off + 3, none⟩ = some (.int .i64 ((rd_T40 l0_6 a1).f3))) (ds := []) #[false, false, false, false, false, false, false, false, false] (by kernel_rfl) rfl rfl ⟨(blk_cell BK235.out 0).trans rfl, (blk_cell BK235.out 1).trans rfl, (blk_cell BK235.out 2).trans rfl, (blk_cell BK235.out 3).trans rfl, (blk_cell BK235.out 4).trans rfl, (blk_cell BK235.out 5).trans rfl, (blk_cell BK235.out 6).trans rfl, (blk_cell BK235.out 7).trans rfl, (blk_cell BK235.out 8).trans rfl, ((HB.out.cell (World.block_lt_of_cell? w _ hw237_0)).trans hw237_0), ((HB.out.cell (World.block_lt_of_cell? w _ hw237_1)).trans hw237_1), ((HB.out.cell (World.block_lt_of_cell? w _ hw237_2)).trans hw237_2), ((HB.out.cell (World.block_lt_of_cell? w _ hw237_3)).trans hw237_3)⟩ (fun hHeld => ?_); refine with_tabW tocsinref15_Relay.tab4 tocsinref15_Relay.bits4 (fun HT_ HW_ => ?_)
       generalize w45.drew = w46 at BK235 HB hx237_0 hx237_1 hx237_2 hx237_3 hHeld ⊢
       refine pl 1 23 #[false, true, false, false, false, false, false, false, false] HT_ ?_
       refine pl 3 25 #[false, true, false, true, false, false, false, false, false] HT_ ?_
       refine tk13 0 22 #[true, true, false, true, false, false, false, false, false] HT_ HW_ hHeld ?_
       refine tk13 2 24 #[true, true, true, true, false, false, false, false, false] HT_ HW_ hHeld ?_
       refine pl 4 26 #[true, true, true, true, true, false, false, false, false] HT_ ?_
       refine tk13 5 27 #[true, true, true, true, true, true, false, false, false] HT_ HW_ hHeld ?_
       refine join_ (σ := Nat) 1 #[true, true, true, true, true, true, true, true, false] (fun s_ => [(28, .agg #[.int .i64 t238, .int .i64 t239, .int .i64 t240, .int .i64 t241, .int .i64 t242]), (9, .pointer (some ⟨s_, 0, none⟩))]) (fun s_ w' => (w'.cell? ⟨gb235, 0, none⟩ = some (.int .i64 a0_0) ∧ w'.cell? ⟨gb235, 1, none⟩ = some (.int .i64 a0_1) ∧ w'.cell? ⟨gb235, 2, none⟩ = some (.int .i64 a0_2) ∧ w'.cell? ⟨gb235, 3, none⟩ = some (.int .i64 a0_3) ∧ w'.cell? ⟨gb235, 4, none⟩ = some (.int .i64 a0_4) ∧ w'.cell? ⟨gb235, 5, none⟩ = some (.slice A0_5 l0_5.length c0_5) ∧ w'.cell? ⟨gb235, 6, none⟩ = some (.slice (some ad237) l0_6.length c0_6) ∧ w'.cell? ⟨gb235, 7, none⟩ = some (.slice A0_7 l0_7.length c0_7) ∧ w'.cell? ⟨gb235, 8, none⟩ = some (.int .i64 a0_8) ∧ w'.cell? (ad237.add ((a1).toNat * 4)) = some (.int .i64 ((rd_T40 l0_6 a1).f0)) ∧ w'.cell? ⟨(ad237.add ((a1).toNat * 4)).block, (ad237.add ((a1).toNat * 4)).off + 1, none⟩ = some (.int .u32 ((rd_T40 l0_6 a1).f1)) ∧ w'.cell? ⟨(ad237.add ((a1).toNat * 4)).block, (ad237.add ((a1).toNat * 4)).off + 2, none⟩ = some (.int .i64 ((rd_T40 l0_6 a1).f2)) ∧ w'.cell? ⟨(ad237.add ((a1).toNat * 4)).block, (ad237.add ((a1).toNat * 4)).off + 3, none⟩ = some (.int .i64 ((rd_T40 l0_6 a1).f3))) ∧ (w'.heap[gb235]? = some (.cells #[.int .i64 a0_0, .int .i64 a0_1, .int .i64 a0_2, .int .i64 a0_3, .int .i64 a0_4, .slice A0_5 l0_5.length c0_5, .slice (some ad237) l0_6.length c0_6, .slice A0_7 l0_7.length c0_7, .int .i64 a0_8] 26 (0, 0))) ∧ (w'.heap[s_]? = some (.cells #[.int .i64 0, .int .i64 0, .int .i64 0, .int .i64 0, .int .i64 0] 47 (0, 0))) ∧ (w.heap.size ≤ s_) ∧ (w.heap.size ≤ s_) ∧ (gb235 ≠ s_) ∧ (s_ ≠ gb235) ∧ (Below w.heap.size w w')) ?_ ?_
       rotate_left
       ·intro hCont
        refine two_ (i := 6) (j := 7) (Ni := some 28) (Nj := some 9) #[true, true, true, true, true, true, true, false, false] #[true, true, true, true, true, true, false, true, false] rfl rfl rfl rfl (two_of HT_.out (by kernel_rfl)) (by decide) (by decide) (fun K hK => ?_) (fun K hK => ?_)
        ·skip
         refine gor Try.func25 #[.agg #[.int .i64 a0_0, .int .i64 a0_1, .int .i64 a0_2, .int .i64 a0_3, .int .i64 a0_4, .slice A0_5 l0_5.length c0_5, .slice (some ad237) l0_6.length c0_6, .slice A0_7 l0_7.length c0_7, .int .i64 a0_8], .agg #[.int .i64 ((rd_T40 l0_6 a1).f0), .int .u32 ((rd_T40 l0_6 a1).f1), .int .i64 ((rd_T40 l0_6 a1).f2), .int .i64 ((rd_T40 l0_6 a1).f3)]] ?_
         with_reducible refine (tocsinref08_Times.calls a0_0 a0_1 a0_2 a0_3 a0_4 _ _ l0_5 _ _ l0_6 _ _ l0_7 a0_8 ((rd_T40 l0_6 a1).f0) ((rd_T40 l0_6 a1).f1) ((rd_T40 l0_6 a1).f2) ((rd_T40 l0_6 a1).f3) t238 t239 t240 t241 t242 _ ?side1 ?side2 ?side3 ?side4 ?side5 ?side6 A9.out).mono ?_
         (case side1 => exact kC (Kd.C_below HR0_5.out HB.out))
         (case side2 => exact HC0_5.out)
         (case side3 => exact kC (Kd.C_below HR0_6.out HB.out))
         (case side4 => exact HC0_6.out)
         (case side5 => exact kC (Kd.C_below HR0_7.out HB.out))
         (case side6 => exact HC0_7.out)
         rintro e w47 ⟨rfl, hb⟩
         refine ⟨_, rfl, ?_⟩
         have n0_ := bb BK235 hb
         have n1_ := bs1 HB GE235 hb
         clear BK235
         clear HB
         have BK235 := n0_
         have HB := n1_
         clear n0_ n1_
         (try clear hb)
         (try clear hb2)
         (try clear hk)
         (try clear hi)
         refine hK.out _ _ ⟨(blk_cell BK235.out 0).trans rfl, (blk_cell BK235.out 1).trans rfl, (blk_cell BK235.out 2).trans rfl, (blk_cell BK235.out 3).trans rfl, (blk_cell BK235.out 4).trans rfl, (blk_cell BK235.out 5).trans rfl, (blk_cell BK235.out 6).trans rfl, (blk_cell BK235.out 7).trans rfl, (blk_cell BK235.out 8).trans rfl, ((HB.out.cell (World.block_lt_of_cell? w _ hw237_0)).trans hw237_0), ((HB.out.cell (World.block_lt_of_cell? w _ hw237_1)).trans hw237_1), ((HB.out.cell (World.block_lt_of_cell? w _ hw237_2)).trans hw237_2), ((HB.out.cell (World.block_lt_of_cell? w _ hw237_3)).trans hw237_3)⟩ (fun hHeld => ?_)
         clear hK K
         refine norm_ (a' := ?_) ?_ ?_
         rotate_left
         ·show Act.put _ (some 28) _ = _
          simp only [Act.put, sT, sZ, sS, i64_w, i32_w]
          rfl
         refine one_ (i := 7) (N := some 9) #[true, true, true, true, true, true, true, true, false] rfl rfl (one_of HT_.out (by kernel_rfl)) (by decide) (fun K hK => ?_)
         refine box_step ?hg (N := 9) ?hd (cs := #[.int .i64 0, .int .i64 0, .int .i64 0, .int .i64 0, .int .i64 0]) (t := 47) ?hr ?_; (case hd => rfl); (case hg => rfl); (case hr => first | (go_simp; done) | (go_simp; rfl))
         intro gb243 hg w48 hbox hb
         have n0_ := bb BK235 hb
         have n1_ := bs1 HB GE235 hb
         have n2_ := Aside0.mk (hbox)
         have n3_ := bg1 hg HB GE235
         have n4_ := bg1 hg HB GE235
         have n5_ := nl hg BK235
         have n6_ := ng hg BK235
         clear BK235
         clear HB
         have BK235 := n0_
         have HB := n1_
         have BK243 := n2_
         have GW243 := n3_
         have GE243 := n4_
         have NB235_243 := n5_
         have NB243_235 := n6_
         clear n0_ n1_ n2_ n3_ n4_ n5_ n6_
         clear hb hbox hg
         refine hK.out _ _ ⟨(blk_cell BK235.out 0).trans rfl, (blk_cell BK235.out 1).trans rfl, (blk_cell BK235.out 2).trans rfl, (blk_cell BK235.out 3).trans rfl, (blk_cell BK235.out 4).trans rfl, (blk_cell BK235.out 5).trans rfl, (blk_cell BK235.out 6).trans rfl, (blk_cell BK235.out 7).trans rfl, (blk_cell BK235.out 8).trans rfl, ((HB.out.cell (World.block_lt_of_cell? w _ hw237_0)).trans hw237_0), ((HB.out.cell (World.block_lt_of_cell? w _ hw237_1)).trans hw237_1), ((HB.out.cell (World.block_lt_of_cell? w _ hw237_2)).trans hw237_2), ((HB.out.cell (World.block_lt_of_cell? w _ hw237_3)).trans hw237_3)⟩ (fun hHeld => ?_)
         clear hK K
         refine norm_ (a' := ?_) ?_ ?_
         rotate_left
         ·show Act.put _ (some 9) _ = _
          simp only [Act.put, sT, sZ, sS, i64_w, i32_w]
          rfl
         exact norm_ (by simp only [putAll, Act.put, sT, sZ, sS]) (hCont (gb243) _ ⟨hHeld, (bk BK235), (bk BK243), GW243.out, GE243.out, NB235_243.out, NB243_235.out, (bw2 HB GE235 GE243)⟩)
        ·skip
         refine box_step ?hg (N := 9) ?hd (cs := #[.int .i64 0, .int .i64 0, .int .i64 0, .int .i64 0, .int .i64 0]) (t := 47) ?hr ?_; (case hd => rfl); (case hg => rfl); (case hr => first | (go_simp; done) | (go_simp; rfl))
         intro gb243 hg w47 hbox hb
         have n0_ := bb BK235 hb
         have n1_ := bs1 HB GE235 hb
         have n2_ := Aside0.mk (hbox)
         have n3_ := bg1 hg HB GE235
         have n4_ := bg1 hg HB GE235
         have n5_ := nl hg BK235
         have n6_ := ng hg BK235
         clear BK235
         clear HB
         have BK235 := n0_
         have HB := n1_
         have BK243 := n2_
         have GW243 := n3_
         have GE243 := n4_
         have NB235_243 := n5_
         have NB243_235 := n6_
         clear n0_ n1_ n2_ n3_ n4_ n5_ n6_
         clear hb hbox hg
         refine hK.out _ _ ⟨(blk_cell BK235.out 0).trans rfl, (blk_cell BK235.out 1).trans rfl, (blk_cell BK235.out 2).trans rfl, (blk_cell BK235.out 3).trans rfl, (blk_cell BK235.out 4).trans rfl, (blk_cell BK235.out 5).trans rfl, (blk_cell BK235.out 6).trans rfl, (blk_cell BK235.out 7).trans rfl, (blk_cell BK235.out 8).trans rfl, ((HB.out.cell (World.block_lt_of_cell? w _ hw237_0)).trans hw237_0), ((HB.out.cell (World.block_lt_of_cell? w _ hw237_1)).trans hw237_1), ((HB.out.cell (World.block_lt_of_cell? w _ hw237_2)).trans hw237_2), ((HB.out.cell (World.block_lt_of_cell? w _ hw237_3)).trans hw237_3)⟩ (fun hHeld => ?_)
         clear hK K
         refine norm_ (a' := ?_) ?_ ?_
         rotate_left
         ·show Act.put _ (some 9) _ = _
          simp only [Act.put, sT, sZ, sS, i64_w, i32_w]
          rfl
         refine one_ (i := 6) (N := some 28) #[true, true, true, true, true, true, true, true, false] rfl rfl (one_of HT_.out (by kernel_rfl)) (by decide) (fun K hK => ?_)
         refine gor Try.func25 #[.agg #[.int .i64 a0_0, .int .i64 a0_1, .int .i64 a0_2, .int .i64 a0_3, .int .i64 a0_4, .slice A0_5 l0_5.length c0_5, .slice (some ad237) l0_6.length c0_6, .slice A0_7 l0_7.length c0_7, .int .i64 a0_8], .agg #[.int .i64 ((rd_T40 l0_6 a1).f0), .int .u32 ((rd_T40 l0_6 a1).f1), .int .i64 ((rd_T40 l0_6 a1).f2), .int .i64 ((rd_T40 l0_6 a1).f3)]] ?_
         with_reducible refine (tocsinref08_Times.calls a0_0 a0_1 a0_2 a0_3 a0_4 _ _ l0_5 _ _ l0_6 _ _ l0_7 a0_8 ((rd_T40 l0_6 a1).f0) ((rd_T40 l0_6 a1).f1) ((rd_T40 l0_6 a1).f2) ((rd_T40 l0_6 a1).f3) t238 t239 t240 t241 t242 _ ?side1 ?side2 ?side3 ?side4 ?side5 ?side6 A9.out).mono ?_
         (case side1 => exact kC (Kd.C_below HR0_5.out HB.out))
         (case side2 => exact HC0_5.out)
         (case side3 => exact kC (Kd.C_below HR0_6.out HB.out))
         (case side4 => exact HC0_6.out)
         (case side5 => exact kC (Kd.C_below HR0_7.out HB.out))
         (case side6 => exact HC0_7.out)
         rintro e w48 ⟨rfl, hb⟩
         refine ⟨_, rfl, ?_⟩
         have n0_ := bb BK235 hb
         have n1_ := bb BK243 hb
         have n2_ := bs2 HB GE235 GE243 hb
         clear BK235
         clear BK243
         clear HB
         have BK235 := n0_
         have BK243 := n1_
         have HB := n2_
         clear n0_ n1_ n2_
         (try clear hb)
         (try clear hb2)
         (try clear hk)
         (try clear hi)
         refine hK.out _ _ ⟨(blk_cell BK235.out 0).trans rfl, (blk_cell BK235.out 1).trans rfl, (blk_cell BK235.out 2).trans rfl, (blk_cell BK235.out 3).trans rfl, (blk_cell BK235.out 4).trans rfl, (blk_cell BK235.out 5).trans rfl, (blk_cell BK235.out 6).trans rfl, (blk_cell BK235.out 7).trans rfl, (blk_cell BK235.out 8).trans rfl, ((HB.out.cell (World.block_lt_of_cell? w _ hw237_0)).trans hw237_0), ((HB.out.cell (World.block_lt_of_cell? w _ hw237_1)).trans hw237_1), ((HB.out.cell (World.block_lt_of_cell? w _ hw237_2)).trans hw237_2), ((HB.out.cell (World.block_lt_of_cell? w _ hw237_3)).trans hw237_3)⟩ (fun hHeld => ?_)
         clear hK K
         refine norm_ (a' := ?_) ?_ ?_
         rotate_left
         ·show Act.put _ (some 28) _ = _
          simp only [Act.put, sT, sZ, sS, i64_w, i32_w]
          rfl
         exact norm_ (by simp only [putAll, Act.put, sT, sZ, sS]) (hCont (gb243) _ ⟨hHeld, (bk BK235), (bk BK243), GW243.out, GE243.out, NB235_243.out, NB243_235.out, (bw2 HB GE235 GE243)⟩)
       rintro gb243 w49 ⟨hS_, h0_, h1_, h2_, h3_, h4_, h5_, h6_⟩
       have n0_ : Aside0 (w49.heap[gb235]? = some (.cells #[.int .i64 a0_0, .int .i64 a0_1, .int .i64 a0_2, .int .i64 a0_3, .int .i64 a0_4, .slice A0_5 l0_5.length c0_5, .slice (some ad237) l0_6.length c0_6, .slice A0_7 l0_7.length c0_7, .int .i64 a0_8] 26 (0, 0))) := ⟨h0_⟩
       have n1_ : Aside0 (w49.heap[gb243]? = some (.cells #[.int .i64 0, .int .i64 0, .int .i64 0, .int .i64 0, .int .i64 0] 47 (0, 0))) := ⟨h1_⟩
       have n2_ : Aside0 (w.heap.size ≤ gb243) := ⟨h2_⟩
       have n3_ : Aside0 (w.heap.size ≤ gb243) := ⟨h3_⟩
       have n4_ : Aside0 (gb235 ≠ gb243) := ⟨h4_⟩
       have n5_ : Aside0 (gb243 ≠ gb235) := ⟨h5_⟩
       have n6_ : Aside0 (Below w.heap.size w w49) := ⟨h6_⟩
       clear BK235
       clear HB
       clear h0_ h1_ h2_ h3_ h4_ h5_ h6_
       have BK235 := n0_
       have BK243 := n1_
       have GW243 := n2_
       have GE243 := n3_
       have NB235_243 := n4_
       have NB243_235 := n5_
       have HB := n6_
       clear n0_ n1_ n2_ n3_ n4_ n5_ n6_
       have hHeld : w49.cell? ⟨gb235, 0, none⟩ = some (.int .i64 a0_0) ∧ w49.cell? ⟨gb235, 1, none⟩ = some (.int .i64 a0_1) ∧ w49.cell? ⟨gb235, 2, none⟩ = some (.int .i64 a0_2) ∧ w49.cell? ⟨gb235, 3, none⟩ = some (.int .i64 a0_3) ∧ w49.cell? ⟨gb235, 4, none⟩ = some (.int .i64 a0_4) ∧ w49.cell? ⟨gb235, 5, none⟩ = some (.slice A0_5 l0_5.length c0_5) ∧ w49.cell? ⟨gb235, 6, none⟩ = some (.slice (some ad237) l0_6.length c0_6) ∧ w49.cell? ⟨gb235, 7, none⟩ = some (.slice A0_7 l0_7.length c0_7) ∧ w49.cell? ⟨gb235, 8, none⟩ = some (.int .i64 a0_8) ∧ w49.cell? (ad237.add ((a1).toNat * 4)) = some (.int .i64 ((rd_T40 l0_6 a1).f0)) ∧ w49.cell? ⟨(ad237.add ((a1).toNat * 4)).block, (ad237.add ((a1).toNat * 4)).off + 1, none⟩ = some (.int .u32 ((rd_T40 l0_6 a1).f1)) ∧ w49.cell? ⟨(ad237.add ((a1).toNat * 4)).block, (ad237.add ((a1).toNat * 4)).off + 2, none⟩ = some (.int .i64 ((rd_T40 l0_6 a1).f2)) ∧ w49.cell? ⟨(ad237.add ((a1).toNat * 4)).block, (ad237.add ((a1).toNat * 4)).off + 3, none⟩ = some (.int .i64 ((rd_T40 l0_6 a1).f3)) := hS_
       refine norm_ (a' := ?_) ?_ ?_
       rotate_left
       ·simp only [putAll, Act.put, sT, sZ, sS]
        rfl
       refine one_ (i := 8) (N := none) #[true, true, true, true, true, true, true, true, true] rfl rfl (one_of HT_.out (by kernel_rfl)) (by decide) (fun K hK => ?_)
       have hs50 : w49.cell? ⟨gb243, 0, none⟩ = some (.int .i64 0) := (blk_cell BK243.out 0).trans rfl
       have hfs50 := blk_frozen BK243.out 0
       have hns50_0 := NB235_243.out
       have hms50_0 := NB243_235.out
       have hs51 : w49.cell? ⟨gb243, 1, none⟩ = some (.int .i64 0) := (blk_cell BK243.out 1).trans rfl
       have hfs51 := blk_frozen BK243.out 1
       have hns51_0 := NB235_243.out
       have hms51_0 := NB243_235.out
       have hs52 : w49.cell? ⟨gb243, 2, none⟩ = some (.int .i64 0) := (blk_cell BK243.out 2).trans rfl
       have hfs52 := blk_frozen BK243.out 2
       have hns52_0 := NB235_243.out
       have hms52_0 := NB243_235.out
       have hs53 : w49.cell? ⟨gb243, 3, none⟩ = some (.int .i64 0) := (blk_cell BK243.out 3).trans rfl
       have hfs53 := blk_frozen BK243.out 3
       have hns53_0 := NB235_243.out
       have hms53_0 := NB243_235.out
       have hs54 : w49.cell? ⟨gb243, 4, none⟩ = some (.int .i64 0) := (blk_cell BK243.out 4).trans rfl
       have hfs54 := blk_frozen BK243.out 4
       have hns54_0 := NB235_243.out
       have hms54_0 := NB243_235.out
       refine skip_ (w1 := ?_) (by rfl) rfl ?_ ?_
       rotate_left
       ·go_simp
        rfl
       refine hK.out _ _ ⟨(cf NB235_243 hHeld.1), (cf NB235_243 hHeld.2.1), (cf NB235_243 hHeld.2.2.1), (cf NB235_243 hHeld.2.2.2.1), (cf NB235_243 hHeld.2.2.2.2.1), (cf NB235_243 hHeld.2.2.2.2.2.1), (cf NB235_243 hHeld.2.2.2.2.2.2.1), (cf NB235_243 hHeld.2.2.2.2.2.2.2.1), (cf NB235_243 hHeld.2.2.2.2.2.2.2.2.1), (cfa hw237_0 GW243 hHeld.2.2.2.2.2.2.2.2.2.1), (cfa hw237_1 GW243 hHeld.2.2.2.2.2.2.2.2.2.2.1), (cfa hw237_2 GW243 hHeld.2.2.2.2.2.2.2.2.2.2.2.1), (cfa hw237_3 GW243 hHeld.2.2.2.2.2.2.2.2.2.2.2.2)⟩ (fun hHeld => ?_)
       clear hK K
       refine done_ (done_of HT_.out (by kernel_rfl)) ?_
       have hnb55 := NB243_235.out
       have hnc55 := NB235_243.out
       obtain ⟨hcz56_0, hcz56_1, hcz56_2, hcz56_3, hcz56_4, hfz56_0, hfz56_1, hfz56_2, hfz56_3, hfz56_4⟩ := bz5 BK243
       try go_wp2
       go_ret2
       exact ⟨re, bw2 HB GE235 GE243⟩
    ·rw [if_neg c8] at H
     exact absurd H (by simp)
   ·rw [if_neg c7] at H
    exact absurd H (by simp)
 ·replace c5 := Bool.eq_false_iff.mpr c5
  subst c5
  have H1 : (some (0, false)) = some (r1, r2) := by rw [if_neg (show ¬ (false = true) by decide)] at H; exact H
  clear H
  have H := H1
  clear H1
  simp only [Option.some.injEq, Prod.mk.injEq] at H
  obtain ⟨rfl, rfl⟩ := H
  go_enter Try.func15, Try.ntmps15
  go_wp2_with (first | ((with_reducible refine gate_dst (N := 3) rfl ?_); refine boxe (N := 3) (cs := #[.int .i64 a0_0, .int .i64 a0_1, .int .i64 a0_2, .int .i64 a0_3, .int .i64 a0_4, .slice A0_5 l0_5.length c0_5, .slice A0_6 l0_6.length c0_6, .slice A0_7 l0_7.length c0_7, .int .i64 a0_8]) (t := 26) ?_; intro gb235 hg w57 hbox hb; have BK235 := Aside0.mk (hbox); have GW235 := bg0 hg HB; have GE235 := GW235; replace HB := bs0 HB hb; clear hb hbox hg; obtain ⟨hcz58_0, hcz58_1, hcz58_2, hcz58_3, hcz58_4, hcz58_5, hcz58_6, hcz58_7, hcz58_8, hfz58_0, hfz58_1, hfz58_2, hfz58_3, hfz58_4, hfz58_5, hfz58_6, hfz58_7, hfz58_8⟩ := bz9 BK235) | ((with_reducible refine gate_callee (f := 33) rfl ?_); refine gol (some 13) Try.func33 #[.agg #[.int .i64 a0_0, .int .i64 a0_1, .int .i64 a0_2, .int .i64 a0_3, .int .i64 a0_4, .slice A0_5 l0_5.length c0_5, .slice A0_6 l0_6.length c0_6, .slice A0_7 l0_7.length c0_7, .int .i64 a0_8], .int .i64 a1, .int .i64 a2] ?_; (with_reducible refine (tocsinref15_Entry.calls k a0_0 a0_1 a0_2 a0_3 a0_4 _ _ l0_5 _ _ l0_6 _ _ l0_7 a0_8 a1 a2 false _ ?side1 ?side2 ?side3 ?side4 ?side5 ?side6 A4.out).mono ?_); (case side1 => exact kC (Kd.C_below HR0_5.out HB.out)); (case side2 => exact HC0_5.out); (case side3 => exact kC (Kd.C_below HR0_6.out HB.out)); (case side4 => exact HC0_6.out); (case side5 => exact kC (Kd.C_below HR0_7.out HB.out)); (case side6 => exact HC0_7.out); rintro e w59 ⟨rfl, hb⟩; refine ⟨_, rfl, ?_⟩; replace BK235 := bb BK235 hb; replace HB := bs1 HB GE235 hb; (try clear hb); (try clear hb2); (try clear hk); (try clear hi)))
  go_ret2
  exact ⟨re, bw1 HB GE235⟩
end Go.Proofs.Ytbmldeikjfecfaa.T
