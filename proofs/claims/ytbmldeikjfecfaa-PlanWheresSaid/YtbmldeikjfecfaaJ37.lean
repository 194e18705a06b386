/- A part of the proof of the statement PlanWheres: words, contracts of functions that it reaches, and what they compute. No condition. -/
import Derived.Test.YtbmldeikjfecfaaJ01
import Derived.Test.YtbmldeikjfecfaaJ04
import Derived.Test.YtbmldeikjfecfaaJ12
import Derived.Test.YtbmldeikjfecfaaJ35
set_option linter.unusedVariables false
set_option linter.unusedSimpArgs false
namespace Go.Proofs.Ytbmldeikjfecfaa.T
open Go.RowKit Go.Proofs.YtbmldeikjfecfaaW.PrintWords Go.Proofs.YtbmldeikjfecfaaW.PrintLast Go.Proofs.YtbmldeikjfecfaaW.PrintMore
attribute [local go_sem] max2_int min2_int max_two min_two max_three min_three max_four min_four
attribute [local go_sem] at34_0 at34_1 at34_2 at42_0 at42_1 at42_2 at42_3 at47_0 at47_1 at47_2 at47_3 at47_4
def tocsinref15_Land.f (k : Nat) (a0_0 : Int) (a0_1 : Int) (a0_2 : Int) (a0_3 : Int) (a0_4 : Int) (l0_5 : List (List Int)) (l0_6 : List (S40)) (l0_7 : List (S63)) (a0_8 : Int) (a1 : Int) (a2 : Int) : Option (Int × Bool) := (tocsinref15_Entry.f k a0_0 a0_1 a0_2 a0_3 a0_4 l0_5 l0_6 l0_7 a0_8 a1 a2).bind fun t245 => (if t245 = true then (if a0_1 = 0 then (none) else (if 0 ≤ a1 then (if a1 < (l0_6.length : Int) then ((tocsinref08_Times.f a0_0 a0_1 a0_2 a0_3 a0_4 l0_5 l0_6 l0_7 a0_8 ((rd_T40 l0_6 a1).f0) ((rd_T40 l0_6 a1).f1) ((rd_T40 l0_6 a1).f2) ((rd_T40 l0_6 a1).f3)).bind fun bt247 => (if a2 < (wrap64 ((wrap64 ((wrap64 (Int.tdiv a2 a0_1)) * a0_1)) + bt247.2.2.2.1)) then (some (0, false)) else (if a2 > (wrap64 ((wrap64 ((wrap64 (Int.tdiv a2 a0_1)) * a0_1)) + bt247.2.2.2.2)) then (some (0, false)) else (some (wrap64 (Int.tdiv a2 a0_1), true))))) else (none)) else (none))) else (some (0, false)))
theorem tocsinref15_Land.mono : ∀ a0 a1 a2 a3 a4 a5 a6 a7 a8 a9 a10 k, LeO (tocsinref15_Land.f k a0 a1 a2 a3 a4 a5 a6 a7 a8 a9 a10) (tocsinref15_Land.f (k + 1) a0 a1 a2 a3 a4 a5 a6 a7 a8 a9 a10) := by
 intro a0 a1 a2 a3 a4 a5 a6 a7 a8 a9 a10 k
 unfold tocsinref15_Land.f
 repeat' first
   | (with_reducible exact tocsinref15_Entry.mono _ _ _ _ _ _ _ _ _ _ _ _)
   | (with_reducible exact LeO.refl _)
   | (with_reducible exact LeO.none _)
   | (with_reducible refine LeO.ite ?_ ?_)
   | (with_reducible refine LeO.bind ?_ (fun _ => ?_))
   | exact tocsinref15_Entry.mono _ _ _ _ _ _ _ _ _ _ _ _
   | exact LeO.none _
   | refine LeO.ite ?_ ?_
   | refine LeO.bind ?_ (fun _ => ?_)
def tocsinref15_Land.T4 : Bool × List (List Nat × List Nat) := (true, [([], []), ([], []), ([1], [1]), ([], []), ([2, 3], [2, 3]), ([4], [4]), ([0, 5], [0, 5]), ([], []), ([7, 6, 6, 0, 1, 2, 3, 4, 5, 6, 7], [6, 7])])
def tocsinref15_Land.B4 : List Nat := [0, 0, 2, 0, 14, 30, 63, 0, 255]
theorem tocsinref15_Land.tab4 : rtab .any (opsOf Try.f16 4) = tocsinref15_Land.T4 := by kernel_rfl
theorem tocsinref15_Land.bits4 : waitsOk tocsinref15_Land.T4.2 tocsinref15_Land.B4 = true := by kernel_rfl
set_option maxHeartbeats 8000000 in
set_option maxRecDepth 100000 in
theorem tocsinref15_Land.calls (k : Nat) (a0_0 : Int) (a0_1 : Int) (a0_2 : Int) (a0_3 : Int) (a0_4 : Int) (A0_5 : Option Addr) (c0_5 : Nat) (l0_5 : List (List Int)) (A0_6 : Option Addr) (c0_6 : Nat) (l0_6 : List (S40)) (A0_7 : Option Addr) (c0_7 : Nat) (l0_7 : List (S63)) (a0_8 : Int) (a1 : Int) (a2 : Int) (r1 : Int) (r2 : Bool) (w : World) (hr0_5 : Kd.C (Kd.slice 2 (Kd.int .i64)) w A0_5 l0_5.length l0_5) (hc0_5 : l0_5.length ≤ c0_5) (hr0_6 : Kd.C k40 w A0_6 l0_6.length l0_6) (hc0_6 : l0_6.length ≤ c0_6) (hr0_7 : Kd.C k63 w A0_7 l0_7.length l0_7) (hc0_7 : l0_7.length ≤ c0_7) (h : tocsinref15_Land.f k a0_0 a0_1 a0_2 a0_3 a0_4 l0_5 l0_6 l0_7 a0_8 a1 a2 = some (r1, r2)) :
  Calls Try.prog 16 #[.agg #[.int .i64 a0_0, .int .i64 a0_1, .int .i64 a0_2, .int .i64 a0_3, .int .i64 a0_4, .slice A0_5 l0_5.length c0_5, .slice A0_6 l0_6.length c0_6, .slice A0_7 l0_7.length c0_7, .int .i64 a0_8], .int .i64 a1, .int .i64 a2] w fun e w' => e = .returned (.tuple #[.int .i64 r1, .bool r2]) ∧ Below w.heap.size w w' := by
 have hu26 := Try.underlying26
 have hu40 := Try.underlying40
 have hu47 := Try.underlying47
 have HR0_5 := Aside0.mk hr0_5
 have HC0_5 := Aside0.mk hc0_5
 clear hr0_5 hc0_5
 have HR0_6 := Aside0.mk hr0_6
 have HC0_6 := Aside0.mk hc0_6
 clear hr0_6 hc0_6
 have HR0_7 := Aside0.mk hr0_7
 have HC0_7 := Aside0.mk hc0_7
 clear hr0_7 hc0_7
 have HB := Aside0.mk (Below.refl w.heap.size w)
 have H : ((tocsinref15_Entry.f k a0_0 a0_1 a0_2 a0_3 a0_4 l0_5 l0_6 l0_7 a0_8 a1 a2).bind fun t245 => (if t245 = true then (if a0_1 = 0 then (none) else (if 0 ≤ a1 then (if a1 < (l0_6.length : Int) then ((tocsinref08_Times.f a0_0 a0_1 a0_2 a0_3 a0_4 l0_5 l0_6 l0_7 a0_8 ((rd_T40 l0_6 a1).f0) ((rd_T40 l0_6 a1).f1) ((rd_T40 l0_6 a1).f2) ((rd_T40 l0_6 a1).f3)).bind fun bt247 => (if a2 < (wrap64 ((wrap64 ((wrap64 (Int.tdiv a2 a0_1)) * a0_1)) + bt247.2.2.2.1)) then (some (0, false)) else (if a2 > (wrap64 ((wrap64 ((wrap64 (Int.tdiv a2 a0_1)) * a0_1)) + bt247.2.2.2.2)) then (some (0, false)) else (some (wrap64 (Int.tdiv a2 a0_1), true))))) else (none)) else (none))) else (some (0, false)))) = some (r1, r2) := h
 clear h
 replace H := Option.bind_eq_some_iff.mp H
 obtain ⟨t245, A40, H⟩ := H
 replace H : (if t245 = true then (if a0_1 = 0 then (none) else (if 0 ≤ a1 then (if a1 < (l0_6.length : Int) then ((tocsinref08_Times.f a0_0 a0_1 a0_2 a0_3 a0_4 l0_5 l0_6 l0_7 a0_8 ((rd_T40 l0_6 a1).f0) ((rd_T40 l0_6 a1).f1) ((rd_T40 l0_6 a1).f2) ((rd_T40 l0_6 a1).f3)).bind fun bt247 => (if a2 < (wrap64 ((wrap64 ((wrap64 (Int.tdiv a2 a0_1)) * a0_1)) + bt247.2.2.2.1)) then (some (0, false)) else (if a2 > (wrap64 ((wrap64 ((wrap64 (Int.tdiv a2 a0_1)) * a0_1)) + bt247.2.2.2.2)) then (some (0, false)) else (some (wrap64 (Int.tdiv a2 a0_1), true))))) else (none)) else (none))) else (some (0, false))) = some (r1, r2) := H
 have A4 := Aside0.mk A40
 clear A40
 by_cases c5 : t245 = true
 ·subst c5
  have H1 : (if a0_1 = 0 then (none) else (if 0 ≤ a1 then (if a1 < (l0_6.length : Int) then ((tocsinref08_Times.f a0_0 a0_1 a0_2 a0_3 a0_4 l0_5 l0_6 l0_7 a0_8 ((rd_T40 l0_6 a1).f0) ((rd_T40 l0_6 a1).f1) ((rd_T40 l0_6 a1).f2) ((rd_T40 l0_6 a1).f3)).bind fun bt247 => (if a2 < (wrap64 ((wrap64 ((wrap64 (Int.tdiv a2 a0_1)) * a0_1)) + bt247.2.2.2.1)) then (some (0, false)) else (if a2 > (wrap64 ((wrap64 ((wrap64 (Int.tdiv a2 a0_1)) * a0_1)) + bt247.2.2.2.2)) then (some (0, false)) else (some (wrap64 (Int.tdiv a2 a0_1), true))))) else (none)) else (none))) = some (r1, r2) := by rw [if_pos rfl] at H; exact H
  clear H
  have H := H1
  clear H1
  by_cases c6 : a0_1 = 0
  ·rw [if_pos c6] at H
   exact absurd H (by simp)
  ·rw [if_neg c6] at H
   have c6b0 : (a0_1 == 0) = false := beq_eq_false_iff_ne.mpr c6
   have c6b1 : (a0_1 != 0) = true := bne_iff_ne.mpr c6
   by_cases c7 : 0 ≤ a1
   ·rw [if_pos c7] at H
    have c7b0 : decide (0 ≤ a1) = true := decide_eq_true c7
    clear c7
    by_cases c8 : a1 < (l0_6.length : Int)
    ·rw [if_pos c8] at H
     have c8b0 : decide (a1 < (l0_6.length : Int)) = true := decide_eq_true c8
     clear c8
     replace H := Option.bind_eq_some_iff.mp H
     obtain ⟨⟨t247, t248, t249, t250, t251⟩, A90, H⟩ := H
     replace H : (if a2 < (wrap64 ((wrap64 ((wrap64 (Int.tdiv a2 a0_1)) * a0_1)) + t250)) then (some (0, false)) else (if a2 > (wrap64 ((wrap64 ((wrap64 (Int.tdiv a2 a0_1)) * a0_1)) + t251)) then (some (0, false)) else (some (wrap64 (Int.tdiv a2 a0_1), true)))) = some (r1, r2) := H
     have A9 := Aside0.mk A90
     clear A90
     by_cases c10 : a2 < (wrap64 ((wrap64 ((wrap64 (Int.tdiv a2 a0_1)) * a0_1)) + t250))
     ·rw [if_pos c10] at H
      have c10b0 : decide (a2 < (wrap64 ((wrap64 ((wrap64 (Int.tdiv a2 a0_1)) * a0_1)) + t250))) = true := decide_eq_true c10
      clear c10
      simp only [Option.some.injEq, Prod.mk.injEq] at H
      obtain ⟨rfl, rfl⟩ := H
      go_enter Try.func16, Try.ntmps16
      try go_wp2_with (first | ((with_reducible refine gate_dst (N := 3) rfl ?_); refine boxe (N := 3) (cs := #[.int .i64 a0_0, .int .i64 a0_1, .int .i64 a0_2, .int .i64 a0_3, .int .i64 a0_4, .slice A0_5 l0_5.length c0_5, .slice A0_6 l0_6.length c0_6, .slice A0_7 l0_7.length c0_7, .int .i64 a0_8]) (t := 26) ?_; intro gb244 hg w11 hbox hb; have BK244 := Aside0.mk (hbox); have GW244 := bg0 hg HB; have GE244 := GW244; replace HB := bs0 HB hb; clear hb hbox hg; obtain ⟨hcz12_0, hcz12_1, hcz12_2, hcz12_3, hcz12_4, hcz12_5, hcz12_6, hcz12_7, hcz12_8, hfz12_0, hfz12_1, hfz12_2, hfz12_3, hfz12_4, hfz12_5, hfz12_6, hfz12_7, hfz12_8⟩ := bz9 BK244) | ((with_reducible refine gate_callee (f := 33) rfl ?_); refine gol (some 13) Try.func33 #[.agg #[.int .i64 a0_0, .int .i64 a0_1, .int .i64 a0_2, .int .i64 a0_3, .int .i64 a0_4, .slice A0_5 l0_5.length c0_5, .slice A0_6 l0_6.length c0_6, .slice A0_7 l0_7.length c0_7, .int .i64 a0_8], .int .i64 a1, .int .i64 a2] ?_; (with_reducible refine (tocsinref15_Entry.calls k a0_0 a0_1 a0_2 a0_3 a0_4 _ _ l0_5 _ _ l0_6 _ _ l0_7 a0_8 a1 a2 true _ ?side1 ?side2 ?side3 ?side4 ?side5 ?side6 A4.out).mono ?_); (case side1 => exact kC (Kd.C_below HR0_5.out HB.out)); (case side2 => exact HC0_5.out); (case side3 => exact kC (Kd.C_below HR0_6.out HB.out)); (case side4 => exact HC0_6.out); (case side5 => exact kC (Kd.C_below HR0_7.out HB.out)); (case side6 => exact HC0_7.out); rintro e w13 ⟨rfl, hb⟩; refine ⟨_, rfl, ?_⟩; replace BK244 := bb BK244 hb; replace HB := bs1 HB GE244 hb; (try clear hb); (try clear hb2); (try clear hk); (try clear hi); obtain ⟨hcz14_0, hcz14_1, hcz14_2, hcz14_3, hcz14_4, hcz14_5, hcz14_6, hcz14_7, hcz14_8, hfz14_0, hfz14_1, hfz14_2, hfz14_3, hfz14_4, hfz14_5, hfz14_6, hfz14_7, hfz14_8⟩ := bz9 BK244))
      have n0_ := Aside0.mk (blk_drew BK244.out)
      have n1_ := Aside0.mk (below_drew1 HB.out)
      clear BK244
      clear HB
      have BK244 := n0_
      have HB := n1_
      clear n0_ n1_
      have p246 : 0 ≤ (a1 : Int) := of_decide_eq_true (by first | (with_reducible assumption) | assumption)
      have q246 : a1 < (l0_6.length : Int) := of_decide_eq_true (by first | (with_reducible assumption) | assumption)
      obtain ⟨ad246, e246, hx246_0, hx246_1, hx246_2, hx246_3⟩ := at_T40 HR0_6.out a1 p246 q246
      have hw246_3 := hx246_3
      have hw246_2 := hx246_2
      have hw246_1 := hx246_1
      have hw246_0 := hx246_0
      cases e246
      replace hx246_0 := pcb HB hx246_0
      replace hx246_1 := pcb HB hx246_1
      replace hx246_2 := pcb HB hx246_2
      replace hx246_3 := pcb HB hx246_3
      replace p246 := eq_true p246
      replace q246 := eq_true q246
      refine start_ (n := 9) (S := fun w' => w'.cell? ⟨gb244, 0, none⟩ = some (.int .i64 a0_0) ∧ w'.cell? ⟨gb244, 1, none⟩ = some (.int .i64 a0_1) ∧ w'.cell? ⟨gb244, 2, none⟩ = some (.int .i64 a0_2) ∧ w'.cell? ⟨gb244, 3, none⟩ = some (.int .i64 a0_3) ∧ w'.cell? ⟨gb244, 4, none⟩ = some (.int .i64 a0_4) ∧ w'.cell? ⟨gb244, 5, none⟩ = some (.slice A0_5 l0_5.length c0_5) ∧ w'.cell? ⟨gb244, 6, none⟩ = some (.slice (some ad246) l0_6.length c0_6) ∧ w'.cell? ⟨gb244, 7, none⟩ = some (.slice A0_7 l0_7.length c0_7) ∧ w'.cell? ⟨gb244, 8, none⟩ = some (.int .i64 a0_8) ∧ w'.cell? (ad246.add ((a1).toNat * 4)) = some (.int .i64 ((rd_T40 l0_6 a1).f0)) ∧ w'.cell? ⟨(ad246.add ((a1).toNat * 4)).block, (ad246.add ((a1).toNat * 4)).off + 1, none⟩ = some (.int .u32 ((rd_T40 l0_6 a1).f1)) ∧ w'.cell? ⟨(ad246.add ((a1).toNat * 4)).block, (ad246.add ((a1).toNat * 4)).off + 2, none⟩ = some (.int .i64 ((rd_T40 l0_6 a1).f2)) ∧ w'.cell? ⟨(ad246.add ((a1).toNat * 4)).block, (ad246.add ((a1).toNat * 4)).off + 3, none⟩ = some (.int .i64 ((rd_T40 l0_6 a1).f3))) (ds := []) #[false, false, false, false, false, false, false, false, false] (by kernel_rfl) rfl rfl ⟨(blk_cell BK244.out 0).trans rfl, (blk_cell BK244.out 1).trans rfl, (blk_cell BK244.out 2).trans rfl, (blk_cell BK244.out 3).trans rfl, (blk_cell BK244.out 4).trans rfl, (blk_cell BK244.out 5).trans rfl, (blk_cell BK244.out 6).trans rfl, (blk_cell BK244.out 7).trans rfl, (blk_cell BK244.out 8).trans rfl, ((HB.out.cell (World.block_lt_of_cell? w _ hw246_0)).trans hw246_0), ((HB.out.cell (World.block_lt_of_cell? w _ hw246_1)).trans hw246_1), ((HB.out.cell (World.block_lt_of_cell? w _ hw246_2)).trans hw246_2), ((HB.out.cell (World.block_lt_of_cell? w _ hw246_3)).trans hw246_3)⟩ (fun hHeld => ?_); refine with_tabW tocsinref15_Land.tab4 tocsinref15_Land.bits4 (fun HT_ HW_ => ?_)
      generalize w13.drew = w15 at BK244 HB hx246_0 hx246_1 hx246_2 hx246_3 hHeld ⊢
      refine pl 1 20 #[false, true, false, false, false, false, false, false, false] HT_ ?_
      refine pl 3 22 #[false, true, false, true, false, false, false, false, false] HT_ ?_
      refine tk13 0 19 #[true, true, false, true, false, false, false, false, false] HT_ HW_ hHeld ?_
      refine tk13 2 21 #[true, true, true, true, false, false, false, false, false] HT_ HW_ hHeld ?_
      refine pl 4 23 #[true, true, true, true, true, false, false, false, false] HT_ ?_
      refine tk13 5 24 #[true, true, true, true, true, true, false, false, false] HT_ HW_ hHeld ?_
      refine join_ (σ := Nat) 1 #[true, true, true, true, true, true, true, true, false] (fun s_ => [(25, .agg #[.int .i64 t247, .int .i64 t248, .int .i64 t249, .int .i64 t250, .int .i64 t251]), (9, .pointer (some ⟨s_, 0, none⟩))]) (fun s_ w' => (w'.cell? ⟨gb244, 0, none⟩ = some (.int .i64 a0_0) ∧ w'.cell? ⟨gb244, 1, none⟩ = some (.int .i64 a0_1) ∧ w'.cell? ⟨gb244, 2, none⟩ = some (.int .i64 a0_2) ∧ w'.cell? ⟨gb244, 3, none⟩ = some (.int .i64 a0_3) ∧ w'.cell? ⟨gb244, 4, none⟩ = some (.int .i64 a0_4) ∧ w'.cell? ⟨gb244, 5, none⟩ = some (.slice A0_5 l0_5.length c0_5) ∧ w'.cell? ⟨gb244, 6, none⟩ = some (.slice (some ad246) l0_6.length c0_6) ∧ w'.cell? ⟨gb244, 7, none⟩ = some (.slice A0_7 l0_7.length c0_7) ∧ w'.cell? ⟨gb244, 8, none⟩ = some (.int .i64 a0_8) ∧ w'.cell? (ad246.add ((a1).toNat * 4)) = some (.int .i64 ((rd_T40 l0_6 a1).f0)) ∧ w'.cell? ⟨(ad246.add ((a1).toNat * 4)).block, (ad246.add ((a1).toNat * 4)).off + 1, none⟩ = some (.int .u32 ((rd_T40 l0_6 a1).f1)) ∧ w'.cell? ⟨(ad246.add ((a1).toNat * 4)).block, (ad246.add ((a1).toNat * 4)).off + 2, none⟩ = some (.int .i64 ((rd_T40 l0_6 a1).f2)) ∧ w'.cell? ⟨(ad246.add ((a1).toNat * 4)).block, (ad246.add ((a1).toNat * 4)).off + 3, none⟩ = some (.int .i64 ((rd_T40 l0_6 a1).f3))) ∧ (w'.heap[gb244]? = some (.cells #[.int .i64 a0_0, .int .i64 a0_1, .int .i64 a0_2, .int .i64 a0_3, .int .i64 a0_4, .slice A0_5 l0_5.length c0_5, .slice (some ad246) l0_6.length c0_6, .slice A0_7 l0_7.length c0_7, .int .i64 a0_8] 26 (0, 0))) ∧ (w'.heap[s_]? = some (.cells #[.int .i64 0, .int .i64 0, .int .i64 0, .int .i64 0, .int .i64 0] 47 (0, 0))) ∧ (w.heap.size ≤ s_) ∧ (w.heap.size ≤ s_) ∧ (gb244 ≠ s_) ∧ (s_ ≠ gb244) ∧ (Below w.heap.size w w')) ?_ ?_
      rotate_left
      ·intro hCont
       refine two_ (i := 6) (j := 7) (Ni := some 25) (Nj := some 9) #[true, true, true, true, true, true, true, false, false] #[true, true, true, true, true, true, false, true, false] rfl rfl rfl rfl (two_of HT_.out (by kernel_rfl)) (by decide) (by decide) (fun K hK => ?_) (fun K hK => ?_)
       ·skip
        refine gor Try.func25 #[.agg #[.int .i64 a0_0, .int .i64 a0_1, .int .i64 a0_2, .int .i64 a0_3, .int .i64 a0_4, .slice A0_5 l0_5.length c0_5, .slice (some ad246) l0_6.length c0_6, .slice A0_7 l0_7.length c0_7, .int .i64 a0_8], .agg #[.int .i64 ((rd_T40 l0_6 a1).f0), .int .u32 ((rd_T40 l0_6 a1).f1), .int .i64 ((rd_T40 l0_6 a1).f2), .int .i64 ((rd_T40 l0_6 a1).f3)]] ?_
        with_reducible refine (tocsinref08_Times.calls a0_0 a0_1 a0_2 a0_3 a0_4 _ _ l0_5 _ _ l0_6 _ _ l0_7 a0_8 ((rd_T40 l0_6 a1).f0) ((rd_T40 l0_6 a1).f1) ((rd_T40 l0_6 a1).f2) ((rd_T40 l0_6 a1).f3) t247 t248 t249 t250 t251 _ ?side1 ?side2 ?side3 ?side4 ?side5 ?side6 A9.out).mono ?_
        (case side1 => exact kC (Kd.C_below HR0_5.out HB.out))
        (case side2 => exact HC0_5.out)
        (case side3 => exact kC (Kd.C_below HR0_6.out HB.out))
        (case side4 => exact HC0_6.out)
        (case side5 => exact kC (Kd.C_below HR0_7.out HB.out))
        (case side6 => exact HC0_7.out)
        rintro e w16 ⟨rfl, hb⟩
        refine ⟨_, rfl, ?_⟩
        have n0_ := bb BK244 hb
        have n1_ := bs1 HB GE244 hb
        clear BK244
        clear HB
        have BK244 := n0_
        have HB := n1_
        clear n0_ n1_
        (try clear hb)
        (try clear hb2)
        (try clear hk)
        (try clear hi)
        refine hK.out _ _ ⟨(blk_cell BK244.out 0).trans rfl, (blk_cell BK244.out 1).trans rfl, (blk_cell BK244.out 2).trans rfl, (blk_cell BK244.out 3).trans rfl, (blk_cell BK244.out 4).trans rfl, (blk_cell BK244.out 5).trans rfl, (blk_cell BK244.out 6).trans rfl, (blk_cell BK244.out 7).trans rfl, (blk_cell BK244.out 8).trans rfl, ((HB.out.cell (World.block_lt_of_cell? w _ hw246_0)).trans hw246_0), ((HB.out.cell (World.block_lt_of_cell? w _ hw246_1)).trans hw246_1), ((HB.out.cell (World.block_lt_of_cell? w _ hw246_2)).trans hw246_2), ((HB.out.cell (World.block_lt_of_cell? w _ hw246_3)).trans hw246_3)⟩ (fun hHeld => ?_)
        clear hK K
        refine norm_ (a' := ?_) ?_ ?_
        rotate_left
        ·show Act.put _ (some 25) _ = _
         simp only [Act.put, sT, sZ, sS, i64_w, i32_w]
         rfl
        refine one_ (i := 7) (N := some 9) #[true, true, true, true, true, true, true, true, false] rfl rfl (one_of HT_.out (by kernel_rfl)) (by decide) (fun K hK => ?_)
        refine box_step ?hg (N := 9) ?hd (cs := #[.int .i64 0, .int .i64 0, .int .i64 0, .int .i64 0, .int .i64 0]) (t := 47) ?hr ?_; (case hd => rfl); (case hg => rfl); (case hr => first | (go_simp; done) | (go_simp; rfl))
        intro gb252 hg w17 hbox hb
        have n0_ := bb BK244 hb
        have n1_ := bs1 HB GE244 hb
        have n2_ := Aside0.mk (hbox)
        have n3_ := bg1 hg HB GE244
        have n4_ := bg1 hg HB GE244
        have n5_ := nl hg BK244
        have n6_ := ng hg BK244
        clear BK244
        clear HB
        have BK244 := n0_
        have HB := n1_
        have BK252 := n2_
        have GW252 := n3_
        have GE252 := n4_
        have NB244_252 := n5_
        have NB252_244 := n6_
        clear n0_ n1_ n2_ n3_ n4_ n5_ n6_
        clear hb hbox hg
        refine hK.out _ _ ⟨(blk_cell BK244.out 0).trans rfl, (blk_cell BK244.out 1).trans rfl, (blk_cell BK244.out 2).trans rfl, (blk_cell BK244.out 3).trans rfl, (blk_cell BK244.out 4).trans rfl, (blk_cell BK244.out 5).trans rfl, (blk_cell BK244.out 6).trans rfl, (blk_cell BK244.out 7).trans rfl, (blk_cell BK244.out 8).trans rfl, ((HB.out.cell (World.block_lt_of_cell? w _ hw246_0)).trans hw246_0), ((HB.out.cell (World.block_lt_of_cell? w _ hw246_1)).trans hw246_1), ((HB.out.cell (World.block_lt_of_cell? w _ hw246_2)).trans hw246_2), ((HB.out.cell (World.block_lt_of_cell? w _ hw246_3)).trans hw246_3)⟩ (fun hHeld => ?_)
        clear hK K
        refine norm_ (a' := ?_) ?_ ?_
        rotate_left
        ·show Act.put _ (some 9) _ = _
         simp only [Act.put, sT, sZ, sS, i64_w, i32_w]
         rfl
        exact norm_ (by simp only [putAll, Act.put, sT, sZ, sS]) (hCont (gb252) _ ⟨hHeld, (bk BK244), (bk BK252), GW252.out, GE252.out, NB244_252.out, NB252_244.out, (bw2 HB GE244 GE252)⟩)
       ·skip
        refine box_step ?hg (N := 9) ?hd (cs := #[.int .i64 0, .int .i64 0, .int .i64 0, .int .i64 0, .int .i64 0]) (t := 47) ?hr ?_; (case hd => rfl); (case hg => rfl); (case hr => first | (go_simp; done) | (go_simp; rfl))
        intro gb252 hg w16 hbox hb
        have n0_ := bb BK244 hb
        have n1_ := bs1 HB GE244 hb
        have n2_ := Aside0.mk (hbox)
        have n3_ := bg1 hg HB GE244
        have n4_ := bg1 hg HB GE244
        have n5_ := nl hg BK244
        have n6_ := ng hg BK244
        clear BK244
        clear HB
        have BK244 := n0_
        have HB := n1_
        have BK252 := n2_
        have GW252 := n3_
        have GE252 := n4_
        have NB244_252 := n5_
        have NB252_244 := n6_
        clear n0_ n1_ n2_ n3_ n4_ n5_ n6_
        clear hb hbox hg
        refine hK.out _ _ ⟨(blk_cell BK244.out 0).trans rfl, (blk_cell BK244.out 1).trans rfl, (blk_cell BK244.out 2).trans rfl, (blk_cell BK244.out 3).trans rfl, (blk_cell BK244.out 4).trans rfl, (blk_cell BK244.out 5).trans rfl, (blk_cell BK244.out 6).trans rfl, (blk_cell BK244.out 7).trans rfl, (blk_cell BK244.out 8).trans rfl, ((HB.out.cell (World.block_lt_of_cell? w _ hw246_0)).trans hw246_0), ((HB.out.cell (World.block_lt_of_cell? w _ hw246_1)).trans hw246_1), ((HB.out.cell (World.block_lt_of_cell? w _ hw246_2)).trans hw246_2), ((HB.out.cell (World.block_lt_of_cell? w _ hw246_3)).trans hw246_3)⟩ (fun hHeld => ?_)
        clear hK K
        refine norm_ (a' := ?_) ?_ ?_
        rotate_left
        ·show Act.put _ (some 9) _ = _
         simp only [Act.put, sT, sZ, sS, i64_w, i32_w]
         rfl
        refine one_ (i := 6) (N := some 25) #[true, true, true, true, true, true, true, true, false] rfl rfl (one_of HT_.out (by kernel_rfl)) (by decide) (fun K hK => ?_)
        refine gor Try.func25 #[.agg #[.int .i64 a0_0, .int .i64 a0_1, .int .i64 a0_2, .int .i64 a0_3, .int .i64 a0_4, .slice A0_5 l0_5.length c0_5, .slice (some ad246) l0_6.length c0_6, .slice A0_7 l0_7.length c0_7, .int .i64 a0_8], .agg #[.int .i64 ((rd_T40 l0_6 a1).f0), .int .u32 ((rd_T40 l0_6 a1).f1), .int .i64 ((rd_T40 l0_6 a1).f2), .int .i64 ((rd_T40 l0_6 a1).f3)]] ?_
        with_reducible refine (tocsinref08_Times.calls a0_0 a0_1 a0_2 a0_3 a0_4 _ _ l0_5 _ _ l0_6 _ _ l0_7 a0_8 ((rd_T40 l0_6 a1).f0) ((rd_T40 l0_6 a1).f1) ((rd_T40 l0_6 a1).f2) ((rd_T40 l0_6 a1).f3) t247 t248 t249 t250 t251 _ ?side1 ?side2 ?side3 ?side4 ?side5 ?side6 A9.out).mono ?_
        (case side1 => exact kC (Kd.C_below HR0_5.out HB.out))
        (case side2 => exact HC0_5.out)
        (case side3 => exact kC (Kd.C_below HR0_6.out HB.out))
        (case side4 => exact HC0_6.out)
        (case side5 => exact kC (Kd.C_below HR0_7.out HB.out))
        (case side6 => exact HC0_7.out)
        rintro e w17 ⟨rfl, hb⟩
        refine ⟨_, rfl, ?_⟩
        have n0_ := bb BK244 hb
        have n1_ := bb BK252 hb
        have n2_ := bs2 HB GE244 GE252 hb
        clear BK244
        clear BK252
        clear HB
        have BK244 := n0_
        have BK252 := n1_
        have HB := n2_
        clear n0_ n1_ n2_
        (try clear hb)
        (try clear hb2)
        (try clear hk)
        (try clear hi)
        refine hK.out _ _ ⟨(blk_cell BK244.out 0).trans rfl, (blk_cell BK244.out 1).trans rfl, (blk_cell BK244.out 2).trans rfl, (blk_cell BK244.out 3).trans rfl, (blk_cell BK244.out 4).trans rfl, (blk_cell BK244.out 5).trans rfl, (blk_cell BK244.out 6).trans rfl, (blk_cell BK244.out 7).trans rfl, (blk_cell BK244.out 8).trans rfl, ((HB.out.cell (World.block_lt_of_cell? w _ hw246_0)).trans hw246_0), ((HB.out.cell (World.block_lt_of_cell? w _ hw246_1)).trans hw246_1), ((HB.out.cell (World.block_lt_of_cell? w _ hw246_2)).trans hw246_2), ((HB.out.cell (World.block_lt_of_cell? w _ hw246_3)).trans hw246_3)⟩ (fun hHeld => ?_)
        clear hK K
        refine norm_ (a' := ?_) ?_ ?_
        rotate_left
        ·show Act.put _ (some 25) _ = _
         simp only [Act.put, sT, sZ, sS, i64_w, i32_w]
         rfl
        exact norm_ (by simp only [putAll, Act.put, sT, sZ, sS]) (hCont (gb252) _ ⟨hHeld, (bk BK244), (bk BK252), GW252.out, GE252.out, NB244_252.out, NB252_244.out, (bw2 HB GE244 GE252)⟩)
      rintro gb252 w18 ⟨hS_, h0_, h1_, h2_, h3_, h4_, h5_, h6_⟩
      have n0_ : Aside0 (w18.heap[gb244]? = some (.cells #[.int .i64 a0_0, .int .i64 a0_1, .int .i64 a0_2, .int .i64 a0_3, .int .i64 a0_4, .slice A0_5 l0_5.length c0_5, .slice (some ad246) l0_6.length c0_6, .slice A0_7 l0_7.length c0_7, .int .i64 a0_8] 26 (0, 0))) := ⟨h0_⟩
      have n1_ : Aside0 (w18.heap[gb252]? = some (.cells #[.int .i64 0, .int .i64 0, .int .i64 0, .int .i64 0, .int .i64 0] 47 (0, 0))) := ⟨h1_⟩
      have n2_ : Aside0 (w.heap.size ≤ gb252) := ⟨h2_⟩
      have n3_ : Aside0 (w.heap.size ≤ gb252) := ⟨h3_⟩
      have n4_ : Aside0 (gb244 ≠ gb252) := ⟨h4_⟩
      have n5_ : Aside0 (gb252 ≠ gb244) := ⟨h5_⟩
      have n6_ : Aside0 (Below w.heap.size w w18) := ⟨h6_⟩
      clear BK244
      clear HB
      clear h0_ h1_ h2_ h3_ h4_ h5_ h6_
      have BK244 := n0_
      have BK252 := n1_
      have GW252 := n2_
      have GE252 := n3_
      have NB244_252 := n4_
      have NB252_244 := n5_
      have HB := n6_
      clear n0_ n1_ n2_ n3_ n4_ n5_ n6_
      have hHeld : w18.cell? ⟨gb244, 0, none⟩ = some (.int .i64 a0_0) ∧ w18.cell? ⟨gb244, 1, none⟩ = some (.int .i64 a0_1) ∧ w18.cell? ⟨gb244, 2, none⟩ = some (.int .i64 a0_2) ∧ w18.cell? ⟨gb244, 3, none⟩ = some (.int .i64 a0_3) ∧ w18.cell? ⟨gb244, 4, none⟩ = some (.int .i64 a0_4) ∧ w18.cell? ⟨gb244, 5, none⟩ = some (.slice A0_5 l0_5.length c0_5) ∧ w18.cell? ⟨gb244, 6, none⟩ = some (.slice (some ad246) l0_6.length c0_6) ∧ w18.cell? ⟨gb244, 7, none⟩ = some (.slice A0_7 l0_7.length c0_7) ∧ w18.cell? ⟨gb244, 8, none⟩ = some (.int .i64 a0_8) ∧ w18.cell? (ad246.add ((a1).toNat * 4)) = some (.int .i64 ((rd_T40 l0_6 a1).f0)) ∧ w18.cell? ⟨(ad246.add ((a1).toNat * 4)).block, (ad246.add ((a1).toNat * 4)).off + 1, none⟩ = some (.int .u32 ((rd_T40 l0_6 a1).f1)) ∧ w18.cell? ⟨(ad246.add ((a1).toNat * 4)).block, (ad246.add ((a1).toNat * 4)).off + 2, none⟩ = some (.int .i64 ((rd_T40 l0_6 a1).f2)) ∧ w18.cell? ⟨(ad246.add ((a1).toNat * 4)).block, (ad246.add ((a1).toNat * 4)).off + 3, none⟩ = some (.int .i64 ((rd_T40 l0_6 a1).f3)) := hS_
      refine norm_ (a' := ?_) ?_ ?_
      rotate_left
      ·simp only [putAll, Act.put, sT, sZ, sS]
       rfl
      refine one_ (i := 8) (N := none) #[true, true, true, true, true, true, true, true, true] rfl rfl (one_of HT_.out (by kernel_rfl)) (by decide) (fun K hK => ?_)
      have hs19 : w18.cell? ⟨gb252, 0, none⟩ = some (.int .i64 0) := (blk_cell BK252.out 0).trans rfl
      have hfs19 := blk_frozen BK252.out 0
      have hns19_0 := NB244_252.out
      have hms19_0 := NB252_244.out
      have hs20 : w18.cell? ⟨gb252, 1, none⟩ = some (.int .i64 0) := (blk_cell BK252.out 1).trans rfl
      have hfs20 := blk_frozen BK252.out 1
      have hns20_0 := NB244_252.out
      have hms20_0 := NB252_244.out
      have hs21 : w18.cell? ⟨gb252, 2, none⟩ = some (.int .i64 0) := (blk_cell BK252.out 2).trans rfl
      have hfs21 := blk_frozen BK252.out 2
      have hns21_0 := NB244_252.out
      have hms21_0 := NB252_244.out
      have hs22 : w18.cell? ⟨gb252, 3, none⟩ = some (.int .i64 0) := (blk_cell BK252.out 3).trans rfl
      have hfs22 := blk_frozen BK252.out 3
      have hns22_0 := NB244_252.out
      have hms22_0 := NB252_244.out
      have hs23 : w18.cell? ⟨gb252, 4, none⟩ = some (.int .i64 0) := (blk_cell BK252.out 4).trans rfl
      have hfs23 := blk_frozen BK252.out 4
      have hns23_0 := NB244_252.out
      have hms23_0 := NB252_244.out
      refine skip_ (w1 := ?_) (by rfl) rfl ?_ ?_
      rotate_left
      ·go_simp
       rfl
      refine hK.out _ _ ⟨(cf NB244_252 hHeld.1), (cf NB244_252 hHeld.2.1), (cf NB244_252 hHeld.2.2.1), (cf NB244_252 hHeld.2.2.2.1), (cf NB244_252 hHeld.2.2.2.2.1), (cf NB244_252 hHeld.2.2.2.2.2.1), (cf NB244_252 hHeld.2.2.2.2.2.2.1), (cf NB244_252 hHeld.2.2.2.2.2.2.2.1), (cf NB244_252 hHeld.2.2.2.2.2.2.2.2.1), (cfa hw246_0 GW252 hHeld.2.2.2.2.2.2.2.2.2.1), (cfa hw246_1 GW252 hHeld.2.2.2.2.2.2.2.2.2.2.1), (cfa hw246_2 GW252 hHeld.2.2.2.2.2.2.2.2.2.2.2.1), (cfa hw246_3 GW252 hHeld.2.2.2.2.2.2.2.2.2.2.2.2)⟩ (fun hHeld => ?_)
      clear hK K
      refine done_ (done_of HT_.out (by kernel_rfl)) ?_
      have hnb24 := NB244_252.out
      have hnc24 := NB252_244.out
      obtain ⟨hcz25_0, hcz25_1, hcz25_2, hcz25_3, hcz25_4, hcz25_5, hcz25_6, hcz25_7, hcz25_8, hfz25_0, hfz25_1, hfz25_2, hfz25_3, hfz25_4, hfz25_5, hfz25_6, hfz25_7, hfz25_8⟩ := bz9 BK244
      obtain ⟨hcz26_0, hcz26_1, hcz26_2, hcz26_3, hcz26_4, hfz26_0, hfz26_1, hfz26_2, hfz26_3, hfz26_4⟩ := bz5 BK252
      try go_wp2
      go_ret2
      exact ⟨re, bw2 HB GE244 GE252⟩
     ·rw [if_neg c10] at H
      have c10b0 : decide (a2 < (wrap64 ((wrap64 ((wrap64 (Int.tdiv a2 a0_1)) * a0_1)) + t250))) = false := decide_eq_false c10
      clear c10
      by_cases c27 : a2 > (wrap64 ((wrap64 ((wrap64 (Int.tdiv a2 a0_1)) * a0_1)) + t251))
      ·rw [if_pos c27] at H
       have c27b0 : decide ((wrap64 ((wrap64 ((wrap64 (Int.tdiv a2 a0_1)) * a0_1)) + t251)) < a2) = true := decide_eq_true c27
       clear c27
       simp only [Option.some.injEq, Prod.mk.injEq] at H
       obtain ⟨rfl, rfl⟩ := H
       go_enter Try.func16, Try.ntmps16
       try go_wp2_with (first | ((with_reducible refine gate_dst (N := 3) rfl ?_); refine boxe (N := 3) (cs := #[.int .i64 a0_0, .int .i64 a0_1, .int .i64 a0_2, .int .i64 a0_3, .int .i64 a0_4, .slice A0_5 l0_5.length c0_5, .slice A0_6 l0_6.length c0_6, .slice A0_7 l0_7.length c0_7, .int .i64 a0_8]) (t := 26) ?_; intro gb244 hg w28 hbox hb; have BK244 := Aside0.mk (hbox); have GW244 := bg0 hg HB; have GE244 := GW244; replace HB := bs0 HB hb; clear hb hbox hg; obtain ⟨hcz29_0, hcz29_1, hcz29_2, hcz29_3, hcz29_4, hcz29_5, hcz29_6, hcz29_7, hcz29_8, hfz29_0, hfz29_1, hfz29_2, hfz29_3, hfz29_4, hfz29_5, hfz29_6, hfz29_7, hfz29_8⟩ := bz9 BK244) | ((with_reducible refine gate_callee (f := 33) rfl ?_); refine gol (some 13) Try.func33 #[.agg #[.int .i64 a0_0, .int .i64 a0_1, .int .i64 a0_2, .int .i64 a0_3, .int .i64 a0_4, .slice A0_5 l0_5.length c0_5, .slice A0_6 l0_6.length c0_6, .slice A0_7 l0_7.length c0_7, .int .i64 a0_8], .int .i64 a1, .int .i64 a2] ?_; (with_reducible refine (tocsinref15_Entry.calls k a0_0 a0_1 a0_2 a0_3 a0_4 _ _ l0_5 _ _ l0_6 _ _ l0_7 a0_8 a1 a2 true _ ?side1 ?side2 ?side3 ?side4 ?side5 ?side6 A4.out).mono ?_); (case side1 => exact kC (Kd.C_below HR0_5.out HB.out)); (case side2 => exact HC0_5.out); (case side3 => exact kC (Kd.C_below HR0_6.out HB.out)); (case side4 => exact HC0_6.out); (case side5 => exact kC (Kd.C_below HR0_7.out HB.out)); (case side6 => exact HC0_7.out); rintro e w30 ⟨rfl, hb⟩; refine ⟨_, rfl, ?_⟩; replace BK244 := bb BK244 hb; replace HB := bs1 HB GE244 hb; (try clear hb); (try clear hb2); (try clear hk); (try clear hi); obtain ⟨hcz31_0, hcz31_1, hcz31_2, hcz31_3, hcz31_4, hcz31_5, hcz31_6, hcz31_7, hcz31_8, hfz31_0, hfz31_1, hfz31_2, hfz31_3, hfz31_4, hfz31_5, hfz31_6, hfz31_7, hfz31_8⟩ := bz9 BK244))
       have n0_ := Aside0.mk (blk_drew BK244.out)
       have n1_ := Aside0.mk (below_drew1 HB.out)
       clear BK244
       clear HB
       have BK244 := n0_
       have HB := n1_
       clear n0_ n1_
       have p246 : 0 ≤ (a1 : Int) := of_decide_eq_true (by first | (with_reducible assumption) | assumption)
       have q246 : a1 < (l0_6.length : Int) := of_decide_eq_true (by first | (with_reducible assumption) | assumption)
       obtain ⟨ad246, e246, hx246_0, hx246_1, hx246_2, hx246_3⟩ := at_T40 HR0_6.out a1 p246 q246
       have hw246_3 := hx246_3
       have hw246_2 := hx246_2
       have hw246_1 := hx246_1
       have hw246_0 := hx246_0
       cases e246
       replace hx246_0 := pcb HB hx246_0
       replace hx246_1 := pcb HB hx246_1
       replace hx246_2 := pcb HB hx246_2
       replace hx246_3 := pcb HB hx246_3
       replace p246 := eq_true p246
       replace q246 := eq_true q246
       refine start_ (n := 9) (S := fun w' => w'.cell? ⟨gb244, 0, none⟩ = some (.int .i64 a0_0) ∧ w'.cell? ⟨gb244, 1, none⟩ = some (.int .i64 a0_1) ∧ w'.cell? ⟨gb244, 2, none⟩ = some (.int .i64 a0_2) ∧ w'.cell? ⟨gb244, 3, none⟩ = some (.int .i64 a0_3) ∧ w'.cell? ⟨gb244, 4, none⟩ = some (.int .i64 a0_4) ∧ w'.cell? ⟨gb244, 5, none⟩ = some (.slice A0_5 l0_5.length c0_5) ∧ w'.cell? ⟨gb244, 6, none⟩ = some (.slice (some ad246) l0_6.length c0_6) ∧ w'.cell? ⟨gb244, 7, none⟩ = some (.slice A0_7 l0_7.length c0_7) ∧ w'.cell? ⟨gb244, 8, none⟩ = some (.int .i64 a0_8) ∧ w'.cell? (ad246.add ((a1).toNat * 4)) = some (.int .i64 ((rd_T40 l0_6 a1).f0)) ∧ w'.cell? ⟨(ad246.add ((a1).toNat * 4)).block, (ad246.add ((a1).toNat * 4)).off + 1, none⟩ = some (.int .u32 ((rd_T40 l0_6 a1).f1)) ∧ w'.cell? ⟨(ad246.add ((a1).toNat * 4)).block, (ad246.add ((a1).toNat * 4)).off + 2, none⟩ = some (.int .i64 ((rd_T40 l0_6 a1).f2)) ∧ w'.cell? ⟨(ad246.add ((a1).toNat * 4)).block, (ad246.add ((a1).toNat * 4)).off + 3, none⟩ = some (.int .i64 ((rd_T40 l0_6 a1).f3))) (ds := []) #[false, false, false, false, false, false, false, false, false] (by kernel_rfl) rfl rfl ⟨(blk_cell BK244.out 0).trans rfl, (blk_cell BK244.out 1).trans rfl, (blk_cell BK244.out 2).trans rfl, (blk_cell BK244.out 3).trans rfl, (blk_cell BK244.out 4).trans rfl, (blk_cell BK244.out 5).trans rfl, (blk_cell BK244.out 6).trans rfl, (blk_cell BK244.out 7).trans rfl, (blk_cell BK244.out 8).trans rfl, ((HB.out.cell (World.block_lt_of_cell? w _ hw246_0)).trans hw246_0), ((HB.out.cell (World.block_lt_of_cell? w _ hw246_1)).trans hw246_1), ((HB.out.cell (World.block_lt_of_cell? w _ hw246_2)).trans hw246_2), ((HB.out.cell (World.block_lt_of_cell? w _ hw246_3)).trans hw246_3)⟩ (fun hHeld => ?_); refine with_tabW tocsinref15_Land.tab4 tocsinref15_Land.bits4 (fun HT_ HW_ => ?_)
       generalize w30.drew = w32 at BK244 HB hx246_0 hx246_1 hx246_2 hx246_3 hHeld ⊢
       refine pl 1 20 #[false, true, false, false, false, false, false, false, false] HT_ ?_
       refine pl 3 22 #[false, true, false, true, false, false, false, false, false] HT_ ?_
       refine tk13 0 19 #[true, true, false, true, false, false, false, false, false] HT_ HW_ hHeld ?_
       refine tk13 2 21 #[true, true, true, true, false, false, false, false, false] HT_ HW_ hHeld ?_
       refine pl 4 23 #[true, true, true, true, true, false, false, false, false] HT_ ?_
       refine tk13 5 24 #[true, true, true, true, true, true, false, false, false] HT_ HW_ hHeld ?_
       refine join_ (σ := Nat) 1 #[true, true, true, true, true, true, true, true, false] (fun s_ => [(25, .agg #[.int .i64 t247, .int .i64 t248, .int .i64 t249, .int .i64 t250, .int .i64 t251]), (9, .pointer (some ⟨s_, 0, none⟩))]) (fun s_ w' => (w'.cell? ⟨gb244, 0, none⟩ = some (.int .i64 a0_0) ∧ w'.cell? ⟨gb244, 1, none⟩ = some (.int .i64 a0_1) ∧ w'.cell? ⟨gb244, 2, none⟩ = some (.int .i64 a0_2) ∧ w'.cell? ⟨gb244, 3, none⟩ = some (.int .i64 a0_3) ∧ w'.cell? ⟨gb244, 4, none⟩ = some (.int .i64 a0_4) ∧ w'.cell? ⟨gb244, 5, none⟩ = some (.slice A0_5 l0_5.length c0_5) ∧ w'.cell? ⟨gb244, 6, none⟩ = some (.slice (some ad246) l0_6.length c0_6) ∧ w'.cell? ⟨gb244, 7, none⟩ = some (.slice A0_7 l0_7.length c0_7) ∧ w'.cell? ⟨gb244, 8, none⟩ = some (.int .i64 a0_8) ∧ w'.cell? (ad246.add ((a1).toNat * 4)) = some (.int .i64 ((rd_T40 l0_6 a1).f0)) ∧ w'.cell? ⟨(ad246.add ((a1).toNat * 4)).block, (ad246.add ((a1).toNat * 4)).off + 1, none⟩ = some (.int .u32 ((rd_T40 l0_6 a1).f1)) ∧ w'.cell? ⟨(ad246.add ((a1).toNat * 4)).block, (ad246.add ((a1).toNat * 4)).off + 2, none⟩ = some (.int .i64 ((rd_T40 l0_6 a1).f2)) ∧ w'.cell? ⟨(ad246.add ((a1).toNat * 4)).block, (ad246.add ((a1).toNat * 4)).off + 3, none⟩ = some (.int .i64 ((rd_T40 l0_6 a1).f3))) ∧ (w'.heap[gb244]? = some (.cells #[.int .i64 a0_0, .int .i64 a0_1, .int .i64 a0_2, .int .i64 a0_3, .int .i64 a0_4, .slice A0_5 l0_5.length c0_5, .slice (some ad246) l0_6.length c0_6, .slice A0_7 l0_7.length c0_7, .int .i64 a0_8] 26 (0, 0))) ∧ (w'.heap[s_]? = some (.cells #[.int .i64 0, .int .i64 0, .int .i64 0, .int .i64 0, .int .i64 0] 47 (0, 0))) ∧ (w.heap.size ≤ s_) ∧ (w.heap.size ≤ s_) ∧ (gb244 ≠ s_) ∧ (s_ ≠ gb244) ∧ (Below w.heap.size w w')) ?_ ?_
       rotate_left
       ·intro hCont
        refine two_ (i := 6) (j := 7) (Ni := some 25) (Nj := some 9) #[true, true, true, true, true, true, true, false, false] #[true, true, true, true, true, true, false, true, false] rfl rfl rfl rfl (two_of HT_.out (by kernel_rfl)) (by decide) (by decide) (fun K hK => ?_) (fun K hK => ?_)
        ·skip
         refine gor Try.func25 #[.agg #[.int .i64 a0_0, .int .i64 a0_1, .int .i64 a0_2, .int .i64 a0_3, .int .i64 a0_4, .slice A0_5 l0_5.length c0_5, .slice (some ad246) l0_6.length c0_6, .slice A0_7 l0_7.length c0_7, .int .i64 a0_8], .agg #[.int .i64 ((rd_T40 l0_6 a1).f0), .int .u32 ((rd_T40 l0_6 a1).f1), .int .i64 ((rd_T40 l0_6 a1).f2), .int .i64 ((rd_T40 l0_6 a1).f3)]] ?_
         with_reducible refine (tocsinref08_Times.calls a0_0 a0_1 a0_2 a0_3 a0_4 _ _ l0_5 _ _ l0_6 _ _ l0_7 a0_8 ((rd_T40 l0_6 a1).f0) ((rd_T40 l0_6 a1).f1) ((rd_T40 l0_6 a1).f2) ((rd_T40 l0_6 a1).f3) t247 t248 t249 t250 t251 _ ?side1 ?side2 ?side3 ?side4 ?side5 ?side6 A9.out).mono ?_
         (case side1 => exact kC (Kd.C_below HR0_5.out HB.out))
         (case side2 => exact HC0_5.out)
         (case side3 => exact kC (Kd.C_below HR0_6.out HB.out))
         (case side4 => exact HC0_6.out)
         (case side5 => exact kC (Kd.C_below HR0_7.out HB.out))
         (case side6 => exact HC0_7.out)
         rintro e w33 ⟨rfl, hb⟩
         refine ⟨_, rfl, ?_⟩
         have n0_ := bb BK244 hb
         have n1_ := bs1 HB GE244 hb
         clear BK244
         clear HB
         have BK244 := n0_
         have HB := n1_
         clear n0_ n1_
         (try clear hb)
         (try clear hb2)
         (try clear hk)
         (try clear hi)
         refine hK.out _ _ ⟨(blk_cell BK244.out 0).trans rfl, (blk_cell BK244.out 1).trans rfl, (blk_cell BK244.out 2).trans rfl, (blk_cell BK244.out 3).trans rfl, (blk_cell BK244.out 4).trans rfl, (blk_cell BK244.out 5).trans rfl, (blk_cell BK244.out 6).trans rfl, (blk_cell BK244.out 7).trans rfl, (blk_cell BK244.out 8).trans rfl, ((HB.out.cell (World.block_lt_of_cell? w _ hw246_0)).trans hw246_0), ((HB.out.cell (World.block_lt_of_cell? w _ hw246_1)).trans hw246_1), ((HB.out.cell (World.block_lt_of_cell? w _ hw246_2)).trans hw246_2), ((HB.out.cell (World.block_lt_of_cell? w _ hw246_3)).trans hw246_3)⟩ (fun hHeld => ?_)
         clear hK K
         refine norm_ (a' := ?_) ?_ ?_
         rotate_left
         ·show Act.put _ (some 25) _ = _
          simp only [Act.put, sT, sZ, sS, i64_w, i32_w]
          rfl
         refine one_ (i := 7) (N := some 9) #[true, true, true, true, true, true, true, true, false] rfl rfl (one_of HT_.out (by kernel_rfl)) (by decide) (fun K hK => ?_)
         refine box_step ?hg (N := 9) ?hd (cs := #[.int .i64 0, .int .i64 0, .int .i64 0, .int .i64 0, .int .i64 0]) (t := 47) ?hr ?_; (case hd => rfl); (case hg => rfl); (case hr => first | (go_simp; done) | (go_simp; rfl))
         intro gb252 hg w34 hbox hb
         have n0_ := bb BK244 hb
         have n1_ := bs1 HB GE244 hb
         have n2_ := Aside0.mk (hbox)
         have n3_ := bg1 hg HB GE244
         have n4_ := bg1 hg HB GE244
         have n5_ := nl hg BK244
         have n6_ := ng hg BK244
         clear BK244
         clear HB
         have BK244 := n0_
         have HB := n1_
         have BK252 := n2_
         have GW252 := n3_
         have GE252 := n4_
         have NB244_252 := n5_
         have NB252_244 := n6_
         clear n0_ n1_ n2_ n3_ n4_ n5_ n6_
         clear hb hbox hg
         refine hK.out _ _ ⟨(blk_cell BK244.out 0).trans rfl, (blk_cell BK244.out 1).trans rfl, (blk_cell BK244.out 2).trans rfl, (blk_cell BK244.out 3).trans rfl, (blk_cell BK244.out 4).trans rfl, (blk_cell BK244.out 5).trans rfl, (blk_cell BK244.out 6).trans rfl, (blk_cell BK244.out 7).trans rfl, (blk_cell BK244.out 8).trans rfl, ((HB.out.cell (World.block_lt_of_cell? w _ hw246_0)).trans hw246_0), ((HB.out.cell (World.block_lt_of_cell? w _ hw246_1)).trans hw246_1), ((HB.out.cell (World.block_lt_of_cell? w _ hw246_2)).trans hw246_2), ((HB.out.cell (World.block_lt_of_cell? w _ hw246_3)).trans hw246_3)⟩ (fun hHeld => ?_)
         clear hK K
         refine norm_ (a' := ?_) ?_ ?_
         rotate_left
         ·show Act.put _ (some 9) _ = _
          simp only [Act.put, sT, sZ, sS, i64_w, i32_w]
          rfl
         exact norm_ (by simp only [putAll, Act.put, sT, sZ, sS]) (hCont (gb252) _ ⟨hHeld, (bk BK244), (bk BK252), GW252.out, GE252.out, NB244_252.out, NB252_244.out, (bw2 HB GE244 GE252)⟩)
        ·skip
         refine box_step ?hg (N := 9) ?hd (cs := #[.int .i64 0, .int .i64 0, .int .i64 0, .int .i64 0, .int .i64 0]) (t := 47) ?hr ?_; (case hd => rfl); (case hg => rfl); (case hr => first | (go_simp; done) | (go_simp; rfl))
         intro gb252 hg w33 hbox hb
         have n0_ := bb BK244 hb
         have n1_ := bs1 HB GE244 hb
         have n2_ := Aside0.mk (hbox)
         have n3_ := bg1 hg HB GE244
         have n4_ := bg1 hg HB GE244
         have n5_ := nl hg BK244
         have n6_ := ng hg BK244
         clear BK244
         clear HB
         have BK244 := n0_
         have HB := n1_
         have BK252 := n2_
         have GW252 := n3_
         have GE252 := n4_
         have NB244_252 := n5_
         have NB252_244 := n6_
         clear n0_ n1_ n2_ n3_ n4_ n5_ n6_
         clear hb hbox hg
         refine hK.out _ _ ⟨(blk_cell BK244.out 0).trans rfl, (blk_cell BK244.out 1).trans rfl, (blk_cell BK244.out 2).trans rfl, (blk_cell BK244.out 3).trans rfl, (blk_cell BK244.out 4).trans rfl, (blk_cell BK244.out 5).trans rfl, (blk_cell BK244.out 6).trans rfl, (blk_cell BK244.out 7).trans rfl, (blk_cell BK244.out 8).trans rfl, ((HB.out.cell (World.block_lt_of_cell? w _ hw246_0)).trans hw246_0), ((HB.out.cell (World.block_lt_of_cell? w _ hw246_1)).trans hw246_1), ((HB.out.cell (World.block_lt_of_cell? w _ hw246_2)).trans hw246_2), ((HB.out.cell (World.block_lt_of_cell? w _ hw246_3)).trans hw246_3)⟩ (fun hHeld => ?_)
         clear hK K
         refine norm_ (a' := ?_) ?_ ?_
         rotate_left
         ·show Act.put _ (some 9) _ = _
          simp only [Act.put, sT, sZ, sS, i64_w, i32_w]
          rfl
         refine one_ (i := 6) (N := some 25) #[true, true, true, true, true, true, true, true, false] rfl rfl (one_of HT_.out (by kernel_rfl)) (by decide) (fun K hK => ?_)
         refine gor Try.func25 #[.agg #[.int .i64 a0_0, .int .i64 a0_1, .int .i64 a0_2, .int .i64 a0_3, .int .i64 a0_4, .slice A0_5 l0_5.length c0_5, .slice (some ad246) l0_6.length c0_6, .slice A0_7 l0_7.length c0_7, .int .i64 a0_8], .agg #[.int .i64 ((rd_T40 l0_6 a1).f0), .int .u32 ((rd_T40 l0_6 a1).f1), .int .i64 ((rd_T40 l0_6 a1).f2), .int .i64 ((rd_T40 l0_6 a1).f3)]] ?_
         with_reducible refine (tocsinref08_Times.calls a0_0 a0_1 a0_2 a0_3 a0_4 _ _ l0_5 _ _ l0_6 _ _ l0_7 a0_8 ((rd_T40 l0_6 a1).f0) ((rd_T40 l0_6 a1).f1) ((rd_T40 l0_6 a1).f2) ((rd_T40 l0_6 a1).f3) t247 t248 t249 t250 t251 _ ?side1 ?side2 ?side3 ?side4 ?side5 ?side6 A9.out).mono ?_
         (case side1 => exact kC (Kd.C_below HR0_5.out HB.out))
         (case side2 => exact HC0_5.out)
         (case side3 => exact kC (Kd.C_below HR0_6.out HB.out))
         (case side4 => exact HC0_6.out)
         (case side5 => exact kC (Kd.C_below HR0_7.out HB.out))
         (case side6 => exact HC0_7.out)
         rintro e w34 ⟨rfl, hb⟩
         refine ⟨_, rfl, ?_⟩
         have n0_ := bb BK244 hb
         have n1_ := bb BK252 hb
         have n2_ := bs2 HB GE244 GE252 hb
         clear BK244
         clear BK252
         clear HB
         have BK244 := n0_
         have BK252 := n1_
         have HB := n2_
         clear n0_ n1_ n2_
         (try clear hb)
         (try clear hb2)
         (try clear hk)
         (try clear hi)
         refine hK.out _ _ ⟨(blk_cell BK244.out 0).trans rfl, (blk_cell BK244.out 1).trans rfl, (blk_cell BK244.out 2).trans rfl, (blk_cell BK244.out 3).trans rfl, (blk_cell BK244.out 4).trans rfl, (blk_cell BK244.out 5).trans rfl, (blk_cell BK244.out 6).trans rfl, (blk_cell BK244.out 7).trans rfl, (blk_cell BK244.out 8).trans rfl, ((HB.out.cell (World.block_lt_of_cell? w _ hw246_0)).trans hw246_0), ((HB.out.cell (World.block_lt_of_cell? w _ hw246_1)).trans hw246_1), ((HB.out.cell (World.block_lt_of_cell? w _ hw246_2)).trans hw246_2), ((HB.out.cell (World.block_lt_of_cell? w _ hw246_3)).trans hw246_3)⟩ (fun hHeld => ?_)
         clear hK K
         refine norm_ (a' := ?_) ?_ ?_
         rotate_left
         ·show Act.put _ (some 25) _ = _
          simp only [Act.put, sT, sZ, sS, i64_w, i32_w]
          rfl
         exact norm_ (by simp only [putAll, Act.put, sT, sZ, sS]) (hCont (gb252) _ ⟨hHeld, (bk BK244), (bk BK252), GW252.out, GE252.out, NB244_252.out, NB252_244.out, (bw2 HB GE244 GE252)⟩)
       rintro gb252 w35 ⟨hS_, h0_, h1_, h2_, h3_, h4_, h5_, h6_⟩
       have n0_ : Aside0 (w35.heap[gb244]? = some (.cells #[.int .i64 a0_0, .int .i64 a0_1, .int .i64 a0_2, .int .i64 a0_3, .int .i64 a0_4, .slice A0_5 l0_5.length c0_5, .slice (some ad246) l0_6.length c0_6, .slice A0_7 l0_7.length c0_7, .int .i64 a0_8] 26 (0, 0))) := ⟨h0_⟩
       have n1_ : Aside0 (w35.heap[gb252]? = some (.cells #[.int .i64 0, .int .i64 0, .int .i64 0, .int .i64 0, .int .i64 0] 47 (0, 0))) := ⟨h1_⟩
       have n2_ : Aside0 (w.heap.size ≤ gb252) := ⟨h2_⟩
       have n3_ : Aside0 (w.heap.size ≤ gb252) := ⟨h3_⟩
       have n4_ : Aside0 (gb244 ≠ gb252) := ⟨h4_⟩
       have n5_ : Aside0 (gb252 ≠ gb244) := ⟨h5_⟩
       have n6_ : Aside0 (Below w.heap.size w w35) := ⟨h6_⟩
       clear BK244
       clear HB
       clear h0_ h1_ h2_ h3_ h4_ h5_ h6_
       have BK244 := n0_
       have BK252 := n1_
       have GW252 := n2_
       have GE252 := n3_
       have NB244_252 := n4_
       have NB252_244 := n5_
       have HB := n6_
       clear n0_ n1_ n2_ n3_ n4_ n5_ n6_
       have hHeld : w35.cell? ⟨gb244, 0, none⟩ = some (.int .i64 a0_0) ∧ w35.cell? ⟨gb244, 1, none⟩ = some (.int .i64 a0_1) ∧ w35.cell? ⟨gb244, 2, none⟩ = some (.int .i64 a0_2) ∧ w35.cell? ⟨gb244, 3, none⟩ = some (.int .i64 a0_3) ∧ w35.cell? ⟨gb244, 4, none⟩ = some (.int .i64 a0_4) ∧ w35.cell? ⟨gb244, 5, none⟩ = some (.slice A0_5 l0_5.length c0_5) ∧ w35.cell? ⟨gb244, 6, none⟩ = some (.slice (some ad246) l0_6.length c0_6) ∧ w35.cell? ⟨gb244, 7, none⟩ = some (.slice A0_7 l0_7.length c0_7) ∧ w35.cell? ⟨gb244, 8, none⟩ = some (.int .i64 a0_8) ∧ w35.cell? (ad246.add ((a1).toNat * 4)) = some (.int .i64 ((rd_T40 l0_6 a1).f0)) ∧ w35.cell? ⟨(ad246.add ((a1).toNat * 4)).block, (ad246.add ((a1).toNat * 4)).off + 1, none⟩ = some (.int .u32 ((rd_T40 l0_6 a1).f1)) ∧ w35.cell? ⟨(ad246.add ((a1).toNat * 4)).block, (ad246.add ((a1).toNat * 4)).off + 2, none⟩ = some (.int .i64 ((rd_T40 l0_6 a1).f2)) ∧ w35.cell? ⟨(ad246.add ((a1).toNat * 4)).block, (ad246.add ((a1).toNat * 4)).off + 3, none⟩ = some (.int .i64 ((rd_T40 l0_6 a1).f3)) := hS_
       refine norm_ (a' := ?_) ?_ ?_
       rotate_left
       ·simp only [putAll, Act.put, sT, sZ, sS]
        rfl
       refine one_ (i := 8) (N := none) #[true, true, true, true, true, true, true, true, true] rfl rfl (one_of HT_.out (by kernel_rfl)) (by decide) (fun K hK => ?_)
       have hs36 : w35.cell? ⟨gb252, 0, none⟩ = some (.int .i64 0) := (blk_cell BK252.out 0).trans rfl
       have hfs36 := blk_frozen BK252.out 0
       have hns36_0 := NB244_252.out
       have hms36_0 := NB252_244.out
       have hs37 : w35.cell? ⟨gb252, 1, none⟩ = some (.int .i64 0) := (blk_cell BK252.out 1).trans rfl
       have hfs37 := blk_frozen BK252.out 1
       have hns37_0 := NB244_252.out
       have hms37_0 := NB252_244.out
       have hs38 : w35.cell? ⟨gb252, 2, none⟩ = some (.int .i64 0) := (blk_cell BK252.out 2).trans rfl
       have hfs38 := blk_frozen BK252.out 2
       have hns38_0 := NB244_252.out
       have hms38_0 := NB252_244.out
       have hs39 : w35.cell? ⟨gb252, 3, none⟩ = some (.int .i64 0) := (blk_cell BK252.out 3).trans rfl
       have hfs39 := blk_frozen BK252.out 3
       have hns39_0 := NB244_252.out
       have hms39_0 := NB252_244.out
       have hs40 : w35.cell? ⟨gb252, 4, none⟩ = some (.int .i64 0) := (blk_cell BK252.out 4).trans rfl
       have hfs40 := blk_frozen BK252.out 4
       have hns40_0 := NB244_252.out
       have hms40_0 := NB252_244.out
       refine skip_ (w1 := ?_) (by rfl) rfl ?_ ?_
       rotate_left
       ·go_simp
        rfl
       refine hK.out _ _ ⟨(cf NB244_252 hHeld.1), (cf NB244_252 hHeld.2.1), (cf NB244_252 hHeld.2.2.1), (cf NB244_252 hHeld.2.2.2.1), (cf NB244_252 hHeld.2.2.2.2.1), (cf NB244_252 hHeld.2.2.2.2.2.1), (cf NB244_252 hHeld.2.2.2.2.2.2.1), (cf NB244_252 hHeld.2.2.2.2.2.2.2.1), (cf NB244_252 hHeld.2.2.2.2.2.2.2.2.1), (cfa hw246_0 GW252 hHeld.2.2.2.2.2.2.2.2.2.1), (cfa hw246_1 GW252 hHeld.2.2.2.2.2.2.2.2.2.2.1), (cfa hw246_2 GW252 hHeld.2.2.2.2.2.2.2.2.2.2.2.1), (cfa hw246_3 GW252 hHeld.2.2.2.2.2.2.2.2.2.2.2.2)⟩ (fun hHeld => ?_)
       clear hK K
       refine done_ (done_of HT_.out (by kernel_rfl)) ?_
       have hnb41 := NB244_252.out
       have hnc41 := NB252_244.out
       obtain ⟨hcz42_0, hcz42_1, hcz42_2, hcz42_3, hcz42_4, hcz42_5, hcz42_6, hcz42_7, hcz42_8, hfz42_0, hfz42_1, hfz42_2, hfz42_3, hfz42_4, hfz42_5, hfz42_6, hfz42_7, hfz42_8⟩ := bz9 BK244
       obtain ⟨hcz43_0, hcz43_1, hcz43_2, hcz43_3, hcz43_4, hfz43_0, hfz43_1, hfz43_2, hfz43_3, hfz43_4⟩ := bz5 BK252
       try go_wp2
       go_ret2
       exact ⟨re, bw2 HB GE244 GE252⟩
      ·rw [if_neg c27] at H
       have c27b0 : decide ((wrap64 ((wrap64 ((wrap64 (Int.tdiv a2 a0_1)) * a0_1)) + t251)) < a2) = false := decide_eq_false c27
       clear c27
       simp only [Option.some.injEq, Prod.mk.injEq] at H
       obtain ⟨rfl, rfl⟩ := H
       go_enter Try.func16, Try.ntmps16
       try go_wp2_with (first | ((with_reducible refine gate_dst (N := 3) rfl ?_); refine boxe (N := 3) (cs := #[.int .i64 a0_0, .int .i64 a0_1, .int .i64 a0_2, .int .i64 a0_3, .int .i64 a0_4, .slice A0_5 l0_5.length c0_5, .slice A0_6 l0_6.length c0_6, .slice A0_7 l0_7.length c0_7, .int .i64 a0_8]) (t := 26) ?_; intro gb244 hg w44 hbox hb; have BK244 := Aside0.mk (hbox); have GW244 := bg0 hg HB; have GE244 := GW244; replace HB := bs0 HB hb; clear hb hbox hg; obtain ⟨hcz45_0, hcz45_1, hcz45_2, hcz45_3, hcz45_4, hcz45_5, hcz45_6, hcz45_7, hcz45_8, hfz45_0, hfz45_1, hfz45_2, hfz45_3, hfz45_4, hfz45_5, hfz45_6, hfz45_7, hfz45_8⟩ := bz9 BK244) | ((with_reducible refine gate_callee (f := 33) rfl ?_); refine gol (some 13) Try.func33 #[.agg #[.int .i64 a0_0, .int .i64 a0_1, .int .i64 a0_2, .int .i64 a0_3, .int .i64 a0_4, .slice A0_5 l0_5.length c0_5, .slice A0_6 l0_6.length c0_6, .slice A0_7 l0_7.length c0_7, .int .i64 a0_8], .int .i64 a1, .int .i64 a2] ?_; (with_reducible refine (tocsinref15_Entry.calls k a0_0 a0_1 a0_2 a0_3 a0_4 _ _ l0_5 _ _ l0_6 _ _ l0_7 a0_8 a1 a2 true _ ?side1 ?side2 ?side3 ?side4 ?side5 ?side6 A4.out).mono ?_); (case side1 => exact kC (Kd.C_below HR0_5.out HB.out)); (case side2 => exact HC0_5.out); (case side3 => exact kC (Kd.C_below HR0_6.out HB.out)); (case side4 => exact HC0_6.out); (case side5 => exact kC (Kd.C_below HR0_7.out HB.out)); (case side6 => exact HC0_7.out); rintro e w46 ⟨rfl, hb⟩; refine ⟨_, rfl, ?_⟩; replace BK244 := bb BK244 hb; replace HB := bs1 HB GE244 hb; (try clear hb); (try clear hb2); (try clear hk); (try clear hi); obtain ⟨hcz47_0, hcz47_1, hcz47_2, hcz47_3, hcz47_4, hcz47_5, hcz47_6, hcz47_7, hcz47_8, hfz47_0, hfz47_1, hfz47_2, hfz47_3, hfz47_4, hfz47_5, hfz47_6, hfz47_7, hfz47_8⟩ := bz9 BK244))
       have n0_ := Aside0.mk (blk_drew BK244.out)
       have n1_ := Aside0.mk (below_drew1 HB.out)
       clear BK244
       clear HB
       have BK244 := n0_
       have HB := n1_
       clear n0_ n1_
       have p246 : 0 ≤ (a1 : Int) := of_decide_eq_true (by first | (with_reducible assumption) | assumption)
       have q246 : a1 < (l0_6.length : Int) := of_decide_eq_true (by first | (with_reducible assumption) | assumption)
       obtain ⟨ad246, e246, hx246_0, hx246_1, hx246_2, hx246_3⟩ := at_T40 HR0_6.out a1 p246 q246
       have hw246_3 := hx246_3
       have hw246_2 := hx246_2
       have hw246_1 := hx246_1
       have hw246_0 := hx246_0
       cases e246
       replace hx246_0 := pcb HB hx246_0
       replace hx246_1 := pcb HB hx246_1
       replace hx246_2 := pcb HB hx246_2
       replace hx246_3 := pcb HB hx246_3
       replace p246 := eq_true p246
       replace q246 := eq_true q246
       refine start_ (n := 9) (S := fun w' => w'.cell? ⟨gb244, 0, none⟩ = some (.int .i64 a0_0) ∧ w'.cell? ⟨gb244, 1, none⟩ = some (.int .i64 a0_1) ∧ w'.cell? ⟨gb244, 2, none⟩ = some (.int .i64 a0_2) ∧ w'.cell? ⟨gb244, 3, none⟩ = some (.int .i64 a0_3) ∧ w'.cell? ⟨gb244, 4, none⟩ = some (.int .i64 a0_4) ∧ w'.cell? ⟨gb244, 5, none⟩ = some (.slice A0_5 l0_5.length c0_5) ∧ w'.cell? ⟨gb244, 6, none⟩ = some (.slice (some ad246) l0_6.length c0_6) ∧ w'.cell? ⟨gb244, 7, none⟩ = some (.slice A0_7 l0_7.length c0_7) ∧ w'.cell? ⟨gb244, 8, none⟩ = some (.int .i64 a0_8) ∧ w'.cell? (ad246.add ((a1).toNat * 4)) = some (.int .i64 ((rd_T40 l0_6 a1).f0)) ∧ w'.cell? ⟨(ad246.add ((a1).toNat * 4)).block, (ad246.add ((a1).toNat * 4)).off + 1, none⟩ = some (.int .u32 ((rd_T40 l0_6 a1).f1)) ∧ w'.cell? ⟨(ad246.add ((a1).toNat * 4)).block, (ad246.add ((a1).toNat * 4)).off + 2, none⟩ = some (.int .i64 ((rd_T40 l0_6 a1).f2)) ∧ w'.cell? ⟨(ad246.add ((a1).toNat * 4)).block, (ad246.add ((a1).toNat * 4)).off + 3, none⟩ = some (.int .i64 ((rd_T40 l0_6 a1).f3))) (ds := []) #[false, false, false, false, false, false, false, false, false] (by kernel_rfl) rfl rfl ⟨(blk_cell BK244.out 0).trans rfl, (blk_cell BK244.out 1).trans rfl, (blk_cell BK244.out 2).trans rfl, (blk_cell BK244.out 3).trans rfl, (blk_cell BK244.out 4).trans rfl, (blk_cell BK244.out 5).trans rfl, (blk_cell BK244.out 6).trans rfl, (blk_cell BK244.out 7).trans rfl, (blk_cell BK244.out 8).trans rfl, ((HB.out.cell (World.block_lt_of_cell? w _ hw246_0)).trans hw246_0), ((HB.out.cell (World.block_lt_of_cell? w _ hw246_1)).trans hw246_1), ((HB.out.cell (World.block_lt_of_cell? w _ hw246_2)).trans hw246_2), ((HB.out.cell (World.block_lt_of_cell? w _ hw246_3)).trans hw246_3)⟩ (fun hHeld => ?_); refine with_tabW tocsinref15_Land.tab4 tocsinref15_Land.bits4 (fun HT_ HW_ => ?_)
       generalize w46.drew = w48 at BK244 HB hx246_0 hx246_1 hx246_2 hx246_3 hHeld ⊢
       refine pl 1 20 #[false, true, false, false, false, false, false, false, false] HT_ ?_
       refine pl 3 22 #[false, true, false, true, false, false, false, false, false] HT_ ?_
       refine tk13 0 19 #[true, true, false, true, false, false, false, false, false] HT_ HW_ hHeld ?_
       refine tk13 2 21 #[true, true, true, true, false, false, false, false, false] HT_ HW_ hHeld ?_
       refine pl 4 23 #[true, true, true, true, true, false, false, false, false] HT_ ?_
       refine tk13 5 24 #[true, true, true, true, true, true, false, false, false] HT_ HW_ hHeld ?_
       refine join_ (σ := Nat) 1 #[true, true, true, true, true, true, true, true, false] (fun s_ => [(25, .agg #[.int .i64 t247, .int .i64 t248, .int .i64 t249, .int .i64 t250, .int .i64 t251]), (9, .pointer (some ⟨s_, 0, none⟩))]) (fun s_ w' => (w'.cell? ⟨gb244, 0, none⟩ = some (.int .i64 a0_0) ∧ w'.cell? ⟨gb244, 1, none⟩ = some (.int .i64 a0_1) ∧ w'.cell? ⟨gb244, 2, none⟩ = some (.int .i64 a0_2) ∧ w'.cell? ⟨gb244, 3, none⟩ = some (.int .i64 a0_3) ∧ w'.cell? ⟨gb244, 4, none⟩ = some (.int .i64 a0_4) ∧ w'.cell? ⟨gb244, 5, none⟩ = some (.slice A0_5 l0_5.length c0_5) ∧ w'.cell? ⟨gb244, 6, none⟩ = some (.slice (some ad246) l0_6.length c0_6) ∧ w'.cell? ⟨gb244, 7, none⟩ = some (.slice A0_7 l0_7.length c0_7) ∧ w'.cell? ⟨gb244, 8, none⟩ = some (.int .i64 a0_8) ∧ w'.cell? (ad246.add ((a1).toNat * 4)) = some (.int .i64 ((rd_T40 l0_6 a1).f0)) ∧ w'.cell? ⟨(ad246.add ((a1).toNat * 4)).block, (ad246.add ((a1).toNat * 4)).off + 1, none⟩ = some (.int .u32 ((rd_T40 l0_6 a1).f1)) ∧ w'.cell? ⟨(ad246.add ((a1).toNat * 4)).block, (ad246.add ((a1).toNat * 4)).off + 2, none⟩ = some (.int .i64 ((rd_T40 l0_6 a1).f2)) ∧ w'.cell? ⟨(ad246.add ((a1).toNat * 4)).block, (ad246.add ((a1).toNat * 4)).off + 3, none⟩ = some (.int .i64 ((rd_T40 l0_6 a1).f3))) ∧ (w'.heap[gb244]? = some (.cells #[.int .i64 a0_0, .int .i64 a0_1, .int .i64 a0_2, .int .i64 a0_3, .int .i64 a0_4, .slice A0_5 l0_5.length c0_5, .slice (some ad246) l0_6.length c0_6, .slice A0_7 l0_7.length c0_7, .int .i64 a0_8] 26 (0, 0))) ∧ (w'.heap[s_]? = some (.cells #[.int .i64 0, .int .i64 0, .int .i64 0, .int .i64 0, .int .i64 0] 47 (0, 0))) ∧ (w.heap.size ≤ s_) ∧ (w.heap.size ≤ s_) ∧ (gb244 ≠ s_) ∧ (s_ ≠ gb244) ∧ (Below w.heap.size w w')) ?_ ?_
       rotate_left
       ·intro hCont
        refine two_ (i := 6) (j := 7) (Ni := some 25) (Nj := some 9) #[true, true, true, true, true, true, true, false, false] #[true, true, true, true, true, true, false, true, false] rfl rfl rfl rfl (two_of HT_.out (by kernel_rfl)) (by decide) (by decide) (fun K hK => ?_) (fun K hK => ?_)
        ·skip
         refine gor Try.func25 #[.agg #[.int .i64 a0_0, .int .i64 a0_1, .int .i64 a0_2, .int .i64 a0_3, .int .i64 a0_4, .slice A0_5 l0_5.length c0_5, .slice (some ad246) l0_6.length c0_6, .slice A0_7 l0_7.length c0_7, .int .i64 a0_8], .agg #[.int .i64 ((rd_T40 l0_6 a1).f0), .int .u32 ((rd_T40 l0_6 a1).f1), .int .i64 ((rd_T40 l0_6 a1).f2), .int .i64 ((rd_T40 l0_6 a1).f3)]] ?_
         with_reducible refine (tocsinref08_Times.calls a0_0 a0_1 a0_2 a0_3 a0_4 _ _ l0_5 _ _ l0_6 _ _ l0_7 a0_8 ((rd_T40 l0_6 a1).f0) ((rd_T40 l0_6 a1).f1) ((rd_T40 l0_6 a1).f2) ((rd_T40 l0_6 a1).f3) t247 t248 t249 t250 t251 _ ?side1 ?side2 ?side3 ?side4 ?side5 ?side6 A9.out).mono ?_
         (case side1 => exact kC (Kd.C_below HR0_5.out HB.out))
         (case side2 => exact HC0_5.out)
         (case side3 => exact kC (Kd.C_below HR0_6.out HB.out))
         (case side4 => exact HC0_6.out)
         (case side5 => exact kC (Kd.C_below HR0_7.out HB.out))
         (case side6 => exact HC0_7.out)
         rintro e w49 ⟨rfl, hb⟩
         refine ⟨_, rfl, ?_⟩
         have n0_ := bb BK244 hb
         have n1_ := bs1 HB GE244 hb
         clear BK244
         clear HB
         have BK244 := n0_
         have HB := n1_
         clear n0_ n1_
         (try clear hb)
         (try clear hb2)
         (try clear hk)
         (try clear hi)
         refine hK.out _ _ ⟨(blk_cell BK244.out 0).trans rfl, (blk_cell BK244.out 1).trans rfl, (blk_cell BK244.out 2).trans rfl, (blk_cell BK244.out 3).trans rfl, (blk_cell BK244.out 4).trans rfl, (blk_cell BK244.out 5).trans rfl, (blk_cell BK244.out 6).trans rfl, (blk_cell BK244.out 7).trans rfl, (blk_cell BK244.out 8).trans rfl, ((HB.out.cell (World.block_lt_of_cell? w _ hw246_0)).trans hw246_0), ((HB.out.cell (World.block_lt_of_cell? w _ hw246_1)).trans hw246_1), ((HB.out.cell (World.block_lt_of_cell? w _ hw246_2)).trans hw246_2), ((HB.out.cell (World.block_lt_of_cell? w _ hw246_3)).trans hw246_3)⟩ (fun hHeld => ?_)
         clear hK K
         refine norm_ (a' := ?_) ?_ ?_
         rotate_left
         ·show Act.put _ (some 25) _ = _
          simp only [Act.put, sT, sZ, sS, i64_w, i32_w]
          rfl
         refine one_ (i := 7) (N := some 9) #[true, true, true, true, true, true, true, true, false] rfl rfl (one_of HT_.out (by kernel_rfl)) (by decide) (fun K hK => ?_)
         refine box_step ?hg (N := 9) ?hd (cs := #[.int .i64 0, .int .i64 0, .int .i64 0, .int .i64 0, .int .i64 0]) (t := 47) ?hr ?_; (case hd => rfl); (case hg => rfl); (case hr => first | (go_simp; done) | (go_simp; rfl))
         intro gb252 hg w50 hbox hb
         have n0_ := bb BK244 hb
         have n1_ := bs1 HB GE244 hb
         have n2_ := Aside0.mk (hbox)
         have n3_ := bg1 hg HB GE244
         have n4_ := bg1 hg HB GE244
         have n5_ := nl hg BK244
         have n6_ := ng hg BK244
         clear BK244
         clear HB
         have BK244 := n0_
         have HB := n1_
         have BK252 := n2_
         have GW252 := n3_
         have GE252 := n4_
         have NB244_252 := n5_
         have NB252_244 := n6_
         clear n0_ n1_ n2_ n3_ n4_ n5_ n6_
         clear hb hbox hg
         refine hK.out _ _ ⟨(blk_cell BK244.out 0).trans rfl, (blk_cell BK244.out 1).trans rfl, (blk_cell BK244.out 2).trans rfl, (blk_cell BK244.out 3).trans rfl, (blk_cell BK244.out 4).trans rfl, (blk_cell BK244.out 5).trans rfl, (blk_cell BK244.out 6).trans rfl, (blk_cell BK244.out 7).trans rfl, (blk_cell BK244.out 8).trans rfl, ((HB.out.cell (World.block_lt_of_cell? w _ hw246_0)).trans hw246_0), ((HB.out.cell (World.block_lt_of_cell? w _ hw246_1)).trans hw246_1), ((HB.out.cell (World.block_lt_of_cell? w _ hw246_2)).trans hw246_2), ((HB.out.cell (World.block_lt_of_cell? w _ hw246_3)).trans hw246_3)⟩ (fun hHeld => ?_)
         clear hK K
         refine norm_ (a' := ?_) ?_ ?_
         rotate_left
         ·show Act.put _ (some 9) _ = _
          simp only [Act.put, sT, sZ, sS, i64_w, i32_w]
          rfl
         exact norm_ (by simp only [putAll, Act.put, sT, sZ, sS]) (hCont (gb252) _ ⟨hHeld, (bk BK244), (bk BK252), GW252.out, GE252.out, NB244_252.out, NB252_244.out, (bw2 HB GE244 GE252)⟩)
        ·skip
         refine box_step ?hg (N := 9) ?hd (cs := #[.int .i64 0, .int .i64 0, .int .i64 0, .int .i64 0, .int .i64 0]) (t := 47) ?hr ?_; (case hd => rfl); (case hg => rfl); (case hr => first | (go_simp; done) | (go_simp; rfl))
         intro gb252 hg w49 hbox hb
         have n0_ := bb BK244 hb
         have n1_ := bs1 HB GE244 hb
         have n2_ := Aside0.mk (hbox)
         have n3_ := bg1 hg HB GE244
         have n4_ := bg1 hg HB GE244
         have n5_ := nl hg BK244
         have n6_ := ng hg BK244
         clear BK244
         clear HB
         have BK244 := n0_
         have HB := n1_
         have BK252 := n2_
         have GW252 := n3_
         have GE252 := n4_
         have NB244_252 := n5_
         have NB252_244 := n6_
         clear n0_ n1_ n2_ n3_ n4_ n5_ n6_
         clear hb hbox hg
         refine hK.out _ _ ⟨(blk_cell BK244.out 0).trans rfl, (blk_cell BK244.out 1).trans rfl, (blk_cell BK244.out 2).trans rfl, (blk_cell BK244.out 3).trans rfl, (blk_cell BK244.out 4).trans rfl, (blk_cell BK244.out 5).trans rfl, (blk_cell BK244.out 6).trans rfl, (blk_cell BK244.out 7).trans rfl, (blk_cell BK244.out 8).trans rfl, ((HB.out.cell (World.block_lt_of_cell? w _ hw246_0)).trans hw246_0), ((HB.out.cell (World.block_lt_of_cell? w _ hw246_1)).trans hw246_1), ((HB.out.cell (World.block_lt_of_cell? w _ hw246_2)).trans hw246_2), ((HB.out.cell (World.block_lt_of_cell? w _ hw246_3)).trans hw246_3)⟩ (fun hHeld => ?_)
         clear hK K
         refine norm_ (a' := ?_) ?_ ?_
         rotate_left
         ·show Act.put _ (some 9) _ = _
          simp only [Act.put, sT, sZ, sS, i64_w, i32_w]
          rfl
         refine one_ (i := 6) (N := some 25) #[true, true, true, true, true, true, true, true, false] rfl rfl (one_of HT_.out (by kernel_rfl)) (by decide) (fun K hK => ?_)
         refine gor Try.func25 #[.agg #[.int .i64 a0_0, .int .i64 a0_1, .int .i64 a0_2, .int .i64 a0_3, .int .i64 a0_4, .slice A0_5 l0_5.length c0_5, .slice (some ad246) l0_6.length c0_6, .slice A0_7 l0_7.length c0_7, .int .i64 a0_8], .agg #[.int .i64 ((rd_T40 l0_6 a1).f0), .int .u32 ((rd_T40 l0_6 a1).f1), .int .i64 ((rd_T40 l0_6 a1).f2), .int .i64 ((rd_T40 l0_6 a1).f3)]] ?_
         with_reducible refine (tocsinref08_Times.calls a0_0 a0_1 a0_2 a0_3 a0_4 _ _ l0_5 _ _ l0_6 _ _ l0_7 a0_8 ((rd_T40 l0_6 a1).f0) ((rd_T40 l0_6 a1).f1) ((rd_T40 l0_6 a1).f2) ((rd_T40 l0_6 a1).f3) t247 t248 t249 t250 t251 _ ?side1 ?side2 ?side3 ?side4 ?side5 ?side6 A9.out).mono ?_
         (case side1 => exact kC (Kd.C_below HR0_5.out HB.out))
         (case side2 => exact HC0_5.out)
         (case side3 => exact kC (Kd.C_below HR0_6.out HB.out))
         (case side4 => exact HC0_6.out)
         (case side5 => exact kC (Kd.C_below HR0_7.out HB.out))
         (case side6 => exact HC0_7.out)
         rintro e w50 ⟨rfl, hb⟩
         refine ⟨_, rfl, ?_⟩
         have n0_ := bb BK244 hb
         have n1_ := bb BK252 hb
         have n2_ := bs2 HB GE244 GE252 hb
         clear BK244
         clear BK252
         clear HB
         have BK244 := n0_
         have BK252 := n1_
         have HB := n2_
         clear n0_ n1_ n2_
         (try clear hb)
         (try clear hb2)
         (try clear hk)
         (try clear hi)
         refine hK.out _ _ ⟨(blk_cell BK244.out 0).trans rfl, (blk_cell BK244.out 1).trans rfl, (blk_cell BK244.out 2).trans rfl, (blk_cell BK244.out 3).trans rfl, (blk_cell BK244.out 4).trans rfl, (blk_cell BK244.out 5).trans rfl, (blk_cell BK244.out 6).trans rfl, (blk_cell BK244.out 7).trans rfl, (blk_cell BK244.out 8).trans rfl, ((HB.out.cell (World.block_lt_of_cell? w _ hw246_0)).trans hw246_0), ((HB.out.cell (World.block_lt_of_cell? w _ hw246_1)).trans hw246_1), ((HB.out.cell (World.block_lt_of_cell? w _ hw246_2)).trans hw246_2), ((HB.out.cell (World.block_lt_of_cell? w _ hw246_3)).trans hw246_3)⟩ (fun hHeld => ?_)
         clear hK K
         refine norm_ (a' := ?_) ?_ ?_
         rotate_left
         ·show Act.put _ (some 25) _ = _
          simp only [Act.put, sT, sZ, sS, i64_w, i32_w]
          rfl
         exact norm_ (by simp only [putAll, Act.put, sT, sZ, sS]) (hCont (gb252) _ ⟨hHeld, (bk BK244), (bk BK252), GW252.out, GE252.out, NB244_252.out, NB252_244.out, (bw2 HB GE244 GE252)⟩)
       rintro gb252 w51 ⟨hS_, h0_, h1_, h2_, h3_, h4_, h5_, h6_⟩
       have n0_ : Aside0 (w51.heap[gb244]? = some (.cells #[.int .i64 a0_0, .int .i64 a0_1, .int .i64 a0_2, .int .i64 a0_3, .int .i64 a0_4, .slice A0_5 l0_5.length c0_5, .slice (some ad246) l0_6.length c0_6, .slice A0_7 l0_7.length c0_7, .int .i64 a0_8] 26 (0, 0))) := ⟨h0_⟩
       have n1_ : Aside0 (w51.heap[gb252]? = some (.cells #[.int .i64 0, .int .i64 0, .int .i64 0, .int .i64 0, .int .i64 0] 47 (0, 0))) := ⟨h1_⟩
       have n2_ : Aside0 (w.heap.size ≤ gb252) := ⟨h2_⟩
       have n3_ : Aside0 (w.heap.size ≤ gb252) := ⟨h3_⟩
       have n4_ : Aside0 (gb244 ≠ gb252) := ⟨h4_⟩
       have n5_ : Aside0 (gb252 ≠ gb244) := ⟨h5_⟩
       have n6_ : Aside0 (Below w.heap.size w w51) := ⟨h6_⟩
       clear BK244
       clear HB
       clear h0_ h1_ h2_ h3_ h4_ h5_ h6_
       have BK244 := n0_
       have BK252 := n1_
       have GW252 := n2_
       have GE252 := n3_
       have NB244_252 := n4_
       have NB252_244 := n5_
       have HB := n6_
       clear n0_ n1_ n2_ n3_ n4_ n5_ n6_
       have hHeld : w51.cell? ⟨gb244, 0, none⟩ = some (.int .i64 a0_0) ∧ w51.cell? ⟨gb244, 1, none⟩ = some (.int .i64 a0_1) ∧ w51.cell? ⟨gb244, 2, none⟩ = some (.int .i64 a0_2) ∧ w51.cell? ⟨gb244, 3, none⟩ = some (.int .i64 a0_3) ∧ w51.cell? ⟨gb244, 4, none⟩ = some (.int .i64 a0_4) ∧ w51.cell? ⟨gb244, 5, none⟩ = some (.slice A0_5 l0_5.length c0_5) ∧ w51.cell? ⟨gb244, 6, none⟩ = some (.slice (some ad246) l0_6.length c0_6) ∧ w51.cell? ⟨gb244, 7, none⟩ = some (.slice A0_7 l0_7.length c0_7) ∧ w51.cell? ⟨gb244, 8, none⟩ = some (.int .i64 a0_8) ∧ w51.cell? (ad246.add ((a1).toNat * 4)) = some (.int .i64 ((rd_T40 l0_6 a1).f0)) ∧ w51.cell? ⟨(ad246.add ((a1).toNat * 4)).block, (ad246.add ((a1).toNat * 4)).off + 1, none⟩ = some (.int .u32 ((rd_T40 l0_6 a1).f1)) ∧ w51.cell? ⟨(ad246.add ((a1).toNat * 4)).block, (ad246.add ((a1).toNat * 4)).off + 2, none⟩ = some (.int .i64 ((rd_T40 l0_6 a1).f2)) ∧ w51.cell? ⟨(ad246.add ((a1).toNat * 4)).block, (ad246.add ((a1).toNat * 4)).off + 3, none⟩ = some (.int .i64 ((rd_T40 l0_6 a1).f3)) := hS_
       refine norm_ (a' := ?_) ?_ ?_
       rotate_left
       ·simp only [putAll, Act.put, sT, sZ, sS]
        rfl
       refine one_ (i := 8) (N := none) #[true, true, true, true, true, true, true, true, true] rfl rfl (one_of HT_.out (by kernel_rfl)) (by decide) (fun K hK => ?_)
       have hs52 : w51.cell? ⟨gb252, 0, none⟩ = some (.int .i64 0) := (blk_cell BK252.out 0).trans rfl
       have hfs52 := blk_frozen BK252.out 0
       have hns52_0 := NB244_252.out
       have hms52_0 := NB252_244.out
       have hs53 : w51.cell? ⟨gb252, 1, none⟩ = some (.int .i64 0) := (blk_cell BK252.out 1).trans rfl
       have hfs53 := blk_frozen BK252.out 1
       have hns53_0 := NB244_252.out
       have hms53_0 := NB252_244.out
       have hs54 : w51.cell? ⟨gb252, 2, none⟩ = some (.int .i64 0) := (blk_cell BK252.out 2).trans rfl
       have hfs54 := blk_frozen BK252.out 2
       have hns54_0 := NB244_252.out
       have hms54_0 := NB252_244.out
       have hs55 : w51.cell? ⟨gb252, 3, none⟩ = some (.int .i64 0) := (blk_cell BK252.out 3).trans rfl
       have hfs55 := blk_frozen BK252.out 3
       have hns55_0 := NB244_252.out
       have hms55_0 := NB252_244.out
       have hs56 : w51.cell? ⟨gb252, 4, none⟩ = some (.int .i64 0) := (blk_cell BK252.out 4).trans rfl
       have hfs56 := blk_frozen BK252.out 4
       have hns56_0 := NB244_252.out
       have hms56_0 := NB252_244.out
       refine skip_ (w1 := ?_) (by rfl) rfl ?_ ?_
       rotate_left
       ·go_simp
        rfl
       refine hK.out _ _ ⟨(cf NB244_252 hHeld.1), (cf NB244_252 hHeld.2.1), (cf NB244_252 hHeld.2.2.1), (cf NB244_252 hHeld.2.2.2.1), (cf NB244_252 hHeld.2.2.2.2.1), (cf NB244_252 hHeld.2.2.2.2.2.1), (cf NB244_252 hHeld.2.2.2.2.2.2.1), (cf NB244_252 hHeld.2.2.2.2.2.2.2.1), (cf NB244_252 hHeld.2.2.2.2.2.2.2.2.1), (cfa hw246_0 GW252 hHeld.2.2.2.2.2.2.2.2.2.1), (cfa hw246_1 GW252 hHeld.2.2.2.2.2.2.2.2.2.2.1), (cfa hw246_2 GW252 hHeld.2.2.2.2.2.2.2.2.2.2.2.1), (cfa hw246_3 GW252 hHeld.2.2.2.2.2.2.2.2.2.2.2.2)⟩ (fun hHeld => ?_)
       clear hK K
       refine done_ (done_of HT_.out (by kernel_rfl)) ?_
       have hnb57 := NB244_252.out
       have hnc57 := NB252_244.out
       obtain ⟨hcz58_0, hcz58_1, hcz58_2, hcz58_3, hcz58_4, hcz58_5, hcz58_6, hcz58_7, hcz58_8, hfz58_0, hfz58_1, hfz58_2, hfz58_3, hfz58_4, hfz58_5, hfz58_6, hfz58_7, hfz58_8⟩ := bz9 BK244
       obtain ⟨hcz59_0, hcz59_1, hcz59_2, hcz59_3, hcz59_4, hfz59_0, hfz59_1, hfz59_2, hfz59_3, hfz59_4⟩ := bz5 BK252
       try go_wp2
       go_ret2
       exact ⟨re, bw2 HB GE244 GE252⟩
    ·rw [if_neg c8] at H
     exact absurd H (by simp)
   ·rw [if_neg c7] at H
    exact absurd H (by simp)
 ·replace c5 := Bool.eq_false_iff.mpr c5
  subst c5
  have H1 : (some (0, false)) = some (r1, r2) := by rw [if_neg (show ¬ (false = true) by decide)] at H; exact H
  clear H
  have H := H1
  clear H1
  simp only [Option.some.injEq, Prod.mk.injEq] at H
  obtain ⟨rfl, rfl⟩ := H
  go_enter Try.func16, Try.ntmps16
  go_wp2_with (first | ((with_reducible refine gate_dst (N := 3) rfl ?_); refine boxe (N := 3) (cs := #[.int .i64 a0_0, .int .i64 a0_1, .int .i64 a0_2, .int .i64 a0_3, .int .i64 a0_4, .slice A0_5 l0_5.length c0_5, .slice A0_6 l0_6.length c0_6, .slice A0_7 l0_7.length c0_7, .int .i64 a0_8]) (t := 26) ?_; intro gb244 hg w60 hbox hb; have BK244 := Aside0.mk (hbox); have GW244 := bg0 hg HB; have GE244 := GW244; replace HB := bs0 HB hb; clear hb hbox hg; obtain ⟨hcz61_0, hcz61_1, hcz61_2, hcz61_3, hcz61_4, hcz61_5, hcz61_6, hcz61_7, hcz61_8, hfz61_0, hfz61_1, hfz61_2, hfz61_3, hfz61_4, hfz61_5, hfz61_6, hfz61_7, hfz61_8⟩ := bz9 BK244) | ((with_reducible refine gate_callee (f := 33) rfl ?_); refine gol (some 13) Try.func33 #[.agg #[.int .i64 a0_0, .int .i64 a0_1, .int .i64 a0_2, .int .i64 a0_3, .int .i64 a0_4, .slice A0_5 l0_5.length c0_5, .slice A0_6 l0_6.length c0_6, .slice A0_7 l0_7.length c0_7, .int .i64 a0_8], .int .i64 a1, .int .i64 a2] ?_; (with_reducible refine (tocsinref15_Entry.calls k a0_0 a0_1 a0_2 a0_3 a0_4 _ _ l0_5 _ _ l0_6 _ _ l0_7 a0_8 a1 a2 false _ ?side1 ?side2 ?side3 ?side4 ?side5 ?side6 A4.out).mono ?_); (case side1 => exact kC (Kd.C_below HR0_5.out HB.out)); (case side2 => exact HC0_5.out); (case side3 => exact kC (Kd.C_below HR0_6.out HB.out)); (case side4 => exact HC0_6.out); (case side5 => exact kC (Kd.C_below HR0_7.out HB.out)); (case side6 => exact HC0_7.out); rintro e w62 ⟨rfl, hb⟩; refine ⟨_, rfl, ?_⟩; replace BK244 := bb BK244 hb; replace HB := bs1 HB GE244 hb; (try clear hb); (try clear hb2); (try clear hk); (try clear hi)))
  go_ret2
  exact ⟨re, bw1 HB GE244⟩
end Go.Proofs.Ytbmldeikjfecfaa.T
