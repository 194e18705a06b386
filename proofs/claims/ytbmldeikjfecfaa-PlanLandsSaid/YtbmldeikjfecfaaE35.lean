/- A part of the proof of the statement PlanLands: words, contracts of functions that it reaches, and what they compute. No condition. -/
import Derived.Test.YtbmldeikjfecfaaE01
import Derived.Test.YtbmldeikjfecfaaE04
set_option linter.unusedVariables false
set_option linter.unusedSimpArgs false
namespace Go.Proofs.Ytbmldeikjfecfaa.T
open Go.RowKit Go.Proofs.YtbmldeikjfecfaaW.PrintWords Go.Proofs.YtbmldeikjfecfaaW.PrintLast Go.Proofs.YtbmldeikjfecfaaW.PrintMore
attribute [local go_sem] max2_int min2_int max_two min_two max_three min_three max_four min_four
attribute [local go_sem] at34_0 at34_1 at34_2 at42_0 at42_1 at42_2 at42_3 at47_0 at47_1 at47_2 at47_3 at47_4
mutual
def plan_met.l0 : Nat → List (S71) → Int → Int → Int → Int → Int → Int → Int → Int → Int → List (List Int) → List (S40) → List (S63) → Int → Option (Int × Bool)
 | 0, _, _, _, _, _, _, _, _, _, _, _, _, _, _ => none
 | k + 1, x1, x2, x3, x10, x11, x190000, x190001, x190002, x190003, x190004, x190005, x190006, x190007, x190008 => if x11 ≤ (wrap64 (x10 + 3)) then (plan_met.l1 k x1 x2 x3 x10 x11 x1 (x1.length : Int) 0 x190000 x190001 x190002 x190003 x190004 x190005 x190006 x190007 x190008) else (some (0, false))
def plan_met.l1 : Nat → List (S71) → Int → Int → Int → Int → List (S71) → Int → Int → Int → Int → Int → Int → Int → List (List Int) → List (S40) → List (S63) → Int → Option (Int × Bool)
 | 0, _, _, _, _, _, _, _, _, _, _, _, _, _, _, _, _, _ => none
 | k + 1, x1, x2, x3, x10, x11, x28, x29, x30, x190000, x190001, x190002, x190003, x190004, x190005, x190006, x190007, x190008 => if x30 < x29 then (if 0 ≤ x30 then (if x30 < (x28.length : Int) then (if (wrap64 ((wrap64 (x11 * x190001)) + ((rd_T71 x28 x30).f0))) < (wrap64 (x2 + x3)) then (if x2 < (wrap64 ((wrap64 (x11 * x190001)) + ((rd_T71 x28 x30).f1))) then (some (wrap64 ((wrap64 (x11 * x190001)) + ((rd_T71 x28 x30).f1)), true)) else (plan_met.l1 k x1 x2 x3 x10 x11 x28 x29 (wrap64 (x30 + 1)) x190000 x190001 x190002 x190003 x190004 x190005 x190006 x190007 x190008)) else (plan_met.l1 k x1 x2 x3 x10 x11 x28 x29 (wrap64 (x30 + 1)) x190000 x190001 x190002 x190003 x190004 x190005 x190006 x190007 x190008)) else (none)) else (none)) else (plan_met.l0 k x1 x2 x3 x10 (wrap64 (x11 + 1)) x190000 x190001 x190002 x190003 x190004 x190005 x190006 x190007 x190008)
end
def plan_met.f (k : Nat) (a0_0 : Int) (a0_1 : Int) (a0_2 : Int) (a0_3 : Int) (a0_4 : Int) (l0_5 : List (List Int)) (l0_6 : List (S40)) (l0_7 : List (S63)) (a0_8 : Int) (l1 : List (S71)) (a2 : Int) (a3 : Int) : Option (Int × Bool) := if a0_1 = 0 then (none) else (plan_met.l0 k l1 a2 a3 (wrap64 ((wrap64 (Int.tdiv a2 a0_1)) - 1)) (wrap64 ((wrap64 (Int.tdiv a2 a0_1)) - 1)) a0_0 a0_1 a0_2 a0_3 a0_4 l0_5 l0_6 l0_7 a0_8)
theorem plan_met.mono_l : ∀ k, (∀ y0 y1 y2 y3 y4 y5 y6 y7 y8 y9 y10 y11 y12 y13, LeO (plan_met.l0 k y0 y1 y2 y3 y4 y5 y6 y7 y8 y9 y10 y11 y12 y13) (plan_met.l0 (k + 1) y0 y1 y2 y3 y4 y5 y6 y7 y8 y9 y10 y11 y12 y13)) ∧ (∀ y0 y1 y2 y3 y4 y5 y6 y7 y8 y9 y10 y11 y12 y13 y14 y15 y16, LeO (plan_met.l1 k y0 y1 y2 y3 y4 y5 y6 y7 y8 y9 y10 y11 y12 y13 y14 y15 y16) (plan_met.l1 (k + 1) y0 y1 y2 y3 y4 y5 y6 y7 y8 y9 y10 y11 y12 y13 y14 y15 y16))
 | 0 => ⟨fun _ _ _ _ _ _ _ _ _ _ _ _ _ _ r h => by simp [plan_met.l0] at h, fun _ _ _ _ _ _ _ _ _ _ _ _ _ _ _ _ _ r h => by simp [plan_met.l1] at h⟩
 | k + 1 => by
  obtain ⟨ih0, ih1⟩ := plan_met.mono_l k
  refine ⟨?_, ?_⟩
  ·intro y0 y1 y2 y3 y4 y5 y6 y7 y8 y9 y10 y11 y12 y13
   unfold plan_met.l0
   repeat' first
   | (with_reducible exact ih0 _ _ _ _ _ _ _ _ _ _ _ _ _ _)
   | (with_reducible exact ih1 _ _ _ _ _ _ _ _ _ _ _ _ _ _ _ _ _)
   | (with_reducible exact LeO.refl _)
   | (with_reducible exact LeO.none _)
   | (with_reducible refine LeO.ite ?_ ?_)
   | (with_reducible refine LeO.bind ?_ (fun _ => ?_))
   | exact ih0 _ _ _ _ _ _ _ _ _ _ _ _ _ _
   | exact ih1 _ _ _ _ _ _ _ _ _ _ _ _ _ _ _ _ _
   | exact LeO.none _
   | refine LeO.ite ?_ ?_
   | refine LeO.bind ?_ (fun _ => ?_)
  ·intro y0 y1 y2 y3 y4 y5 y6 y7 y8 y9 y10 y11 y12 y13 y14 y15 y16
   unfold plan_met.l1
   repeat' first
   | (with_reducible exact ih0 _ _ _ _ _ _ _ _ _ _ _ _ _ _)
   | (with_reducible exact ih1 _ _ _ _ _ _ _ _ _ _ _ _ _ _ _ _ _)
   | (with_reducible exact LeO.refl _)
   | (with_reducible exact LeO.none _)
   | (with_reducible refine LeO.ite ?_ ?_)
   | (with_reducible refine LeO.bind ?_ (fun _ => ?_))
   | exact ih0 _ _ _ _ _ _ _ _ _ _ _ _ _ _
   | exact ih1 _ _ _ _ _ _ _ _ _ _ _ _ _ _ _ _ _
   | exact LeO.none _
   | refine LeO.ite ?_ ?_
   | refine LeO.bind ?_ (fun _ => ?_)
theorem plan_met.mono : ∀ a0 a1 a2 a3 a4 a5 a6 a7 a8 a9 a10 a11 k, LeO (plan_met.f k a0 a1 a2 a3 a4 a5 a6 a7 a8 a9 a10 a11) (plan_met.f (k + 1) a0 a1 a2 a3 a4 a5 a6 a7 a8 a9 a10 a11) := by
 intro a0 a1 a2 a3 a4 a5 a6 a7 a8 a9 a10 a11 k
 obtain ⟨ih0, ih1⟩ := plan_met.mono_l k
 unfold plan_met.f
 repeat' first
   | (with_reducible exact ih0 _ _ _ _ _ _ _ _ _ _ _ _ _ _)
   | (with_reducible exact ih1 _ _ _ _ _ _ _ _ _ _ _ _ _ _ _ _ _)
   | (with_reducible exact LeO.refl _)
   | (with_reducible exact LeO.none _)
   | (with_reducible refine LeO.ite ?_ ?_)
   | (with_reducible refine LeO.bind ?_ (fun _ => ?_))
   | exact ih0 _ _ _ _ _ _ _ _ _ _ _ _ _ _
   | exact ih1 _ _ _ _ _ _ _ _ _ _ _ _ _ _ _ _ _
   | exact LeO.none _
   | refine LeO.ite ?_ ?_
   | refine LeO.bind ?_ (fun _ => ?_)
set_option maxHeartbeats 8000000 in
set_option maxRecDepth 100000 in
theorem plan_met.calls (k : Nat) (a0_0 : Int) (a0_1 : Int) (a0_2 : Int) (a0_3 : Int) (a0_4 : Int) (A0_5 : Option Addr) (c0_5 : Nat) (l0_5 : List (List Int)) (A0_6 : Option Addr) (c0_6 : Nat) (l0_6 : List (S40)) (A0_7 : Option Addr) (c0_7 : Nat) (l0_7 : List (S63)) (a0_8 : Int) (A1 : Option Addr) (c1 : Nat) (l1 : List (S71)) (a2 : Int) (a3 : Int) (r1 : Int) (r2 : Bool) (w : World) (hr0_5 : Kd.C (Kd.slice 2 (Kd.int .i64)) w A0_5 l0_5.length l0_5) (hc0_5 : l0_5.length ≤ c0_5) (hr0_6 : Kd.C k40 w A0_6 l0_6.length l0_6) (hc0_6 : l0_6.length ≤ c0_6) (hr0_7 : Kd.C k63 w A0_7 l0_7.length l0_7) (hc0_7 : l0_7.length ≤ c0_7) (hr1 : Kd.C k71 w A1 l1.length l1) (hc1 : l1.length ≤ c1) (h : plan_met.f k a0_0 a0_1 a0_2 a0_3 a0_4 l0_5 l0_6 l0_7 a0_8 l1 a2 a3 = some (r1, r2)) :
  Calls Try.prog 36 #[.agg #[.int .i64 a0_0, .int .i64 a0_1, .int .i64 a0_2, .int .i64 a0_3, .int .i64 a0_4, .slice A0_5 l0_5.length c0_5, .slice A0_6 l0_6.length c0_6, .slice A0_7 l0_7.length c0_7, .int .i64 a0_8], .slice A1 l1.length c1, .int .i64 a2, .int .i64 a3] w fun e w' => e = .returned (.tuple #[.int .i64 r1, .bool r2]) ∧ Below w.heap.size w w' := by
 have hu26 := Try.underlying26
 have hu71 := Try.underlying71
 have HR0_5 := Aside0.mk hr0_5
 have HC0_5 := Aside0.mk hc0_5
 clear hr0_5 hc0_5
 have HR0_6 := Aside0.mk hr0_6
 have HC0_6 := Aside0.mk hc0_6
 clear hr0_6 hc0_6
 have HR0_7 := Aside0.mk hr0_7
 have HC0_7 := Aside0.mk hc0_7
 clear hr0_7 hc0_7
 have HR1 := Aside0.mk hr1
 have HC1 := Aside0.mk hc1
 clear hr1 hc1
 have HB := Aside0.mk (Below.refl w.heap.size w)
 have H : (if a0_1 = 0 then (none) else (plan_met.l0 k l1 a2 a3 (wrap64 ((wrap64 (Int.tdiv a2 a0_1)) - 1)) (wrap64 ((wrap64 (Int.tdiv a2 a0_1)) - 1)) a0_0 a0_1 a0_2 a0_3 a0_4 l0_5 l0_6 l0_7 a0_8)) = some (r1, r2) := h
 clear h
 by_cases c5 : a0_1 = 0
 ·rw [if_pos c5] at H
  exact absurd H (by simp)
 ·rw [if_neg c5] at H
  have c5b0 : (a0_1 == 0) = false := beq_eq_false_iff_ne.mpr c5
  have c5b1 : (a0_1 != 0) = true := bne_iff_ne.mpr c5
  have H' := Aside0.mk H
  clear H
  go_enter Try.func36, Try.ntmps36
  go_wp2_with (first | ((with_reducible refine gate_dst (N := 4) rfl ?_); refine boxe (N := 4) (cs := #[.int .i64 a0_0, .int .i64 a0_1, .int .i64 a0_2, .int .i64 a0_3, .int .i64 a0_4, .slice A0_5 l0_5.length c0_5, .slice A0_6 l0_6.length c0_6, .slice A0_7 l0_7.length c0_7, .int .i64 a0_8]) (t := 26) ?_; intro gb189 hg w6 hbox hb; have BK189 := Aside0.mk (hbox); have GW189 := bg0 hg HB; have GE189 := GW189; replace HB := bs0 HB hb; clear hb hbox hg; obtain ⟨hcz7_0, hcz7_1, hcz7_2, hcz7_3, hcz7_4, hcz7_5, hcz7_6, hcz7_7, hcz7_8, hfz7_0, hfz7_1, hfz7_2, hfz7_3, hfz7_4, hfz7_5, hfz7_6, hfz7_7, hfz7_8⟩ := bz9 BK189))
  repeat (go_quiet (first | ((with_reducible refine gate_dst (N := 4) rfl ?_); refine boxe (N := 4) (cs := #[.int .i64 a0_0, .int .i64 a0_1, .int .i64 a0_2, .int .i64 a0_3, .int .i64 a0_4, .slice A0_5 l0_5.length c0_5, .slice A0_6 l0_6.length c0_6, .slice A0_7 l0_7.length c0_7, .int .i64 a0_8]) (t := 26) ?_; intro gb189 hg w6 hbox hb; have BK189 := Aside0.mk (hbox); have GW189 := bg0 hg HB; have GE189 := GW189; replace HB := bs0 HB hb; clear hb hbox hg; obtain ⟨hcz7_0, hcz7_1, hcz7_2, hcz7_3, hcz7_4, hcz7_5, hcz7_6, hcz7_7, hcz7_8, hfz7_0, hfz7_1, hfz7_2, hfz7_3, hfz7_4, hfz7_5, hfz7_6, hfz7_7, hfz7_8⟩ := bz9 BK189)); try go_wp2_with (first | ((with_reducible refine gate_dst (N := 4) rfl ?_); refine boxe (N := 4) (cs := #[.int .i64 a0_0, .int .i64 a0_1, .int .i64 a0_2, .int .i64 a0_3, .int .i64 a0_4, .slice A0_5 l0_5.length c0_5, .slice A0_6 l0_6.length c0_6, .slice A0_7 l0_7.length c0_7, .int .i64 a0_8]) (t := 26) ?_; intro gb189 hg w6 hbox hb; have BK189 := Aside0.mk (hbox); have GW189 := bg0 hg HB; have GE189 := GW189; replace HB := bs0 HB hb; clear hb hbox hg; obtain ⟨hcz7_0, hcz7_1, hcz7_2, hcz7_3, hcz7_4, hcz7_5, hcz7_6, hcz7_7, hcz7_8, hfz7_0, hfz7_1, hfz7_2, hfz7_3, hfz7_4, hfz7_5, hfz7_6, hfz7_7, hfz7_8⟩ := bz9 BK189)))
  (try simp only [Act.put, sT, sZ, sS])
  go_loopg [11] k (fun kq v11 w' => ∃ (x11_1 : Int), v11 = .int .i64 x11_1 ∧ Aside0 (plan_met.l0 kq l1 a2 a3 (wrap64 ((wrap64 (Int.tdiv a2 a0_1)) - 1)) x11_1 a0_0 a0_1 a0_2 a0_3 a0_4 l0_5 l0_6 l0_7 a0_8 = some (r1, r2)) ∧ Aside0 (kq ≤ k) ∧ Aside0 (w'.heap[gb189]? = some (.cells #[.int .i64 a0_0, .int .i64 a0_1, .int .i64 a0_2, .int .i64 a0_3, .int .i64 a0_4, (.slice A0_5 l0_5.length c0_5), (.slice A0_6 l0_6.length c0_6), (.slice A0_7 l0_7.length c0_7), .int .i64 a0_8] 26 (0, 0))) ∧ Aside0 (Below w.heap.size w w'))
  case atStart => exact ⟨(wrap64 ((wrap64 (Int.tdiv a2 a0_1)) - 1)), rs, H', ⟨Nat.le_refl _⟩, ⟨bk BK189⟩, ⟨bw1 HB GE189⟩⟩
  case round =>
   clear H'
   try clear c1
   try clear p2
   try clear c3
   try clear c5
   try clear c5b0
   try clear c5b1
   try clear p6
   try clear hcz7_0 hcz7_1 hcz7_2 hcz7_3 hcz7_4 hcz7_5 hcz7_6 hcz7_7 hcz7_8
   try clear hfz7_0 hfz7_1 hfz7_2 hfz7_3 hfz7_4 hfz7_5 hfz7_6 hfz7_7 hfz7_8
   obtain ⟨x11_1, rfl, HA, HK1, BK189, HB⟩ := hrel
   cases gk with
   | zero => exact absurd HA.out (by simp [plan_met.l0])
   | succ k1 =>
    have H := HA.out
    clear HA
    simp only [plan_met.l0] at H
    by_cases c8 : x11_1 ≤ (wrap64 ((wrap64 ((wrap64 (Int.tdiv a2 a0_1)) - 1)) + 3))
    ·rw [if_pos c8] at H
     have c8b0 : decide (x11_1 ≤ (wrap64 ((wrap64 ((wrap64 (Int.tdiv a2 a0_1)) - 1)) + 3))) = true := decide_eq_true c8
     clear c8
     have H' := Aside0.mk H
     clear H
     go_wp2
     repeat (go_quiet (fail); try go_wp2)
     (try simp only [Act.put, sT, sZ, sS])
     go_loopg [30] k1 (fun kq v30 w' => ∃ (x30_2 : Int), v30 = .int .i64 x30_2 ∧ Aside0 (plan_met.l1 kq l1 a2 a3 (wrap64 ((wrap64 (Int.tdiv a2 a0_1)) - 1)) x11_1 l1 (l1.length : Int) x30_2 a0_0 a0_1 a0_2 a0_3 a0_4 l0_5 l0_6 l0_7 a0_8 = some (r1, r2)) ∧ Aside0 (kq ≤ k1) ∧ Aside0 (w'.heap[gb189]? = some (.cells #[.int .i64 a0_0, .int .i64 a0_1, .int .i64 a0_2, .int .i64 a0_3, .int .i64 a0_4, (.slice A0_5 l0_5.length c0_5), (.slice A0_6 l0_6.length c0_6), (.slice A0_7 l0_7.length c0_7), .int .i64 a0_8] 26 (0, 0))) ∧ Aside0 (Below w.heap.size w w'))
     case atStart => exact ⟨(0), rs, H', ⟨Nat.le_refl _⟩, ⟨bk BK189⟩, ⟨bw1 HB GE189⟩⟩
     case round =>
      clear H'
      try clear c1
      try clear p2
      try clear c3
      try clear c5
      try clear c5b0
      try clear c5b1
      try clear p6
      try clear c8
      try clear c8b0
      try clear hcz7_0 hcz7_1 hcz7_2 hcz7_3 hcz7_4 hcz7_5 hcz7_6 hcz7_7 hcz7_8
      try clear hfz7_0 hfz7_1 hfz7_2 hfz7_3 hfz7_4 hfz7_5 hfz7_6 hfz7_7 hfz7_8
      try clear p2
      try clear p6
      obtain ⟨x30_2, rfl, HA, HK2, BK189, HB⟩ := hrel
      cases gk with
      | zero => exact absurd HA.out (by simp [plan_met.l1])
      | succ k2 =>
       have H := HA.out
       clear HA
       simp only [plan_met.l1] at H
       by_cases c9 : x30_2 < (l1.length : Int)
       ·rw [if_pos c9] at H
        have c9b0 : decide (x30_2 < (l1.length : Int)) = true := decide_eq_true c9
        clear c9
        by_cases c10 : 0 ≤ x30_2
        ·rw [if_pos c10] at H
         have c10b0 : decide (0 ≤ x30_2) = true := decide_eq_true c10
         clear c10
         by_cases c11 : x30_2 < (l1.length : Int)
         ·rw [if_pos c11] at H
          have c11b0 : decide (x30_2 < (l1.length : Int)) = true := decide_eq_true c11
          clear c11
          by_cases c12 : (wrap64 ((wrap64 (x11_1 * a0_1)) + ((rd_T71 l1 x30_2).f0))) < (wrap64 (a2 + a3))
          ·rw [if_pos c12] at H
           have c12b0 : decide ((wrap64 ((wrap64 (x11_1 * a0_1)) + ((rd_T71 l1 x30_2).f0))) < (wrap64 (a2 + a3))) = true := decide_eq_true c12
           clear c12
           by_cases c13 : a2 < (wrap64 ((wrap64 (x11_1 * a0_1)) + ((rd_T71 l1 x30_2).f1)))
           ·rw [if_pos c13] at H
            have c13b0 : decide (a2 < (wrap64 ((wrap64 (x11_1 * a0_1)) + ((rd_T71 l1 x30_2).f1)))) = true := decide_eq_true c13
            clear c13
            simp only [Option.some.injEq, Prod.mk.injEq] at H
            obtain ⟨rfl, rfl⟩ := H
            have p190 : 0 ≤ (x30_2 : Int) := of_decide_eq_true (by first | (with_reducible assumption) | assumption)
            have q190 : x30_2 < (l1.length : Int) := of_decide_eq_true (by first | (with_reducible assumption) | assumption)
            obtain ⟨ad190, e190, hx190_0, hx190_1⟩ := at_T71 HR1.out x30_2 p190 q190
            cases e190
            replace hx190_0 := pcb HB hx190_0
            replace hx190_1 := pcb HB hx190_1
            replace p190 := eq_true p190
            replace q190 := eq_true q190
            go_wp2_with (first | ((with_reducible refine gate_dst (N := 13) rfl ?_); refine boxe (N := 13) (cs := #[.int .i64 0, .int .i64 0]) (t := 71) ?_; intro gb191 hg w14 hbox hb; have BK191 := Aside0.mk (hbox); have GW191 := bg1 hg HB GE189; have GE191 := GW191; have NB189_191 := nl hg BK189; have NB191_189 := ng hg BK189; replace BK189 := bb BK189 hb; replace HB := bs1 HB GE189 hb; clear hb hbox hg; have hnb15 := NB191_189.out; have hnc15 := NB189_191.out; obtain ⟨hcz16_0, hcz16_1, hfz16_0, hfz16_1⟩ := bz2 BK191; obtain ⟨hcz17_0, hcz17_1, hcz17_2, hcz17_3, hcz17_4, hcz17_5, hcz17_6, hcz17_7, hcz17_8, hfz17_0, hfz17_1, hfz17_2, hfz17_3, hfz17_4, hfz17_5, hfz17_6, hfz17_7, hfz17_8⟩ := bz9 BK189))
            repeat (go_quiet (first | ((with_reducible refine gate_dst (N := 13) rfl ?_); refine boxe (N := 13) (cs := #[.int .i64 0, .int .i64 0]) (t := 71) ?_; intro gb191 hg w14 hbox hb; have BK191 := Aside0.mk (hbox); have GW191 := bg1 hg HB GE189; have GE191 := GW191; have NB189_191 := nl hg BK189; have NB191_189 := ng hg BK189; replace BK189 := bb BK189 hb; replace HB := bs1 HB GE189 hb; clear hb hbox hg; have hnb15 := NB191_189.out; have hnc15 := NB189_191.out; obtain ⟨hcz16_0, hcz16_1, hfz16_0, hfz16_1⟩ := bz2 BK191; obtain ⟨hcz17_0, hcz17_1, hcz17_2, hcz17_3, hcz17_4, hcz17_5, hcz17_6, hcz17_7, hcz17_8, hfz17_0, hfz17_1, hfz17_2, hfz17_3, hfz17_4, hfz17_5, hfz17_6, hfz17_7, hfz17_8⟩ := bz9 BK189)); try go_wp2_with (first | ((with_reducible refine gate_dst (N := 13) rfl ?_); refine boxe (N := 13) (cs := #[.int .i64 0, .int .i64 0]) (t := 71) ?_; intro gb191 hg w14 hbox hb; have BK191 := Aside0.mk (hbox); have GW191 := bg1 hg HB GE189; have GE191 := GW191; have NB189_191 := nl hg BK189; have NB191_189 := ng hg BK189; replace BK189 := bb BK189 hb; replace HB := bs1 HB GE189 hb; clear hb hbox hg; have hnb15 := NB191_189.out; have hnc15 := NB189_191.out; obtain ⟨hcz16_0, hcz16_1, hfz16_0, hfz16_1⟩ := bz2 BK191; obtain ⟨hcz17_0, hcz17_1, hcz17_2, hcz17_3, hcz17_4, hcz17_5, hcz17_6, hcz17_7, hcz17_8, hfz17_0, hfz17_1, hfz17_2, hfz17_3, hfz17_4, hfz17_5, hfz17_6, hfz17_7, hfz17_8⟩ := bz9 BK189)))
            go_ret2
            exact ⟨re, bw2 HB GE189 GE191⟩
           ·rw [if_neg c13] at H
            have c13b0 : decide (a2 < (wrap64 ((wrap64 (x11_1 * a0_1)) + ((rd_T71 l1 x30_2).f1)))) = false := decide_eq_false c13
            clear c13
            have H' := Aside0.mk H
            clear H
            have p190 : 0 ≤ (x30_2 : Int) := of_decide_eq_true (by first | (with_reducible assumption) | assumption)
            have q190 : x30_2 < (l1.length : Int) := of_decide_eq_true (by first | (with_reducible assumption) | assumption)
            obtain ⟨ad190, e190, hx190_0, hx190_1⟩ := at_T71 HR1.out x30_2 p190 q190
            cases e190
            replace hx190_0 := pcb HB hx190_0
            replace hx190_1 := pcb HB hx190_1
            replace p190 := eq_true p190
            replace q190 := eq_true q190
            go_wp2_with (first | ((with_reducible refine gate_dst (N := 13) rfl ?_); refine boxe (N := 13) (cs := #[.int .i64 0, .int .i64 0]) (t := 71) ?_; intro gb191 hg w18 hbox hb; have BK191 := Aside0.mk (hbox); have GW191 := bg1 hg HB GE189; have GE191 := GW191; have NB189_191 := nl hg BK189; have NB191_189 := ng hg BK189; replace BK189 := bb BK189 hb; replace HB := bs1 HB GE189 hb; clear hb hbox hg; have hnb19 := NB191_189.out; have hnc19 := NB189_191.out; obtain ⟨hcz20_0, hcz20_1, hfz20_0, hfz20_1⟩ := bz2 BK191; obtain ⟨hcz21_0, hcz21_1, hcz21_2, hcz21_3, hcz21_4, hcz21_5, hcz21_6, hcz21_7, hcz21_8, hfz21_0, hfz21_1, hfz21_2, hfz21_3, hfz21_4, hfz21_5, hfz21_6, hfz21_7, hfz21_8⟩ := bz9 BK189))
            repeat (go_quiet (first | ((with_reducible refine gate_dst (N := 13) rfl ?_); refine boxe (N := 13) (cs := #[.int .i64 0, .int .i64 0]) (t := 71) ?_; intro gb191 hg w18 hbox hb; have BK191 := Aside0.mk (hbox); have GW191 := bg1 hg HB GE189; have GE191 := GW191; have NB189_191 := nl hg BK189; have NB191_189 := ng hg BK189; replace BK189 := bb BK189 hb; replace HB := bs1 HB GE189 hb; clear hb hbox hg; have hnb19 := NB191_189.out; have hnc19 := NB189_191.out; obtain ⟨hcz20_0, hcz20_1, hfz20_0, hfz20_1⟩ := bz2 BK191; obtain ⟨hcz21_0, hcz21_1, hcz21_2, hcz21_3, hcz21_4, hcz21_5, hcz21_6, hcz21_7, hcz21_8, hfz21_0, hfz21_1, hfz21_2, hfz21_3, hfz21_4, hfz21_5, hfz21_6, hfz21_7, hfz21_8⟩ := bz9 BK189)); try go_wp2_with (first | ((with_reducible refine gate_dst (N := 13) rfl ?_); refine boxe (N := 13) (cs := #[.int .i64 0, .int .i64 0]) (t := 71) ?_; intro gb191 hg w18 hbox hb; have BK191 := Aside0.mk (hbox); have GW191 := bg1 hg HB GE189; have GE191 := GW191; have NB189_191 := nl hg BK189; have NB191_189 := ng hg BK189; replace BK189 := bb BK189 hb; replace HB := bs1 HB GE189 hb; clear hb hbox hg; have hnb19 := NB191_189.out; have hnc19 := NB189_191.out; obtain ⟨hcz20_0, hcz20_1, hfz20_0, hfz20_1⟩ := bz2 BK191; obtain ⟨hcz21_0, hcz21_1, hcz21_2, hcz21_3, hcz21_4, hcz21_5, hcz21_6, hcz21_7, hcz21_8, hfz21_0, hfz21_1, hfz21_2, hfz21_3, hfz21_4, hfz21_5, hfz21_6, hfz21_7, hfz21_8⟩ := bz9 BK189)))
            go_roundg k2
            case measure => have := HK1.out; have := HK2.out; omega
            case rel => exact ⟨(wrap64 (x30_2 + 1)), rs, H', ⟨by have := HK1.out; have := HK2.out; omega⟩, ⟨bf1 NB189_191 BK189⟩, ⟨bw2 HB GE189 GE191⟩⟩
          ·rw [if_neg c12] at H
           have c12b0 : decide ((wrap64 ((wrap64 (x11_1 * a0_1)) + ((rd_T71 l1 x30_2).f0))) < (wrap64 (a2 + a3))) = false := decide_eq_false c12
           clear c12
           have H' := Aside0.mk H
           clear H
           have p190 : 0 ≤ (x30_2 : Int) := of_decide_eq_true (by first | (with_reducible assumption) | assumption)
           have q190 : x30_2 < (l1.length : Int) := of_decide_eq_true (by first | (with_reducible assumption) | assumption)
           obtain ⟨ad190, e190, hx190_0, hx190_1⟩ := at_T71 HR1.out x30_2 p190 q190
           cases e190
           replace hx190_0 := pcb HB hx190_0
           replace hx190_1 := pcb HB hx190_1
           replace p190 := eq_true p190
           replace q190 := eq_true q190
           go_wp2_with (first | ((with_reducible refine gate_dst (N := 13) rfl ?_); refine boxe (N := 13) (cs := #[.int .i64 0, .int .i64 0]) (t := 71) ?_; intro gb191 hg w22 hbox hb; have BK191 := Aside0.mk (hbox); have GW191 := bg1 hg HB GE189; have GE191 := GW191; have NB189_191 := nl hg BK189; have NB191_189 := ng hg BK189; replace BK189 := bb BK189 hb; replace HB := bs1 HB GE189 hb; clear hb hbox hg; have hnb23 := NB191_189.out; have hnc23 := NB189_191.out; obtain ⟨hcz24_0, hcz24_1, hfz24_0, hfz24_1⟩ := bz2 BK191; obtain ⟨hcz25_0, hcz25_1, hcz25_2, hcz25_3, hcz25_4, hcz25_5, hcz25_6, hcz25_7, hcz25_8, hfz25_0, hfz25_1, hfz25_2, hfz25_3, hfz25_4, hfz25_5, hfz25_6, hfz25_7, hfz25_8⟩ := bz9 BK189))
           repeat (go_quiet (first | ((with_reducible refine gate_dst (N := 13) rfl ?_); refine boxe (N := 13) (cs := #[.int .i64 0, .int .i64 0]) (t := 71) ?_; intro gb191 hg w22 hbox hb; have BK191 := Aside0.mk (hbox); have GW191 := bg1 hg HB GE189; have GE191 := GW191; have NB189_191 := nl hg BK189; have NB191_189 := ng hg BK189; replace BK189 := bb BK189 hb; replace HB := bs1 HB GE189 hb; clear hb hbox hg; have hnb23 := NB191_189.out; have hnc23 := NB189_191.out; obtain ⟨hcz24_0, hcz24_1, hfz24_0, hfz24_1⟩ := bz2 BK191; obtain ⟨hcz25_0, hcz25_1, hcz25_2, hcz25_3, hcz25_4, hcz25_5, hcz25_6, hcz25_7, hcz25_8, hfz25_0, hfz25_1, hfz25_2, hfz25_3, hfz25_4, hfz25_5, hfz25_6, hfz25_7, hfz25_8⟩ := bz9 BK189)); try go_wp2_with (first | ((with_reducible refine gate_dst (N := 13) rfl ?_); refine boxe (N := 13) (cs := #[.int .i64 0, .int .i64 0]) (t := 71) ?_; intro gb191 hg w22 hbox hb; have BK191 := Aside0.mk (hbox); have GW191 := bg1 hg HB GE189; have GE191 := GW191; have NB189_191 := nl hg BK189; have NB191_189 := ng hg BK189; replace BK189 := bb BK189 hb; replace HB := bs1 HB GE189 hb; clear hb hbox hg; have hnb23 := NB191_189.out; have hnc23 := NB189_191.out; obtain ⟨hcz24_0, hcz24_1, hfz24_0, hfz24_1⟩ := bz2 BK191; obtain ⟨hcz25_0, hcz25_1, hcz25_2, hcz25_3, hcz25_4, hcz25_5, hcz25_6, hcz25_7, hcz25_8, hfz25_0, hfz25_1, hfz25_2, hfz25_3, hfz25_4, hfz25_5, hfz25_6, hfz25_7, hfz25_8⟩ := bz9 BK189)))
           go_roundg k2
           case measure => have := HK1.out; have := HK2.out; omega
           case rel => exact ⟨(wrap64 (x30_2 + 1)), rs, H', ⟨by have := HK1.out; have := HK2.out; omega⟩, ⟨bf1 NB189_191 BK189⟩, ⟨bw2 HB GE189 GE191⟩⟩
         ·rw [if_neg c11] at H
          exact absurd H (by simp)
        ·rw [if_neg c10] at H
         exact absurd H (by simp)
       ·rw [if_neg c9] at H
        have c9b0 : decide (x30_2 < (l1.length : Int)) = false := decide_eq_false c9
        clear c9
        have H' := Aside0.mk H
        clear H
        go_wp2
        repeat (go_quiet (fail); try go_wp2)
        go_roundg k2
        case measure => have := HK1.out; have := HK2.out; omega
        case rel => exact ⟨(wrap64 (x11_1 + 1)), rs, H', ⟨by have := HK1.out; have := HK2.out; omega⟩, ⟨bk BK189⟩, ⟨bw1 HB GE189⟩⟩
    ·rw [if_neg c8] at H
     have c8b0 : decide (x11_1 ≤ (wrap64 ((wrap64 ((wrap64 (Int.tdiv a2 a0_1)) - 1)) + 3))) = false := decide_eq_false c8
     clear c8
     simp only [Option.some.injEq, Prod.mk.injEq] at H
     obtain ⟨rfl, rfl⟩ := H
     go_wp2
     repeat (go_quiet (fail); try go_wp2)
     go_ret2
     exact ⟨re, bw1 HB GE189⟩
end Go.Proofs.Ytbmldeikjfecfaa.T
