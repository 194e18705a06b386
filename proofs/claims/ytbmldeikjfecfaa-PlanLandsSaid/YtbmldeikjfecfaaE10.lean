/- A part of the proof of the statement PlanLands: words, contracts of functions that it reaches, and what they compute. No condition. -/
import Derived.Test.YtbmldeikjfecfaaE01
import Derived.Test.YtbmldeikjfecfaaE04
set_option linter.unusedVariables false
set_option linter.unusedSimpArgs false
namespace Go.Proofs.Ytbmldeikjfecfaa.T
open Go.RowKit Go.Proofs.YtbmldeikjfecfaaW.PrintWords Go.Proofs.YtbmldeikjfecfaaW.PrintLast Go.Proofs.YtbmldeikjfecfaaW.PrintMore
attribute [local go_sem] max2_int min2_int max_two min_two max_three min_three max_four min_four
attribute [local go_sem] at34_0 at34_1 at34_2 at42_0 at42_1 at42_2 at42_3 at47_0 at47_1 at47_2 at47_3 at47_4
mutual
def tocsinref08_rows.l0 : Nat → Int → Int → Int → Int → Int → Int → List (List Int) → List (S40) → List (S63) → Int → Option (Bool)
 | 0, _, _, _, _, _, _, _, _, _, _ => none
 | k + 1, x3, x134000, x134001, x134002, x134003, x134004, x134005, x134006, x134007, x134008 => if x3 < (x134005.length : Int) then (if 0 ≤ x3 then (if ((rd_L1 x134005 x3).length : Int) = 2 then (tocsinref08_rows.l1 k x3 0 x134000 x134001 x134002 x134003 x134004 x134005 x134006 x134007 x134008) else (some false)) else (none)) else (some true)
def tocsinref08_rows.l1 : Nat → Int → Int → Int → Int → Int → Int → Int → List (List Int) → List (S40) → List (S63) → Int → Option (Bool)
 | 0, _, _, _, _, _, _, _, _, _, _, _ => none
 | k + 1, x3, x4, x134000, x134001, x134002, x134003, x134004, x134005, x134006, x134007, x134008 => if x4 < 2 then (if 0 ≤ x3 then (if x3 < (x134005.length : Int) then (if 0 ≤ x4 then (if x4 < ((rd_L1 x134005 x3).length : Int) then (if (rd (rd_L1 x134005 x3) x4) < 0 then (some false) else (if (rd (rd_L1 x134005 x3) x4) > x134002 then (some false) else (tocsinref08_rows.l1 k x3 (wrap64 (x4 + 1)) x134000 x134001 x134002 x134003 x134004 x134005 x134006 x134007 x134008))) else (none)) else (none)) else (none)) else (none)) else (tocsinref08_rows.l0 k (wrap64 (x3 + 1)) x134000 x134001 x134002 x134003 x134004 x134005 x134006 x134007 x134008)
end
def tocsinref08_rows.f (k : Nat) (a0_0 : Int) (a0_1 : Int) (a0_2 : Int) (a0_3 : Int) (a0_4 : Int) (l0_5 : List (List Int)) (l0_6 : List (S40)) (l0_7 : List (S63)) (a0_8 : Int) : Option (Bool) := if (l0_5.length : Int) = a0_0 then (tocsinref08_rows.l0 k 0 a0_0 a0_1 a0_2 a0_3 a0_4 l0_5 l0_6 l0_7 a0_8) else (some false)
theorem tocsinref08_rows.mono_l : ∀ k, (∀ y0 y1 y2 y3 y4 y5 y6 y7 y8 y9, LeO (tocsinref08_rows.l0 k y0 y1 y2 y3 y4 y5 y6 y7 y8 y9) (tocsinref08_rows.l0 (k + 1) y0 y1 y2 y3 y4 y5 y6 y7 y8 y9)) ∧ (∀ y0 y1 y2 y3 y4 y5 y6 y7 y8 y9 y10, LeO (tocsinref08_rows.l1 k y0 y1 y2 y3 y4 y5 y6 y7 y8 y9 y10) (tocsinref08_rows.l1 (k + 1) y0 y1 y2 y3 y4 y5 y6 y7 y8 y9 y10))
 | 0 => ⟨fun _ _ _ _ _ _ _ _ _ _ r h => by simp [tocsinref08_rows.l0] at h, fun _ _ _ _ _ _ _ _ _ _ _ r h => by simp [tocsinref08_rows.l1] at h⟩
 | k + 1 => by
  obtain ⟨ih0, ih1⟩ := tocsinref08_rows.mono_l k
  refine ⟨?_, ?_⟩
  ·intro y0 y1 y2 y3 y4 y5 y6 y7 y8 y9
   unfold tocsinref08_rows.l0
   repeat' first
   | (with_reducible exact ih0 _ _ _ _ _ _ _ _ _ _)
   | (with_reducible exact ih1 _ _ _ _ _ _ _ _ _ _ _)
   | (with_reducible exact LeO.refl _)
   | (with_reducible exact LeO.none _)
   | (with_reducible refine LeO.ite ?_ ?_)
   | (with_reducible refine LeO.bind ?_ (fun _ => ?_))
   | exact ih0 _ _ _ _ _ _ _ _ _ _
   | exact ih1 _ _ _ _ _ _ _ _ _ _ _
   | exact LeO.none _
   | refine LeO.ite ?_ ?_
   | refine LeO.bind ?_ (fun _ => ?_)
  ·intro y0 y1 y2 y3 y4 y5 y6 y7 y8 y9 y10
   unfold tocsinref08_rows.l1
   repeat' first
   | (with_reducible exact ih0 _ _ _ _ _ _ _ _ _ _)
   | (with_reducible exact ih1 _ _ _ _ _ _ _ _ _ _ _)
   | (with_reducible exact LeO.refl _)
   | (with_reducible exact LeO.none _)
   | (with_reducible refine LeO.ite ?_ ?_)
   | (with_reducible refine LeO.bind ?_ (fun _ => ?_))
   | exact ih0 _ _ _ _ _ _ _ _ _ _
   | exact ih1 _ _ _ _ _ _ _ _ _ _ _
   | exact LeO.none _
   | refine LeO.ite ?_ ?_
   | refine LeO.bind ?_ (fun _ => ?_)
theorem tocsinref08_rows.mono : ∀ a0 a1 a2 a3 a4 a5 a6 a7 a8 k, LeO (tocsinref08_rows.f k a0 a1 a2 a3 a4 a5 a6 a7 a8) (tocsinref08_rows.f (k + 1) a0 a1 a2 a3 a4 a5 a6 a7 a8) := by
 intro a0 a1 a2 a3 a4 a5 a6 a7 a8 k
 obtain ⟨ih0, ih1⟩ := tocsinref08_rows.mono_l k
 unfold tocsinref08_rows.f
 repeat' first
   | (with_reducible exact ih0 _ _ _ _ _ _ _ _ _ _)
   | (with_reducible exact ih1 _ _ _ _ _ _ _ _ _ _ _)
   | (with_reducible exact LeO.refl _)
   | (with_reducible exact LeO.none _)
   | (with_reducible refine LeO.ite ?_ ?_)
   | (with_reducible refine LeO.bind ?_ (fun _ => ?_))
   | exact ih0 _ _ _ _ _ _ _ _ _ _
   | exact ih1 _ _ _ _ _ _ _ _ _ _ _
   | exact LeO.none _
   | refine LeO.ite ?_ ?_
   | refine LeO.bind ?_ (fun _ => ?_)
set_option maxHeartbeats 8000000 in
set_option maxRecDepth 100000 in
theorem tocsinref08_rows.calls (k : Nat) (a0_0 : Int) (a0_1 : Int) (a0_2 : Int) (a0_3 : Int) (a0_4 : Int) (A0_5 : Option Addr) (c0_5 : Nat) (l0_5 : List (List Int)) (A0_6 : Option Addr) (c0_6 : Nat) (l0_6 : List (S40)) (A0_7 : Option Addr) (c0_7 : Nat) (l0_7 : List (S63)) (a0_8 : Int) (r : Bool) (w : World) (hr0_5 : Kd.C (Kd.slice 2 (Kd.int .i64)) w A0_5 l0_5.length l0_5) (hc0_5 : l0_5.length ≤ c0_5) (hr0_6 : Kd.C k40 w A0_6 l0_6.length l0_6) (hc0_6 : l0_6.length ≤ c0_6) (hr0_7 : Kd.C k63 w A0_7 l0_7.length l0_7) (hc0_7 : l0_7.length ≤ c0_7) (h : tocsinref08_rows.f k a0_0 a0_1 a0_2 a0_3 a0_4 l0_5 l0_6 l0_7 a0_8 = some r) :
  Calls Try.prog 41 #[.agg #[.int .i64 a0_0, .int .i64 a0_1, .int .i64 a0_2, .int .i64 a0_3, .int .i64 a0_4, .slice A0_5 l0_5.length c0_5, .slice A0_6 l0_6.length c0_6, .slice A0_7 l0_7.length c0_7, .int .i64 a0_8]] w fun e w' => e = .returned (.bool r) ∧ Below w.heap.size w w' := by
 have hu26 := Try.underlying26
 have HR0_5 := Aside0.mk hr0_5
 have HC0_5 := Aside0.mk hc0_5
 clear hr0_5 hc0_5
 have HR0_6 := Aside0.mk hr0_6
 have HC0_6 := Aside0.mk hc0_6
 clear hr0_6 hc0_6
 have HR0_7 := Aside0.mk hr0_7
 have HC0_7 := Aside0.mk hc0_7
 clear hr0_7 hc0_7
 have HB := Aside0.mk (Below.refl w.heap.size w)
 have H : (if (l0_5.length : Int) = a0_0 then (tocsinref08_rows.l0 k 0 a0_0 a0_1 a0_2 a0_3 a0_4 l0_5 l0_6 l0_7 a0_8) else (some false)) = some r := h
 clear h
 by_cases c2 : (l0_5.length : Int) = a0_0
 ·rw [if_pos c2] at H
  have c2b0 : ((l0_5.length : Int) == a0_0) = true := beq_iff_eq.mpr c2
  have c2b1 : ((l0_5.length : Int) != a0_0) = false := bne_eq_false_iff_eq.mpr c2
  clear c2
  have H' := Aside0.mk H
  clear H
  go_enter Try.func41, Try.ntmps41
  go_wp2_with (first | ((with_reducible refine gate_dst (N := 1) rfl ?_); refine boxe (N := 1) (cs := #[.int .i64 a0_0, .int .i64 a0_1, .int .i64 a0_2, .int .i64 a0_3, .int .i64 a0_4, .slice A0_5 l0_5.length c0_5, .slice A0_6 l0_6.length c0_6, .slice A0_7 l0_7.length c0_7, .int .i64 a0_8]) (t := 26) ?_; intro gb133 hg w3 hbox hb; have BK133 := Aside0.mk (hbox); have GW133 := bg0 hg HB; have GE133 := GW133; replace HB := bs0 HB hb; clear hb hbox hg; obtain ⟨hcz4_0, hcz4_1, hcz4_2, hcz4_3, hcz4_4, hcz4_5, hcz4_6, hcz4_7, hcz4_8, hfz4_0, hfz4_1, hfz4_2, hfz4_3, hfz4_4, hfz4_5, hfz4_6, hfz4_7, hfz4_8⟩ := bz9 BK133))
  repeat (go_quiet (first | ((with_reducible refine gate_dst (N := 1) rfl ?_); refine boxe (N := 1) (cs := #[.int .i64 a0_0, .int .i64 a0_1, .int .i64 a0_2, .int .i64 a0_3, .int .i64 a0_4, .slice A0_5 l0_5.length c0_5, .slice A0_6 l0_6.length c0_6, .slice A0_7 l0_7.length c0_7, .int .i64 a0_8]) (t := 26) ?_; intro gb133 hg w3 hbox hb; have BK133 := Aside0.mk (hbox); have GW133 := bg0 hg HB; have GE133 := GW133; replace HB := bs0 HB hb; clear hb hbox hg; obtain ⟨hcz4_0, hcz4_1, hcz4_2, hcz4_3, hcz4_4, hcz4_5, hcz4_6, hcz4_7, hcz4_8, hfz4_0, hfz4_1, hfz4_2, hfz4_3, hfz4_4, hfz4_5, hfz4_6, hfz4_7, hfz4_8⟩ := bz9 BK133)); try go_wp2_with (first | ((with_reducible refine gate_dst (N := 1) rfl ?_); refine boxe (N := 1) (cs := #[.int .i64 a0_0, .int .i64 a0_1, .int .i64 a0_2, .int .i64 a0_3, .int .i64 a0_4, .slice A0_5 l0_5.length c0_5, .slice A0_6 l0_6.length c0_6, .slice A0_7 l0_7.length c0_7, .int .i64 a0_8]) (t := 26) ?_; intro gb133 hg w3 hbox hb; have BK133 := Aside0.mk (hbox); have GW133 := bg0 hg HB; have GE133 := GW133; replace HB := bs0 HB hb; clear hb hbox hg; obtain ⟨hcz4_0, hcz4_1, hcz4_2, hcz4_3, hcz4_4, hcz4_5, hcz4_6, hcz4_7, hcz4_8, hfz4_0, hfz4_1, hfz4_2, hfz4_3, hfz4_4, hfz4_5, hfz4_6, hfz4_7, hfz4_8⟩ := bz9 BK133)))
  (try simp only [Act.put, sT, sZ, sS])
  go_loopg [3] k (fun kq v3 w' => ∃ (x3_1 : Int), v3 = .int .i64 x3_1 ∧ Aside0 (tocsinref08_rows.l0 kq x3_1 a0_0 a0_1 a0_2 a0_3 a0_4 l0_5 l0_6 l0_7 a0_8 = some r) ∧ Aside0 (kq ≤ k) ∧ Aside0 (w'.heap[gb133]? = some (.cells #[.int .i64 a0_0, .int .i64 a0_1, .int .i64 a0_2, .int .i64 a0_3, .int .i64 a0_4, (.slice A0_5 l0_5.length c0_5), (.slice A0_6 l0_6.length c0_6), (.slice A0_7 l0_7.length c0_7), .int .i64 a0_8] 26 (0, 0))) ∧ Aside0 (Below w.heap.size w w'))
  case atStart => exact ⟨(0), rs, H', ⟨Nat.le_refl _⟩, ⟨bk BK133⟩, ⟨bw1 HB GE133⟩⟩
  case round =>
   clear H'
   try clear c2
   try clear c2b0
   try clear c2b1
   try clear p2
   try clear c4
   try clear hcz4_0 hcz4_1 hcz4_2 hcz4_3 hcz4_4 hcz4_5 hcz4_6 hcz4_7 hcz4_8
   try clear hfz4_0 hfz4_1 hfz4_2 hfz4_3 hfz4_4 hfz4_5 hfz4_6 hfz4_7 hfz4_8
   obtain ⟨x3_1, rfl, HA, HK1, BK133, HB⟩ := hrel
   cases gk with
   | zero => exact absurd HA.out (by simp [tocsinref08_rows.l0])
   | succ k1 =>
    have H := HA.out
    clear HA
    simp only [tocsinref08_rows.l0] at H
    by_cases c5 : x3_1 < (l0_5.length : Int)
    ·rw [if_pos c5] at H
     have c5b0 : decide (x3_1 < (l0_5.length : Int)) = true := decide_eq_true c5
     clear c5
     by_cases c6 : 0 ≤ x3_1
     ·rw [if_pos c6] at H
      have c6b0 : decide (0 ≤ x3_1) = true := decide_eq_true c6
      clear c6
      by_cases c7 : ((rd_L1 l0_5 x3_1).length : Int) = 2
      ·rw [if_pos c7] at H
       have c7b0 : (((rd_L1 l0_5 x3_1).length : Int) == 2) = true := beq_iff_eq.mpr c7
       have c7b1 : (((rd_L1 l0_5 x3_1).length : Int) != 2) = false := bne_eq_false_iff_eq.mpr c7
       clear c7
       have H' := Aside0.mk H
       clear H
       obtain ⟨hcz8_0, hcz8_1, hcz8_2, hcz8_3, hcz8_4, hcz8_5, hcz8_6, hcz8_7, hcz8_8, hfz8_0, hfz8_1, hfz8_2, hfz8_3, hfz8_4, hfz8_5, hfz8_6, hfz8_7, hfz8_8⟩ := bz9 BK133
       have p134 : 0 ≤ (x3_1 : Int) := of_decide_eq_true (by first | (with_reducible assumption) | assumption)
       have q134 : x3_1 < (l0_5.length : Int) := of_decide_eq_true (by first | (with_reducible assumption) | assumption)
       obtain ⟨ad134, A134_0, c134_0, e134, hx134_0, hl134_0, hi134_0⟩ := at_L1 HR0_5.out x3_1 p134 q134
       cases e134
       replace hx134_0 := pcb HB hx134_0
       have HR134_0 := Aside0.mk hi134_0
       have HC134_0 := Aside0.mk hl134_0
       clear hi134_0 hl134_0
       replace p134 := eq_true p134
       replace q134 := eq_true q134
       go_wp2
       repeat (go_quiet (fail); try go_wp2)
       (try simp only [Act.put, sT, sZ, sS])
       go_loopg [4] k1 (fun kq v4 w' => ∃ (x4_2 : Int), v4 = .int .i64 x4_2 ∧ Aside0 (tocsinref08_rows.l1 kq x3_1 x4_2 a0_0 a0_1 a0_2 a0_3 a0_4 l0_5 l0_6 l0_7 a0_8 = some r) ∧ Aside0 (kq ≤ k1) ∧ Aside0 (w'.heap[gb133]? = some (.cells #[.int .i64 a0_0, .int .i64 a0_1, .int .i64 a0_2, .int .i64 a0_3, .int .i64 a0_4, (.slice (some ad134) l0_5.length c0_5), (.slice A0_6 l0_6.length c0_6), (.slice A0_7 l0_7.length c0_7), .int .i64 a0_8] 26 (0, 0))) ∧ Aside0 (Below w.heap.size w w'))
       case atStart => exact ⟨(0), rs, H', ⟨Nat.le_refl _⟩, ⟨bk BK133⟩, ⟨bw1 HB GE133⟩⟩
       case round =>
        clear H'
        try clear c1
        try clear p1
        try clear q1
        try clear hx1
        try clear c2
        try clear c2b0
        try clear c2b1
        try clear p2
        try clear c4
        try clear c5
        try clear c5b0
        try clear c6
        try clear c6b0
        try clear c7
        try clear c7b0
        try clear c7b1
        try clear hcz4_0 hcz4_1 hcz4_2 hcz4_3 hcz4_4 hcz4_5 hcz4_6 hcz4_7 hcz4_8
        try clear hcz8_0 hcz8_1 hcz8_2 hcz8_3 hcz8_4 hcz8_5 hcz8_6 hcz8_7 hcz8_8
        try clear hfz4_0 hfz4_1 hfz4_2 hfz4_3 hfz4_4 hfz4_5 hfz4_6 hfz4_7 hfz4_8
        try clear hfz8_0 hfz8_1 hfz8_2 hfz8_3 hfz8_4 hfz8_5 hfz8_6 hfz8_7 hfz8_8
        try clear hx134_0
        try clear p134
        try clear p2
        try clear q134
        obtain ⟨x4_2, rfl, HA, HK2, BK133, HB⟩ := hrel
        cases gk with
        | zero => exact absurd HA.out (by simp [tocsinref08_rows.l1])
        | succ k2 =>
         have H := HA.out
         clear HA
         simp only [tocsinref08_rows.l1] at H
         by_cases c9 : x4_2 < 2
         ·rw [if_pos c9] at H
          have c9b0 : decide (x4_2 < 2) = true := decide_eq_true c9
          clear c9
          by_cases c10 : 0 ≤ x3_1
          ·rw [if_pos c10] at H
           have c10b0 : decide (0 ≤ x3_1) = true := decide_eq_true c10
           clear c10
           by_cases c11 : x3_1 < (l0_5.length : Int)
           ·rw [if_pos c11] at H
            have c11b0 : decide (x3_1 < (l0_5.length : Int)) = true := decide_eq_true c11
            clear c11
            by_cases c12 : 0 ≤ x4_2
            ·rw [if_pos c12] at H
             have c12b0 : decide (0 ≤ x4_2) = true := decide_eq_true c12
             clear c12
             by_cases c13 : x4_2 < ((rd_L1 l0_5 x3_1).length : Int)
             ·rw [if_pos c13] at H
              have c13b0 : decide (x4_2 < ((rd_L1 l0_5 x3_1).length : Int)) = true := decide_eq_true c13
              clear c13
              by_cases c14 : (rd (rd_L1 l0_5 x3_1) x4_2) < 0
              ·rw [if_pos c14] at H
               have c14b0 : decide ((rd (rd_L1 l0_5 x3_1) x4_2) < 0) = true := decide_eq_true c14
               clear c14
               obtain rfl := Option.some.inj H
               obtain ⟨hcz15_0, hcz15_1, hcz15_2, hcz15_3, hcz15_4, hcz15_5, hcz15_6, hcz15_7, hcz15_8, hfz15_0, hfz15_1, hfz15_2, hfz15_3, hfz15_4, hfz15_5, hfz15_6, hfz15_7, hfz15_8⟩ := bz9 BK133
               have p135 : 0 ≤ (x3_1 : Int) := of_decide_eq_true (by first | (with_reducible assumption) | assumption)
               have q135 : x3_1 < (l0_5.length : Int) := of_decide_eq_true (by first | (with_reducible assumption) | assumption)
               obtain ⟨ad135, A135_0, c135_0, e135, hx135_0, hl135_0, hi135_0⟩ := at_L1 HR0_5.out x3_1 p135 q135
               obtain rfl : ad134 = ad135 := (by injection e135)
               replace hx135_0 := pcb HB hx135_0
               have HR135_0 := Aside0.mk hi135_0
               have HC135_0 := Aside0.mk hl135_0
               clear hi135_0 hl135_0
               replace p135 := eq_true p135
               replace q135 := eq_true q135
               have p136 : 0 ≤ (x4_2 : Int) := of_decide_eq_true (by first | (with_reducible assumption) | assumption)
               have q136 : x4_2 < ((rd_L1 l0_5 x3_1).length : Int) := of_decide_eq_true (by first | (with_reducible assumption) | assumption)
               obtain ⟨ad136, e136, hx136_0⟩ := Kd.at_int HR135_0.out x4_2 p136 q136
               cases e136
               replace hx136_0 := pcb HB hx136_0
               replace p136 := eq_true p136
               replace q136 := eq_true q136
               go_wp2
               repeat (go_quiet (fail); try go_wp2)
               go_ret
               exact ⟨re, bw1 HB GE133⟩
              ·rw [if_neg c14] at H
               have c14b0 : decide ((rd (rd_L1 l0_5 x3_1) x4_2) < 0) = false := decide_eq_false c14
               clear c14
               by_cases c16 : (rd (rd_L1 l0_5 x3_1) x4_2) > a0_2
               ·rw [if_pos c16] at H
                have c16b0 : decide (a0_2 < (rd (rd_L1 l0_5 x3_1) x4_2)) = true := decide_eq_true c16
                clear c16
                obtain rfl := Option.some.inj H
                obtain ⟨hcz17_0, hcz17_1, hcz17_2, hcz17_3, hcz17_4, hcz17_5, hcz17_6, hcz17_7, hcz17_8, hfz17_0, hfz17_1, hfz17_2, hfz17_3, hfz17_4, hfz17_5, hfz17_6, hfz17_7, hfz17_8⟩ := bz9 BK133
                have p135 : 0 ≤ (x3_1 : Int) := of_decide_eq_true (by first | (with_reducible assumption) | assumption)
                have q135 : x3_1 < (l0_5.length : Int) := of_decide_eq_true (by first | (with_reducible assumption) | assumption)
                obtain ⟨ad135, A135_0, c135_0, e135, hx135_0, hl135_0, hi135_0⟩ := at_L1 HR0_5.out x3_1 p135 q135
                obtain rfl : ad134 = ad135 := (by injection e135)
                replace hx135_0 := pcb HB hx135_0
                have HR135_0 := Aside0.mk hi135_0
                have HC135_0 := Aside0.mk hl135_0
                clear hi135_0 hl135_0
                replace p135 := eq_true p135
                replace q135 := eq_true q135
                have p136 : 0 ≤ (x4_2 : Int) := of_decide_eq_true (by first | (with_reducible assumption) | assumption)
                have q136 : x4_2 < ((rd_L1 l0_5 x3_1).length : Int) := of_decide_eq_true (by first | (with_reducible assumption) | assumption)
                obtain ⟨ad136, e136, hx136_0⟩ := Kd.at_int HR135_0.out x4_2 p136 q136
                cases e136
                replace hx136_0 := pcb HB hx136_0
                replace p136 := eq_true p136
                replace q136 := eq_true q136
                have p137 : 0 ≤ (x3_1 : Int) := of_decide_eq_true (by first | (with_reducible assumption) | assumption)
                have q137 : x3_1 < (l0_5.length : Int) := of_decide_eq_true (by first | (with_reducible assumption) | assumption)
                obtain ⟨ad137, A137_0, c137_0, e137, hx137_0, hl137_0, hi137_0⟩ := at_L1 HR0_5.out x3_1 p137 q137
                obtain rfl : ad134 = ad137 := (by injection e137)
                replace hx137_0 := pcb HB hx137_0
                have HR137_0 := Aside0.mk hi137_0
                have HC137_0 := Aside0.mk hl137_0
                clear hi137_0 hl137_0
                replace p137 := eq_true p137
                replace q137 := eq_true q137
                have ea_ := Option.some.inj (hx135_0.symm.trans hx137_0)
                injection ea_ with ea_ en_ ec_
                subst ea_
                subst ec_
                clear en_
                have p138 : 0 ≤ (x4_2 : Int) := of_decide_eq_true (by first | (with_reducible assumption) | assumption)
                have q138 : x4_2 < ((rd_L1 l0_5 x3_1).length : Int) := of_decide_eq_true (by first | (with_reducible assumption) | assumption)
                obtain ⟨ad138, e138, hx138_0⟩ := Kd.at_int HR137_0.out x4_2 p138 q138
                cases e138
                replace hx138_0 := pcb HB hx138_0
                replace p138 := eq_true p138
                replace q138 := eq_true q138
                go_wp2
                repeat (go_quiet (fail); try go_wp2)
                go_ret
                exact ⟨re, bw1 HB GE133⟩
               ·rw [if_neg c16] at H
                have c16b0 : decide (a0_2 < (rd (rd_L1 l0_5 x3_1) x4_2)) = false := decide_eq_false c16
                clear c16
                have H' := Aside0.mk H
                clear H
                obtain ⟨hcz18_0, hcz18_1, hcz18_2, hcz18_3, hcz18_4, hcz18_5, hcz18_6, hcz18_7, hcz18_8, hfz18_0, hfz18_1, hfz18_2, hfz18_3, hfz18_4, hfz18_5, hfz18_6, hfz18_7, hfz18_8⟩ := bz9 BK133
                have p135 : 0 ≤ (x3_1 : Int) := of_decide_eq_true (by first | (with_reducible assumption) | assumption)
                have q135 : x3_1 < (l0_5.length : Int) := of_decide_eq_true (by first | (with_reducible assumption) | assumption)
                obtain ⟨ad135, A135_0, c135_0, e135, hx135_0, hl135_0, hi135_0⟩ := at_L1 HR0_5.out x3_1 p135 q135
                obtain rfl : ad134 = ad135 := (by injection e135)
                replace hx135_0 := pcb HB hx135_0
                have HR135_0 := Aside0.mk hi135_0
                have HC135_0 := Aside0.mk hl135_0
                clear hi135_0 hl135_0
                replace p135 := eq_true p135
                replace q135 := eq_true q135
                have p136 : 0 ≤ (x4_2 : Int) := of_decide_eq_true (by first | (with_reducible assumption) | assumption)
                have q136 : x4_2 < ((rd_L1 l0_5 x3_1).length : Int) := of_decide_eq_true (by first | (with_reducible assumption) | assumption)
                obtain ⟨ad136, e136, hx136_0⟩ := Kd.at_int HR135_0.out x4_2 p136 q136
                cases e136
                replace hx136_0 := pcb HB hx136_0
                replace p136 := eq_true p136
                replace q136 := eq_true q136
                have p137 : 0 ≤ (x3_1 : Int) := of_decide_eq_true (by first | (with_reducible assumption) | assumption)
                have q137 : x3_1 < (l0_5.length : Int) := of_decide_eq_true (by first | (with_reducible assumption) | assumption)
                obtain ⟨ad137, A137_0, c137_0, e137, hx137_0, hl137_0, hi137_0⟩ := at_L1 HR0_5.out x3_1 p137 q137
                obtain rfl : ad134 = ad137 := (by injection e137)
                replace hx137_0 := pcb HB hx137_0
                have HR137_0 := Aside0.mk hi137_0
                have HC137_0 := Aside0.mk hl137_0
                clear hi137_0 hl137_0
                replace p137 := eq_true p137
                replace q137 := eq_true q137
                have ea_ := Option.some.inj (hx135_0.symm.trans hx137_0)
                injection ea_ with ea_ en_ ec_
                subst ea_
                subst ec_
                clear en_
                have p138 : 0 ≤ (x4_2 : Int) := of_decide_eq_true (by first | (with_reducible assumption) | assumption)
                have q138 : x4_2 < ((rd_L1 l0_5 x3_1).length : Int) := of_decide_eq_true (by first | (with_reducible assumption) | assumption)
                obtain ⟨ad138, e138, hx138_0⟩ := Kd.at_int HR137_0.out x4_2 p138 q138
                cases e138
                replace hx138_0 := pcb HB hx138_0
                replace p138 := eq_true p138
                replace q138 := eq_true q138
                go_wp2
                repeat (go_quiet (fail); try go_wp2)
                go_roundg k2
                case measure => have := HK1.out; have := HK2.out; omega
                case rel => exact ⟨(wrap64 (x4_2 + 1)), rs, H', ⟨by have := HK1.out; have := HK2.out; omega⟩, ⟨bk BK133⟩, ⟨bw1 HB GE133⟩⟩
             ·rw [if_neg c13] at H
              exact absurd H (by simp)
            ·rw [if_neg c12] at H
             exact absurd H (by simp)
           ·rw [if_neg c11] at H
            exact absurd H (by simp)
          ·rw [if_neg c10] at H
           exact absurd H (by simp)
         ·rw [if_neg c9] at H
          have c9b0 : decide (x4_2 < 2) = false := decide_eq_false c9
          clear c9
          have H' := Aside0.mk H
          clear H
          go_wp2
          repeat (go_quiet (fail); try go_wp2)
          go_roundg k2
          case measure => have := HK1.out; have := HK2.out; omega
          case rel => exact ⟨(wrap64 (x3_1 + 1)), rs, H', ⟨by have := HK1.out; have := HK2.out; omega⟩, ⟨bk BK133⟩, ⟨bw1 HB GE133⟩⟩
      ·rw [if_neg c7] at H
       have c7b0 : (((rd_L1 l0_5 x3_1).length : Int) == 2) = false := beq_eq_false_iff_ne.mpr c7
       have c7b1 : (((rd_L1 l0_5 x3_1).length : Int) != 2) = true := bne_iff_ne.mpr c7
       obtain rfl := Option.some.inj H
       obtain ⟨hcz19_0, hcz19_1, hcz19_2, hcz19_3, hcz19_4, hcz19_5, hcz19_6, hcz19_7, hcz19_8, hfz19_0, hfz19_1, hfz19_2, hfz19_3, hfz19_4, hfz19_5, hfz19_6, hfz19_7, hfz19_8⟩ := bz9 BK133
       have p134 : 0 ≤ (x3_1 : Int) := of_decide_eq_true (by first | (with_reducible assumption) | assumption)
       have q134 : x3_1 < (l0_5.length : Int) := of_decide_eq_true (by first | (with_reducible assumption) | assumption)
       obtain ⟨ad134, A134_0, c134_0, e134, hx134_0, hl134_0, hi134_0⟩ := at_L1 HR0_5.out x3_1 p134 q134
       cases e134
       replace hx134_0 := pcb HB hx134_0
       have HR134_0 := Aside0.mk hi134_0
       have HC134_0 := Aside0.mk hl134_0
       clear hi134_0 hl134_0
       replace p134 := eq_true p134
       replace q134 := eq_true q134
       go_wp2
       repeat (go_quiet (fail); try go_wp2)
       go_ret
       exact ⟨re, bw1 HB GE133⟩
     ·rw [if_neg c6] at H
      exact absurd H (by simp)
    ·rw [if_neg c5] at H
     have c5b0 : decide (x3_1 < (l0_5.length : Int)) = false := decide_eq_false c5
     clear c5
     obtain rfl := Option.some.inj H
     obtain ⟨hcz20_0, hcz20_1, hcz20_2, hcz20_3, hcz20_4, hcz20_5, hcz20_6, hcz20_7, hcz20_8, hfz20_0, hfz20_1, hfz20_2, hfz20_3, hfz20_4, hfz20_5, hfz20_6, hfz20_7, hfz20_8⟩ := bz9 BK133
     go_wp2
     repeat (go_quiet (fail); try go_wp2)
     go_ret
     exact ⟨re, bw1 HB GE133⟩
 ·rw [if_neg c2] at H
  have c2b0 : ((l0_5.length : Int) == a0_0) = false := beq_eq_false_iff_ne.mpr c2
  have c2b1 : ((l0_5.length : Int) != a0_0) = true := bne_iff_ne.mpr c2
  obtain rfl := Option.some.inj H
  go_enter Try.func41, Try.ntmps41
  go_wp2_with (first | ((with_reducible refine gate_dst (N := 1) rfl ?_); refine boxe (N := 1) (cs := #[.int .i64 a0_0, .int .i64 a0_1, .int .i64 a0_2, .int .i64 a0_3, .int .i64 a0_4, .slice A0_5 l0_5.length c0_5, .slice A0_6 l0_6.length c0_6, .slice A0_7 l0_7.length c0_7, .int .i64 a0_8]) (t := 26) ?_; intro gb133 hg w21 hbox hb; have BK133 := Aside0.mk (hbox); have GW133 := bg0 hg HB; have GE133 := GW133; replace HB := bs0 HB hb; clear hb hbox hg; obtain ⟨hcz22_0, hcz22_1, hcz22_2, hcz22_3, hcz22_4, hcz22_5, hcz22_6, hcz22_7, hcz22_8, hfz22_0, hfz22_1, hfz22_2, hfz22_3, hfz22_4, hfz22_5, hfz22_6, hfz22_7, hfz22_8⟩ := bz9 BK133))
  repeat (go_quiet (first | ((with_reducible refine gate_dst (N := 1) rfl ?_); refine boxe (N := 1) (cs := #[.int .i64 a0_0, .int .i64 a0_1, .int .i64 a0_2, .int .i64 a0_3, .int .i64 a0_4, .slice A0_5 l0_5.length c0_5, .slice A0_6 l0_6.length c0_6, .slice A0_7 l0_7.length c0_7, .int .i64 a0_8]) (t := 26) ?_; intro gb133 hg w21 hbox hb; have BK133 := Aside0.mk (hbox); have GW133 := bg0 hg HB; have GE133 := GW133; replace HB := bs0 HB hb; clear hb hbox hg; obtain ⟨hcz22_0, hcz22_1, hcz22_2, hcz22_3, hcz22_4, hcz22_5, hcz22_6, hcz22_7, hcz22_8, hfz22_0, hfz22_1, hfz22_2, hfz22_3, hfz22_4, hfz22_5, hfz22_6, hfz22_7, hfz22_8⟩ := bz9 BK133)); try go_wp2_with (first | ((with_reducible refine gate_dst (N := 1) rfl ?_); refine boxe (N := 1) (cs := #[.int .i64 a0_0, .int .i64 a0_1, .int .i64 a0_2, .int .i64 a0_3, .int .i64 a0_4, .slice A0_5 l0_5.length c0_5, .slice A0_6 l0_6.length c0_6, .slice A0_7 l0_7.length c0_7, .int .i64 a0_8]) (t := 26) ?_; intro gb133 hg w21 hbox hb; have BK133 := Aside0.mk (hbox); have GW133 := bg0 hg HB; have GE133 := GW133; replace HB := bs0 HB hb; clear hb hbox hg; obtain ⟨hcz22_0, hcz22_1, hcz22_2, hcz22_3, hcz22_4, hcz22_5, hcz22_6, hcz22_7, hcz22_8, hfz22_0, hfz22_1, hfz22_2, hfz22_3, hfz22_4, hfz22_5, hfz22_6, hfz22_7, hfz22_8⟩ := bz9 BK133)))
  go_ret
  exact ⟨re, bw1 HB GE133⟩
end Go.Proofs.Ytbmldeikjfecfaa.T
