/- A part of the proof of the statement PlanLands: words, contracts of functions that it reaches, and what they compute. No condition. -/
import Derived.Test.YtbmldeikjfecfaaE01
import Derived.Test.YtbmldeikjfecfaaE04
set_option linter.unusedVariables false
set_option linter.unusedSimpArgs false
namespace Go.Proofs.Ytbmldeikjfecfaa.T
open Go.RowKit Go.Proofs.YtbmldeikjfecfaaW.PrintWords Go.Proofs.YtbmldeikjfecfaaW.PrintLast Go.Proofs.YtbmldeikjfecfaaW.PrintMore
attribute [local go_sem] max2_int min2_int max_two min_two max_three min_three max_four min_four
attribute [local go_sem] at34_0 at34_1 at34_2 at42_0 at42_1 at42_2 at42_3 at47_0 at47_1 at47_2 at47_3 at47_4
mutual
def tocsinref07_Of.l0 : Nat → List Int → Int → Int → Int → Option (Int)
 | 0, _, _, _, _ => none
 | k + 1, x0, x3, x4, x5 => if x5 < 6 then (tocsinref07_Of.l1 k x0 x3 x4 x5 0) else (some x3)
def tocsinref07_Of.l1 : Nat → List Int → Int → Int → Int → Int → Option (Int)
 | 0, _, _, _, _, _ => none
 | k + 1, x0, x3, x4, x5, x6 => if x6 < (x0.length : Int) then (if 0 ≤ x6 then (if (rd x0 x6) = x5 then (tocsinref07_Of.l0 k x0 ((x3 + x4) % 4294967296) ((x4 * 2) % 4294967296) (wrap64 (x5 + 1))) else (tocsinref07_Of.l1 k x0 x3 x4 x5 (wrap64 (x6 + 1)))) else (none)) else (tocsinref07_Of.l0 k x0 x3 ((x4 * 2) % 4294967296) (wrap64 (x5 + 1)))
end
def tocsinref07_Of.f (k : Nat) (l0 : List Int) : Option (Int) := tocsinref07_Of.l0 k l0 0 1 0
theorem tocsinref07_Of.mono_l : ∀ k, (∀ y0 y1 y2 y3, LeO (tocsinref07_Of.l0 k y0 y1 y2 y3) (tocsinref07_Of.l0 (k + 1) y0 y1 y2 y3)) ∧ (∀ y0 y1 y2 y3 y4, LeO (tocsinref07_Of.l1 k y0 y1 y2 y3 y4) (tocsinref07_Of.l1 (k + 1) y0 y1 y2 y3 y4))
 | 0 => ⟨fun _ _ _ _ r h => by simp [tocsinref07_Of.l0] at h, fun _ _ _ _ _ r h => by simp [tocsinref07_Of.l1] at h⟩
 | k + 1 => by
  obtain ⟨ih0, ih1⟩ := tocsinref07_Of.mono_l k
  refine ⟨?_, ?_⟩
  ·intro y0 y1 y2 y3
   unfold tocsinref07_Of.l0
   repeat' first
   | (with_reducible exact ih0 _ _ _ _)
   | (with_reducible exact ih1 _ _ _ _ _)
   | (with_reducible exact LeO.refl _)
   | (with_reducible exact LeO.none _)
   | (with_reducible refine LeO.ite ?_ ?_)
   | (with_reducible refine LeO.bind ?_ (fun _ => ?_))
   | exact ih0 _ _ _ _
   | exact ih1 _ _ _ _ _
   | exact LeO.none _
   | refine LeO.ite ?_ ?_
   | refine LeO.bind ?_ (fun _ => ?_)
  ·intro y0 y1 y2 y3 y4
   unfold tocsinref07_Of.l1
   repeat' first
   | (with_reducible exact ih0 _ _ _ _)
   | (with_reducible exact ih1 _ _ _ _ _)
   | (with_reducible exact LeO.refl _)
   | (with_reducible exact LeO.none _)
   | (with_reducible refine LeO.ite ?_ ?_)
   | (with_reducible refine LeO.bind ?_ (fun _ => ?_))
   | exact ih0 _ _ _ _
   | exact ih1 _ _ _ _ _
   | exact LeO.none _
   | refine LeO.ite ?_ ?_
   | refine LeO.bind ?_ (fun _ => ?_)
theorem tocsinref07_Of.mono : ∀ a0 k, LeO (tocsinref07_Of.f k a0) (tocsinref07_Of.f (k + 1) a0) := by
 intro a0 k
 obtain ⟨ih0, ih1⟩ := tocsinref07_Of.mono_l k
 unfold tocsinref07_Of.f
 repeat' first
   | (with_reducible exact ih0 _ _ _ _)
   | (with_reducible exact ih1 _ _ _ _ _)
   | (with_reducible exact LeO.refl _)
   | (with_reducible exact LeO.none _)
   | (with_reducible refine LeO.ite ?_ ?_)
   | (with_reducible refine LeO.bind ?_ (fun _ => ?_))
   | exact ih0 _ _ _ _
   | exact ih1 _ _ _ _ _
   | exact LeO.none _
   | refine LeO.ite ?_ ?_
   | refine LeO.bind ?_ (fun _ => ?_)
set_option maxHeartbeats 8000000 in
set_option maxRecDepth 100000 in
theorem tocsinref07_Of.calls (k : Nat) (A0 : Option Addr) (c0 : Nat) (l0 : List Int) (r : Int) (w : World) (hr0 : Kd.C (Kd.int .i64) w A0 l0.length l0) (hc0 : l0.length ≤ c0) (h : tocsinref07_Of.f k l0 = some r) :
  Calls Try.prog 44 #[.slice A0 l0.length c0] w fun e w' => e = .returned (.int .u32 r) ∧ Drawn0 w w' := by
 have HR0 := Aside0.mk hr0
 have HC0 := Aside0.mk hc0
 clear hr0 hc0
 have H : (tocsinref07_Of.l0 k l0 0 1 0) = some r := h
 clear h
 have H' := Aside0.mk H
 clear H
 go_enter Try.func44, Try.ntmps44
 go_wp2
 (try simp only [Act.put, sT, sZ, sS])
 go_loopg [3, 4, 5] k (fun kq v3 v4 v5 w' => ∃ (x3_1 : Int) (x4_1 : Int) (x5_1 : Int), v3 = .int .u32 x3_1 ∧ v4 = .int .u32 x4_1 ∧ v5 = .int .i64 x5_1 ∧ Aside0 (tocsinref07_Of.l0 kq l0 x3_1 x4_1 x5_1 = some r) ∧ Aside0 (kq ≤ k) ∧ Drawn0 w w')
 case atStart => exact ⟨(0), (1), (0), rs, rs, rs, H', ⟨Nat.le_refl _⟩, by repeat (first | exact Drawn0.refl _ | apply Drawn0.step)⟩
 case round =>
  clear H'
  obtain ⟨x3_1, x4_1, x5_1, rfl, rfl, rfl, HA, HK1, ⟨m1, rfl⟩⟩ := hrel
  cases gk with
  | zero => exact absurd HA.out (by simp [tocsinref07_Of.l0])
  | succ k1 =>
   have H := HA.out
   clear HA
   simp only [tocsinref07_Of.l0] at H
   by_cases c2 : x5_1 < 6
   ·rw [if_pos c2] at H
    have c2b0 : decide (x5_1 < 6) = true := decide_eq_true c2
    clear c2
    have H' := Aside0.mk H
    clear H
    go_wp2
    (try simp only [Act.put, sT, sZ, sS])
    go_loopg [3, 6] k1 (fun kq v3 v6 w' => ∃ (x3_2 : Int) (x6_2 : Int), v3 = .int .u32 x3_2 ∧ v6 = .int .i64 x6_2 ∧ Aside0 (tocsinref07_Of.l1 kq l0 x3_2 x4_1 x5_1 x6_2 = some r) ∧ Aside0 (kq ≤ k1) ∧ Drawn0 w w')
    case atStart => exact ⟨(x3_1), (0), rs, rs, H', ⟨Nat.le_refl _⟩, by repeat (first | exact Drawn0.refl _ | apply Drawn0.step)⟩
    case round =>
     clear H'
     try clear c2
     try clear c2b0
     try clear p2
     obtain ⟨x3_2, x6_2, rfl, rfl, HA, HK2, ⟨m2, rfl⟩⟩ := hrel
     cases gk with
     | zero => exact absurd HA.out (by simp [tocsinref07_Of.l1])
     | succ k2 =>
      have H := HA.out
      clear HA
      simp only [tocsinref07_Of.l1] at H
      by_cases c3 : x6_2 < (l0.length : Int)
      ·rw [if_pos c3] at H
       have c3b0 : decide (x6_2 < (l0.length : Int)) = true := decide_eq_true c3
       clear c3
       by_cases c4 : 0 ≤ x6_2
       ·rw [if_pos c4] at H
        have c4b0 : decide (0 ≤ x6_2) = true := decide_eq_true c4
        clear c4
        by_cases c5 : (rd l0 x6_2) = x5_1
        ·rw [if_pos c5] at H
         have c5b0 : ((rd l0 x6_2) == x5_1) = true := beq_iff_eq.mpr c5
         have c5b1 : ((rd l0 x6_2) != x5_1) = false := bne_eq_false_iff_eq.mpr c5
         clear c5
         have H' := Aside0.mk H
         clear H
         have p267 : 0 ≤ (x6_2 : Int) := of_decide_eq_true (by first | (with_reducible assumption) | assumption)
         have q267 : x6_2 < (l0.length : Int) := of_decide_eq_true (by first | (with_reducible assumption) | assumption)
         obtain ⟨ad267, e267, hx267_0⟩ := Kd.at_int HR0.out x6_2 p267 q267
         cases e267
         replace p267 := eq_true p267
         replace q267 := eq_true q267
         go_wp2
         all_goals try (exfalso; (try have z0_ := of_decide_eq_true c3b0); omega)
         go_roundg k2
         case measure => have := HK1.out; have := HK2.out; omega
         case rel => exact ⟨((x3_2 + x4_1) % 4294967296), ((x4_1 * 2) % 4294967296), (wrap64 (x5_1 + 1)), rs, rs, rs, H', ⟨by have := HK1.out; have := HK2.out; omega⟩, by repeat (first | exact Drawn0.refl _ | apply Drawn0.step)⟩
        ·rw [if_neg c5] at H
         have c5b0 : ((rd l0 x6_2) == x5_1) = false := beq_eq_false_iff_ne.mpr c5
         have c5b1 : ((rd l0 x6_2) != x5_1) = true := bne_iff_ne.mpr c5
         have H' := Aside0.mk H
         clear H
         have p267 : 0 ≤ (x6_2 : Int) := of_decide_eq_true (by first | (with_reducible assumption) | assumption)
         have q267 : x6_2 < (l0.length : Int) := of_decide_eq_true (by first | (with_reducible assumption) | assumption)
         obtain ⟨ad267, e267, hx267_0⟩ := Kd.at_int HR0.out x6_2 p267 q267
         cases e267
         replace p267 := eq_true p267
         replace q267 := eq_true q267
         go_wp2
         all_goals try (exfalso; (try have z0_ := of_decide_eq_true c3b0); omega)
         go_roundg k2
         case measure => have := HK1.out; have := HK2.out; omega
         case rel => exact ⟨(x3_2), (wrap64 (x6_2 + 1)), rs, rs, H', ⟨by have := HK1.out; have := HK2.out; omega⟩, by repeat (first | exact Drawn0.refl _ | apply Drawn0.step)⟩
       ·rw [if_neg c4] at H
        exact absurd H (by simp)
      ·rw [if_neg c3] at H
       have c3b0 : decide (x6_2 < (l0.length : Int)) = false := decide_eq_false c3
       clear c3
       have H' := Aside0.mk H
       clear H
       go_wp2
       all_goals try (exfalso; (try have z0_ := of_decide_eq_true c3b0); (try have z1_ := of_decide_eq_false c3b0); omega)
       go_roundg k2
       case measure => have := HK1.out; have := HK2.out; omega
       case rel => exact ⟨(x3_2), ((x4_1 * 2) % 4294967296), (wrap64 (x5_1 + 1)), rs, rs, rs, H', ⟨by have := HK1.out; have := HK2.out; omega⟩, by repeat (first | exact Drawn0.refl _ | apply Drawn0.step)⟩
   ·rw [if_neg c2] at H
    have c2b0 : decide (x5_1 < 6) = false := decide_eq_false c2
    clear c2
    obtain rfl := Option.some.inj H
    go_wp2
    go_ret
    exact ⟨by first | rfl | (simp; done) | (simp [*]; done), by repeat (first | exact Drawn0.refl _ | apply Drawn0.step)⟩
end Go.Proofs.Ytbmldeikjfecfaa.T
