/- A part of the proof of the statement PlanFrees: words, contracts of functions that it reaches, and what they compute. No condition. -/
import Derived.Test.YtbmldeikjfecfaaI01
import Derived.Test.YtbmldeikjfecfaaI04
import Derived.Test.YtbmldeikjfecfaaI12
set_option linter.unusedVariables false
set_option linter.unusedSimpArgs false
namespace Go.Proofs.Ytbmldeikjfecfaa.T
open Go.RowKit Go.Proofs.YtbmldeikjfecfaaW.PrintWords Go.Proofs.YtbmldeikjfecfaaW.PrintLast Go.Proofs.YtbmldeikjfecfaaW.PrintMore
attribute [local go_sem] max2_int min2_int max_two min_two max_three min_three max_four min_four
attribute [local go_sem] at34_0 at34_1 at34_2 at42_0 at42_1 at42_2 at42_3 at47_0 at47_1 at47_2 at47_3 at47_4
mutual
def tocsinref15_free.l0 : Nat → Int → Bool → Int → Int → Int → Int → Int → Int → Int → Int → List (List Int) → List (S40) → List (S63) → Int → Option (Bool)
 | 0, _, _, _, _, _, _, _, _, _, _, _, _, _, _ => none
 | k + 1, x1, x2, x3, x4, x11, x345000, x345001, x345002, x345003, x345004, x345005, x345006, x345007, x345008 => if x11 < (x345006.length : Int) then (if 0 ≤ x11 then (if x2 = true then ((tocsinref08_Times.f x345000 x345001 x345002 x345003 x345004 x345005 x345006 x345007 x345008 ((rd_T40 x345006 x11).f0) ((rd_T40 x345006 x11).f1) ((rd_T40 x345006 x11).f2) ((rd_T40 x345006 x11).f3)).bind fun bt347 => (tocsinref15_free.j1 k x1 x2 x3 x4 x11 bt347.2.2.1 x345000 x345001 x345002 x345003 x345004 x345005 x345006 x345007 x345008 ((rd_T40 x345006 x11).f0) ((rd_T40 x345006 x11).f1) ((rd_T40 x345006 x11).f2) ((rd_T40 x345006 x11).f3))) else (tocsinref15_free.j1 k x1 x2 x3 x4 x11 ((rd_T40 x345006 x11).f2) x345000 x345001 x345002 x345003 x345004 x345005 x345006 x345007 x345008 ((rd_T40 x345006 x11).f0) ((rd_T40 x345006 x11).f1) ((rd_T40 x345006 x11).f2) ((rd_T40 x345006 x11).f3))) else (none)) else (some true)
def tocsinref15_free.j1 : Nat → Int → Bool → Int → Int → Int → Int → Int → Int → Int → Int → Int → List (List Int) → List (S40) → List (S63) → Int → Int → Int → Int → Int → Option (Bool)
 | 0, _, _, _, _, _, _, _, _, _, _, _, _, _, _, _, _, _, _, _ => none
 | k + 1, x1, x2, x3, x4, x11, x13, x345000, x345001, x345002, x345003, x345004, x345005, x345006, x345007, x345008, x347000, x347001, x347002, x347003 => if x2 = true then ((tocsinref07_Has.f k x347001 x1).bind fun t352 => (if t352 = true then (tocsinref15_free.j2 k x1 x2 x3 x4 x11 x13 false x345000 x345001 x345002 x345003 x345004 x345005 x345006 x345007 x345008 x347000 x347001 x347002 x347003) else (tocsinref15_free.j2 k x1 x2 x3 x4 x11 x13 true x345000 x345001 x345002 x345003 x345004 x345005 x345006 x345007 x345008 x347000 x347001 x347002 x347003))) else (tocsinref15_free.j2 k x1 x2 x3 x4 x11 x13 (x347000 != x1) x345000 x345001 x345002 x345003 x345004 x345005 x345006 x345007 x345008 x347000 x347001 x347002 x347003)
def tocsinref15_free.j2 : Nat → Int → Bool → Int → Int → Int → Int → Bool → Int → Int → Int → Int → Int → List (List Int) → List (S40) → List (S63) → Int → Int → Int → Int → Int → Option (Bool)
 | 0, _, _, _, _, _, _, _, _, _, _, _, _, _, _, _, _, _, _, _, _ => none
 | k + 1, x1, x2, x3, x4, x11, x13, x53, x345000, x345001, x345002, x345003, x345004, x345005, x345006, x345007, x345008, x347000, x347001, x347002, x347003 => if x53 = true then (tocsinref15_free.l0 k x1 x2 x3 x4 (wrap64 (x11 + 1)) x345000 x345001 x345002 x345003 x345004 x345005 x345006 x345007 x345008) else (if x345001 = 0 then (none) else (tocsinref15_free.l1 k x1 x2 x3 x4 x11 x13 (wrap64 ((wrap64 (Int.tdiv x3 x345001)) - 1)) x345000 x345001 x345002 x345003 x345004 x345005 x345006 x345007 x345008 x347000 x347001 x347002 x347003))
def tocsinref15_free.l1 : Nat → Int → Bool → Int → Int → Int → Int → Int → Int → Int → Int → Int → Int → List (List Int) → List (S40) → List (S63) → Int → Int → Int → Int → Int → Option (Bool)
 | 0, _, _, _, _, _, _, _, _, _, _, _, _, _, _, _, _, _, _, _, _ => none
 | k + 1, x1, x2, x3, x4, x11, x13, x14, x345000, x345001, x345002, x345003, x345004, x345005, x345006, x345007, x345008, x347000, x347001, x347002, x347003 => if x345001 = 0 then (none) else (if x14 ≤ (wrap64 ((wrap64 (Int.tdiv x3 x345001)) + 2)) then ((tocsinref06_Time.f x347003).bind fun t353 => (if (wrap64 ((wrap64 (x14 * x345001)) + x13)) < (wrap64 (x3 + x4)) then (if (wrap64 ((wrap64 ((wrap64 (x14 * x345001)) + x13)) + t353)) > x3 then (some false) else (tocsinref15_free.l1 k x1 x2 x3 x4 x11 x13 (wrap64 (x14 + 1)) x345000 x345001 x345002 x345003 x345004 x345005 x345006 x345007 x345008 x347000 x347001 x347002 x347003)) else (tocsinref15_free.l1 k x1 x2 x3 x4 x11 x13 (wrap64 (x14 + 1)) x345000 x345001 x345002 x345003 x345004 x345005 x345006 x345007 x345008 x347000 x347001 x347002 x347003))) else (tocsinref15_free.l0 k x1 x2 x3 x4 (wrap64 (x11 + 1)) x345000 x345001 x345002 x345003 x345004 x345005 x345006 x345007 x345008))
end
def tocsinref15_free.f (k : Nat) (a0_0 : Int) (a0_1 : Int) (a0_2 : Int) (a0_3 : Int) (a0_4 : Int) (l0_5 : List (List Int)) (l0_6 : List (S40)) (l0_7 : List (S63)) (a0_8 : Int) (a1 : Int) (a2 : Bool) (a3 : Int) (a4 : Int) : Option (Bool) := tocsinref15_free.l0 k a1 a2 a3 a4 0 a0_0 a0_1 a0_2 a0_3 a0_4 l0_5 l0_6 l0_7 a0_8
theorem tocsinref15_free.mono_l : ∀ k, (∀ y0 y1 y2 y3 y4 y5 y6 y7 y8 y9 y10 y11 y12 y13, LeO (tocsinref15_free.l0 k y0 y1 y2 y3 y4 y5 y6 y7 y8 y9 y10 y11 y12 y13) (tocsinref15_free.l0 (k + 1) y0 y1 y2 y3 y4 y5 y6 y7 y8 y9 y10 y11 y12 y13)) ∧ (∀ y0 y1 y2 y3 y4 y5 y6 y7 y8 y9 y10 y11 y12 y13 y14 y15 y16 y17 y18, LeO (tocsinref15_free.j1 k y0 y1 y2 y3 y4 y5 y6 y7 y8 y9 y10 y11 y12 y13 y14 y15 y16 y17 y18) (tocsinref15_free.j1 (k + 1) y0 y1 y2 y3 y4 y5 y6 y7 y8 y9 y10 y11 y12 y13 y14 y15 y16 y17 y18)) ∧ (∀ y0 y1 y2 y3 y4 y5 y6 y7 y8 y9 y10 y11 y12 y13 y14 y15 y16 y17 y18 y19, LeO (tocsinref15_free.j2 k y0 y1 y2 y3 y4 y5 y6 y7 y8 y9 y10 y11 y12 y13 y14 y15 y16 y17 y18 y19) (tocsinref15_free.j2 (k + 1) y0 y1 y2 y3 y4 y5 y6 y7 y8 y9 y10 y11 y12 y13 y14 y15 y16 y17 y18 y19)) ∧ (∀ y0 y1 y2 y3 y4 y5 y6 y7 y8 y9 y10 y11 y12 y13 y14 y15 y16 y17 y18 y19, LeO (tocsinref15_free.l1 k y0 y1 y2 y3 y4 y5 y6 y7 y8 y9 y10 y11 y12 y13 y14 y15 y16 y17 y18 y19) (tocsinref15_free.l1 (k + 1) y0 y1 y2 y3 y4 y5 y6 y7 y8 y9 y10 y11 y12 y13 y14 y15 y16 y17 y18 y19))
 | 0 => ⟨fun _ _ _ _ _ _ _ _ _ _ _ _ _ _ r h => by simp [tocsinref15_free.l0] at h, fun _ _ _ _ _ _ _ _ _ _ _ _ _ _ _ _ _ _ _ r h => by simp [tocsinref15_free.j1] at h, fun _ _ _ _ _ _ _ _ _ _ _ _ _ _ _ _ _ _ _ _ r h => by simp [tocsinref15_free.j2] at h, fun _ _ _ _ _ _ _ _ _ _ _ _ _ _ _ _ _ _ _ _ r h => by simp [tocsinref15_free.l1] at h⟩
 | k + 1 => by
  obtain ⟨ih0, ih1, ih2, ih3⟩ := tocsinref15_free.mono_l k
  refine ⟨?_, ?_, ?_, ?_⟩
  ·intro y0 y1 y2 y3 y4 y5 y6 y7 y8 y9 y10 y11 y12 y13
   unfold tocsinref15_free.l0
   repeat' first
   | (with_reducible exact ih0 _ _ _ _ _ _ _ _ _ _ _ _ _ _)
   | (with_reducible exact ih1 _ _ _ _ _ _ _ _ _ _ _ _ _ _ _ _ _ _ _)
   | (with_reducible exact ih2 _ _ _ _ _ _ _ _ _ _ _ _ _ _ _ _ _ _ _ _)
   | (with_reducible exact ih3 _ _ _ _ _ _ _ _ _ _ _ _ _ _ _ _ _ _ _ _)
   | (with_reducible exact tocsinref07_Has.mono _ _ _)
   | (with_reducible exact LeO.refl _)
   | (with_reducible exact LeO.none _)
   | (with_reducible refine LeO.ite ?_ ?_)
   | (with_reducible refine LeO.bind ?_ (fun _ => ?_))
   | exact ih0 _ _ _ _ _ _ _ _ _ _ _ _ _ _
   | exact ih1 _ _ _ _ _ _ _ _ _ _ _ _ _ _ _ _ _ _ _
   | exact ih2 _ _ _ _ _ _ _ _ _ _ _ _ _ _ _ _ _ _ _ _
   | exact ih3 _ _ _ _ _ _ _ _ _ _ _ _ _ _ _ _ _ _ _ _
   | exact tocsinref07_Has.mono _ _ _
   | exact LeO.none _
   | refine LeO.ite ?_ ?_
   | refine LeO.bind ?_ (fun _ => ?_)
  ·intro y0 y1 y2 y3 y4 y5 y6 y7 y8 y9 y10 y11 y12 y13 y14 y15 y16 y17 y18
   unfold tocsinref15_free.j1
   repeat' first
   | (with_reducible exact ih0 _ _ _ _ _ _ _ _ _ _ _ _ _ _)
   | (with_reducible exact ih1 _ _ _ _ _ _ _ _ _ _ _ _ _ _ _ _ _ _ _)
   | (with_reducible exact ih2 _ _ _ _ _ _ _ _ _ _ _ _ _ _ _ _ _ _ _ _)
   | (with_reducible exact ih3 _ _ _ _ _ _ _ _ _ _ _ _ _ _ _ _ _ _ _ _)
   | (with_reducible exact tocsinref07_Has.mono _ _ _)
   | (with_reducible exact LeO.refl _)
   | (with_reducible exact LeO.none _)
   | (with_reducible refine LeO.ite ?_ ?_)
   | (with_reducible refine LeO.bind ?_ (fun _ => ?_))
   | exact ih0 _ _ _ _ _ _ _ _ _ _ _ _ _ _
   | exact ih1 _ _ _ _ _ _ _ _ _ _ _ _ _ _ _ _ _ _ _
   | exact ih2 _ _ _ _ _ _ _ _ _ _ _ _ _ _ _ _ _ _ _ _
   | exact ih3 _ _ _ _ _ _ _ _ _ _ _ _ _ _ _ _ _ _ _ _
   | exact tocsinref07_Has.mono _ _ _
   | exact LeO.none _
   | refine LeO.ite ?_ ?_
   | refine LeO.bind ?_ (fun _ => ?_)
  ·intro y0 y1 y2 y3 y4 y5 y6 y7 y8 y9 y10 y11 y12 y13 y14 y15 y16 y17 y18 y19
   unfold tocsinref15_free.j2
   repeat' first
   | (with_reducible exact ih0 _ _ _ _ _ _ _ _ _ _ _ _ _ _)
   | (with_reducible exact ih1 _ _ _ _ _ _ _ _ _ _ _ _ _ _ _ _ _ _ _)
   | (with_reducible exact ih2 _ _ _ _ _ _ _ _ _ _ _ _ _ _ _ _ _ _ _ _)
   | (with_reducible exact ih3 _ _ _ _ _ _ _ _ _ _ _ _ _ _ _ _ _ _ _ _)
   | (with_reducible exact tocsinref07_Has.mono _ _ _)
   | (with_reducible exact LeO.refl _)
   | (with_reducible exact LeO.none _)
   | (with_reducible refine LeO.ite ?_ ?_)
   | (with_reducible refine LeO.bind ?_ (fun _ => ?_))
   | exact ih0 _ _ _ _ _ _ _ _ _ _ _ _ _ _
   | exact ih1 _ _ _ _ _ _ _ _ _ _ _ _ _ _ _ _ _ _ _
   | exact ih2 _ _ _ _ _ _ _ _ _ _ _ _ _ _ _ _ _ _ _ _
   | exact ih3 _ _ _ _ _ _ _ _ _ _ _ _ _ _ _ _ _ _ _ _
   | exact tocsinref07_Has.mono _ _ _
   | exact LeO.none _
   | refine LeO.ite ?_ ?_
   | refine LeO.bind ?_ (fun _ => ?_)
  ·intro y0 y1 y2 y3 y4 y5 y6 y7 y8 y9 y10 y11 y12 y13 y14 y15 y16 y17 y18 y19
   unfold tocsinref15_free.l1
   repeat' first
   | (with_reducible exact ih0 _ _ _ _ _ _ _ _ _ _ _ _ _ _)
   | (with_reducible exact ih1 _ _ _ _ _ _ _ _ _ _ _ _ _ _ _ _ _ _ _)
   | (with_reducible exact ih2 _ _ _ _ _ _ _ _ _ _ _ _ _ _ _ _ _ _ _ _)
   | (with_reducible exact ih3 _ _ _ _ _ _ _ _ _ _ _ _ _ _ _ _ _ _ _ _)
   | (with_reducible exact tocsinref07_Has.mono _ _ _)
   | (with_reducible exact LeO.refl _)
   | (with_reducible exact LeO.none _)
   | (with_reducible refine LeO.ite ?_ ?_)
   | (with_reducible refine LeO.bind ?_ (fun _ => ?_))
   | exact ih0 _ _ _ _ _ _ _ _ _ _ _ _ _ _
   | exact ih1 _ _ _ _ _ _ _ _ _ _ _ _ _ _ _ _ _ _ _
   | exact ih2 _ _ _ _ _ _ _ _ _ _ _ _ _ _ _ _ _ _ _ _
   | exact ih3 _ _ _ _ _ _ _ _ _ _ _ _ _ _ _ _ _ _ _ _
   | exact tocsinref07_Has.mono _ _ _
   | exact LeO.none _
   | refine LeO.ite ?_ ?_
   | refine LeO.bind ?_ (fun _ => ?_)
theorem tocsinref15_free.mono : ∀ a0 a1 a2 a3 a4 a5 a6 a7 a8 a9 a10 a11 a12 k, LeO (tocsinref15_free.f k a0 a1 a2 a3 a4 a5 a6 a7 a8 a9 a10 a11 a12) (tocsinref15_free.f (k + 1) a0 a1 a2 a3 a4 a5 a6 a7 a8 a9 a10 a11 a12) := by
 intro a0 a1 a2 a3 a4 a5 a6 a7 a8 a9 a10 a11 a12 k
 obtain ⟨ih0, ih1, ih2, ih3⟩ := tocsinref15_free.mono_l k
 unfold tocsinref15_free.f
 repeat' first
   | (with_reducible exact ih0 _ _ _ _ _ _ _ _ _ _ _ _ _ _)
   | (with_reducible exact ih1 _ _ _ _ _ _ _ _ _ _ _ _ _ _ _ _ _ _ _)
   | (with_reducible exact ih2 _ _ _ _ _ _ _ _ _ _ _ _ _ _ _ _ _ _ _ _)
   | (with_reducible exact ih3 _ _ _ _ _ _ _ _ _ _ _ _ _ _ _ _ _ _ _ _)
   | (with_reducible exact tocsinref07_Has.mono _ _ _)
   | (with_reducible exact LeO.refl _)
   | (with_reducible exact LeO.none _)
   | (with_reducible refine LeO.ite ?_ ?_)
   | (with_reducible refine LeO.bind ?_ (fun _ => ?_))
   | exact ih0 _ _ _ _ _ _ _ _ _ _ _ _ _ _
   | exact ih1 _ _ _ _ _ _ _ _ _ _ _ _ _ _ _ _ _ _ _
   | exact ih2 _ _ _ _ _ _ _ _ _ _ _ _ _ _ _ _ _ _ _ _
   | exact ih3 _ _ _ _ _ _ _ _ _ _ _ _ _ _ _ _ _ _ _ _
   | exact tocsinref07_Has.mono _ _ _
   | exact LeO.none _
   | refine LeO.ite ?_ ?_
   | refine LeO.bind ?_ (fun _ => ?_)
set_option maxHeartbeats 8000000 in
set_option maxRecDepth 100000 in
theorem tocsinref15_free.calls (k : Nat) (a0_0 : Int) (a0_1 : Int) (a0_2 : Int) (a0_3 : Int) (a0_4 : Int) (A0_5 : Option Addr) (c0_5 : Nat) (l0_5 : List (List Int)) (A0_6 : Option Addr) (c0_6 : Nat) (l0_6 : List (S40)) (A0_7 : Option Addr) (c0_7 : Nat) (l0_7 : List (S63)) (a0_8 : Int) (a1 : Int) (a2 : Bool) (a3 : Int) (a4 : Int) (r : Bool) (w : World) (hr0_5 : Kd.C (Kd.slice 2 (Kd.int .i64)) w A0_5 l0_5.length l0_5) (hc0_5 : l0_5.length ≤ c0_5) (hr0_6 : Kd.C k40 w A0_6 l0_6.length l0_6) (hc0_6 : l0_6.length ≤ c0_6) (hr0_7 : Kd.C k63 w A0_7 l0_7.length l0_7) (hc0_7 : l0_7.length ≤ c0_7) (h : tocsinref15_free.f k a0_0 a0_1 a0_2 a0_3 a0_4 l0_5 l0_6 l0_7 a0_8 a1 a2 a3 a4 = some r) :
  Calls Try.prog 38 #[.agg #[.int .i64 a0_0, .int .i64 a0_1, .int .i64 a0_2, .int .i64 a0_3, .int .i64 a0_4, .slice A0_5 l0_5.length c0_5, .slice A0_6 l0_6.length c0_6, .slice A0_7 l0_7.length c0_7, .int .i64 a0_8], .int .i64 a1, .bool a2, .int .i64 a3, .int .i64 a4] w fun e w' => e = .returned (.bool r) ∧ Below w.heap.size w w' := by
 have hu26 := Try.underlying26
 have hu40 := Try.underlying40
 have HR0_5 := Aside0.mk hr0_5
 have HC0_5 := Aside0.mk hc0_5
 clear hr0_5 hc0_5
 have HR0_6 := Aside0.mk hr0_6
 have HC0_6 := Aside0.mk hc0_6
 clear hr0_6 hc0_6
 have HR0_7 := Aside0.mk hr0_7
 have HC0_7 := Aside0.mk hc0_7
 clear hr0_7 hc0_7
 have HB := Aside0.mk (Below.refl w.heap.size w)
 have H : (tocsinref15_free.l0 k a1 a2 a3 a4 0 a0_0 a0_1 a0_2 a0_3 a0_4 l0_5 l0_6 l0_7 a0_8) = some r := h
 clear h
 have H' := Aside0.mk H
 clear H
 go_enter Try.func38, Try.ntmps38
 go_wp2_with (first | ((with_reducible refine gate_dst (N := 5) rfl ?_); refine boxe (N := 5) (cs := #[.int .i64 a0_0, .int .i64 a0_1, .int .i64 a0_2, .int .i64 a0_3, .int .i64 a0_4, .slice A0_5 l0_5.length c0_5, .slice A0_6 l0_6.length c0_6, .slice A0_7 l0_7.length c0_7, .int .i64 a0_8]) (t := 26) ?_; intro gb344 hg w6 hbox hb; have BK344 := Aside0.mk (hbox); have GW344 := bg0 hg HB; have GE344 := GW344; replace HB := bs0 HB hb; clear hb hbox hg))
 (try simp only [Act.put, sT, sZ, sS])
 go_loopg [11] k (fun kq v11 w' => ∃ (x11_1 : Int), v11 = .int .i64 x11_1 ∧ Aside0 (tocsinref15_free.l0 kq a1 a2 a3 a4 x11_1 a0_0 a0_1 a0_2 a0_3 a0_4 l0_5 l0_6 l0_7 a0_8 = some r) ∧ Aside0 (kq ≤ k) ∧ Aside0 (w'.heap[gb344]? = some (.cells #[.int .i64 a0_0, .int .i64 a0_1, .int .i64 a0_2, .int .i64 a0_3, .int .i64 a0_4, (.slice A0_5 l0_5.length c0_5), (.slice A0_6 l0_6.length c0_6), (.slice A0_7 l0_7.length c0_7), .int .i64 a0_8] 26 (0, 0))) ∧ Aside0 (Below w.heap.size w w'))
 case atStart => exact ⟨(0), rs, H', ⟨Nat.le_refl _⟩, ⟨bk BK344⟩, ⟨bw1 HB GE344⟩⟩
 case round =>
  clear H'
  try clear p2
  try clear c3
  obtain ⟨x11_1, rfl, HA, HK1, BK344, HB⟩ := hrel
  cases gk with
  | zero => exact absurd HA.out (by simp [tocsinref15_free.l0])
  | succ k1 =>
   have H := HA.out
   clear HA
   simp only [tocsinref15_free.l0] at H
   by_cases c7 : x11_1 < (l0_6.length : Int)
   ·rw [if_pos c7] at H
    have c7b0 : decide (x11_1 < (l0_6.length : Int)) = true := decide_eq_true c7
    clear c7
    by_cases c8 : 0 ≤ x11_1
    ·rw [if_pos c8] at H
     have c8b0 : decide (0 ≤ x11_1) = true := decide_eq_true c8
     clear c8
     have HC9 := Aside0.mk H
     clear H
     obtain ⟨hcz10_0, hcz10_1, hcz10_2, hcz10_3, hcz10_4, hcz10_5, hcz10_6, hcz10_7, hcz10_8, hfz10_0, hfz10_1, hfz10_2, hfz10_3, hfz10_4, hfz10_5, hfz10_6, hfz10_7, hfz10_8⟩ := bz9 BK344
     have p345 : 0 ≤ (x11_1 : Int) := of_decide_eq_true (by first | (with_reducible assumption) | assumption)
     have q345 : x11_1 < (l0_6.length : Int) := of_decide_eq_true (by first | (with_reducible assumption) | assumption)
     obtain ⟨ad345, e345, hx345_0, hx345_1, hx345_2, hx345_3⟩ := at_T40 HR0_6.out x11_1 p345 q345
     cases e345
     replace hx345_0 := pcb HB hx345_0
     replace hx345_1 := pcb HB hx345_1
     replace hx345_2 := pcb HB hx345_2
     replace hx345_3 := pcb HB hx345_3
     replace p345 := eq_true p345
     replace q345 := eq_true q345
     go_upto_if 31 with (first | ((with_reducible refine gate_dst (N := 12) rfl ?_); refine boxe (N := 12) (cs := #[.int .i64 0, .int .u32 0, .int .i64 0, .int .i64 0]) (t := 40) ?_; intro gb346 hg w11 hbox hb; have BK346 := Aside0.mk (hbox); have GW346 := bg1 hg HB GE344; have GE346 := GW346; have NB344_346 := nl hg BK344; have NB346_344 := ng hg BK344; replace BK344 := bb BK344 hb; replace HB := bs1 HB GE344 hb; clear hb hbox hg; have hnb12 := NB346_344.out; have hnc12 := NB344_346.out; obtain ⟨hcz13_0, hcz13_1, hcz13_2, hcz13_3, hfz13_0, hfz13_1, hfz13_2, hfz13_3⟩ := bz4 BK346))
     (try simp only [Act.put, sT, sZ, sS])
     go_cut [13] (fun v13 wc => ∃ (kq : Nat) (x13_8 : Int), v13 = .int .i64 x13_8 ∧ Aside0 (tocsinref15_free.j1 kq a1 a2 a3 a4 x11_1 x13_8 a0_0 a0_1 a0_2 a0_3 a0_4 l0_5 l0_6 l0_7 a0_8 ((rd_T40 l0_6 x11_1).f0) ((rd_T40 l0_6 x11_1).f1) ((rd_T40 l0_6 x11_1).f2) ((rd_T40 l0_6 x11_1).f3) = some r) ∧ Aside0 (kq ≤ k1) ∧ Aside0 (wc.heap[gb344]? = some (.cells #[.int .i64 a0_0, .int .i64 a0_1, .int .i64 a0_2, .int .i64 a0_3, .int .i64 a0_4, (.slice A0_5 l0_5.length c0_5), (.slice (some ad345) l0_6.length c0_6), (.slice A0_7 l0_7.length c0_7), .int .i64 a0_8] 26 (0, 0))) ∧ Aside0 (wc.heap[gb346]? = some (.cells #[.int .i64 ((rd_T40 l0_6 x11_1).f0), .int .u32 ((rd_T40 l0_6 x11_1).f1), .int .i64 ((rd_T40 l0_6 x11_1).f2), .int .i64 ((rd_T40 l0_6 x11_1).f3)] 40 (0, 0))) ∧ Aside0 (Below w.heap.size w wc))
     case first =>
      have H := HC9.out
      clear HC9
      by_cases c14 : a2 = true
      ·subst c14
       have H1 : ((tocsinref08_Times.f a0_0 a0_1 a0_2 a0_3 a0_4 l0_5 l0_6 l0_7 a0_8 ((rd_T40 l0_6 x11_1).f0) ((rd_T40 l0_6 x11_1).f1) ((rd_T40 l0_6 x11_1).f2) ((rd_T40 l0_6 x11_1).f3)).bind fun bt347 => (tocsinref15_free.j1 k1 a1 true a3 a4 x11_1 bt347.2.2.1 a0_0 a0_1 a0_2 a0_3 a0_4 l0_5 l0_6 l0_7 a0_8 ((rd_T40 l0_6 x11_1).f0) ((rd_T40 l0_6 x11_1).f1) ((rd_T40 l0_6 x11_1).f2) ((rd_T40 l0_6 x11_1).f3))) = some r := by rw [if_pos rfl] at H; exact H
       clear H
       have H := H1
       clear H1
       replace H := Option.bind_eq_some_iff.mp H
       obtain ⟨⟨t347, t348, t349, t350, t351⟩, A150, H⟩ := H
       replace H : (tocsinref15_free.j1 k1 a1 true a3 a4 x11_1 t349 a0_0 a0_1 a0_2 a0_3 a0_4 l0_5 l0_6 l0_7 a0_8 ((rd_T40 l0_6 x11_1).f0) ((rd_T40 l0_6 x11_1).f1) ((rd_T40 l0_6 x11_1).f2) ((rd_T40 l0_6 x11_1).f3)) = some r := H
       have A15 := Aside0.mk A150
       clear A150
       have H' := Aside0.mk H
       clear H
       have hnb16 := NB344_346.out
       have hnc16 := NB346_344.out
       obtain ⟨hcz17_0, hcz17_1, hcz17_2, hcz17_3, hcz17_4, hcz17_5, hcz17_6, hcz17_7, hcz17_8, hfz17_0, hfz17_1, hfz17_2, hfz17_3, hfz17_4, hfz17_5, hfz17_6, hfz17_7, hfz17_8⟩ := bz9 BK344
       obtain ⟨hcz18_0, hcz18_1, hcz18_2, hcz18_3, hfz18_0, hfz18_1, hfz18_2, hfz18_3⟩ := bz4 BK346
       go_wp2_with (first | ((with_reducible refine gate_callee (f := 25) rfl ?_); refine gol (some 34) Try.func25 #[.agg #[.int .i64 a0_0, .int .i64 a0_1, .int .i64 a0_2, .int .i64 a0_3, .int .i64 a0_4, .slice A0_5 l0_5.length c0_5, .slice (some ad345) l0_6.length c0_6, .slice A0_7 l0_7.length c0_7, .int .i64 a0_8], .agg #[.int .i64 ((rd_T40 l0_6 x11_1).f0), .int .u32 ((rd_T40 l0_6 x11_1).f1), .int .i64 ((rd_T40 l0_6 x11_1).f2), .int .i64 ((rd_T40 l0_6 x11_1).f3)]] ?_; (with_reducible refine (tocsinref08_Times.calls a0_0 a0_1 a0_2 a0_3 a0_4 _ _ l0_5 _ _ l0_6 _ _ l0_7 a0_8 ((rd_T40 l0_6 x11_1).f0) ((rd_T40 l0_6 x11_1).f1) ((rd_T40 l0_6 x11_1).f2) ((rd_T40 l0_6 x11_1).f3) t347 t348 t349 t350 t351 _ ?side1 ?side2 ?side3 ?side4 ?side5 ?side6 A15.out).mono ?_); (case side1 => exact Kd.C_below HR0_5.out (bw2 HB GE344 GE346)); (case side2 => exact HC0_5.out); (case side3 => exact Kd.C_below HR0_6.out (bw2 HB GE344 GE346)); (case side4 => exact HC0_6.out); (case side5 => exact Kd.C_below HR0_7.out (bw2 HB GE344 GE346)); (case side6 => exact HC0_7.out); rintro e w19 ⟨rfl, hb⟩; refine ⟨_, rfl, ?_⟩; replace BK344 := Aside0.mk (blk_below (g := gb344) (o := .cells #[.int .i64 a0_0, .int .i64 a0_1, .int .i64 a0_2, .int .i64 a0_3, .int .i64 a0_4, .slice A0_5 l0_5.length c0_5, .slice (some ad345) l0_6.length c0_6, .slice A0_7 l0_7.length c0_7, .int .i64 a0_8] 26 (0, 0)) (bf1 NB344_346 BK344) hb); replace BK346 := Aside0.mk (blk_below (g := gb346) (o := .cells #[.int .i64 ((rd_T40 l0_6 x11_1).f0), .int .u32 ((rd_T40 l0_6 x11_1).f1), .int .i64 ((rd_T40 l0_6 x11_1).f2), .int .i64 ((rd_T40 l0_6 x11_1).f3)] 40 (0, 0)) (by (with_reducible repeat (first | refine blk_drewN ?_ _ | refine blk_drew ?_ | refine blk_alloc ?_ _)); refine blk_put (cs := #[.int .i64 ((rd_T40 l0_6 x11_1).f0), .int .u32 ((rd_T40 l0_6 x11_1).f1), .int .i64 ((rd_T40 l0_6 x11_1).f2), .int .i64 0]) ?_ 3 _ rt; (with_reducible repeat (first | refine blk_drewN ?_ _ | refine blk_drew ?_ | refine blk_alloc ?_ _)); refine blk_put (cs := #[.int .i64 ((rd_T40 l0_6 x11_1).f0), .int .u32 ((rd_T40 l0_6 x11_1).f1), .int .i64 0, .int .i64 0]) ?_ 2 _ rt; (with_reducible repeat (first | refine blk_drewN ?_ _ | refine blk_drew ?_ | refine blk_alloc ?_ _)); refine blk_put (cs := #[.int .i64 ((rd_T40 l0_6 x11_1).f0), .int .u32 0, .int .i64 0, .int .i64 0]) ?_ 1 _ rt; (with_reducible repeat (first | refine blk_drewN ?_ _ | refine blk_drew ?_ | refine blk_alloc ?_ _)); refine blk_put (cs := #[.int .i64 0, .int .u32 0, .int .i64 0, .int .i64 0]) ?_ 0 _ rt; (with_reducible repeat (first | refine blk_drewN ?_ _ | refine blk_drew ?_ | refine blk_alloc ?_ _)); exact BK346.out) hb); replace HB := bs2 HB GE344 GE346 hb; (try clear hb); (try clear hb2); (try clear hk); (try clear hi)))
       all_goals try (exfalso; (try have z0_ := of_decide_eq_true c7b0); omega)
       go_meet
       case rel => exact ⟨_, (t349), rs, H', ⟨by have := HK1.out; first | omega | exact Nat.le_refl _⟩, ⟨bk BK344⟩, ⟨bk BK346⟩, ⟨bw2 HB GE344 GE346⟩⟩
      ·replace c14 := Bool.eq_false_iff.mpr c14
       subst c14
       have H1 : (tocsinref15_free.j1 k1 a1 false a3 a4 x11_1 ((rd_T40 l0_6 x11_1).f2) a0_0 a0_1 a0_2 a0_3 a0_4 l0_5 l0_6 l0_7 a0_8 ((rd_T40 l0_6 x11_1).f0) ((rd_T40 l0_6 x11_1).f1) ((rd_T40 l0_6 x11_1).f2) ((rd_T40 l0_6 x11_1).f3)) = some r := by rw [if_neg (show ¬ (false = true) by decide)] at H; exact H
       clear H
       have H := H1
       clear H1
       have H' := Aside0.mk H
       clear H
       go_wp2
       all_goals try (exfalso; (try have z0_ := of_decide_eq_true c7b0); omega)
       go_meet
       case rel => exact ⟨_, ((rd_T40 l0_6 x11_1).f2), rs, H', ⟨by have := HK1.out; first | omega | exact Nat.le_refl _⟩, ⟨bf1 NB344_346 BK344⟩, ⟨by (with_reducible repeat (first | refine blk_drewN ?_ _ | refine blk_drew ?_ | refine blk_alloc ?_ _)); refine blk_put (cs := #[.int .i64 ((rd_T40 l0_6 x11_1).f0), .int .u32 ((rd_T40 l0_6 x11_1).f1), .int .i64 ((rd_T40 l0_6 x11_1).f2), .int .i64 0]) ?_ 3 _ rt; (with_reducible repeat (first | refine blk_drewN ?_ _ | refine blk_drew ?_ | refine blk_alloc ?_ _)); refine blk_put (cs := #[.int .i64 ((rd_T40 l0_6 x11_1).f0), .int .u32 ((rd_T40 l0_6 x11_1).f1), .int .i64 0, .int .i64 0]) ?_ 2 _ rt; (with_reducible repeat (first | refine blk_drewN ?_ _ | refine blk_drew ?_ | refine blk_alloc ?_ _)); refine blk_put (cs := #[.int .i64 ((rd_T40 l0_6 x11_1).f0), .int .u32 0, .int .i64 0, .int .i64 0]) ?_ 1 _ rt; (with_reducible repeat (first | refine blk_drewN ?_ _ | refine blk_drew ?_ | refine blk_alloc ?_ _)); refine blk_put (cs := #[.int .i64 0, .int .u32 0, .int .i64 0, .int .i64 0]) ?_ 0 _ rt; (with_reducible repeat (first | refine blk_drewN ?_ _ | refine blk_drew ?_ | refine blk_alloc ?_ _)); exact BK346.out⟩, ⟨bw2 HB GE344 GE346⟩⟩
     case rest =>
      clear HC9
      try clear c1
      try clear c2
      try clear p2
      try clear c3
      try clear p3
      try clear q3
      try clear hx3
      try clear c7
      try clear c7b0
      try clear c8
      try clear c8b0
      try clear c12
      try clear c14
      try clear c16
      try clear hcz10_0 hcz10_1 hcz10_2 hcz10_3 hcz10_4 hcz10_5 hcz10_6 hcz10_7 hcz10_8
      try clear hcz13_0 hcz13_1 hcz13_2 hcz13_3
      try clear hcz17_0 hcz17_1 hcz17_2 hcz17_3 hcz17_4 hcz17_5 hcz17_6 hcz17_7 hcz17_8
      try clear hcz18_0 hcz18_1 hcz18_2 hcz18_3
      try clear hfz10_0 hfz10_1 hfz10_2 hfz10_3 hfz10_4 hfz10_5 hfz10_6 hfz10_7 hfz10_8
      try clear hfz13_0 hfz13_1 hfz13_2 hfz13_3
      try clear hfz17_0 hfz17_1 hfz17_2 hfz17_3 hfz17_4 hfz17_5 hfz17_6 hfz17_7 hfz17_8
      try clear hfz18_0 hfz18_1 hfz18_2 hfz18_3
      try clear hx345_0
      try clear hx345_1
      try clear hx345_2
      try clear hx345_3
      try clear p2
      try clear p345
      try clear q345
      obtain ⟨kq, x13_8, rfl, HA, HJ8, BK344, BK346, HB⟩ := hcut
      cases kq with
      | zero => exact absurd HA.out (by simp [tocsinref15_free.j1])
      | succ kj8 =>
       have H := HA.out
       clear HA
       simp only [tocsinref15_free.j1] at H
       have HC20 := Aside0.mk H
       clear H
       go_upto_region 8 with (fail)
       go_cut [53] (fun v53 wc => ∃ (kq : Nat) (x53_19 : Bool), v53 = .bool x53_19 ∧ Aside0 (tocsinref15_free.j2 kq a1 a2 a3 a4 x11_1 x13_8 x53_19 a0_0 a0_1 a0_2 a0_3 a0_4 l0_5 l0_6 l0_7 a0_8 ((rd_T40 l0_6 x11_1).f0) ((rd_T40 l0_6 x11_1).f1) ((rd_T40 l0_6 x11_1).f2) ((rd_T40 l0_6 x11_1).f3) = some r) ∧ Aside0 (kq ≤ kj8) ∧ Aside0 (wc.heap[gb344]? = some (.cells #[.int .i64 a0_0, .int .i64 a0_1, .int .i64 a0_2, .int .i64 a0_3, .int .i64 a0_4, (.slice A0_5 l0_5.length c0_5), (.slice (some ad345) l0_6.length c0_6), (.slice A0_7 l0_7.length c0_7), .int .i64 a0_8] 26 (0, 0))) ∧ Aside0 (wc.heap[gb346]? = some (.cells #[.int .i64 ((rd_T40 l0_6 x11_1).f0), .int .u32 ((rd_T40 l0_6 x11_1).f1), .int .i64 ((rd_T40 l0_6 x11_1).f2), .int .i64 ((rd_T40 l0_6 x11_1).f3)] 40 (0, 0))) ∧ Aside0 (Below w.heap.size w wc))
       case first =>
        have H := HC20.out
        clear HC20
        by_cases c21 : a2 = true
        ·subst c21
         have H1 : ((tocsinref07_Has.f kj8 ((rd_T40 l0_6 x11_1).f1) a1).bind fun t352 => (if t352 = true then (tocsinref15_free.j2 kj8 a1 true a3 a4 x11_1 x13_8 false a0_0 a0_1 a0_2 a0_3 a0_4 l0_5 l0_6 l0_7 a0_8 ((rd_T40 l0_6 x11_1).f0) ((rd_T40 l0_6 x11_1).f1) ((rd_T40 l0_6 x11_1).f2) ((rd_T40 l0_6 x11_1).f3)) else (tocsinref15_free.j2 kj8 a1 true a3 a4 x11_1 x13_8 true a0_0 a0_1 a0_2 a0_3 a0_4 l0_5 l0_6 l0_7 a0_8 ((rd_T40 l0_6 x11_1).f0) ((rd_T40 l0_6 x11_1).f1) ((rd_T40 l0_6 x11_1).f2) ((rd_T40 l0_6 x11_1).f3)))) = some r := by rw [if_pos rfl] at H; exact H
         clear H
         have H := H1
         clear H1
         replace H := Option.bind_eq_some_iff.mp H
         obtain ⟨t352, A220, H⟩ := H
         replace H : (if t352 = true then (tocsinref15_free.j2 kj8 a1 true a3 a4 x11_1 x13_8 false a0_0 a0_1 a0_2 a0_3 a0_4 l0_5 l0_6 l0_7 a0_8 ((rd_T40 l0_6 x11_1).f0) ((rd_T40 l0_6 x11_1).f1) ((rd_T40 l0_6 x11_1).f2) ((rd_T40 l0_6 x11_1).f3)) else (tocsinref15_free.j2 kj8 a1 true a3 a4 x11_1 x13_8 true a0_0 a0_1 a0_2 a0_3 a0_4 l0_5 l0_6 l0_7 a0_8 ((rd_T40 l0_6 x11_1).f0) ((rd_T40 l0_6 x11_1).f1) ((rd_T40 l0_6 x11_1).f2) ((rd_T40 l0_6 x11_1).f3))) = some r := H
         have A22 := Aside0.mk A220
         clear A220
         by_cases c23 : t352 = true
         ·subst c23
          have H1 : (tocsinref15_free.j2 kj8 a1 true a3 a4 x11_1 x13_8 false a0_0 a0_1 a0_2 a0_3 a0_4 l0_5 l0_6 l0_7 a0_8 ((rd_T40 l0_6 x11_1).f0) ((rd_T40 l0_6 x11_1).f1) ((rd_T40 l0_6 x11_1).f2) ((rd_T40 l0_6 x11_1).f3)) = some r := by rw [if_pos rfl] at H; exact H
          clear H
          have H := H1
          clear H1
          have H' := Aside0.mk H
          clear H
          have hnb24 := NB346_344.out
          have hnc24 := NB344_346.out
          obtain ⟨hcz25_0, hcz25_1, hcz25_2, hcz25_3, hfz25_0, hfz25_1, hfz25_2, hfz25_3⟩ := bz4 BK346
          go_wp2_with (first | (go_at_call 50; (with_reducible refine (tocsinref07_Has.calls kj8 ((rd_T40 l0_6 x11_1).f1) a1 true _ A22.out).mono ?_); rintro e w' ⟨rfl, ⟨nd, rfl⟩⟩))
          all_goals try (exfalso; (try have z0_ := of_decide_eq_true c7b0); omega)
          go_meet
          case rel => exact ⟨_, (false), rs, H', ⟨by have := HK1.out; have := HJ8.out; first | omega | exact Nat.le_refl _⟩, ⟨bk BK344⟩, ⟨bk BK346⟩, ⟨bw2 HB GE344 GE346⟩⟩
         ·replace c23 := Bool.eq_false_iff.mpr c23
          subst c23
          have H1 : (tocsinref15_free.j2 kj8 a1 true a3 a4 x11_1 x13_8 true a0_0 a0_1 a0_2 a0_3 a0_4 l0_5 l0_6 l0_7 a0_8 ((rd_T40 l0_6 x11_1).f0) ((rd_T40 l0_6 x11_1).f1) ((rd_T40 l0_6 x11_1).f2) ((rd_T40 l0_6 x11_1).f3)) = some r := by rw [if_neg (show ¬ (false = true) by decide)] at H; exact H
          clear H
          have H := H1
          clear H1
          have H' := Aside0.mk H
          clear H
          have hnb26 := NB346_344.out
          have hnc26 := NB344_346.out
          obtain ⟨hcz27_0, hcz27_1, hcz27_2, hcz27_3, hfz27_0, hfz27_1, hfz27_2, hfz27_3⟩ := bz4 BK346
          go_wp2_with (first | (go_at_call 50; (with_reducible refine (tocsinref07_Has.calls kj8 ((rd_T40 l0_6 x11_1).f1) a1 false _ A22.out).mono ?_); rintro e w' ⟨rfl, ⟨nd, rfl⟩⟩))
          all_goals try (exfalso; (try have z0_ := of_decide_eq_true c7b0); omega)
          go_meet
          case rel => exact ⟨_, (true), rs, H', ⟨by have := HK1.out; have := HJ8.out; first | omega | exact Nat.le_refl _⟩, ⟨bk BK344⟩, ⟨bk BK346⟩, ⟨bw2 HB GE344 GE346⟩⟩
        ·replace c21 := Bool.eq_false_iff.mpr c21
         subst c21
         have H1 : (tocsinref15_free.j2 kj8 a1 false a3 a4 x11_1 x13_8 (((rd_T40 l0_6 x11_1).f0) != a1) a0_0 a0_1 a0_2 a0_3 a0_4 l0_5 l0_6 l0_7 a0_8 ((rd_T40 l0_6 x11_1).f0) ((rd_T40 l0_6 x11_1).f1) ((rd_T40 l0_6 x11_1).f2) ((rd_T40 l0_6 x11_1).f3)) = some r := by rw [if_neg (show ¬ (false = true) by decide)] at H; exact H
         clear H
         have H := H1
         clear H1
         have H' := Aside0.mk H
         clear H
         have hnb28 := NB346_344.out
         have hnc28 := NB344_346.out
         obtain ⟨hcz29_0, hcz29_1, hcz29_2, hcz29_3, hfz29_0, hfz29_1, hfz29_2, hfz29_3⟩ := bz4 BK346
         go_wp2
         all_goals try (exfalso; (try have z0_ := of_decide_eq_true c7b0); omega)
         go_meet
         case rel => exact ⟨_, ((((rd_T40 l0_6 x11_1).f0) != a1)), rs, H', ⟨by have := HK1.out; have := HJ8.out; first | omega | exact Nat.le_refl _⟩, ⟨bk BK344⟩, ⟨bk BK346⟩, ⟨bw2 HB GE344 GE346⟩⟩
       case rest =>
        clear HC20
        try clear c1
        try clear c2
        try clear p2
        try clear c3
        try clear p3
        try clear q3
        try clear hx3
        try clear c7
        try clear c7b0
        try clear c8
        try clear c8b0
        try clear c12
        try clear c14
        try clear c16
        try clear c21
        try clear c23
        try clear c24
        try clear c25
        try clear c26
        try clear c28
        try clear hcz10_0 hcz10_1 hcz10_2 hcz10_3 hcz10_4 hcz10_5 hcz10_6 hcz10_7 hcz10_8
        try clear hcz13_0 hcz13_1 hcz13_2 hcz13_3
        try clear hcz17_0 hcz17_1 hcz17_2 hcz17_3 hcz17_4 hcz17_5 hcz17_6 hcz17_7 hcz17_8
        try clear hcz18_0 hcz18_1 hcz18_2 hcz18_3
        try clear hcz25_0 hcz25_1 hcz25_2 hcz25_3
        try clear hcz27_0 hcz27_1 hcz27_2 hcz27_3
        try clear hcz29_0 hcz29_1 hcz29_2 hcz29_3
        try clear hfz10_0 hfz10_1 hfz10_2 hfz10_3 hfz10_4 hfz10_5 hfz10_6 hfz10_7 hfz10_8
        try clear hfz13_0 hfz13_1 hfz13_2 hfz13_3
        try clear hfz17_0 hfz17_1 hfz17_2 hfz17_3 hfz17_4 hfz17_5 hfz17_6 hfz17_7 hfz17_8
        try clear hfz18_0 hfz18_1 hfz18_2 hfz18_3
        try clear hfz25_0 hfz25_1 hfz25_2 hfz25_3
        try clear hfz27_0 hfz27_1 hfz27_2 hfz27_3
        try clear hfz29_0 hfz29_1 hfz29_2 hfz29_3
        try clear hx345_0
        try clear hx345_1
        try clear hx345_2
        try clear hx345_3
        try clear p2
        try clear p3
        try clear p345
        try clear q3
        try clear q345
        obtain ⟨kq, x53_19, rfl, HA, HJ19, BK344, BK346, HB⟩ := hcut
        cases kq with
        | zero => exact absurd HA.out (by simp [tocsinref15_free.j2])
        | succ kj19 =>
         have H := HA.out
         clear HA
         simp only [tocsinref15_free.j2] at H
         by_cases c30 : x53_19 = true
         ·subst c30
          have H1 : (tocsinref15_free.l0 kj19 a1 a2 a3 a4 (wrap64 (x11_1 + 1)) a0_0 a0_1 a0_2 a0_3 a0_4 l0_5 l0_6 l0_7 a0_8) = some r := by rw [if_pos rfl] at H; exact H
          clear H
          have H := H1
          clear H1
          have H' := Aside0.mk H
          clear H
          go_wp2
          all_goals try (exfalso; (try have z0_ := of_decide_eq_true c7b0); omega)
          go_roundg kj19
          case measure => have := HK1.out; have := HJ8.out; have := HJ19.out; omega
          case rel => exact ⟨(wrap64 (x11_1 + 1)), rs, H', ⟨by have := HK1.out; have := HJ8.out; have := HJ19.out; omega⟩, ⟨bk BK344⟩, ⟨bw2 HB GE344 GE346⟩⟩
         ·replace c30 := Bool.eq_false_iff.mpr c30
          subst c30
          have H1 : (if a0_1 = 0 then (none) else (tocsinref15_free.l1 kj19 a1 a2 a3 a4 x11_1 x13_8 (wrap64 ((wrap64 (Int.tdiv a3 a0_1)) - 1)) a0_0 a0_1 a0_2 a0_3 a0_4 l0_5 l0_6 l0_7 a0_8 ((rd_T40 l0_6 x11_1).f0) ((rd_T40 l0_6 x11_1).f1) ((rd_T40 l0_6 x11_1).f2) ((rd_T40 l0_6 x11_1).f3))) = some r := by rw [if_neg (show ¬ (false = true) by decide)] at H; exact H
          clear H
          have H := H1
          clear H1
          by_cases c31 : a0_1 = 0
          ·rw [if_pos c31] at H
           exact absurd H (by simp)
          ·rw [if_neg c31] at H
           have c31b0 : (a0_1 == 0) = false := beq_eq_false_iff_ne.mpr c31
           have c31b1 : (a0_1 != 0) = true := bne_iff_ne.mpr c31
           have H' := Aside0.mk H
           clear H
           have hnb32 := NB344_346.out
           have hnc32 := NB346_344.out
           obtain ⟨hcz33_0, hcz33_1, hcz33_2, hcz33_3, hcz33_4, hcz33_5, hcz33_6, hcz33_7, hcz33_8, hfz33_0, hfz33_1, hfz33_2, hfz33_3, hfz33_4, hfz33_5, hfz33_6, hfz33_7, hfz33_8⟩ := bz9 BK344
           go_wp2
           (try simp only [Act.put, sT, sZ, sS])
           go_loopg [14] kj19 (fun kq v14 w' => ∃ (x14_4 : Int), v14 = .int .i64 x14_4 ∧ Aside0 (tocsinref15_free.l1 kq a1 a2 a3 a4 x11_1 x13_8 x14_4 a0_0 a0_1 a0_2 a0_3 a0_4 l0_5 l0_6 l0_7 a0_8 ((rd_T40 l0_6 x11_1).f0) ((rd_T40 l0_6 x11_1).f1) ((rd_T40 l0_6 x11_1).f2) ((rd_T40 l0_6 x11_1).f3) = some r) ∧ Aside0 (kq ≤ kj19) ∧ Aside0 (w'.heap[gb344]? = some (.cells #[.int .i64 a0_0, .int .i64 a0_1, .int .i64 a0_2, .int .i64 a0_3, .int .i64 a0_4, (.slice A0_5 l0_5.length c0_5), (.slice (some ad345) l0_6.length c0_6), (.slice A0_7 l0_7.length c0_7), .int .i64 a0_8] 26 (0, 0))) ∧ Aside0 (w'.heap[gb346]? = some (.cells #[.int .i64 ((rd_T40 l0_6 x11_1).f0), .int .u32 ((rd_T40 l0_6 x11_1).f1), .int .i64 ((rd_T40 l0_6 x11_1).f2), .int .i64 ((rd_T40 l0_6 x11_1).f3)] 40 (0, 0))) ∧ Aside0 (Below w.heap.size w w'))
           case atStart => exact ⟨(wrap64 ((wrap64 (Int.tdiv a3 a0_1)) - 1)), rs, H', ⟨Nat.le_refl _⟩, ⟨bk BK344⟩, ⟨bk BK346⟩, ⟨bw2 HB GE344 GE346⟩⟩
           case round =>
            clear H'
            try clear c1
            try clear c2
            try clear p2
            try clear c3
            try clear p3
            try clear q3
            try clear hx3
            try clear p6
            try clear c7
            try clear c7b0
            try clear c8
            try clear c8b0
            try clear c12
            try clear c14
            try clear c16
            try clear c21
            try clear c23
            try clear c24
            try clear c25
            try clear c26
            try clear c28
            try clear c30
            try clear c31
            try clear c31b0
            try clear c31b1
            try clear c32
            try clear hcz10_0 hcz10_1 hcz10_2 hcz10_3 hcz10_4 hcz10_5 hcz10_6 hcz10_7 hcz10_8
            try clear hcz13_0 hcz13_1 hcz13_2 hcz13_3
            try clear hcz17_0 hcz17_1 hcz17_2 hcz17_3 hcz17_4 hcz17_5 hcz17_6 hcz17_7 hcz17_8
            try clear hcz18_0 hcz18_1 hcz18_2 hcz18_3
            try clear hcz25_0 hcz25_1 hcz25_2 hcz25_3
            try clear hcz27_0 hcz27_1 hcz27_2 hcz27_3
            try clear hcz29_0 hcz29_1 hcz29_2 hcz29_3
            try clear hcz33_0 hcz33_1 hcz33_2 hcz33_3 hcz33_4 hcz33_5 hcz33_6 hcz33_7 hcz33_8
            try clear hfz10_0 hfz10_1 hfz10_2 hfz10_3 hfz10_4 hfz10_5 hfz10_6 hfz10_7 hfz10_8
            try clear hfz13_0 hfz13_1 hfz13_2 hfz13_3
            try clear hfz17_0 hfz17_1 hfz17_2 hfz17_3 hfz17_4 hfz17_5 hfz17_6 hfz17_7 hfz17_8
            try clear hfz18_0 hfz18_1 hfz18_2 hfz18_3
            try clear hfz25_0 hfz25_1 hfz25_2 hfz25_3
            try clear hfz27_0 hfz27_1 hfz27_2 hfz27_3
            try clear hfz29_0 hfz29_1 hfz29_2 hfz29_3
            try clear hfz33_0 hfz33_1 hfz33_2 hfz33_3 hfz33_4 hfz33_5 hfz33_6 hfz33_7 hfz33_8
            try clear hx345_0
            try clear hx345_1
            try clear hx345_2
            try clear hx345_3
            try clear p2
            try clear p3
            try clear p345
            try clear q3
            try clear q345
            obtain ⟨x14_4, rfl, HA, HK4, BK344, BK346, HB⟩ := hrel
            cases gk with
            | zero => exact absurd HA.out (by simp [tocsinref15_free.l1])
            | succ k4 =>
             have H := HA.out
             clear HA
             simp only [tocsinref15_free.l1] at H
             by_cases c34 : a0_1 = 0
             ·rw [if_pos c34] at H
              exact absurd H (by simp)
             ·rw [if_neg c34] at H
              have c34b0 : (a0_1 == 0) = false := beq_eq_false_iff_ne.mpr c34
              have c34b1 : (a0_1 != 0) = true := bne_iff_ne.mpr c34
              by_cases c35 : x14_4 ≤ (wrap64 ((wrap64 (Int.tdiv a3 a0_1)) + 2))
              ·rw [if_pos c35] at H
               have c35b0 : decide (x14_4 ≤ (wrap64 ((wrap64 (Int.tdiv a3 a0_1)) + 2))) = true := decide_eq_true c35
               clear c35
               replace H := Option.bind_eq_some_iff.mp H
               obtain ⟨t353, A360, H⟩ := H
               replace H : (if (wrap64 ((wrap64 (x14_4 * a0_1)) + x13_8)) < (wrap64 (a3 + a4)) then (if (wrap64 ((wrap64 ((wrap64 (x14_4 * a0_1)) + x13_8)) + t353)) > a3 then (some false) else (tocsinref15_free.l1 k4 a1 a2 a3 a4 x11_1 x13_8 (wrap64 (x14_4 + 1)) a0_0 a0_1 a0_2 a0_3 a0_4 l0_5 l0_6 l0_7 a0_8 ((rd_T40 l0_6 x11_1).f0) ((rd_T40 l0_6 x11_1).f1) ((rd_T40 l0_6 x11_1).f2) ((rd_T40 l0_6 x11_1).f3))) else (tocsinref15_free.l1 k4 a1 a2 a3 a4 x11_1 x13_8 (wrap64 (x14_4 + 1)) a0_0 a0_1 a0_2 a0_3 a0_4 l0_5 l0_6 l0_7 a0_8 ((rd_T40 l0_6 x11_1).f0) ((rd_T40 l0_6 x11_1).f1) ((rd_T40 l0_6 x11_1).f2) ((rd_T40 l0_6 x11_1).f3))) = some r := H
               have A36 := Aside0.mk A360
               clear A360
               by_cases c37 : (wrap64 ((wrap64 (x14_4 * a0_1)) + x13_8)) < (wrap64 (a3 + a4))
               ·rw [if_pos c37] at H
                have c37b0 : decide ((wrap64 ((wrap64 (x14_4 * a0_1)) + x13_8)) < (wrap64 (a3 + a4))) = true := decide_eq_true c37
                clear c37
                by_cases c38 : (wrap64 ((wrap64 ((wrap64 (x14_4 * a0_1)) + x13_8)) + t353)) > a3
                ·rw [if_pos c38] at H
                 have c38b0 : decide (a3 < (wrap64 ((wrap64 ((wrap64 (x14_4 * a0_1)) + x13_8)) + t353))) = true := decide_eq_true c38
                 clear c38
                 obtain rfl := Option.some.inj H
                 have hnb39 := NB344_346.out
                 have hnc39 := NB346_344.out
                 obtain ⟨hcz40_0, hcz40_1, hcz40_2, hcz40_3, hcz40_4, hcz40_5, hcz40_6, hcz40_7, hcz40_8, hfz40_0, hfz40_1, hfz40_2, hfz40_3, hfz40_4, hfz40_5, hfz40_6, hfz40_7, hfz40_8⟩ := bz9 BK344
                 obtain ⟨hcz41_0, hcz41_1, hcz41_2, hcz41_3, hfz41_0, hfz41_1, hfz41_2, hfz41_3⟩ := bz4 BK346
                 go_wp2_with (first | ((with_reducible refine gate_callee (f := 39) rfl ?_); refine gol (some 77) Try.func39 #[.int .i64 ((rd_T40 l0_6 x11_1).f3)] ?_; (with_reducible refine (tocsinref06_Time.calls ((rd_T40 l0_6 x11_1).f3) t353 _ A36.out).mono ?_); rintro e w' ⟨rfl, ⟨nd, rfl⟩⟩; refine ⟨_, rfl, ?_⟩))
                 all_goals try (exfalso; (try have z0_ := of_decide_eq_true c7b0); omega)
                 go_ret
                 exact ⟨re, bw2 HB GE344 GE346⟩
                ·rw [if_neg c38] at H
                 have c38b0 : decide (a3 < (wrap64 ((wrap64 ((wrap64 (x14_4 * a0_1)) + x13_8)) + t353))) = false := decide_eq_false c38
                 clear c38
                 have H' := Aside0.mk H
                 clear H
                 have hnb42 := NB344_346.out
                 have hnc42 := NB346_344.out
                 obtain ⟨hcz43_0, hcz43_1, hcz43_2, hcz43_3, hcz43_4, hcz43_5, hcz43_6, hcz43_7, hcz43_8, hfz43_0, hfz43_1, hfz43_2, hfz43_3, hfz43_4, hfz43_5, hfz43_6, hfz43_7, hfz43_8⟩ := bz9 BK344
                 obtain ⟨hcz44_0, hcz44_1, hcz44_2, hcz44_3, hfz44_0, hfz44_1, hfz44_2, hfz44_3⟩ := bz4 BK346
                 go_wp2_with (first | ((with_reducible refine gate_callee (f := 39) rfl ?_); refine gol (some 77) Try.func39 #[.int .i64 ((rd_T40 l0_6 x11_1).f3)] ?_; (with_reducible refine (tocsinref06_Time.calls ((rd_T40 l0_6 x11_1).f3) t353 _ A36.out).mono ?_); rintro e w' ⟨rfl, ⟨nd, rfl⟩⟩; refine ⟨_, rfl, ?_⟩))
                 all_goals try (exfalso; (try have z0_ := of_decide_eq_true c7b0); omega)
                 go_roundg k4
                 case measure => have := HK1.out; have := HJ8.out; have := HJ19.out; have := HK4.out; omega
                 case rel => exact ⟨(wrap64 (x14_4 + 1)), rs, H', ⟨by have := HK1.out; have := HJ8.out; have := HJ19.out; have := HK4.out; omega⟩, ⟨bk BK344⟩, ⟨bk BK346⟩, ⟨bw2 HB GE344 GE346⟩⟩
               ·rw [if_neg c37] at H
                have c37b0 : decide ((wrap64 ((wrap64 (x14_4 * a0_1)) + x13_8)) < (wrap64 (a3 + a4))) = false := decide_eq_false c37
                clear c37
                have H' := Aside0.mk H
                clear H
                have hnb45 := NB344_346.out
                have hnc45 := NB346_344.out
                obtain ⟨hcz46_0, hcz46_1, hcz46_2, hcz46_3, hcz46_4, hcz46_5, hcz46_6, hcz46_7, hcz46_8, hfz46_0, hfz46_1, hfz46_2, hfz46_3, hfz46_4, hfz46_5, hfz46_6, hfz46_7, hfz46_8⟩ := bz9 BK344
                obtain ⟨hcz47_0, hcz47_1, hcz47_2, hcz47_3, hfz47_0, hfz47_1, hfz47_2, hfz47_3⟩ := bz4 BK346
                go_wp2_with (first | ((with_reducible refine gate_callee (f := 39) rfl ?_); refine gol (some 77) Try.func39 #[.int .i64 ((rd_T40 l0_6 x11_1).f3)] ?_; (with_reducible refine (tocsinref06_Time.calls ((rd_T40 l0_6 x11_1).f3) t353 _ A36.out).mono ?_); rintro e w' ⟨rfl, ⟨nd, rfl⟩⟩; refine ⟨_, rfl, ?_⟩))
                all_goals try (exfalso; (try have z0_ := of_decide_eq_true c7b0); omega)
                go_roundg k4
                case measure => have := HK1.out; have := HJ8.out; have := HJ19.out; have := HK4.out; omega
                case rel => exact ⟨(wrap64 (x14_4 + 1)), rs, H', ⟨by have := HK1.out; have := HJ8.out; have := HJ19.out; have := HK4.out; omega⟩, ⟨bk BK344⟩, ⟨bk BK346⟩, ⟨bw2 HB GE344 GE346⟩⟩
              ·rw [if_neg c35] at H
               have c35b0 : decide (x14_4 ≤ (wrap64 ((wrap64 (Int.tdiv a3 a0_1)) + 2))) = false := decide_eq_false c35
               clear c35
               have H' := Aside0.mk H
               clear H
               have hnb48 := NB344_346.out
               have hnc48 := NB346_344.out
               obtain ⟨hcz49_0, hcz49_1, hcz49_2, hcz49_3, hcz49_4, hcz49_5, hcz49_6, hcz49_7, hcz49_8, hfz49_0, hfz49_1, hfz49_2, hfz49_3, hfz49_4, hfz49_5, hfz49_6, hfz49_7, hfz49_8⟩ := bz9 BK344
               go_wp2
               all_goals try (exfalso; (try have z0_ := of_decide_eq_true c7b0); omega)
               go_roundg k4
               case measure => have := HK1.out; have := HJ8.out; have := HJ19.out; have := HK4.out; omega
               case rel => exact ⟨(wrap64 (x11_1 + 1)), rs, H', ⟨by have := HK1.out; have := HJ8.out; have := HJ19.out; have := HK4.out; omega⟩, ⟨bk BK344⟩, ⟨bw2 HB GE344 GE346⟩⟩
    ·rw [if_neg c8] at H
     exact absurd H (by simp)
   ·rw [if_neg c7] at H
    have c7b0 : decide (x11_1 < (l0_6.length : Int)) = false := decide_eq_false c7
    clear c7
    obtain rfl := Option.some.inj H
    obtain ⟨hcz50_0, hcz50_1, hcz50_2, hcz50_3, hcz50_4, hcz50_5, hcz50_6, hcz50_7, hcz50_8, hfz50_0, hfz50_1, hfz50_2, hfz50_3, hfz50_4, hfz50_5, hfz50_6, hfz50_7, hfz50_8⟩ := bz9 BK344
    go_wp2
    all_goals try (exfalso; (try have z0_ := of_decide_eq_true c7b0); (try have z1_ := of_decide_eq_false c7b0); omega)
    go_ret
    exact ⟨re, bw1 HB GE344⟩
end Go.Proofs.Ytbmldeikjfecfaa.T
