/- A part of the proof of the statement PlanLands: words, contracts of functions that it reaches, and what they compute. No condition. -/
import Derived.Test.YtbmldeikjfecfaaE01
import Derived.Test.YtbmldeikjfecfaaE04
import Derived.Test.YtbmldeikjfecfaaE10
import Derived.Test.YtbmldeikjfecfaaE11
import Derived.Test.YtbmldeikjfecfaaE12
import Derived.Test.YtbmldeikjfecfaaE14
set_option linter.unusedVariables false
set_option linter.unusedSimpArgs false
namespace Go.Proofs.Ytbmldeikjfecfaa.T
open Go.RowKit Go.Proofs.YtbmldeikjfecfaaW.PrintWords Go.Proofs.YtbmldeikjfecfaaW.PrintLast Go.Proofs.YtbmldeikjfecfaaW.PrintMore
attribute [local go_sem] max2_int min2_int max_two min_two max_three min_three max_four min_four
attribute [local go_sem] at34_0 at34_1 at34_2 at42_0 at42_1 at42_2 at42_3 at47_0 at47_1 at47_2 at47_3 at47_4
mutual
def tocsinref08_Check.j0 : Nat → Bool → Int → Int → Int → Int → Int → List (List Int) → List (S40) → List (S63) → Int → Option (Int)
 | 0, _, _, _, _, _, _, _, _, _, _ => none
 | k + 1, x13, x177000, x177001, x177002, x177003, x177004, x177005, x177006, x177007, x177008 => if x13 = true then (some 1) else (if x177001 < 1 then (tocsinref08_Check.j1 k true x177000 x177001 x177002 x177003 x177004 x177005 x177006 x177007 x177008) else (tocsinref08_Check.j1 k (decide (x177001 > 1073741824)) x177000 x177001 x177002 x177003 x177004 x177005 x177006 x177007 x177008))
def tocsinref08_Check.j1 : Nat → Bool → Int → Int → Int → Int → Int → List (List Int) → List (S40) → List (S63) → Int → Option (Int)
 | 0, _, _, _, _, _, _, _, _, _, _ => none
 | k + 1, x21, x177000, x177001, x177002, x177003, x177004, x177005, x177006, x177007, x177008 => if x21 = true then (some 2) else ((tocsinref08_Spans.f x177000 x177001 x177002 x177003 x177004 x177005 x177006 x177007 x177008).bind fun t177 => (if t177 = true then ((tocsinref08_rows.f k x177000 x177001 x177002 x177003 x177004 x177005 x177006 x177007 x177008).bind fun t178 => (if t178 = true then (tocsinref08_Check.l0 k 5 x177000 x177001 x177002 x177003 x177004 x177005 x177006 x177007 x177008) else (some 4))) else (some 3)))
def tocsinref08_Check.l0 : Nat → Int → Int → Int → Int → Int → Int → List (List Int) → List (S40) → List (S63) → Int → Option (Int)
 | 0, _, _, _, _, _, _, _, _, _, _ => none
 | k + 1, x3, x177000, x177001, x177002, x177003, x177004, x177005, x177006, x177007, x177008 => if x3 ≤ 8 then ((tocsinref08_entries.f k x177000 x177001 x177002 x177003 x177004 x177005 x177006 x177007 x177008 x3).bind fun t179 => (if t179 = true then (some x3) else (tocsinref08_Check.l0 k (wrap64 (x3 + 1)) x177000 x177001 x177002 x177003 x177004 x177005 x177006 x177007 x177008))) else (if (x177007.length : Int) > 16 then (some 9) else (tocsinref08_Check.l1 k 0 x177000 x177001 x177002 x177003 x177004 x177005 x177006 x177007 x177008))
def tocsinref08_Check.l1 : Nat → Int → Int → Int → Int → Int → Int → List (List Int) → List (S40) → List (S63) → Int → Option (Int)
 | 0, _, _, _, _, _, _, _, _, _, _ => none
 | k + 1, x4, x177000, x177001, x177002, x177003, x177004, x177005, x177006, x177007, x177008 => if x4 < (x177007.length : Int) then (if 0 ≤ x4 then ((tocsinref08_Route.f k x177000 ((rd_T63 x177007 x4).f0) ((rd_T63 x177007 x4).f1) ((rd_T63 x177007 x4).f3)).bind fun t182 => (if t182 = true then (if ((rd_T63 x177007 x4).f2) < 1 then (some 9) else (if ((rd_T63 x177007 x4).f2) > 1073741824 then (some 9) else (tocsinref08_Check.l1 k (wrap64 (x4 + 1)) x177000 x177001 x177002 x177003 x177004 x177005 x177006 x177007 x177008))) else (some 9))) else (none)) else (if x177008 < 1 then (some 10) else (if x177008 > 64 then (some 10) else (some 0)))
end
def tocsinref08_Check.f (k : Nat) (a0_0 : Int) (a0_1 : Int) (a0_2 : Int) (a0_3 : Int) (a0_4 : Int) (l0_5 : List (List Int)) (l0_6 : List (S40)) (l0_7 : List (S63)) (a0_8 : Int) : Option (Int) := if a0_0 < 1 then (tocsinref08_Check.j0 k true a0_0 a0_1 a0_2 a0_3 a0_4 l0_5 l0_6 l0_7 a0_8) else (tocsinref08_Check.j0 k (decide (a0_0 > 6)) a0_0 a0_1 a0_2 a0_3 a0_4 l0_5 l0_6 l0_7 a0_8)
theorem tocsinref08_Check.mono_l : ∀ k, (∀ y0 y1 y2 y3 y4 y5 y6 y7 y8 y9, LeO (tocsinref08_Check.j0 k y0 y1 y2 y3 y4 y5 y6 y7 y8 y9) (tocsinref08_Check.j0 (k + 1) y0 y1 y2 y3 y4 y5 y6 y7 y8 y9)) ∧ (∀ y0 y1 y2 y3 y4 y5 y6 y7 y8 y9, LeO (tocsinref08_Check.j1 k y0 y1 y2 y3 y4 y5 y6 y7 y8 y9) (tocsinref08_Check.j1 (k + 1) y0 y1 y2 y3 y4 y5 y6 y7 y8 y9)) ∧ (∀ y0 y1 y2 y3 y4 y5 y6 y7 y8 y9, LeO (tocsinref08_Check.l0 k y0 y1 y2 y3 y4 y5 y6 y7 y8 y9) (tocsinref08_Check.l0 (k + 1) y0 y1 y2 y3 y4 y5 y6 y7 y8 y9)) ∧ (∀ y0 y1 y2 y3 y4 y5 y6 y7 y8 y9, LeO (tocsinref08_Check.l1 k y0 y1 y2 y3 y4 y5 y6 y7 y8 y9) (tocsinref08_Check.l1 (k + 1) y0 y1 y2 y3 y4 y5 y6 y7 y8 y9))
 | 0 => ⟨fun _ _ _ _ _ _ _ _ _ _ r h => by simp [tocsinref08_Check.j0] at h, fun _ _ _ _ _ _ _ _ _ _ r h => by simp [tocsinref08_Check.j1] at h, fun _ _ _ _ _ _ _ _ _ _ r h => by simp [tocsinref08_Check.l0] at h, fun _ _ _ _ _ _ _ _ _ _ r h => by simp [tocsinref08_Check.l1] at h⟩
 | k + 1 => by
  obtain ⟨ih0, ih1, ih2, ih3⟩ := tocsinref08_Check.mono_l k
  refine ⟨?_, ?_, ?_, ?_⟩
  ·intro y0 y1 y2 y3 y4 y5 y6 y7 y8 y9
   unfold tocsinref08_Check.j0
   repeat' first
   | (with_reducible exact ih0 _ _ _ _ _ _ _ _ _ _)
   | (with_reducible exact ih1 _ _ _ _ _ _ _ _ _ _)
   | (with_reducible exact ih2 _ _ _ _ _ _ _ _ _ _)
   | (with_reducible exact ih3 _ _ _ _ _ _ _ _ _ _)
   | (with_reducible exact tocsinref08_Route.mono _ _ _ _ _)
   | (with_reducible exact tocsinref08_entries.mono _ _ _ _ _ _ _ _ _ _ _)
   | (with_reducible exact tocsinref08_rows.mono _ _ _ _ _ _ _ _ _ _)
   | (with_reducible exact LeO.refl _)
   | (with_reducible exact LeO.none _)
   | (with_reducible refine LeO.ite ?_ ?_)
   | (with_reducible refine LeO.bind ?_ (fun _ => ?_))
   | exact ih0 _ _ _ _ _ _ _ _ _ _
   | exact ih1 _ _ _ _ _ _ _ _ _ _
   | exact ih2 _ _ _ _ _ _ _ _ _ _
   | exact ih3 _ _ _ _ _ _ _ _ _ _
   | exact tocsinref08_Route.mono _ _ _ _ _
   | exact tocsinref08_entries.mono _ _ _ _ _ _ _ _ _ _ _
   | exact tocsinref08_rows.mono _ _ _ _ _ _ _ _ _ _
   | exact LeO.none _
   | refine LeO.ite ?_ ?_
   | refine LeO.bind ?_ (fun _ => ?_)
  ·intro y0 y1 y2 y3 y4 y5 y6 y7 y8 y9
   unfold tocsinref08_Check.j1
   repeat' first
   | (with_reducible exact ih0 _ _ _ _ _ _ _ _ _ _)
   | (with_reducible exact ih1 _ _ _ _ _ _ _ _ _ _)
   | (with_reducible exact ih2 _ _ _ _ _ _ _ _ _ _)
   | (with_reducible exact ih3 _ _ _ _ _ _ _ _ _ _)
   | (with_reducible exact tocsinref08_Route.mono _ _ _ _ _)
   | (with_reducible exact tocsinref08_entries.mono _ _ _ _ _ _ _ _ _ _ _)
   | (with_reducible exact tocsinref08_rows.mono _ _ _ _ _ _ _ _ _ _)
   | (with_reducible exact LeO.refl _)
   | (with_reducible exact LeO.none _)
   | (with_reducible refine LeO.ite ?_ ?_)
   | (with_reducible refine LeO.bind ?_ (fun _ => ?_))
   | exact ih0 _ _ _ _ _ _ _ _ _ _
   | exact ih1 _ _ _ _ _ _ _ _ _ _
   | exact ih2 _ _ _ _ _ _ _ _ _ _
   | exact ih3 _ _ _ _ _ _ _ _ _ _
   | exact tocsinref08_Route.mono _ _ _ _ _
   | exact tocsinref08_entries.mono _ _ _ _ _ _ _ _ _ _ _
   | exact tocsinref08_rows.mono _ _ _ _ _ _ _ _ _ _
   | exact LeO.none _
   | refine LeO.ite ?_ ?_
   | refine LeO.bind ?_ (fun _ => ?_)
  ·intro y0 y1 y2 y3 y4 y5 y6 y7 y8 y9
   unfold tocsinref08_Check.l0
   repeat' first
   | (with_reducible exact ih0 _ _ _ _ _ _ _ _ _ _)
   | (with_reducible exact ih1 _ _ _ _ _ _ _ _ _ _)
   | (with_reducible exact ih2 _ _ _ _ _ _ _ _ _ _)
   | (with_reducible exact ih3 _ _ _ _ _ _ _ _ _ _)
   | (with_reducible exact tocsinref08_Route.mono _ _ _ _ _)
   | (with_reducible exact tocsinref08_entries.mono _ _ _ _ _ _ _ _ _ _ _)
   | (with_reducible exact tocsinref08_rows.mono _ _ _ _ _ _ _ _ _ _)
   | (with_reducible exact LeO.refl _)
   | (with_reducible exact LeO.none _)
   | (with_reducible refine LeO.ite ?_ ?_)
   | (with_reducible refine LeO.bind ?_ (fun _ => ?_))
   | exact ih0 _ _ _ _ _ _ _ _ _ _
   | exact ih1 _ _ _ _ _ _ _ _ _ _
   | exact ih2 _ _ _ _ _ _ _ _ _ _
   | exact ih3 _ _ _ _ _ _ _ _ _ _
   | exact tocsinref08_Route.mono _ _ _ _ _
   | exact tocsinref08_entries.mono _ _ _ _ _ _ _ _ _ _ _
   | exact tocsinref08_rows.mono _ _ _ _ _ _ _ _ _ _
   | exact LeO.none _
   | refine LeO.ite ?_ ?_
   | refine LeO.bind ?_ (fun _ => ?_)
  ·intro y0 y1 y2 y3 y4 y5 y6 y7 y8 y9
   unfold tocsinref08_Check.l1
   repeat' first
   | (with_reducible exact ih0 _ _ _ _ _ _ _ _ _ _)
   | (with_reducible exact ih1 _ _ _ _ _ _ _ _ _ _)
   | (with_reducible exact ih2 _ _ _ _ _ _ _ _ _ _)
   | (with_reducible exact ih3 _ _ _ _ _ _ _ _ _ _)
   | (with_reducible exact tocsinref08_Route.mono _ _ _ _ _)
   | (with_reducible exact tocsinref08_entries.mono _ _ _ _ _ _ _ _ _ _ _)
   | (with_reducible exact tocsinref08_rows.mono _ _ _ _ _ _ _ _ _ _)
   | (with_reducible exact LeO.refl _)
   | (with_reducible exact LeO.none _)
   | (with_reducible refine LeO.ite ?_ ?_)
   | (with_reducible refine LeO.bind ?_ (fun _ => ?_))
   | exact ih0 _ _ _ _ _ _ _ _ _ _
   | exact ih1 _ _ _ _ _ _ _ _ _ _
   | exact ih2 _ _ _ _ _ _ _ _ _ _
   | exact ih3 _ _ _ _ _ _ _ _ _ _
   | exact tocsinref08_Route.mono _ _ _ _ _
   | exact tocsinref08_entries.mono _ _ _ _ _ _ _ _ _ _ _
   | exact tocsinref08_rows.mono _ _ _ _ _ _ _ _ _ _
   | exact LeO.none _
   | refine LeO.ite ?_ ?_
   | refine LeO.bind ?_ (fun _ => ?_)
theorem tocsinref08_Check.mono : ∀ a0 a1 a2 a3 a4 a5 a6 a7 a8 k, LeO (tocsinref08_Check.f k a0 a1 a2 a3 a4 a5 a6 a7 a8) (tocsinref08_Check.f (k + 1) a0 a1 a2 a3 a4 a5 a6 a7 a8) := by
 intro a0 a1 a2 a3 a4 a5 a6 a7 a8 k
 obtain ⟨ih0, ih1, ih2, ih3⟩ := tocsinref08_Check.mono_l k
 unfold tocsinref08_Check.f
 repeat' first
   | (with_reducible exact ih0 _ _ _ _ _ _ _ _ _ _)
   | (with_reducible exact ih1 _ _ _ _ _ _ _ _ _ _)
   | (with_reducible exact ih2 _ _ _ _ _ _ _ _ _ _)
   | (with_reducible exact ih3 _ _ _ _ _ _ _ _ _ _)
   | (with_reducible exact tocsinref08_Route.mono _ _ _ _ _)
   | (with_reducible exact tocsinref08_entries.mono _ _ _ _ _ _ _ _ _ _ _)
   | (with_reducible exact tocsinref08_rows.mono _ _ _ _ _ _ _ _ _ _)
   | (with_reducible exact LeO.refl _)
   | (with_reducible exact LeO.none _)
   | (with_reducible refine LeO.ite ?_ ?_)
   | (with_reducible refine LeO.bind ?_ (fun _ => ?_))
   | exact ih0 _ _ _ _ _ _ _ _ _ _
   | exact ih1 _ _ _ _ _ _ _ _ _ _
   | exact ih2 _ _ _ _ _ _ _ _ _ _
   | exact ih3 _ _ _ _ _ _ _ _ _ _
   | exact tocsinref08_Route.mono _ _ _ _ _
   | exact tocsinref08_entries.mono _ _ _ _ _ _ _ _ _ _ _
   | exact tocsinref08_rows.mono _ _ _ _ _ _ _ _ _ _
   | exact LeO.none _
   | refine LeO.ite ?_ ?_
   | refine LeO.bind ?_ (fun _ => ?_)
set_option maxHeartbeats 8000000 in
set_option maxRecDepth 100000 in
theorem tocsinref08_Check.calls (k : Nat) (a0_0 : Int) (a0_1 : Int) (a0_2 : Int) (a0_3 : Int) (a0_4 : Int) (A0_5 : Option Addr) (c0_5 : Nat) (l0_5 : List (List Int)) (A0_6 : Option Addr) (c0_6 : Nat) (l0_6 : List (S40)) (A0_7 : Option Addr) (c0_7 : Nat) (l0_7 : List (S63)) (a0_8 : Int) (r : Int) (w : World) (hr0_5 : Kd.C (Kd.slice 2 (Kd.int .i64)) w A0_5 l0_5.length l0_5) (hc0_5 : l0_5.length ≤ c0_5) (hr0_6 : Kd.C k40 w A0_6 l0_6.length l0_6) (hc0_6 : l0_6.length ≤ c0_6) (hr0_7 : Kd.C k63 w A0_7 l0_7.length l0_7) (hc0_7 : l0_7.length ≤ c0_7) (h : tocsinref08_Check.f k a0_0 a0_1 a0_2 a0_3 a0_4 l0_5 l0_6 l0_7 a0_8 = some r) :
  Calls Try.prog 22 #[.agg #[.int .i64 a0_0, .int .i64 a0_1, .int .i64 a0_2, .int .i64 a0_3, .int .i64 a0_4, .slice A0_5 l0_5.length c0_5, .slice A0_6 l0_6.length c0_6, .slice A0_7 l0_7.length c0_7, .int .i64 a0_8]] w fun e w' => e = .returned (.int .i64 r) ∧ Below w.heap.size w w' := by
 have hu26 := Try.underlying26
 have hu63 := Try.underlying63
 have HR0_5 := Aside0.mk hr0_5
 have HC0_5 := Aside0.mk hc0_5
 clear hr0_5 hc0_5
 have HR0_6 := Aside0.mk hr0_6
 have HC0_6 := Aside0.mk hc0_6
 clear hr0_6 hc0_6
 have HR0_7 := Aside0.mk hr0_7
 have HC0_7 := Aside0.mk hc0_7
 clear hr0_7 hc0_7
 have HB := Aside0.mk (Below.refl w.heap.size w)
 have H : (if a0_0 < 1 then (tocsinref08_Check.j0 k true a0_0 a0_1 a0_2 a0_3 a0_4 l0_5 l0_6 l0_7 a0_8) else (tocsinref08_Check.j0 k (decide (a0_0 > 6)) a0_0 a0_1 a0_2 a0_3 a0_4 l0_5 l0_6 l0_7 a0_8)) = some r := h
 clear h
 have HC2 := Aside0.mk H
 clear H
 go_enter Try.func22, Try.ntmps22
 go_upto_region 1 with (first | ((with_reducible refine gate_dst (N := 1) rfl ?_); refine boxe (N := 1) (cs := #[.int .i64 a0_0, .int .i64 a0_1, .int .i64 a0_2, .int .i64 a0_3, .int .i64 a0_4, .slice A0_5 l0_5.length c0_5, .slice A0_6 l0_6.length c0_6, .slice A0_7 l0_7.length c0_7, .int .i64 a0_8]) (t := 26) ?_; intro gb176 hg w3 hbox hb; have BK176 := Aside0.mk (hbox); have GW176 := bg0 hg HB; have GE176 := GW176; replace HB := bs0 HB hb; clear hb hbox hg))
 (try simp only [Act.put, sT, sZ, sS])
 go_cut [13] (fun v13 wc => ∃ (kq : Nat) (x13_1 : Bool), v13 = .bool x13_1 ∧ Aside0 (tocsinref08_Check.j0 kq x13_1 a0_0 a0_1 a0_2 a0_3 a0_4 l0_5 l0_6 l0_7 a0_8 = some r) ∧ Aside0 (kq ≤ k) ∧ Aside0 (wc.heap[gb176]? = some (.cells #[.int .i64 a0_0, .int .i64 a0_1, .int .i64 a0_2, .int .i64 a0_3, .int .i64 a0_4, (.slice A0_5 l0_5.length c0_5), (.slice A0_6 l0_6.length c0_6), (.slice A0_7 l0_7.length c0_7), .int .i64 a0_8] 26 (0, 0))) ∧ Aside0 (Below w.heap.size w wc))
 case first =>
  have H := HC2.out
  clear HC2
  by_cases c4 : a0_0 < 1
  ·rw [if_pos c4] at H
   have c4b0 : decide (a0_0 < 1) = true := decide_eq_true c4
   clear c4
   (first | rw [c4b0] | (simp only [i64_w, i32_w]; rw [c4b0]) | skip)
   have H' := Aside0.mk H
   clear H
   obtain ⟨hcz5_0, hcz5_1, hcz5_2, hcz5_3, hcz5_4, hcz5_5, hcz5_6, hcz5_7, hcz5_8, hfz5_0, hfz5_1, hfz5_2, hfz5_3, hfz5_4, hfz5_5, hfz5_6, hfz5_7, hfz5_8⟩ := bz9 BK176
   go_wp2
   go_meet
   case rel => exact ⟨_, (true), rs, H', ⟨by first | omega | exact Nat.le_refl _⟩, ⟨bk BK176⟩, ⟨bw1 HB GE176⟩⟩
  ·rw [if_neg c4] at H
   have c4b0 : decide (a0_0 < 1) = false := decide_eq_false c4
   clear c4
   (first | rw [c4b0] | (simp only [i64_w, i32_w]; rw [c4b0]) | skip)
   have H' := Aside0.mk H
   clear H
   obtain ⟨hcz6_0, hcz6_1, hcz6_2, hcz6_3, hcz6_4, hcz6_5, hcz6_6, hcz6_7, hcz6_8, hfz6_0, hfz6_1, hfz6_2, hfz6_3, hfz6_4, hfz6_5, hfz6_6, hfz6_7, hfz6_8⟩ := bz9 BK176
   go_wp2
   go_meet
   case rel => exact ⟨_, (decide (a0_0 > 6)), rs, H', ⟨by first | omega | exact Nat.le_refl _⟩, ⟨bk BK176⟩, ⟨bw1 HB GE176⟩⟩
 case rest =>
  clear HC2
  try clear c2
  try clear p2
  try clear c4
  try clear c4b0
  try clear hcz5_0 hcz5_1 hcz5_2 hcz5_3 hcz5_4 hcz5_5 hcz5_6 hcz5_7 hcz5_8
  try clear hcz6_0 hcz6_1 hcz6_2 hcz6_3 hcz6_4 hcz6_5 hcz6_6 hcz6_7 hcz6_8
  try clear hfz5_0 hfz5_1 hfz5_2 hfz5_3 hfz5_4 hfz5_5 hfz5_6 hfz5_7 hfz5_8
  try clear hfz6_0 hfz6_1 hfz6_2 hfz6_3 hfz6_4 hfz6_5 hfz6_6 hfz6_7 hfz6_8
  obtain ⟨kq, x13_1, rfl, HA, HJ1, BK176, HB⟩ := hcut
  cases kq with
  | zero => exact absurd HA.out (by simp [tocsinref08_Check.j0])
  | succ kj1 =>
   have H := HA.out
   clear HA
   simp only [tocsinref08_Check.j0] at H
   by_cases c7 : x13_1 = true
   ·subst c7
    have H1 : (some 1) = some r := by rw [if_pos rfl] at H; exact H
    clear H
    have H := H1
    clear H1
    obtain rfl := Option.some.inj H
    go_wp2
    go_ret
    exact ⟨re, bw1 HB GE176⟩
   ·replace c7 := Bool.eq_false_iff.mpr c7
    subst c7
    have H1 : (if a0_1 < 1 then (tocsinref08_Check.j1 kj1 true a0_0 a0_1 a0_2 a0_3 a0_4 l0_5 l0_6 l0_7 a0_8) else (tocsinref08_Check.j1 kj1 (decide (a0_1 > 1073741824)) a0_0 a0_1 a0_2 a0_3 a0_4 l0_5 l0_6 l0_7 a0_8)) = some r := by rw [if_neg (show ¬ (false = true) by decide)] at H; exact H
    clear H
    have H := H1
    clear H1
    have HC8 := Aside0.mk H
    clear H
    go_upto_region 3 with (fail)
    go_cut [21] (fun v21 wc => ∃ (kq : Nat) (x21_7 : Bool), v21 = .bool x21_7 ∧ Aside0 (tocsinref08_Check.j1 kq x21_7 a0_0 a0_1 a0_2 a0_3 a0_4 l0_5 l0_6 l0_7 a0_8 = some r) ∧ Aside0 (kq ≤ kj1) ∧ Aside0 (wc.heap[gb176]? = some (.cells #[.int .i64 a0_0, .int .i64 a0_1, .int .i64 a0_2, .int .i64 a0_3, .int .i64 a0_4, (.slice A0_5 l0_5.length c0_5), (.slice A0_6 l0_6.length c0_6), (.slice A0_7 l0_7.length c0_7), .int .i64 a0_8] 26 (0, 0))) ∧ Aside0 (Below w.heap.size w wc))
    case first =>
     have H := HC8.out
     clear HC8
     by_cases c9 : a0_1 < 1
     ·rw [if_pos c9] at H
      have c9b0 : decide (a0_1 < 1) = true := decide_eq_true c9
      clear c9
      (first | rw [c9b0] | (simp only [i64_w, i32_w]; rw [c9b0]) | skip)
      have H' := Aside0.mk H
      clear H
      obtain ⟨hcz10_0, hcz10_1, hcz10_2, hcz10_3, hcz10_4, hcz10_5, hcz10_6, hcz10_7, hcz10_8, hfz10_0, hfz10_1, hfz10_2, hfz10_3, hfz10_4, hfz10_5, hfz10_6, hfz10_7, hfz10_8⟩ := bz9 BK176
      go_wp2
      go_meet
      case rel => exact ⟨_, (true), rs, H', ⟨by have := HJ1.out; first | omega | exact Nat.le_refl _⟩, ⟨bk BK176⟩, ⟨bw1 HB GE176⟩⟩
     ·rw [if_neg c9] at H
      have c9b0 : decide (a0_1 < 1) = false := decide_eq_false c9
      clear c9
      (first | rw [c9b0] | (simp only [i64_w, i32_w]; rw [c9b0]) | skip)
      have H' := Aside0.mk H
      clear H
      obtain ⟨hcz11_0, hcz11_1, hcz11_2, hcz11_3, hcz11_4, hcz11_5, hcz11_6, hcz11_7, hcz11_8, hfz11_0, hfz11_1, hfz11_2, hfz11_3, hfz11_4, hfz11_5, hfz11_6, hfz11_7, hfz11_8⟩ := bz9 BK176
      go_wp2
      go_meet
      case rel => exact ⟨_, (decide (a0_1 > 1073741824)), rs, H', ⟨by have := HJ1.out; first | omega | exact Nat.le_refl _⟩, ⟨bk BK176⟩, ⟨bw1 HB GE176⟩⟩
    case rest =>
     clear HC8
     try clear c2
     try clear p2
     try clear c4
     try clear c4b0
     try clear c7
     try clear c9
     try clear c9b0
     try clear hcz10_0 hcz10_1 hcz10_2 hcz10_3 hcz10_4 hcz10_5 hcz10_6 hcz10_7 hcz10_8
     try clear hcz11_0 hcz11_1 hcz11_2 hcz11_3 hcz11_4 hcz11_5 hcz11_6 hcz11_7 hcz11_8
     try clear hcz5_0 hcz5_1 hcz5_2 hcz5_3 hcz5_4 hcz5_5 hcz5_6 hcz5_7 hcz5_8
     try clear hcz6_0 hcz6_1 hcz6_2 hcz6_3 hcz6_4 hcz6_5 hcz6_6 hcz6_7 hcz6_8
     try clear hfz10_0 hfz10_1 hfz10_2 hfz10_3 hfz10_4 hfz10_5 hfz10_6 hfz10_7 hfz10_8
     try clear hfz11_0 hfz11_1 hfz11_2 hfz11_3 hfz11_4 hfz11_5 hfz11_6 hfz11_7 hfz11_8
     try clear hfz5_0 hfz5_1 hfz5_2 hfz5_3 hfz5_4 hfz5_5 hfz5_6 hfz5_7 hfz5_8
     try clear hfz6_0 hfz6_1 hfz6_2 hfz6_3 hfz6_4 hfz6_5 hfz6_6 hfz6_7 hfz6_8
     try clear p2
     obtain ⟨kq, x21_7, rfl, HA, HJ7, BK176, HB⟩ := hcut
     cases kq with
     | zero => exact absurd HA.out (by simp [tocsinref08_Check.j1])
     | succ kj7 =>
      have H := HA.out
      clear HA
      simp only [tocsinref08_Check.j1] at H
      by_cases c12 : x21_7 = true
      ·subst c12
       have H1 : (some 2) = some r := by rw [if_pos rfl] at H; exact H
       clear H
       have H := H1
       clear H1
       obtain rfl := Option.some.inj H
       go_wp2
       go_ret
       exact ⟨re, bw1 HB GE176⟩
      ·replace c12 := Bool.eq_false_iff.mpr c12
       subst c12
       have H1 : ((tocsinref08_Spans.f a0_0 a0_1 a0_2 a0_3 a0_4 l0_5 l0_6 l0_7 a0_8).bind fun t177 => (if t177 = true then ((tocsinref08_rows.f kj7 a0_0 a0_1 a0_2 a0_3 a0_4 l0_5 l0_6 l0_7 a0_8).bind fun t178 => (if t178 = true then (tocsinref08_Check.l0 kj7 5 a0_0 a0_1 a0_2 a0_3 a0_4 l0_5 l0_6 l0_7 a0_8) else (some 4))) else (some 3))) = some r := by rw [if_neg (show ¬ (false = true) by decide)] at H; exact H
       clear H
       have H := H1
       clear H1
       replace H := Option.bind_eq_some_iff.mp H
       obtain ⟨t177, A130, H⟩ := H
       replace H : (if t177 = true then ((tocsinref08_rows.f kj7 a0_0 a0_1 a0_2 a0_3 a0_4 l0_5 l0_6 l0_7 a0_8).bind fun t178 => (if t178 = true then (tocsinref08_Check.l0 kj7 5 a0_0 a0_1 a0_2 a0_3 a0_4 l0_5 l0_6 l0_7 a0_8) else (some 4))) else (some 3)) = some r := H
       have A13 := Aside0.mk A130
       clear A130
       by_cases c14 : t177 = true
       ·subst c14
        have H1 : ((tocsinref08_rows.f kj7 a0_0 a0_1 a0_2 a0_3 a0_4 l0_5 l0_6 l0_7 a0_8).bind fun t178 => (if t178 = true then (tocsinref08_Check.l0 kj7 5 a0_0 a0_1 a0_2 a0_3 a0_4 l0_5 l0_6 l0_7 a0_8) else (some 4))) = some r := by rw [if_pos rfl] at H; exact H
        clear H
        have H := H1
        clear H1
        replace H := Option.bind_eq_some_iff.mp H
        obtain ⟨t178, A150, H⟩ := H
        replace H : (if t178 = true then (tocsinref08_Check.l0 kj7 5 a0_0 a0_1 a0_2 a0_3 a0_4 l0_5 l0_6 l0_7 a0_8) else (some 4)) = some r := H
        have A15 := Aside0.mk A150
        clear A150
        by_cases c16 : t178 = true
        ·subst c16
         have H1 : (tocsinref08_Check.l0 kj7 5 a0_0 a0_1 a0_2 a0_3 a0_4 l0_5 l0_6 l0_7 a0_8) = some r := by rw [if_pos rfl] at H; exact H
         clear H
         have H := H1
         clear H1
         have H' := Aside0.mk H
         clear H
         obtain ⟨hcz17_0, hcz17_1, hcz17_2, hcz17_3, hcz17_4, hcz17_5, hcz17_6, hcz17_7, hcz17_8, hfz17_0, hfz17_1, hfz17_2, hfz17_3, hfz17_4, hfz17_5, hfz17_6, hfz17_7, hfz17_8⟩ := bz9 BK176
         go_wp2_with (first | ((with_reducible refine gate_callee (f := 40) rfl ?_); refine gol (some 23) Try.func40 #[.agg #[.int .i64 a0_0, .int .i64 a0_1, .int .i64 a0_2, .int .i64 a0_3, .int .i64 a0_4, .slice A0_5 l0_5.length c0_5, .slice A0_6 l0_6.length c0_6, .slice A0_7 l0_7.length c0_7, .int .i64 a0_8]] ?_; (with_reducible refine (tocsinref08_Spans.calls a0_0 a0_1 a0_2 a0_3 a0_4 _ _ l0_5 _ _ l0_6 _ _ l0_7 a0_8 true _ ?side1 ?side2 ?side3 ?side4 ?side5 ?side6 A13.out).mono ?_); (case side1 => exact kC (Kd.C_below HR0_5.out HB.out)); (case side2 => exact HC0_5.out); (case side3 => exact kC (Kd.C_below HR0_6.out HB.out)); (case side4 => exact HC0_6.out); (case side5 => exact kC (Kd.C_below HR0_7.out HB.out)); (case side6 => exact HC0_7.out); rintro e w18 ⟨rfl, hb⟩; refine ⟨_, rfl, ?_⟩; replace BK176 := bb BK176 hb; replace HB := bs1 HB GE176 hb; (try clear hb); (try clear hb2); (try clear hk); (try clear hi); obtain ⟨hcz19_0, hcz19_1, hcz19_2, hcz19_3, hcz19_4, hcz19_5, hcz19_6, hcz19_7, hcz19_8, hfz19_0, hfz19_1, hfz19_2, hfz19_3, hfz19_4, hfz19_5, hfz19_6, hfz19_7, hfz19_8⟩ := bz9 BK176) | ((with_reducible refine gate_callee (f := 41) rfl ?_); refine gol (some 26) Try.func41 #[.agg #[.int .i64 a0_0, .int .i64 a0_1, .int .i64 a0_2, .int .i64 a0_3, .int .i64 a0_4, .slice A0_5 l0_5.length c0_5, .slice A0_6 l0_6.length c0_6, .slice A0_7 l0_7.length c0_7, .int .i64 a0_8]] ?_; (with_reducible refine (tocsinref08_rows.calls kj7 a0_0 a0_1 a0_2 a0_3 a0_4 _ _ l0_5 _ _ l0_6 _ _ l0_7 a0_8 true _ ?side1 ?side2 ?side3 ?side4 ?side5 ?side6 A15.out).mono ?_); (case side1 => exact kC (Kd.C_below HR0_5.out HB.out)); (case side2 => exact HC0_5.out); (case side3 => exact kC (Kd.C_below HR0_6.out HB.out)); (case side4 => exact HC0_6.out); (case side5 => exact kC (Kd.C_below HR0_7.out HB.out)); (case side6 => exact HC0_7.out); rintro e w20 ⟨rfl, hb⟩; refine ⟨_, rfl, ?_⟩; replace BK176 := bb BK176 hb; replace HB := bs1 HB GE176 hb; (try clear hb); (try clear hb2); (try clear hk); (try clear hi)))
         (try simp only [Act.put, sT, sZ, sS])
         go_loopg [3] kj7 (fun kq v3 w' => ∃ (x3_3 : Int), v3 = .int .i64 x3_3 ∧ Aside0 (tocsinref08_Check.l0 kq x3_3 a0_0 a0_1 a0_2 a0_3 a0_4 l0_5 l0_6 l0_7 a0_8 = some r) ∧ Aside0 (kq ≤ kj7) ∧ Aside0 (w'.heap[gb176]? = some (.cells #[.int .i64 a0_0, .int .i64 a0_1, .int .i64 a0_2, .int .i64 a0_3, .int .i64 a0_4, (.slice A0_5 l0_5.length c0_5), (.slice A0_6 l0_6.length c0_6), (.slice A0_7 l0_7.length c0_7), .int .i64 a0_8] 26 (0, 0))) ∧ Aside0 (Below w.heap.size w w'))
         case atStart => exact ⟨(5), rs, H', ⟨Nat.le_refl _⟩, ⟨bk BK176⟩, ⟨bw1 HB GE176⟩⟩
         case round =>
          clear H'
          try clear c1
          try clear c2
          try clear p2
          try clear c4
          try clear c4b0
          try clear c7
          try clear c9
          try clear c9b0
          try clear c12
          try clear c14
          try clear c16
          try clear hcz10_0 hcz10_1 hcz10_2 hcz10_3 hcz10_4 hcz10_5 hcz10_6 hcz10_7 hcz10_8
          try clear hcz11_0 hcz11_1 hcz11_2 hcz11_3 hcz11_4 hcz11_5 hcz11_6 hcz11_7 hcz11_8
          try clear hcz17_0 hcz17_1 hcz17_2 hcz17_3 hcz17_4 hcz17_5 hcz17_6 hcz17_7 hcz17_8
          try clear hcz19_0 hcz19_1 hcz19_2 hcz19_3 hcz19_4 hcz19_5 hcz19_6 hcz19_7 hcz19_8
          try clear hcz5_0 hcz5_1 hcz5_2 hcz5_3 hcz5_4 hcz5_5 hcz5_6 hcz5_7 hcz5_8
          try clear hcz6_0 hcz6_1 hcz6_2 hcz6_3 hcz6_4 hcz6_5 hcz6_6 hcz6_7 hcz6_8
          try clear hfz10_0 hfz10_1 hfz10_2 hfz10_3 hfz10_4 hfz10_5 hfz10_6 hfz10_7 hfz10_8
          try clear hfz11_0 hfz11_1 hfz11_2 hfz11_3 hfz11_4 hfz11_5 hfz11_6 hfz11_7 hfz11_8
          try clear hfz17_0 hfz17_1 hfz17_2 hfz17_3 hfz17_4 hfz17_5 hfz17_6 hfz17_7 hfz17_8
          try clear hfz19_0 hfz19_1 hfz19_2 hfz19_3 hfz19_4 hfz19_5 hfz19_6 hfz19_7 hfz19_8
          try clear hfz5_0 hfz5_1 hfz5_2 hfz5_3 hfz5_4 hfz5_5 hfz5_6 hfz5_7 hfz5_8
          try clear hfz6_0 hfz6_1 hfz6_2 hfz6_3 hfz6_4 hfz6_5 hfz6_6 hfz6_7 hfz6_8
          try clear p2
          obtain ⟨x3_3, rfl, HA, HK3, BK176, HB⟩ := hrel
          cases gk with
          | zero => exact absurd HA.out (by simp [tocsinref08_Check.l0])
          | succ k3 =>
           have H := HA.out
           clear HA
           simp only [tocsinref08_Check.l0] at H
           by_cases c21 : x3_3 ≤ 8
           ·rw [if_pos c21] at H
            have c21b0 : decide (x3_3 ≤ 8) = true := decide_eq_true c21
            clear c21
            replace H := Option.bind_eq_some_iff.mp H
            obtain ⟨t179, A220, H⟩ := H
            replace H : (if t179 = true then (some x3_3) else (tocsinref08_Check.l0 k3 (wrap64 (x3_3 + 1)) a0_0 a0_1 a0_2 a0_3 a0_4 l0_5 l0_6 l0_7 a0_8)) = some r := H
            have A22 := Aside0.mk A220
            clear A220
            by_cases c23 : t179 = true
            ·subst c23
             have H1 : (some x3_3) = some r := by rw [if_pos rfl] at H; exact H
             clear H
             have H := H1
             clear H1
             obtain rfl := Option.some.inj H
             obtain ⟨hcz24_0, hcz24_1, hcz24_2, hcz24_3, hcz24_4, hcz24_5, hcz24_6, hcz24_7, hcz24_8, hfz24_0, hfz24_1, hfz24_2, hfz24_3, hfz24_4, hfz24_5, hfz24_6, hfz24_7, hfz24_8⟩ := bz9 BK176
             go_wp2_with (first | ((with_reducible refine gate_callee (f := 42) rfl ?_); refine gol (some 34) Try.func42 #[.agg #[.int .i64 a0_0, .int .i64 a0_1, .int .i64 a0_2, .int .i64 a0_3, .int .i64 a0_4, .slice A0_5 l0_5.length c0_5, .slice A0_6 l0_6.length c0_6, .slice A0_7 l0_7.length c0_7, .int .i64 a0_8], .int .i64 x3_3] ?_; (with_reducible refine (tocsinref08_entries.calls k3 a0_0 a0_1 a0_2 a0_3 a0_4 _ _ l0_5 _ _ l0_6 _ _ l0_7 a0_8 x3_3 true _ ?side1 ?side2 ?side3 ?side4 ?side5 ?side6 A22.out).mono ?_); (case side1 => exact kC (Kd.C_below HR0_5.out HB.out)); (case side2 => exact HC0_5.out); (case side3 => exact kC (Kd.C_below HR0_6.out HB.out)); (case side4 => exact HC0_6.out); (case side5 => exact kC (Kd.C_below HR0_7.out HB.out)); (case side6 => exact HC0_7.out); rintro e w25 ⟨rfl, hb⟩; refine ⟨_, rfl, ?_⟩; replace BK176 := bb BK176 hb; replace HB := bs1 HB GE176 hb; (try clear hb); (try clear hb2); (try clear hk); (try clear hi)))
             go_ret
             exact ⟨re, bw1 HB GE176⟩
            ·replace c23 := Bool.eq_false_iff.mpr c23
             subst c23
             have H1 : (tocsinref08_Check.l0 k3 (wrap64 (x3_3 + 1)) a0_0 a0_1 a0_2 a0_3 a0_4 l0_5 l0_6 l0_7 a0_8) = some r := by rw [if_neg (show ¬ (false = true) by decide)] at H; exact H
             clear H
             have H := H1
             clear H1
             have H' := Aside0.mk H
             clear H
             obtain ⟨hcz26_0, hcz26_1, hcz26_2, hcz26_3, hcz26_4, hcz26_5, hcz26_6, hcz26_7, hcz26_8, hfz26_0, hfz26_1, hfz26_2, hfz26_3, hfz26_4, hfz26_5, hfz26_6, hfz26_7, hfz26_8⟩ := bz9 BK176
             go_wp2_with (first | ((with_reducible refine gate_callee (f := 42) rfl ?_); refine gol (some 34) Try.func42 #[.agg #[.int .i64 a0_0, .int .i64 a0_1, .int .i64 a0_2, .int .i64 a0_3, .int .i64 a0_4, .slice A0_5 l0_5.length c0_5, .slice A0_6 l0_6.length c0_6, .slice A0_7 l0_7.length c0_7, .int .i64 a0_8], .int .i64 x3_3] ?_; (with_reducible refine (tocsinref08_entries.calls k3 a0_0 a0_1 a0_2 a0_3 a0_4 _ _ l0_5 _ _ l0_6 _ _ l0_7 a0_8 x3_3 false _ ?side1 ?side2 ?side3 ?side4 ?side5 ?side6 A22.out).mono ?_); (case side1 => exact kC (Kd.C_below HR0_5.out HB.out)); (case side2 => exact HC0_5.out); (case side3 => exact kC (Kd.C_below HR0_6.out HB.out)); (case side4 => exact HC0_6.out); (case side5 => exact kC (Kd.C_below HR0_7.out HB.out)); (case side6 => exact HC0_7.out); rintro e w27 ⟨rfl, hb⟩; refine ⟨_, rfl, ?_⟩; replace BK176 := bb BK176 hb; replace HB := bs1 HB GE176 hb; (try clear hb); (try clear hb2); (try clear hk); (try clear hi)))
             go_roundg k3
             case measure => have := HJ1.out; have := HJ7.out; have := HK3.out; omega
             case rel => exact ⟨(wrap64 (x3_3 + 1)), rs, H', ⟨by have := HJ1.out; have := HJ7.out; have := HK3.out; omega⟩, ⟨bk BK176⟩, ⟨bw1 HB GE176⟩⟩
           ·rw [if_neg c21] at H
            have c21b0 : decide (x3_3 ≤ 8) = false := decide_eq_false c21
            clear c21
            by_cases c28 : (l0_7.length : Int) > 16
            ·rw [if_pos c28] at H
             have c28b0 : decide (16 < (l0_7.length : Int)) = true := decide_eq_true c28
             have c28b1 : decide (16 < l0_7.length) = true := decide_eq_true (by omega)
             clear c28
             obtain rfl := Option.some.inj H
             obtain ⟨hcz29_0, hcz29_1, hcz29_2, hcz29_3, hcz29_4, hcz29_5, hcz29_6, hcz29_7, hcz29_8, hfz29_0, hfz29_1, hfz29_2, hfz29_3, hfz29_4, hfz29_5, hfz29_6, hfz29_7, hfz29_8⟩ := bz9 BK176
             go_wp2
             all_goals try (exfalso; (try have z0_ := of_decide_eq_true c28b0); (try have z1_ := of_decide_eq_true c28b1); omega)
             go_ret
             exact ⟨re, bw1 HB GE176⟩
            ·rw [if_neg c28] at H
             have c28b0 : decide (16 < (l0_7.length : Int)) = false := decide_eq_false c28
             have c28b1 : decide (16 < l0_7.length) = false := decide_eq_false (by omega)
             clear c28
             have H' := Aside0.mk H
             clear H
             obtain ⟨hcz30_0, hcz30_1, hcz30_2, hcz30_3, hcz30_4, hcz30_5, hcz30_6, hcz30_7, hcz30_8, hfz30_0, hfz30_1, hfz30_2, hfz30_3, hfz30_4, hfz30_5, hfz30_6, hfz30_7, hfz30_8⟩ := bz9 BK176
             go_wp2
             (try simp only [Act.put, sT, sZ, sS])
             go_loopg [4] k3 (fun kq v4 w' => ∃ (x4_4 : Int), v4 = .int .i64 x4_4 ∧ Aside0 (tocsinref08_Check.l1 kq x4_4 a0_0 a0_1 a0_2 a0_3 a0_4 l0_5 l0_6 l0_7 a0_8 = some r) ∧ Aside0 (kq ≤ k3) ∧ Aside0 (w'.heap[gb176]? = some (.cells #[.int .i64 a0_0, .int .i64 a0_1, .int .i64 a0_2, .int .i64 a0_3, .int .i64 a0_4, (.slice A0_5 l0_5.length c0_5), (.slice A0_6 l0_6.length c0_6), (.slice A0_7 l0_7.length c0_7), .int .i64 a0_8] 26 (0, 0))) ∧ Aside0 (Below w.heap.size w w'))
             case atStart => exact ⟨(0), rs, H', ⟨Nat.le_refl _⟩, ⟨bk BK176⟩, ⟨bw1 HB GE176⟩⟩
             case round =>
              clear H'
              try clear c1
              try clear c2
              try clear p2
              try clear c4
              try clear c4b0
              try clear p6
              try clear c7
              try clear c9
              try clear c9b0
              try clear c12
              try clear c14
              try clear c16
              try clear c21
              try clear c21b0
              try clear c22
              try clear c23
              try clear c28
              try clear c28b0
              try clear c28b1
              try clear hcz10_0 hcz10_1 hcz10_2 hcz10_3 hcz10_4 hcz10_5 hcz10_6 hcz10_7 hcz10_8
              try clear hcz11_0 hcz11_1 hcz11_2 hcz11_3 hcz11_4 hcz11_5 hcz11_6 hcz11_7 hcz11_8
              try clear hcz17_0 hcz17_1 hcz17_2 hcz17_3 hcz17_4 hcz17_5 hcz17_6 hcz17_7 hcz17_8
              try clear hcz19_0 hcz19_1 hcz19_2 hcz19_3 hcz19_4 hcz19_5 hcz19_6 hcz19_7 hcz19_8
              try clear hcz24_0 hcz24_1 hcz24_2 hcz24_3 hcz24_4 hcz24_5 hcz24_6 hcz24_7 hcz24_8
              try clear hcz26_0 hcz26_1 hcz26_2 hcz26_3 hcz26_4 hcz26_5 hcz26_6 hcz26_7 hcz26_8
              try clear hcz29_0 hcz29_1 hcz29_2 hcz29_3 hcz29_4 hcz29_5 hcz29_6 hcz29_7 hcz29_8
              try clear hcz30_0 hcz30_1 hcz30_2 hcz30_3 hcz30_4 hcz30_5 hcz30_6 hcz30_7 hcz30_8
              try clear hcz5_0 hcz5_1 hcz5_2 hcz5_3 hcz5_4 hcz5_5 hcz5_6 hcz5_7 hcz5_8
              try clear hcz6_0 hcz6_1 hcz6_2 hcz6_3 hcz6_4 hcz6_5 hcz6_6 hcz6_7 hcz6_8
              try clear hfz10_0 hfz10_1 hfz10_2 hfz10_3 hfz10_4 hfz10_5 hfz10_6 hfz10_7 hfz10_8
              try clear hfz11_0 hfz11_1 hfz11_2 hfz11_3 hfz11_4 hfz11_5 hfz11_6 hfz11_7 hfz11_8
              try clear hfz17_0 hfz17_1 hfz17_2 hfz17_3 hfz17_4 hfz17_5 hfz17_6 hfz17_7 hfz17_8
              try clear hfz19_0 hfz19_1 hfz19_2 hfz19_3 hfz19_4 hfz19_5 hfz19_6 hfz19_7 hfz19_8
              try clear hfz24_0 hfz24_1 hfz24_2 hfz24_3 hfz24_4 hfz24_5 hfz24_6 hfz24_7 hfz24_8
              try clear hfz26_0 hfz26_1 hfz26_2 hfz26_3 hfz26_4 hfz26_5 hfz26_6 hfz26_7 hfz26_8
              try clear hfz29_0 hfz29_1 hfz29_2 hfz29_3 hfz29_4 hfz29_5 hfz29_6 hfz29_7 hfz29_8
              try clear hfz30_0 hfz30_1 hfz30_2 hfz30_3 hfz30_4 hfz30_5 hfz30_6 hfz30_7 hfz30_8
              try clear hfz5_0 hfz5_1 hfz5_2 hfz5_3 hfz5_4 hfz5_5 hfz5_6 hfz5_7 hfz5_8
              try clear hfz6_0 hfz6_1 hfz6_2 hfz6_3 hfz6_4 hfz6_5 hfz6_6 hfz6_7 hfz6_8
              try clear p2
              obtain ⟨x4_4, rfl, HA, HK4, BK176, HB⟩ := hrel
              cases gk with
              | zero => exact absurd HA.out (by simp [tocsinref08_Check.l1])
              | succ k4 =>
               have H := HA.out
               clear HA
               simp only [tocsinref08_Check.l1] at H
               by_cases c31 : x4_4 < (l0_7.length : Int)
               ·rw [if_pos c31] at H
                have c31b0 : decide (x4_4 < (l0_7.length : Int)) = true := decide_eq_true c31
                clear c31
                by_cases c32 : 0 ≤ x4_4
                ·rw [if_pos c32] at H
                 have c32b0 : decide (0 ≤ x4_4) = true := decide_eq_true c32
                 clear c32
                 replace H := Option.bind_eq_some_iff.mp H
                 obtain ⟨t182, A330, H⟩ := H
                 replace H : (if t182 = true then (if ((rd_T63 l0_7 x4_4).f2) < 1 then (some 9) else (if ((rd_T63 l0_7 x4_4).f2) > 1073741824 then (some 9) else (tocsinref08_Check.l1 k4 (wrap64 (x4_4 + 1)) a0_0 a0_1 a0_2 a0_3 a0_4 l0_5 l0_6 l0_7 a0_8))) else (some 9)) = some r := H
                 have A33 := Aside0.mk A330
                 clear A330
                 by_cases c34 : t182 = true
                 ·subst c34
                  have H1 : (if ((rd_T63 l0_7 x4_4).f2) < 1 then (some 9) else (if ((rd_T63 l0_7 x4_4).f2) > 1073741824 then (some 9) else (tocsinref08_Check.l1 k4 (wrap64 (x4_4 + 1)) a0_0 a0_1 a0_2 a0_3 a0_4 l0_5 l0_6 l0_7 a0_8))) = some r := by rw [if_pos rfl] at H; exact H
                  clear H
                  have H := H1
                  clear H1
                  by_cases c35 : ((rd_T63 l0_7 x4_4).f2) < 1
                  ·rw [if_pos c35] at H
                   have c35b0 : decide (((rd_T63 l0_7 x4_4).f2) < 1) = true := decide_eq_true c35
                   clear c35
                   obtain rfl := Option.some.inj H
                   obtain ⟨hcz36_0, hcz36_1, hcz36_2, hcz36_3, hcz36_4, hcz36_5, hcz36_6, hcz36_7, hcz36_8, hfz36_0, hfz36_1, hfz36_2, hfz36_3, hfz36_4, hfz36_5, hfz36_6, hfz36_7, hfz36_8⟩ := bz9 BK176
                   have p180 : 0 ≤ (x4_4 : Int) := of_decide_eq_true (by first | (with_reducible assumption) | assumption)
                   have q180 : x4_4 < (l0_7.length : Int) := of_decide_eq_true (by first | (with_reducible assumption) | assumption)
                   obtain ⟨ad180, e180, hx180_0, hx180_1, hx180_2, hx180_3⟩ := at_T63 HR0_7.out x4_4 p180 q180
                   cases e180
                   replace hx180_0 := pcb HB hx180_0
                   replace hx180_1 := pcb HB hx180_1
                   replace hx180_2 := pcb HB hx180_2
                   replace hx180_3 := pcb HB hx180_3
                   replace p180 := eq_true p180
                   replace q180 := eq_true q180
                   go_wp2_with (first | ((with_reducible refine gate_dst (N := 5) rfl ?_); refine boxe (N := 5) (cs := #[.int .i64 0, .int .u32 0, .int .i64 0, .int .i64 0]) (t := 63) ?_; intro gb181 hg w37 hbox hb; have BK181 := Aside0.mk (hbox); have GW181 := bg1 hg HB GE176; have GE181 := GW181; have NB176_181 := nl hg BK176; have NB181_176 := ng hg BK176; replace BK176 := bb BK176 hb; replace HB := bs1 HB GE176 hb; clear hb hbox hg; have hnb38 := NB181_176.out; have hnc38 := NB176_181.out; obtain ⟨hcz39_0, hcz39_1, hcz39_2, hcz39_3, hfz39_0, hfz39_1, hfz39_2, hfz39_3⟩ := bz4 BK181; obtain ⟨hcz40_0, hcz40_1, hcz40_2, hcz40_3, hcz40_4, hcz40_5, hcz40_6, hcz40_7, hcz40_8, hfz40_0, hfz40_1, hfz40_2, hfz40_3, hfz40_4, hfz40_5, hfz40_6, hfz40_7, hfz40_8⟩ := bz9 BK176) | ((with_reducible refine gate_callee (f := 43) rfl ?_); refine gol (some 60) Try.func43 #[.int .i64 a0_0, .int .i64 ((rd_T63 l0_7 x4_4).f0), .int .u32 ((rd_T63 l0_7 x4_4).f1), .int .i64 ((rd_T63 l0_7 x4_4).f3)] ?_; (with_reducible refine (tocsinref08_Route.calls k4 a0_0 ((rd_T63 l0_7 x4_4).f0) ((rd_T63 l0_7 x4_4).f1) ((rd_T63 l0_7 x4_4).f3) true _ A33.out).mono ?_); rintro e w' ⟨rfl, ⟨nd, rfl⟩⟩; refine ⟨_, rfl, ?_⟩))
                   all_goals try (exfalso; (try have z0_ := of_decide_eq_false c28b0); (try have z1_ := of_decide_eq_false c28b1); (try have z2_ := of_decide_eq_true c31b0); omega)
                   go_ret
                   exact ⟨re, bw2 HB GE176 GE181⟩
                  ·rw [if_neg c35] at H
                   have c35b0 : decide (((rd_T63 l0_7 x4_4).f2) < 1) = false := decide_eq_false c35
                   clear c35
                   by_cases c41 : ((rd_T63 l0_7 x4_4).f2) > 1073741824
                   ·rw [if_pos c41] at H
                    have c41b0 : decide (1073741824 < ((rd_T63 l0_7 x4_4).f2)) = true := decide_eq_true c41
                    clear c41
                    obtain rfl := Option.some.inj H
                    obtain ⟨hcz42_0, hcz42_1, hcz42_2, hcz42_3, hcz42_4, hcz42_5, hcz42_6, hcz42_7, hcz42_8, hfz42_0, hfz42_1, hfz42_2, hfz42_3, hfz42_4, hfz42_5, hfz42_6, hfz42_7, hfz42_8⟩ := bz9 BK176
                    have p180 : 0 ≤ (x4_4 : Int) := of_decide_eq_true (by first | (with_reducible assumption) | assumption)
                    have q180 : x4_4 < (l0_7.length : Int) := of_decide_eq_true (by first | (with_reducible assumption) | assumption)
                    obtain ⟨ad180, e180, hx180_0, hx180_1, hx180_2, hx180_3⟩ := at_T63 HR0_7.out x4_4 p180 q180
                    cases e180
                    replace hx180_0 := pcb HB hx180_0
                    replace hx180_1 := pcb HB hx180_1
                    replace hx180_2 := pcb HB hx180_2
                    replace hx180_3 := pcb HB hx180_3
                    replace p180 := eq_true p180
                    replace q180 := eq_true q180
                    go_wp2_with (first | ((with_reducible refine gate_dst (N := 5) rfl ?_); refine boxe (N := 5) (cs := #[.int .i64 0, .int .u32 0, .int .i64 0, .int .i64 0]) (t := 63) ?_; intro gb181 hg w43 hbox hb; have BK181 := Aside0.mk (hbox); have GW181 := bg1 hg HB GE176; have GE181 := GW181; have NB176_181 := nl hg BK176; have NB181_176 := ng hg BK176; replace BK176 := bb BK176 hb; replace HB := bs1 HB GE176 hb; clear hb hbox hg; have hnb44 := NB181_176.out; have hnc44 := NB176_181.out; obtain ⟨hcz45_0, hcz45_1, hcz45_2, hcz45_3, hfz45_0, hfz45_1, hfz45_2, hfz45_3⟩ := bz4 BK181; obtain ⟨hcz46_0, hcz46_1, hcz46_2, hcz46_3, hcz46_4, hcz46_5, hcz46_6, hcz46_7, hcz46_8, hfz46_0, hfz46_1, hfz46_2, hfz46_3, hfz46_4, hfz46_5, hfz46_6, hfz46_7, hfz46_8⟩ := bz9 BK176) | ((with_reducible refine gate_callee (f := 43) rfl ?_); refine gol (some 60) Try.func43 #[.int .i64 a0_0, .int .i64 ((rd_T63 l0_7 x4_4).f0), .int .u32 ((rd_T63 l0_7 x4_4).f1), .int .i64 ((rd_T63 l0_7 x4_4).f3)] ?_; (with_reducible refine (tocsinref08_Route.calls k4 a0_0 ((rd_T63 l0_7 x4_4).f0) ((rd_T63 l0_7 x4_4).f1) ((rd_T63 l0_7 x4_4).f3) true _ A33.out).mono ?_); rintro e w' ⟨rfl, ⟨nd, rfl⟩⟩; refine ⟨_, rfl, ?_⟩))
                    all_goals try (exfalso; (try have z0_ := of_decide_eq_false c28b0); (try have z1_ := of_decide_eq_false c28b1); (try have z2_ := of_decide_eq_true c31b0); omega)
                    go_ret
                    exact ⟨re, bw2 HB GE176 GE181⟩
                   ·rw [if_neg c41] at H
                    have c41b0 : decide (1073741824 < ((rd_T63 l0_7 x4_4).f2)) = false := decide_eq_false c41
                    clear c41
                    have H' := Aside0.mk H
                    clear H
                    obtain ⟨hcz47_0, hcz47_1, hcz47_2, hcz47_3, hcz47_4, hcz47_5, hcz47_6, hcz47_7, hcz47_8, hfz47_0, hfz47_1, hfz47_2, hfz47_3, hfz47_4, hfz47_5, hfz47_6, hfz47_7, hfz47_8⟩ := bz9 BK176
                    have p180 : 0 ≤ (x4_4 : Int) := of_decide_eq_true (by first | (with_reducible assumption) | assumption)
                    have q180 : x4_4 < (l0_7.length : Int) := of_decide_eq_true (by first | (with_reducible assumption) | assumption)
                    obtain ⟨ad180, e180, hx180_0, hx180_1, hx180_2, hx180_3⟩ := at_T63 HR0_7.out x4_4 p180 q180
                    cases e180
                    replace hx180_0 := pcb HB hx180_0
                    replace hx180_1 := pcb HB hx180_1
                    replace hx180_2 := pcb HB hx180_2
                    replace hx180_3 := pcb HB hx180_3
                    replace p180 := eq_true p180
                    replace q180 := eq_true q180
                    go_wp2_with (first | ((with_reducible refine gate_dst (N := 5) rfl ?_); refine boxe (N := 5) (cs := #[.int .i64 0, .int .u32 0, .int .i64 0, .int .i64 0]) (t := 63) ?_; intro gb181 hg w48 hbox hb; have BK181 := Aside0.mk (hbox); have GW181 := bg1 hg HB GE176; have GE181 := GW181; have NB176_181 := nl hg BK176; have NB181_176 := ng hg BK176; replace BK176 := bb BK176 hb; replace HB := bs1 HB GE176 hb; clear hb hbox hg; have hnb49 := NB181_176.out; have hnc49 := NB176_181.out; obtain ⟨hcz50_0, hcz50_1, hcz50_2, hcz50_3, hfz50_0, hfz50_1, hfz50_2, hfz50_3⟩ := bz4 BK181; obtain ⟨hcz51_0, hcz51_1, hcz51_2, hcz51_3, hcz51_4, hcz51_5, hcz51_6, hcz51_7, hcz51_8, hfz51_0, hfz51_1, hfz51_2, hfz51_3, hfz51_4, hfz51_5, hfz51_6, hfz51_7, hfz51_8⟩ := bz9 BK176) | ((with_reducible refine gate_callee (f := 43) rfl ?_); refine gol (some 60) Try.func43 #[.int .i64 a0_0, .int .i64 ((rd_T63 l0_7 x4_4).f0), .int .u32 ((rd_T63 l0_7 x4_4).f1), .int .i64 ((rd_T63 l0_7 x4_4).f3)] ?_; (with_reducible refine (tocsinref08_Route.calls k4 a0_0 ((rd_T63 l0_7 x4_4).f0) ((rd_T63 l0_7 x4_4).f1) ((rd_T63 l0_7 x4_4).f3) true _ A33.out).mono ?_); rintro e w' ⟨rfl, ⟨nd, rfl⟩⟩; refine ⟨_, rfl, ?_⟩))
                    all_goals try (exfalso; (try have z0_ := of_decide_eq_false c28b0); (try have z1_ := of_decide_eq_false c28b1); (try have z2_ := of_decide_eq_true c31b0); omega)
                    go_roundg k4
                    case measure => have := HJ1.out; have := HJ7.out; have := HK3.out; have := HK4.out; omega
                    case rel => exact ⟨(wrap64 (x4_4 + 1)), rs, H', ⟨by have := HJ1.out; have := HJ7.out; have := HK3.out; have := HK4.out; omega⟩, ⟨bf1 NB176_181 BK176⟩, ⟨bw2 HB GE176 GE181⟩⟩
                 ·replace c34 := Bool.eq_false_iff.mpr c34
                  subst c34
                  have H1 : (some 9) = some r := by rw [if_neg (show ¬ (false = true) by decide)] at H; exact H
                  clear H
                  have H := H1
                  clear H1
                  obtain rfl := Option.some.inj H
                  obtain ⟨hcz52_0, hcz52_1, hcz52_2, hcz52_3, hcz52_4, hcz52_5, hcz52_6, hcz52_7, hcz52_8, hfz52_0, hfz52_1, hfz52_2, hfz52_3, hfz52_4, hfz52_5, hfz52_6, hfz52_7, hfz52_8⟩ := bz9 BK176
                  have p180 : 0 ≤ (x4_4 : Int) := of_decide_eq_true (by first | (with_reducible assumption) | assumption)
                  have q180 : x4_4 < (l0_7.length : Int) := of_decide_eq_true (by first | (with_reducible assumption) | assumption)
                  obtain ⟨ad180, e180, hx180_0, hx180_1, hx180_2, hx180_3⟩ := at_T63 HR0_7.out x4_4 p180 q180
                  cases e180
                  replace hx180_0 := pcb HB hx180_0
                  replace hx180_1 := pcb HB hx180_1
                  replace hx180_2 := pcb HB hx180_2
                  replace hx180_3 := pcb HB hx180_3
                  replace p180 := eq_true p180
                  replace q180 := eq_true q180
                  go_wp2_with (first | ((with_reducible refine gate_dst (N := 5) rfl ?_); refine boxe (N := 5) (cs := #[.int .i64 0, .int .u32 0, .int .i64 0, .int .i64 0]) (t := 63) ?_; intro gb181 hg w53 hbox hb; have BK181 := Aside0.mk (hbox); have GW181 := bg1 hg HB GE176; have GE181 := GW181; have NB176_181 := nl hg BK176; have NB181_176 := ng hg BK176; replace BK176 := bb BK176 hb; replace HB := bs1 HB GE176 hb; clear hb hbox hg; have hnb54 := NB181_176.out; have hnc54 := NB176_181.out; obtain ⟨hcz55_0, hcz55_1, hcz55_2, hcz55_3, hfz55_0, hfz55_1, hfz55_2, hfz55_3⟩ := bz4 BK181; obtain ⟨hcz56_0, hcz56_1, hcz56_2, hcz56_3, hcz56_4, hcz56_5, hcz56_6, hcz56_7, hcz56_8, hfz56_0, hfz56_1, hfz56_2, hfz56_3, hfz56_4, hfz56_5, hfz56_6, hfz56_7, hfz56_8⟩ := bz9 BK176) | ((with_reducible refine gate_callee (f := 43) rfl ?_); refine gol (some 60) Try.func43 #[.int .i64 a0_0, .int .i64 ((rd_T63 l0_7 x4_4).f0), .int .u32 ((rd_T63 l0_7 x4_4).f1), .int .i64 ((rd_T63 l0_7 x4_4).f3)] ?_; (with_reducible refine (tocsinref08_Route.calls k4 a0_0 ((rd_T63 l0_7 x4_4).f0) ((rd_T63 l0_7 x4_4).f1) ((rd_T63 l0_7 x4_4).f3) false _ A33.out).mono ?_); rintro e w' ⟨rfl, ⟨nd, rfl⟩⟩; refine ⟨_, rfl, ?_⟩))
                  all_goals try (exfalso; (try have z0_ := of_decide_eq_false c28b0); (try have z1_ := of_decide_eq_false c28b1); (try have z2_ := of_decide_eq_true c31b0); omega)
                  go_ret
                  exact ⟨re, bw2 HB GE176 GE181⟩
                ·rw [if_neg c32] at H
                 exact absurd H (by simp)
               ·rw [if_neg c31] at H
                have c31b0 : decide (x4_4 < (l0_7.length : Int)) = false := decide_eq_false c31
                clear c31
                by_cases c57 : a0_8 < 1
                ·rw [if_pos c57] at H
                 have c57b0 : decide (a0_8 < 1) = true := decide_eq_true c57
                 clear c57
                 obtain rfl := Option.some.inj H
                 obtain ⟨hcz58_0, hcz58_1, hcz58_2, hcz58_3, hcz58_4, hcz58_5, hcz58_6, hcz58_7, hcz58_8, hfz58_0, hfz58_1, hfz58_2, hfz58_3, hfz58_4, hfz58_5, hfz58_6, hfz58_7, hfz58_8⟩ := bz9 BK176
                 go_wp2
                 all_goals try (exfalso; (try have z0_ := of_decide_eq_false c28b1); (try have z1_ := of_decide_eq_true c31b0); (try have z2_ := of_decide_eq_false c31b0); omega)
                 go_ret
                 exact ⟨re, bw1 HB GE176⟩
                ·rw [if_neg c57] at H
                 have c57b0 : decide (a0_8 < 1) = false := decide_eq_false c57
                 clear c57
                 by_cases c59 : a0_8 > 64
                 ·rw [if_pos c59] at H
                  have c59b0 : decide (64 < a0_8) = true := decide_eq_true c59
                  clear c59
                  obtain rfl := Option.some.inj H
                  obtain ⟨hcz60_0, hcz60_1, hcz60_2, hcz60_3, hcz60_4, hcz60_5, hcz60_6, hcz60_7, hcz60_8, hfz60_0, hfz60_1, hfz60_2, hfz60_3, hfz60_4, hfz60_5, hfz60_6, hfz60_7, hfz60_8⟩ := bz9 BK176
                  go_wp2
                  all_goals try (exfalso; (try have z0_ := of_decide_eq_false c28b1); (try have z1_ := of_decide_eq_true c31b0); (try have z2_ := of_decide_eq_false c31b0); omega)
                  go_ret
                  exact ⟨re, bw1 HB GE176⟩
                 ·rw [if_neg c59] at H
                  have c59b0 : decide (64 < a0_8) = false := decide_eq_false c59
                  clear c59
                  obtain rfl := Option.some.inj H
                  obtain ⟨hcz61_0, hcz61_1, hcz61_2, hcz61_3, hcz61_4, hcz61_5, hcz61_6, hcz61_7, hcz61_8, hfz61_0, hfz61_1, hfz61_2, hfz61_3, hfz61_4, hfz61_5, hfz61_6, hfz61_7, hfz61_8⟩ := bz9 BK176
                  go_wp2
                  all_goals try (exfalso; (try have z0_ := of_decide_eq_false c28b1); (try have z1_ := of_decide_eq_true c31b0); (try have z2_ := of_decide_eq_false c31b0); omega)
                  go_ret
                  exact ⟨re, bw1 HB GE176⟩
        ·replace c16 := Bool.eq_false_iff.mpr c16
         subst c16
         have H1 : (some 4) = some r := by rw [if_neg (show ¬ (false = true) by decide)] at H; exact H
         clear H
         have H := H1
         clear H1
         obtain rfl := Option.some.inj H
         obtain ⟨hcz62_0, hcz62_1, hcz62_2, hcz62_3, hcz62_4, hcz62_5, hcz62_6, hcz62_7, hcz62_8, hfz62_0, hfz62_1, hfz62_2, hfz62_3, hfz62_4, hfz62_5, hfz62_6, hfz62_7, hfz62_8⟩ := bz9 BK176
         go_wp2_with (first | ((with_reducible refine gate_callee (f := 40) rfl ?_); refine gol (some 23) Try.func40 #[.agg #[.int .i64 a0_0, .int .i64 a0_1, .int .i64 a0_2, .int .i64 a0_3, .int .i64 a0_4, .slice A0_5 l0_5.length c0_5, .slice A0_6 l0_6.length c0_6, .slice A0_7 l0_7.length c0_7, .int .i64 a0_8]] ?_; (with_reducible refine (tocsinref08_Spans.calls a0_0 a0_1 a0_2 a0_3 a0_4 _ _ l0_5 _ _ l0_6 _ _ l0_7 a0_8 true _ ?side1 ?side2 ?side3 ?side4 ?side5 ?side6 A13.out).mono ?_); (case side1 => exact kC (Kd.C_below HR0_5.out HB.out)); (case side2 => exact HC0_5.out); (case side3 => exact kC (Kd.C_below HR0_6.out HB.out)); (case side4 => exact HC0_6.out); (case side5 => exact kC (Kd.C_below HR0_7.out HB.out)); (case side6 => exact HC0_7.out); rintro e w63 ⟨rfl, hb⟩; refine ⟨_, rfl, ?_⟩; replace BK176 := bb BK176 hb; replace HB := bs1 HB GE176 hb; (try clear hb); (try clear hb2); (try clear hk); (try clear hi); obtain ⟨hcz64_0, hcz64_1, hcz64_2, hcz64_3, hcz64_4, hcz64_5, hcz64_6, hcz64_7, hcz64_8, hfz64_0, hfz64_1, hfz64_2, hfz64_3, hfz64_4, hfz64_5, hfz64_6, hfz64_7, hfz64_8⟩ := bz9 BK176) | ((with_reducible refine gate_callee (f := 41) rfl ?_); refine gol (some 26) Try.func41 #[.agg #[.int .i64 a0_0, .int .i64 a0_1, .int .i64 a0_2, .int .i64 a0_3, .int .i64 a0_4, .slice A0_5 l0_5.length c0_5, .slice A0_6 l0_6.length c0_6, .slice A0_7 l0_7.length c0_7, .int .i64 a0_8]] ?_; (with_reducible refine (tocsinref08_rows.calls kj7 a0_0 a0_1 a0_2 a0_3 a0_4 _ _ l0_5 _ _ l0_6 _ _ l0_7 a0_8 false _ ?side1 ?side2 ?side3 ?side4 ?side5 ?side6 A15.out).mono ?_); (case side1 => exact kC (Kd.C_below HR0_5.out HB.out)); (case side2 => exact HC0_5.out); (case side3 => exact kC (Kd.C_below HR0_6.out HB.out)); (case side4 => exact HC0_6.out); (case side5 => exact kC (Kd.C_below HR0_7.out HB.out)); (case side6 => exact HC0_7.out); rintro e w65 ⟨rfl, hb⟩; refine ⟨_, rfl, ?_⟩; replace BK176 := bb BK176 hb; replace HB := bs1 HB GE176 hb; (try clear hb); (try clear hb2); (try clear hk); (try clear hi)))
         go_ret
         exact ⟨re, bw1 HB GE176⟩
       ·replace c14 := Bool.eq_false_iff.mpr c14
        subst c14
        have H1 : (some 3) = some r := by rw [if_neg (show ¬ (false = true) by decide)] at H; exact H
        clear H
        have H := H1
        clear H1
        obtain rfl := Option.some.inj H
        obtain ⟨hcz66_0, hcz66_1, hcz66_2, hcz66_3, hcz66_4, hcz66_5, hcz66_6, hcz66_7, hcz66_8, hfz66_0, hfz66_1, hfz66_2, hfz66_3, hfz66_4, hfz66_5, hfz66_6, hfz66_7, hfz66_8⟩ := bz9 BK176
        go_wp2_with (first | ((with_reducible refine gate_callee (f := 40) rfl ?_); refine gol (some 23) Try.func40 #[.agg #[.int .i64 a0_0, .int .i64 a0_1, .int .i64 a0_2, .int .i64 a0_3, .int .i64 a0_4, .slice A0_5 l0_5.length c0_5, .slice A0_6 l0_6.length c0_6, .slice A0_7 l0_7.length c0_7, .int .i64 a0_8]] ?_; (with_reducible refine (tocsinref08_Spans.calls a0_0 a0_1 a0_2 a0_3 a0_4 _ _ l0_5 _ _ l0_6 _ _ l0_7 a0_8 false _ ?side1 ?side2 ?side3 ?side4 ?side5 ?side6 A13.out).mono ?_); (case side1 => exact kC (Kd.C_below HR0_5.out HB.out)); (case side2 => exact HC0_5.out); (case side3 => exact kC (Kd.C_below HR0_6.out HB.out)); (case side4 => exact HC0_6.out); (case side5 => exact kC (Kd.C_below HR0_7.out HB.out)); (case side6 => exact HC0_7.out); rintro e w67 ⟨rfl, hb⟩; refine ⟨_, rfl, ?_⟩; replace BK176 := bb BK176 hb; replace HB := bs1 HB GE176 hb; (try clear hb); (try clear hb2); (try clear hk); (try clear hi)))
        go_ret
        exact ⟨re, bw1 HB GE176⟩
end Go.Proofs.Ytbmldeikjfecfaa.T
