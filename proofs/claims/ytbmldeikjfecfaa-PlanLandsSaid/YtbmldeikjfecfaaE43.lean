/- A part of the proof of the statement PlanLands: words, contracts of functions that it reaches, and what they compute. No condition. -/
import Derived.Test.YtbmldeikjfecfaaE01
import Derived.Test.YtbmldeikjfecfaaE04
import Derived.Test.YtbmldeikjfecfaaE42
set_option linter.unusedVariables false
set_option linter.unusedSimpArgs false
namespace Go.Proofs.Ytbmldeikjfecfaa.T
open Go.RowKit Go.Proofs.YtbmldeikjfecfaaW.PrintWords Go.Proofs.YtbmldeikjfecfaaW.PrintLast Go.Proofs.YtbmldeikjfecfaaW.PrintMore
attribute [local go_sem] max2_int min2_int max_two min_two max_three min_three max_four min_four
attribute [local go_sem] at34_0 at34_1 at34_2 at42_0 at42_1 at42_2 at42_3 at47_0 at47_1 at47_2 at47_3 at47_4
mutual
def tocsinref08_Family.j0 : Nat → Int → Int → Option (Int × Int × Int × Int × Int × (List (List Int)) × (List (S40)) × (List (S63)) × Int)
 | 0, _, _ => none
 | k + 1, x0, x1 => if x0 > 6 then (tocsinref08_Family.j1 k 6 x1) else (tocsinref08_Family.j1 k x0 x1)
def tocsinref08_Family.j1 : Nat → Int → Int → Option (Int × Int × Int × Int × Int × (List (List Int)) × (List (S40)) × (List (S63)) × Int)
 | 0, _, _ => none
 | k + 1, x0, x1 => tocsinref08_Family.l0 k x0 x1 ([] : List Int) 0 x0 2000000 2000 1000 500 ([] : List (List Int)) 8
def tocsinref08_Family.l0 : Nat → Int → Int → List Int → Int → Int → Int → Int → Int → Int → List (List Int) → Int → Option (Int × Int × Int × Int × Int × (List (List Int)) × (List (S40)) × (List (S63)) × Int)
 | 0, _, _, _, _, _, _, _, _, _, _, _ => none
 | k + 1, x0, x1, x6, x7, x270000, x270001, x270002, x270003, x270004, x270005, x270008 => if x7 < x0 then (if x270005.length < 5864062014805 then (if x6.length < 17592186044416 then (tocsinref08_Family.l0 k x0 x1 (x6 ++ [x7]) (wrap64 (x7 + 1)) x270000 x270001 x270002 x270003 x270004 (x270005 ++ [(([wrap64 (100 * (wrap64 (x7 + 1))), wrap64 ((wrap64 (100 * (wrap64 (x7 + 1)))) + 50)] : List Int))]) x270008) else (none)) else (none)) else (tocsinref08_Family.l1 k x0 x1 x6 0 x270000 x270001 x270002 x270003 x270004 x270005 ([] : List (S40)) x270008)
def tocsinref08_Family.l1 : Nat → Int → Int → List Int → Int → Int → Int → Int → Int → Int → List (List Int) → List (S40) → Int → Option (Int × Int × Int × Int × Int × (List (List Int)) × (List (S40)) × (List (S63)) × Int)
 | 0, _, _, _, _, _, _, _, _, _, _, _, _ => none
 | k + 1, x0, x1, x6, x8, x270000, x270001, x270002, x270003, x270004, x270005, x270006, x270008 => if x8 < x1 then (if x8 < 16 then (tocsinref08_Family.j4 k x0 x1 x6 x8 (decide (x0 > 1)) x270000 x270001 x270002 x270003 x270004 x270005 x270006 x270008) else (tocsinref08_Family.j4 k x0 x1 x6 x8 false x270000 x270001 x270002 x270003 x270004 x270005 x270006 x270008)) else (tocsinref08_Family.j4 k x0 x1 x6 x8 false x270000 x270001 x270002 x270003 x270004 x270005 x270006 x270008)
def tocsinref08_Family.j4 : Nat → Int → Int → List Int → Int → Bool → Int → Int → Int → Int → Int → List (List Int) → List (S40) → Int → Option (Int × Int × Int × Int × Int × (List (List Int)) × (List (S40)) × (List (S63)) × Int)
 | 0, _, _, _, _, _, _, _, _, _, _, _, _, _ => none
 | k + 1, x0, x1, x6, x8, x48, x270000, x270001, x270002, x270003, x270004, x270005, x270006, x270008 => if x48 = true then (if x0 = 0 then (none) else ((tocsinref07_Of.f k x6).bind fun t279 => ((tocsinref07_Of.f k (([Int.tmod x8 x0] : List Int))).bind fun t283 => (if x270006.length < 4398046511104 then (tocsinref08_Family.l1 k x0 x1 x6 (wrap64 (x8 + 1)) x270000 x270001 x270002 x270003 x270004 x270005 (x270006 ++ [(⟨Int.tmod x8 x0, (t279 - t283) % 4294967296, wrap64 (10000 + (wrap64 (50000 * x8))), wrap64 (64 + x8)⟩ : S40)]) x270008) else (none))))) else (some (x270000, x270001, x270002, x270003, x270004, x270005, x270006, ([] : List (S63)), x270008))
end
def tocsinref08_Family.f (k : Nat) (a0 : Int) (a1 : Int) : Option (Int × Int × Int × Int × Int × (List (List Int)) × (List (S40)) × (List (S63)) × Int) := if a0 < 1 then (tocsinref08_Family.j0 k 1 a1) else (tocsinref08_Family.j0 k a0 a1)
theorem tocsinref08_Family.mono_l : ∀ k, (∀ y0 y1, LeO (tocsinref08_Family.j0 k y0 y1) (tocsinref08_Family.j0 (k + 1) y0 y1)) ∧ (∀ y0 y1, LeO (tocsinref08_Family.j1 k y0 y1) (tocsinref08_Family.j1 (k + 1) y0 y1)) ∧ (∀ y0 y1 y2 y3 y4 y5 y6 y7 y8 y9 y10, LeO (tocsinref08_Family.l0 k y0 y1 y2 y3 y4 y5 y6 y7 y8 y9 y10) (tocsinref08_Family.l0 (k + 1) y0 y1 y2 y3 y4 y5 y6 y7 y8 y9 y10)) ∧ (∀ y0 y1 y2 y3 y4 y5 y6 y7 y8 y9 y10 y11, LeO (tocsinref08_Family.l1 k y0 y1 y2 y3 y4 y5 y6 y7 y8 y9 y10 y11) (tocsinref08_Family.l1 (k + 1) y0 y1 y2 y3 y4 y5 y6 y7 y8 y9 y10 y11)) ∧ (∀ y0 y1 y2 y3 y4 y5 y6 y7 y8 y9 y10 y11 y12, LeO (tocsinref08_Family.j4 k y0 y1 y2 y3 y4 y5 y6 y7 y8 y9 y10 y11 y12) (tocsinref08_Family.j4 (k + 1) y0 y1 y2 y3 y4 y5 y6 y7 y8 y9 y10 y11 y12))
 | 0 => ⟨fun _ _ r h => by simp [tocsinref08_Family.j0] at h, fun _ _ r h => by simp [tocsinref08_Family.j1] at h, fun _ _ _ _ _ _ _ _ _ _ _ r h => by simp [tocsinref08_Family.l0] at h, fun _ _ _ _ _ _ _ _ _ _ _ _ r h => by simp [tocsinref08_Family.l1] at h, fun _ _ _ _ _ _ _ _ _ _ _ _ _ r h => by simp [tocsinref08_Family.j4] at h⟩
 | k + 1 => by
  obtain ⟨ih0, ih1, ih2, ih3, ih4⟩ := tocsinref08_Family.mono_l k
  refine ⟨?_, ?_, ?_, ?_, ?_⟩
  ·intro y0 y1
   unfold tocsinref08_Family.j0
   repeat' first
   | (with_reducible exact ih0 _ _)
   | (with_reducible exact ih1 _ _)
   | (with_reducible exact ih2 _ _ _ _ _ _ _ _ _ _ _)
   | (with_reducible exact ih3 _ _ _ _ _ _ _ _ _ _ _ _)
   | (with_reducible exact ih4 _ _ _ _ _ _ _ _ _ _ _ _ _)
   | (with_reducible exact tocsinref07_Of.mono _ _)
   | (with_reducible exact LeO.refl _)
   | (with_reducible exact LeO.none _)
   | (with_reducible refine LeO.ite ?_ ?_)
   | (with_reducible refine LeO.bind ?_ (fun _ => ?_))
   | exact ih0 _ _
   | exact ih1 _ _
   | exact ih2 _ _ _ _ _ _ _ _ _ _ _
   | exact ih3 _ _ _ _ _ _ _ _ _ _ _ _
   | exact ih4 _ _ _ _ _ _ _ _ _ _ _ _ _
   | exact tocsinref07_Of.mono _ _
   | exact LeO.none _
   | refine LeO.ite ?_ ?_
   | refine LeO.bind ?_ (fun _ => ?_)
  ·intro y0 y1
   unfold tocsinref08_Family.j1
   repeat' first
   | (with_reducible exact ih0 _ _)
   | (with_reducible exact ih1 _ _)
   | (with_reducible exact ih2 _ _ _ _ _ _ _ _ _ _ _)
   | (with_reducible exact ih3 _ _ _ _ _ _ _ _ _ _ _ _)
   | (with_reducible exact ih4 _ _ _ _ _ _ _ _ _ _ _ _ _)
   | (with_reducible exact tocsinref07_Of.mono _ _)
   | (with_reducible exact LeO.refl _)
   | (with_reducible exact LeO.none _)
   | (with_reducible refine LeO.ite ?_ ?_)
   | (with_reducible refine LeO.bind ?_ (fun _ => ?_))
   | exact ih0 _ _
   | exact ih1 _ _
   | exact ih2 _ _ _ _ _ _ _ _ _ _ _
   | exact ih3 _ _ _ _ _ _ _ _ _ _ _ _
   | exact ih4 _ _ _ _ _ _ _ _ _ _ _ _ _
   | exact tocsinref07_Of.mono _ _
   | exact LeO.none _
   | refine LeO.ite ?_ ?_
   | refine LeO.bind ?_ (fun _ => ?_)
  ·intro y0 y1 y2 y3 y4 y5 y6 y7 y8 y9 y10
   unfold tocsinref08_Family.l0
   repeat' first
   | (with_reducible exact ih0 _ _)
   | (with_reducible exact ih1 _ _)
   | (with_reducible exact ih2 _ _ _ _ _ _ _ _ _ _ _)
   | (with_reducible exact ih3 _ _ _ _ _ _ _ _ _ _ _ _)
   | (with_reducible exact ih4 _ _ _ _ _ _ _ _ _ _ _ _ _)
   | (with_reducible exact tocsinref07_Of.mono _ _)
   | (with_reducible exact LeO.refl _)
   | (with_reducible exact LeO.none _)
   | (with_reducible refine LeO.ite ?_ ?_)
   | (with_reducible refine LeO.bind ?_ (fun _ => ?_))
   | exact ih0 _ _
   | exact ih1 _ _
   | exact ih2 _ _ _ _ _ _ _ _ _ _ _
   | exact ih3 _ _ _ _ _ _ _ _ _ _ _ _
   | exact ih4 _ _ _ _ _ _ _ _ _ _ _ _ _
   | exact tocsinref07_Of.mono _ _
   | exact LeO.none _
   | refine LeO.ite ?_ ?_
   | refine LeO.bind ?_ (fun _ => ?_)
  ·intro y0 y1 y2 y3 y4 y5 y6 y7 y8 y9 y10 y11
   unfold tocsinref08_Family.l1
   repeat' first
   | (with_reducible exact ih0 _ _)
   | (with_reducible exact ih1 _ _)
   | (with_reducible exact ih2 _ _ _ _ _ _ _ _ _ _ _)
   | (with_reducible exact ih3 _ _ _ _ _ _ _ _ _ _ _ _)
   | (with_reducible exact ih4 _ _ _ _ _ _ _ _ _ _ _ _ _)
   | (with_reducible exact tocsinref07_Of.mono _ _)
   | (with_reducible exact LeO.refl _)
   | (with_reducible exact LeO.none _)
   | (with_reducible refine LeO.ite ?_ ?_)
   | (with_reducible refine LeO.bind ?_ (fun _ => ?_))
   | exact ih0 _ _
   | exact ih1 _ _
   | exact ih2 _ _ _ _ _ _ _ _ _ _ _
   | exact ih3 _ _ _ _ _ _ _ _ _ _ _ _
   | exact ih4 _ _ _ _ _ _ _ _ _ _ _ _ _
   | exact tocsinref07_Of.mono _ _
   | exact LeO.none _
   | refine LeO.ite ?_ ?_
   | refine LeO.bind ?_ (fun _ => ?_)
  ·intro y0 y1 y2 y3 y4 y5 y6 y7 y8 y9 y10 y11 y12
   unfold tocsinref08_Family.j4
   repeat' first
   | (with_reducible exact ih0 _ _)
   | (with_reducible exact ih1 _ _)
   | (with_reducible exact ih2 _ _ _ _ _ _ _ _ _ _ _)
   | (with_reducible exact ih3 _ _ _ _ _ _ _ _ _ _ _ _)
   | (with_reducible exact ih4 _ _ _ _ _ _ _ _ _ _ _ _ _)
   | (with_reducible exact tocsinref07_Of.mono _ _)
   | (with_reducible exact LeO.refl _)
   | (with_reducible exact LeO.none _)
   | (with_reducible refine LeO.ite ?_ ?_)
   | (with_reducible refine LeO.bind ?_ (fun _ => ?_))
   | exact ih0 _ _
   | exact ih1 _ _
   | exact ih2 _ _ _ _ _ _ _ _ _ _ _
   | exact ih3 _ _ _ _ _ _ _ _ _ _ _ _
   | exact ih4 _ _ _ _ _ _ _ _ _ _ _ _ _
   | exact tocsinref07_Of.mono _ _
   | exact LeO.none _
   | refine LeO.ite ?_ ?_
   | refine LeO.bind ?_ (fun _ => ?_)
theorem tocsinref08_Family.mono : ∀ a0 a1 k, LeO (tocsinref08_Family.f k a0 a1) (tocsinref08_Family.f (k + 1) a0 a1) := by
 intro a0 a1 k
 obtain ⟨ih0, ih1, ih2, ih3, ih4⟩ := tocsinref08_Family.mono_l k
 unfold tocsinref08_Family.f
 repeat' first
   | (with_reducible exact ih0 _ _)
   | (with_reducible exact ih1 _ _)
   | (with_reducible exact ih2 _ _ _ _ _ _ _ _ _ _ _)
   | (with_reducible exact ih3 _ _ _ _ _ _ _ _ _ _ _ _)
   | (with_reducible exact ih4 _ _ _ _ _ _ _ _ _ _ _ _ _)
   | (with_reducible exact tocsinref07_Of.mono _ _)
   | (with_reducible exact LeO.refl _)
   | (with_reducible exact LeO.none _)
   | (with_reducible refine LeO.ite ?_ ?_)
   | (with_reducible refine LeO.bind ?_ (fun _ => ?_))
   | exact ih0 _ _
   | exact ih1 _ _
   | exact ih2 _ _ _ _ _ _ _ _ _ _ _
   | exact ih3 _ _ _ _ _ _ _ _ _ _ _ _
   | exact ih4 _ _ _ _ _ _ _ _ _ _ _ _ _
   | exact tocsinref07_Of.mono _ _
   | exact LeO.none _
   | refine LeO.ite ?_ ?_
   | refine LeO.bind ?_ (fun _ => ?_)
def tocsinref08_Family.T16 : Bool × List (List Nat × List Nat) := (true, [([], []), ([0], [0]), ([], []), ([], []), ([3], [3]), ([], []), ([5], [5]), ([6, 4], [6]), ([4, 7], [4, 7]), ([], []), ([9], [9]), ([10], [10]), ([], []), ([12], [12]), ([2, 8, 11, 13], [2, 8, 11, 13]), ([14], [14]), ([1, 15, 7], [1, 15]), ([0, 1, 2, 3, 4, 5, 6, 7, 8, 9, 10, 11, 12, 13, 14, 15, 16], []), ([17, 16, 16, 0, 1, 2, 3, 4, 5, 6, 7, 8, 9, 10, 11, 12, 13, 14, 15, 16], [16, 17])])
def tocsinref08_Family.B16 : List Nat := [0, 1, 0, 0, 8, 0, 32, 120, 248, 0, 512, 1536, 0, 4096, 16380, 32764, 65535, 131071, 262143]
theorem tocsinref08_Family.tab16 : rtab .any (opsOf Try.f26 16) = tocsinref08_Family.T16 := by kernel_rfl
theorem tocsinref08_Family.bits16 : waitsOk tocsinref08_Family.T16.2 tocsinref08_Family.B16 = true := by kernel_rfl
set_option maxHeartbeats 8000000 in
set_option maxRecDepth 100000 in
theorem tocsinref08_Family.calls (k : Nat) (a0 : Int) (a1 : Int) (r1 : Int) (r2 : Int) (r3 : Int) (r4 : Int) (r5 : Int) (r6 : List (List Int)) (r7 : List (S40)) (r8 : List (S63)) (r9 : Int) (w : World) (h : tocsinref08_Family.f k a0 a1 = some (r1, r2, r3, r4, r5, r6, r7, r8, r9)) :
  Calls Try.prog 26 #[.int .i64 a0, .int .i64 a1] w fun e w' => ∃ v5_ v6_ v7_ : Value, e = .returned (.agg #[.int .i64 r1, .int .i64 r2, .int .i64 r3, .int .i64 r4, .int .i64 r5, v5_, v6_, v7_, .int .i64 r9]) ∧ Kd.S (Kd.slice 2 (Kd.int .i64)) 66 w' w.heap.size (fun _ => True) v5_ r6 ∧ Kd.R k40 40 w' w.heap.size (fun _ => True) v6_ r7 ∧ Kd.R k63 63 w' w.heap.size (fun _ => True) v7_ r8 ∧ Below w.heap.size w w' := by
 have hu26 := Try.underlying26
 have hu40 := Try.underlying40
 have HB := Aside0.mk (Below.refl w.heap.size w)
 have H : (if a0 < 1 then (tocsinref08_Family.j0 k 1 a1) else (tocsinref08_Family.j0 k a0 a1)) = some (r1, r2, r3, r4, r5, r6, r7, r8, r9) := h
 clear h
 have HC3 := Aside0.mk H
 clear H
 go_enter Try.func26, Try.ntmps26
 go_upto_if 11 with (first | ((with_reducible refine gate_dst (N := 4) rfl ?_); refine boxe (N := 4) (cs := #[.int .i64 0, .int .i64 0, .int .i64 0, .int .i64 0, .int .i64 0, .slice none 0 0, .slice none 0 0, .slice none 0 0, .int .i64 0]) (t := 26) ?_; intro gb268 hg w4 hbox hb; have BK268 := Aside0.mk (hbox); have GW268 := bg0 hg HB; have GE268 := GW268; replace HB := bs0 HB hb; clear hb hbox hg))
 (try simp only [Act.put, sT, sZ, sS])
 go_cut [0] (fun v0 wc => ∃ (kq : Nat) (x0_2 : Int), v0 = .int .i64 x0_2 ∧ Aside0 (tocsinref08_Family.j0 kq x0_2 a1 = some (r1, r2, r3, r4, r5, r6, r7, r8, r9)) ∧ Aside0 (kq ≤ k) ∧ Aside0 (wc.heap[gb268]? = some (.cells #[.int .i64 0, .int .i64 0, .int .i64 0, .int .i64 0, .int .i64 0, (.slice none 0 0), (.slice none 0 0), (.slice none 0 0), .int .i64 0] 26 (0, 0))) ∧ Aside0 (Below w.heap.size w wc))
 case first =>
  have H := HC3.out
  clear HC3
  by_cases c5 : a0 < 1
  ·rw [if_pos c5] at H
   have c5b0 : decide (a0 < 1) = true := decide_eq_true c5
   clear c5
   (first | rw [c5b0] | (simp only [i64_w, i32_w]; rw [c5b0]) | skip)
   have H' := Aside0.mk H
   clear H
   go_wp2
   go_meet
   case rel => exact ⟨_, (1), rs, H', ⟨by first | omega | exact Nat.le_refl _⟩, ⟨bk BK268⟩, ⟨bw1 HB GE268⟩⟩
  ·rw [if_neg c5] at H
   have c5b0 : decide (a0 < 1) = false := decide_eq_false c5
   clear c5
   (first | rw [c5b0] | (simp only [i64_w, i32_w]; rw [c5b0]) | skip)
   have H' := Aside0.mk H
   clear H
   go_wp2
   go_meet
   case rel => exact ⟨_, (a0), rs, H', ⟨by first | omega | exact Nat.le_refl _⟩, ⟨bk BK268⟩, ⟨bw1 HB GE268⟩⟩
 case rest =>
  clear HC3
  try clear c2
  try clear p2
  try clear c5
  try clear c5b0
  obtain ⟨kq, x0_2, rfl, HA, HJ2, BK268, HB⟩ := hcut
  cases kq with
  | zero => exact absurd HA.out (by simp [tocsinref08_Family.j0])
  | succ kj2 =>
   have H := HA.out
   clear HA
   simp only [tocsinref08_Family.j0] at H
   have HC6 := Aside0.mk H
   clear H
   go_upto_if 13 with (fail)
   go_cut [0] (fun v0 wc => ∃ (kq : Nat) (x0_5 : Int), v0 = .int .i64 x0_5 ∧ Aside0 (tocsinref08_Family.j1 kq x0_5 a1 = some (r1, r2, r3, r4, r5, r6, r7, r8, r9)) ∧ Aside0 (kq ≤ kj2) ∧ Aside0 (wc.heap[gb268]? = some (.cells #[.int .i64 0, .int .i64 0, .int .i64 0, .int .i64 0, .int .i64 0, (.slice none 0 0), (.slice none 0 0), (.slice none 0 0), .int .i64 0] 26 (0, 0))) ∧ Aside0 (Below w.heap.size w wc))
   case first =>
    have H := HC6.out
    clear HC6
    by_cases c7 : x0_2 > 6
    ·rw [if_pos c7] at H
     have c7b0 : decide (6 < x0_2) = true := decide_eq_true c7
     clear c7
     (first | rw [c7b0] | (simp only [i64_w, i32_w]; rw [c7b0]) | skip)
     have H' := Aside0.mk H
     clear H
     go_wp2
     go_meet
     case rel => exact ⟨_, (6), rs, H', ⟨by have := HJ2.out; first | omega | exact Nat.le_refl _⟩, ⟨bk BK268⟩, ⟨bw1 HB GE268⟩⟩
    ·rw [if_neg c7] at H
     have c7b0 : decide (6 < x0_2) = false := decide_eq_false c7
     clear c7
     (first | rw [c7b0] | (simp only [i64_w, i32_w]; rw [c7b0]) | skip)
     have H' := Aside0.mk H
     clear H
     go_wp2
     go_meet
     case rel => exact ⟨_, (x0_2), rs, H', ⟨by have := HJ2.out; first | omega | exact Nat.le_refl _⟩, ⟨bk BK268⟩, ⟨bw1 HB GE268⟩⟩
   case rest =>
    clear HC6
    try clear c2
    try clear p2
    try clear c5
    try clear c5b0
    try clear c7
    try clear c7b0
    try clear p2
    obtain ⟨kq, x0_5, rfl, HA, HJ5, BK268, HB⟩ := hcut
    cases kq with
    | zero => exact absurd HA.out (by simp [tocsinref08_Family.j1])
    | succ kj5 =>
     have H := HA.out
     clear HA
     simp only [tocsinref08_Family.j1] at H
     have H' := Aside0.mk H
     clear H
     go_wp2_with (first | ((with_reducible refine gate_dst (N := 5) rfl ?_); refine boxe (N := 5) (cs := #[.int .i64 0, .int .i64 0, .int .i64 0, .int .i64 0, .int .i64 0, .slice none 0 0, .slice none 0 0, .slice none 0 0, .int .i64 0]) (t := 26) ?_; intro gb269 hg w8 hbox hb; have BK269 := Aside0.mk (hbox); have GW269 := bg1 hg HB GE268; have GE269 := GW269; have NB268_269 := nl hg BK268; have NB269_268 := ng hg BK268; replace BK268 := bb BK268 hb; replace HB := bs1 HB GE268 hb; clear hb hbox hg; have hnb9 := NB269_268.out; have hnc9 := NB268_269.out; obtain ⟨hcz10_0, hcz10_1, hcz10_2, hcz10_3, hcz10_4, hcz10_5, hcz10_6, hcz10_7, hcz10_8, hfz10_0, hfz10_1, hfz10_2, hfz10_3, hfz10_4, hfz10_5, hfz10_6, hfz10_7, hfz10_8⟩ := bz9 BK269))
     (try simp only [Act.put, sT, sZ, sS])
     go_loopg [6, 7] kj5 (fun kq v6 v7 w' => ∃ (x6_3 : List Int) (x7_3 : Int) (x270005_3 : List (List Int)) (u270005 : Value), v7 = .int .i64 x7_3 ∧ Aside0 (tocsinref08_Family.l0 kq x0_5 a1 x6_3 x7_3 x0_5 2000000 2000 1000 500 x270005_3 8 = some (r1, r2, r3, r4, r5, r6, r7, r8, r9)) ∧ Aside0 (kq ≤ kj5) ∧ Aside0 (Kd.R (Kd.int .i64) 3 w' w.heap.size (fun _ => True) v6 x6_3) ∧ Aside0 (Kd.S (Kd.slice 2 (Kd.int .i64)) 66 w' w.heap.size (fun _ => True) u270005 x270005_3) ∧ Aside0 (w'.heap[gb268]? = some (.cells #[.int .i64 0, .int .i64 0, .int .i64 0, .int .i64 0, .int .i64 0, (.slice none 0 0), (.slice none 0 0), (.slice none 0 0), .int .i64 0] 26 (0, 0))) ∧ Aside0 (w'.heap[gb269]? = some (.cells #[.int .i64 x0_5, .int .i64 2000000, .int .i64 2000, .int .i64 1000, .int .i64 500, u270005, (.slice none 0 0), (.slice none 0 0), .int .i64 8] 26 (0, 0))) ∧ Aside0 (Below w.heap.size w w'))
     case atStart => exact ⟨(([] : List Int)), (0), (([] : List (List Int))), (.slice none 0 0), rs, H', ⟨Nat.le_refl _⟩, ⟨by first | exact Kd.R_nil _ _ _ _ _ | exact Kd.N_nil _ _ _ _ _ | exact Kd.V_nil _ _ _ _ _ | exact Kd.Q_nil _ _ _ _ _ | exact Kd.S_nil _ _ _ _ _⟩, ⟨by first | exact Kd.S_nil _ _ _ _ _ | exact Kd.N_nil _ _ _ _ _ | exact Kd.V_nil _ _ _ _ _ | exact Kd.Q_nil _ _ _ _ _ | exact Kd.R_nil _ _ _ _ _⟩, ⟨bf1 NB268_269 BK268⟩, ⟨by (with_reducible repeat (first | refine blk_drewN ?_ _ | refine blk_drew ?_ | refine blk_alloc ?_ _)); refine blk_put (cs := #[.int .i64 x0_5, .int .i64 2000000, .int .i64 2000, .int .i64 1000, .int .i64 500, .slice none 0 0, .slice none 0 0, .slice none 0 0, .int .i64 0]) ?_ 8 _ rt; (with_reducible repeat (first | refine blk_drewN ?_ _ | refine blk_drew ?_ | refine blk_alloc ?_ _)); refine blk_put (cs := #[.int .i64 x0_5, .int .i64 2000000, .int .i64 2000, .int .i64 1000, .int .i64 500, .slice none 0 0, .slice none 0 0, .slice none 0 0, .int .i64 0]) ?_ 7 _ rt; (with_reducible repeat (first | refine blk_drewN ?_ _ | refine blk_drew ?_ | refine blk_alloc ?_ _)); refine blk_put (cs := #[.int .i64 x0_5, .int .i64 2000000, .int .i64 2000, .int .i64 1000, .int .i64 500, .slice none 0 0, .slice none 0 0, .slice none 0 0, .int .i64 0]) ?_ 6 _ rt; (with_reducible repeat (first | refine blk_drewN ?_ _ | refine blk_drew ?_ | refine blk_alloc ?_ _)); refine blk_put (cs := #[.int .i64 x0_5, .int .i64 2000000, .int .i64 2000, .int .i64 1000, .int .i64 500, .slice none 0 0, .slice none 0 0, .slice none 0 0, .int .i64 0]) ?_ 5 _ rt; (with_reducible repeat (first | refine blk_drewN ?_ _ | refine blk_drew ?_ | refine blk_alloc ?_ _)); refine blk_put (cs := #[.int .i64 x0_5, .int .i64 2000000, .int .i64 2000, .int .i64 1000, .int .i64 0, .slice none 0 0, .slice none 0 0, .slice none 0 0, .int .i64 0]) ?_ 4 _ rt; (with_reducible repeat (first | refine blk_drewN ?_ _ | refine blk_drew ?_ | refine blk_alloc ?_ _)); refine blk_put (cs := #[.int .i64 x0_5, .int .i64 2000000, .int .i64 2000, .int .i64 0, .int .i64 0, .slice none 0 0, .slice none 0 0, .slice none 0 0, .int .i64 0]) ?_ 3 _ rt; (with_reducible repeat (first | refine blk_drewN ?_ _ | refine blk_drew ?_ | refine blk_alloc ?_ _)); refine blk_put (cs := #[.int .i64 x0_5, .int .i64 2000000, .int .i64 0, .int .i64 0, .int .i64 0, .slice none 0 0, .slice none 0 0, .slice none 0 0, .int .i64 0]) ?_ 2 _ rt; (with_reducible repeat (first | refine blk_drewN ?_ _ | refine blk_drew ?_ | refine blk_alloc ?_ _)); refine blk_put (cs := #[.int .i64 x0_5, .int .i64 0, .int .i64 0, .int .i64 0, .int .i64 0, .slice none 0 0, .slice none 0 0, .slice none 0 0, .int .i64 0]) ?_ 1 _ rt; (with_reducible repeat (first | refine blk_drewN ?_ _ | refine blk_drew ?_ | refine blk_alloc ?_ _)); refine blk_put (cs := #[.int .i64 0, .int .i64 0, .int .i64 0, .int .i64 0, .int .i64 0, .slice none 0 0, .slice none 0 0, .slice none 0 0, .int .i64 0]) ?_ 0 _ rt; (with_reducible repeat (first | refine blk_drewN ?_ _ | refine blk_drew ?_ | refine blk_alloc ?_ _)); exact BK269.out⟩, ⟨bw2 HB GE268 GE269⟩⟩
     case round =>
      clear H'
      try clear c2
      try clear p2
      try clear c5
      try clear c5b0
      try clear c7
      try clear c7b0
      try clear c9
      try clear hcz10_0 hcz10_1 hcz10_2 hcz10_3 hcz10_4 hcz10_5 hcz10_6 hcz10_7 hcz10_8
      try clear hfz10_0 hfz10_1 hfz10_2 hfz10_3 hfz10_4 hfz10_5 hfz10_6 hfz10_7 hfz10_8
      try clear p2
      obtain ⟨x6_3, x7_3, x270005_3, u270005, rfl, HA, HK3, HO_6, HO_270005, BK268, BK269, HB⟩ := hrel
      cases gk with
      | zero => exact absurd HA.out (by simp [tocsinref08_Family.l0])
      | succ k3 =>
       have H := HA.out
       clear HA
       simp only [tocsinref08_Family.l0] at H
       by_cases c11 : x7_3 < x0_5
       ·rw [if_pos c11] at H
        have c11b0 : decide (x7_3 < x0_5) = true := decide_eq_true c11
        clear c11
        obtain ⟨y270, hy270⟩ : ∃ y_ : List Int, y_ = (([wrap64 (100 * (wrap64 (x7_3 + 1))), wrap64 ((wrap64 (100 * (wrap64 (x7_3 + 1)))) + 50)] : List Int)) := ⟨_, rfl⟩
        replace H : (if x270005_3.length < 5864062014805 then (if x6_3.length < 17592186044416 then (tocsinref08_Family.l0 k3 x0_5 a1 (x6_3 ++ [x7_3]) (wrap64 (x7_3 + 1)) x0_5 2000000 2000 1000 500 (x270005_3 ++ [y270]) 8) else (none)) else (none)) = some (r1, r2, r3, r4, r5, r6, r7, r8, r9) := by first | (rw [hy270]; with_reducible exact H) | (have H2_ := (Option.bind_some _ _).symm.trans H; rw [hy270]; with_reducible exact H2_) | (have H2_ := (Option.bind_some _ _).symm.trans H; with_reducible exact H2_) | with_reducible exact H | (rw [hy270]; exact H) | exact H
        have Ny270 := Aside0.mk hy270
        clear hy270
        by_cases c12 : x270005_3.length < 5864062014805
        ·rw [if_pos c12] at H
         have LMc12 := Aside0.mk c12
         clear c12
         obtain ⟨y273, hy273⟩ : ∃ y_ : List (List Int), y_ = (x270005_3 ++ [y270]) := ⟨_, rfl⟩
         replace H : (if x6_3.length < 17592186044416 then (tocsinref08_Family.l0 k3 x0_5 a1 (x6_3 ++ [x7_3]) (wrap64 (x7_3 + 1)) x0_5 2000000 2000 1000 500 y273 8) else (none)) = some (r1, r2, r3, r4, r5, r6, r7, r8, r9) := by first | (rw [hy273]; with_reducible exact H) | (have H2_ := (Option.bind_some _ _).symm.trans H; rw [hy273]; with_reducible exact H2_) | (have H2_ := (Option.bind_some _ _).symm.trans H; with_reducible exact H2_) | with_reducible exact H | (rw [hy273]; exact H) | exact H
         have Ny273 := Aside0.mk hy273
         clear hy273
         by_cases c13 : x6_3.length < 17592186044416
         ·rw [if_pos c13] at H
          have LMc13 := Aside0.mk c13
          clear c13
          obtain ⟨y276, hy276⟩ : ∃ y_ : List Int, y_ = (x6_3 ++ [x7_3]) := ⟨_, rfl⟩
          replace H : (tocsinref08_Family.l0 k3 x0_5 a1 y276 (wrap64 (x7_3 + 1)) x0_5 2000000 2000 1000 500 y273 8) = some (r1, r2, r3, r4, r5, r6, r7, r8, r9) := by first | (rw [hy276]; with_reducible exact H) | (have H2_ := (Option.bind_some _ _).symm.trans H; rw [hy276]; with_reducible exact H2_) | (have H2_ := (Option.bind_some _ _).symm.trans H; with_reducible exact H2_) | with_reducible exact H | (rw [hy276]; exact H) | exact H
          have Ny276 := Aside0.mk hy276
          clear hy276
          have H' := Aside0.mk H
          clear H
          have hnb14 := NB269_268.out
          have hnc14 := NB268_269.out
          obtain ⟨hcz15_0, hcz15_1, hcz15_2, hcz15_3, hcz15_4, hcz15_5, hcz15_6, hcz15_7, hcz15_8, hfz15_0, hfz15_1, hfz15_2, hfz15_3, hfz15_4, hfz15_5, hfz15_6, hfz15_7, hfz15_8⟩ := bz9 BK269
          go_wp2_with (first | ((with_reducible refine gate_dst (N := 30) rfl ?_); refine Kd.R_lit (Kd.int .i64) _ 2 ?hg (N := 30) ?hd (xs := ([wrap64 (100 * (wrap64 (x7_3 + 1))), wrap64 ((wrap64 (100 * (wrap64 (x7_3 + 1)))) + 50)] : List Int)) (inner := [.int .i64 (wrap64 (100 * (wrap64 (x7_3 + 1)))), .int .i64 (wrap64 ((wrap64 (100 * (wrap64 (x7_3 + 1)))) + 50))]) (ok := fun _ => True) (okp := fun _ => True) ?hr ?hp (fun _ hk => hk) trivial (Below.refl _ _) (Nat.le_refl _) (by simp) ?_; (case hd => rfl); (case hg => rfl); (case hr => first | (go_simp; done) | (go_simp; rfl)); (case hp => exact (Reps.one (show Kd.M (Kd.int .i64) _ _ _ (wrap64 (100 * (wrap64 (x7_3 + 1)))) [.int .i64 (wrap64 (100 * (wrap64 (x7_3 + 1))))] from rfl) (Reps.one (show Kd.M (Kd.int .i64) _ _ _ (wrap64 ((wrap64 (100 * (wrap64 (x7_3 + 1)))) + 50)) [.int .i64 (wrap64 ((wrap64 (100 * (wrap64 (x7_3 + 1)))) + 50))] from rfl) (Reps.none _ _)))); intro v271 w16 ho17 hb hg_ hnew_; clear hg_ hnew_; (first | rw [← Ny270.out] at ho17 | (simp only [Int.reduceToNat] at ho17; rw [← Ny270.out] at ho17)); have HO272 := Aside0.mk (Kd.R_lower ho17 (below_size (bw2 HB GE268 GE269))); replace HO_6 := Aside0.mk (Kd.R_below (by (with_reducible repeat (first | apply Kd.R_alloc | apply Kd.R_drewN | apply Kd.R_drew)); exact HO_6.out) hb); replace HO_270005 := Aside0.mk (Kd.S_elder' (by (with_reducible repeat (first | apply Kd.S_alloc | apply Kd.S_drewN | apply Kd.S_drew)); exact HO_270005.out) (Kd.R_base ho17) hb); replace BK268 := bb BK268 hb; replace BK269 := bb BK269 hb; replace HB := bs2 HB GE268 GE269 hb; clear hb ho17; obtain ⟨Ao19, co19, eo19⟩ := Kd.R_slice HO272.out; subst eo19) | ((with_reducible refine gate_builtin (b := .append) (xs := #[.tmp 22, .tmp 31]) rfl ?_); at_builtin; refine Kd.S_append (Kd.slice 2 (Kd.int .i64)) (w0 := w) w.heap.size rfl (.tmp 22) (.tmp 31) 22 66 (.slice none 0 0) 24 rfl Try.underlying22 info66 rfl (by decide) (by omega) u270005 x270005_3 y270 [.slice Ao19 y270.length co19] (fun _ => True) (fun k_ => some k_ = (.slice Ao19 y270.length co19 : Value).ownBlock) rfl rfl ?aP (fun k_ hk_ => ((Kd.R_mono (ok' := fun k_ => ((fun _ => True)) k_ ∧ some k_ ≠ (u270005 : Value).ownBlock) (Kd.R_apart' (HO272.out) (Kd.S_typed HO_270005.out) (by decide)) (fun k_ hk => ⟨trivial, hk.2⟩))).1 k_ hk_.symm) ?aF ?aO ?aB ?aS ?aL ?_; (case aP => exact Kd.M_row (Kd.R_mono (Kd.R_tight rfl (Kd.R_mono (ok' := fun k_ => ((fun _ => True)) k_ ∧ some k_ ≠ (u270005 : Value).ownBlock) (Kd.R_apart' (HO272.out) (Kd.S_typed HO_270005.out) (by decide)) (fun k_ hk => ⟨trivial, hk.2⟩))) (fun _ h_ => h_))); (case aB => exact (bw2 HB GE268 GE269)); (case aF => exact (fun _ _ => trivial)); (case aO => exact (by (with_reducible repeat (first | apply Kd.S_alloc | apply Kd.S_drewN | apply Kd.S_drew)); exact Kd.S_mono HO_270005.out (fun k_ hk => ⟨trivial, fun e_ => hk.2 e_⟩))); (case aS => exact (below_size (bw2 HB GE268 GE269))); (case aL => have := LMc12.out; omega); intro v274 w18 ho hb hg hat; rw [← Ny273.out] at ho; have n0_ := Aside0.mk (Kd.R_over' (by (with_reducible repeat (first | apply Kd.R_alloc | apply Kd.R_drewN | apply Kd.R_drew)); exact HO_6.out) (Kd.S_typed (by (with_reducible repeat (first | apply Kd.S_alloc | apply Kd.S_drewN | apply Kd.S_drew)); exact HO_270005.out)) (by decide) hg); have n1_ := Aside0.mk (blk_grown (g := gb268) (o := .cells #[.int .i64 0, .int .i64 0, .int .i64 0, .int .i64 0, .int .i64 0, .slice none 0 0, .slice none 0 0, .slice none 0 0, .int .i64 0] 26 (0, 0)) (bk BK268) hg (Kd.S_ne HO_270005.out BK268.out (by decide))); have n2_ := Aside0.mk (blk_grown (g := gb269) (o := .cells #[.int .i64 x0_5, .int .i64 2000000, .int .i64 2000, .int .i64 1000, .int .i64 500, u270005, .slice none 0 0, .slice none 0 0, .int .i64 8] 26 (0, 0)) (bk BK269) hg (Kd.S_ne HO_270005.out BK269.out (by decide))); have n3_ := Aside0.mk (hb); have n4_ := Aside0.mk (ho); clear HO_6; clear BK268; clear BK269; clear HB; clear HO_270005; clear HO272; have HO_6 := n0_; have BK268 := n1_; have BK269 := n2_; have HB := n3_; have HO275 := n4_; clear n0_ n1_ n2_ n3_ n4_; clear ho hb hg hat; obtain ⟨Ao20, co20, eo20⟩ := Kd.S_slice HO275.out; subst eo20; obtain ⟨hcz21_0, hcz21_1, hcz21_2, hcz21_3, hcz21_4, hcz21_5, hcz21_6, hcz21_7, hcz21_8, hfz21_0, hfz21_1, hfz21_2, hfz21_3, hfz21_4, hfz21_5, hfz21_6, hfz21_7, hfz21_8⟩ := bz9 BK269) | ((with_reducible refine gate_builtin (b := .append) (xs := #[.tmp 34, .tmp 36]) rfl ?_); at_builtin; refine Kd.R_append (Kd.int .i64) (w0 := w) w.heap.size rfl (.tmp 34) (.tmp 36) 65 3 (.int .i64 0) 8 rfl Try.underlying65 info3 rfl (by decide) (by omega) u6 x6_3 x7_3 [.int .i64 x7_3] (fun _ => True) (fun _ => False) rfl (by first | (go_simp; done) | (go_simp; rfl)) ?aP (fun _ hk => hk.elim) ?aF ?aO ?aB ?aS ?aL ?_; (case aP => exact rfl); (case aB => exact (bw2 HB GE268 GE269)); (case aF => exact (fun _ _ => trivial)); (case aO => exact (by (with_reducible repeat (first | apply Kd.R_alloc | apply Kd.R_drewN | apply Kd.R_drew)); exact Kd.R_mono (Kd.R_far (p := ⟨gb269, 5, none⟩) (Kd.R_types HO_6.out BK269.out (by decide)) (fun _ hk => hk.2) (.slice Ao20 y273.length co20)) (fun _ hk => trivial))); (case aS => exact (below_size (bw2 HB GE268 GE269))); (case aL => have := LMc13.out; omega); intro v277 w22 ho hb hg hat; rw [← Ny276.out] at ho; have n0_ := Aside0.mk (blk_grown (g := gb268) (o := .cells #[.int .i64 0, .int .i64 0, .int .i64 0, .int .i64 0, .int .i64 0, .slice none 0 0, .slice none 0 0, .slice none 0 0, .int .i64 0] 26 (0, 0)) (bf1 NB268_269 BK268) hg (Kd.R_ne HO_6.out BK268.out (by decide))); have n1_ := Aside0.mk (blk_grown (g := gb269) (o := .cells #[.int .i64 x0_5, .int .i64 2000000, .int .i64 2000, .int .i64 1000, .int .i64 500, .slice Ao20 y273.length co20, .slice none 0 0, .slice none 0 0, .int .i64 8] 26 (0, 0)) (by (with_reducible repeat (first | refine blk_drewN ?_ _ | refine blk_drew ?_ | refine blk_alloc ?_ _)); refine blk_put (cs := #[.int .i64 x0_5, .int .i64 2000000, .int .i64 2000, .int .i64 1000, .int .i64 500, u270005, .slice none 0 0, .slice none 0 0, .int .i64 8]) ?_ 5 _ rt; (with_reducible repeat (first | refine blk_drewN ?_ _ | refine blk_drew ?_ | refine blk_alloc ?_ _)); exact BK269.out) hg (Kd.R_ne HO_6.out BK269.out (by decide))); have n2_ := Aside0.mk (Kd.S_over' (by (with_reducible repeat (first | apply Kd.S_alloc | apply Kd.S_drewN | apply Kd.S_drew)); exact (Kd.S_mono (Kd.S_far (p := ⟨gb269, 5, none⟩) (Kd.S_types HO275.out BK269.out (by decide)) (fun _ hk => hk.2) (.slice Ao20 y273.length co20)) (fun _ h_ => h_.1))) (Kd.R_typed (by (with_reducible repeat (first | apply Kd.R_alloc | apply Kd.R_drewN | apply Kd.R_drew)); exact (Kd.R_mono (Kd.R_far (p := ⟨gb269, 5, none⟩) (Kd.R_types HO_6.out BK269.out (by decide)) (fun _ hk => hk.2) (.slice Ao20 y273.length co20)) (fun _ h_ => h_.1)))) (by decide) hg); have n3_ := Aside0.mk (hb); have n4_ := Aside0.mk (ho); clear BK268; clear BK269; clear HO275; clear HB; clear HO_6; have BK268 := n0_; have BK269 := n1_; have HO275 := n2_; have HB := n3_; have HO278 := n4_; clear n0_ n1_ n2_ n3_ n4_; clear ho hb hg hat))
          go_roundg k3
          case measure => have := HJ2.out; have := HJ5.out; have := HK3.out; omega
          case rel => exact ⟨(y276), (wrap64 (x7_3 + 1)), (y273), (.slice Ao20 y273.length co20), rs, H', ⟨by have := HJ2.out; have := HJ5.out; have := HK3.out; omega⟩, ⟨by (with_reducible repeat (first | apply Kd.R_alloc | apply Kd.R_drewN | apply Kd.R_drew)); exact HO278.out⟩, ⟨by (with_reducible repeat (first | apply Kd.S_alloc | apply Kd.S_drewN | apply Kd.S_drew)); exact HO275.out⟩, ⟨bk BK268⟩, ⟨bk BK269⟩, ⟨bw2 HB GE268 GE269⟩⟩
         ·rw [if_neg c13] at H
          exact absurd H (by simp)
        ·rw [if_neg c12] at H
         exact absurd H (by simp)
       ·rw [if_neg c11] at H
        have c11b0 : decide (x7_3 < x0_5) = false := decide_eq_false c11
        clear c11
        have H' := Aside0.mk H
        clear H
        go_wp2
        (try simp only [Act.put, sT, sZ, sS])
        go_loopg [8] k3 (fun kq v8 w' => ∃ (x8_4 : Int) (x270006_4 : List (S40)) (u270006 : Value), v8 = .int .i64 x8_4 ∧ Aside0 (tocsinref08_Family.l1 kq x0_5 a1 x6_3 x8_4 x0_5 2000000 2000 1000 500 x270005_3 x270006_4 8 = some (r1, r2, r3, r4, r5, r6, r7, r8, r9)) ∧ Aside0 (kq ≤ k3) ∧ Aside0 (Kd.R (Kd.int .i64) 3 w' w.heap.size (fun _ => True) u6 x6_3) ∧ Aside0 (Kd.S (Kd.slice 2 (Kd.int .i64)) 66 w' w.heap.size (fun _ => True) u270005 x270005_3) ∧ Aside0 (Kd.R k40 40 w' w.heap.size (fun _ => True) u270006 x270006_4) ∧ Aside0 (w'.heap[gb268]? = some (.cells #[.int .i64 0, .int .i64 0, .int .i64 0, .int .i64 0, .int .i64 0, (.slice none 0 0), (.slice none 0 0), (.slice none 0 0), .int .i64 0] 26 (0, 0))) ∧ Aside0 (w'.heap[gb269]? = some (.cells #[.int .i64 x0_5, .int .i64 2000000, .int .i64 2000, .int .i64 1000, .int .i64 500, u270005, u270006, (.slice none 0 0), .int .i64 8] 26 (0, 0))) ∧ Aside0 (Below w.heap.size w w'))
        case atStart => exact ⟨(0), (([] : List (S40))), (.slice none 0 0), rs, H', ⟨Nat.le_refl _⟩, ⟨by (with_reducible repeat (first | apply Kd.R_alloc | apply Kd.R_drewN | apply Kd.R_drew)); exact HO_6.out⟩, ⟨by (with_reducible repeat (first | apply Kd.S_alloc | apply Kd.S_drewN | apply Kd.S_drew)); exact HO_270005.out⟩, ⟨by first | exact Kd.R_nil _ _ _ _ _ | exact Kd.N_nil _ _ _ _ _ | exact Kd.V_nil _ _ _ _ _ | exact Kd.Q_nil _ _ _ _ _ | exact Kd.S_nil _ _ _ _ _⟩, ⟨bk BK268⟩, ⟨bk BK269⟩, ⟨bw2 HB GE268 GE269⟩⟩
        case round =>
         clear H'
         try clear c1
         try clear c2
         try clear p2
         try clear c5
         try clear c5b0
         try clear p6
         try clear c7
         try clear c7b0
         try clear c9
         try clear c11
         try clear c11b0
         try clear c12
         try clear c13
         try clear c14
         try clear hcz10_0 hcz10_1 hcz10_2 hcz10_3 hcz10_4 hcz10_5 hcz10_6 hcz10_7 hcz10_8
         try clear hcz15_0 hcz15_1 hcz15_2 hcz15_3 hcz15_4 hcz15_5 hcz15_6 hcz15_7 hcz15_8
         try clear hcz21_0 hcz21_1 hcz21_2 hcz21_3 hcz21_4 hcz21_5 hcz21_6 hcz21_7 hcz21_8
         try clear hfz10_0 hfz10_1 hfz10_2 hfz10_3 hfz10_4 hfz10_5 hfz10_6 hfz10_7 hfz10_8
         try clear hfz15_0 hfz15_1 hfz15_2 hfz15_3 hfz15_4 hfz15_5 hfz15_6 hfz15_7 hfz15_8
         try clear hfz21_0 hfz21_1 hfz21_2 hfz21_3 hfz21_4 hfz21_5 hfz21_6 hfz21_7 hfz21_8
         try clear p2
         obtain ⟨x8_4, x270006_4, u270006, rfl, HA, HK4, HO_6, HO_270005, HO_270006, BK268, BK269, HB⟩ := hrel
         cases gk with
         | zero => exact absurd HA.out (by simp [tocsinref08_Family.l1])
         | succ k4 =>
          have H := HA.out
          clear HA
          simp only [tocsinref08_Family.l1] at H
          have HC23 := Aside0.mk H
          clear H
          go_upto_region 13 with (fail)
          go_cut [48] (fun v48 wc => ∃ (kq : Nat) (x48_22 : Bool), v48 = .bool x48_22 ∧ Aside0 (tocsinref08_Family.j4 kq x0_5 a1 x6_3 x8_4 x48_22 x0_5 2000000 2000 1000 500 x270005_3 x270006_4 8 = some (r1, r2, r3, r4, r5, r6, r7, r8, r9)) ∧ Aside0 (kq ≤ k4) ∧ Aside0 (Kd.R (Kd.int .i64) 3 wc w.heap.size (fun _ => True) u6 x6_3) ∧ Aside0 (Kd.S (Kd.slice 2 (Kd.int .i64)) 66 wc w.heap.size (fun _ => True) u270005 x270005_3) ∧ Aside0 (Kd.R k40 40 wc w.heap.size (fun _ => True) u270006 x270006_4) ∧ Aside0 (wc.heap[gb268]? = some (.cells #[.int .i64 0, .int .i64 0, .int .i64 0, .int .i64 0, .int .i64 0, (.slice none 0 0), (.slice none 0 0), (.slice none 0 0), .int .i64 0] 26 (0, 0))) ∧ Aside0 (wc.heap[gb269]? = some (.cells #[.int .i64 x0_5, .int .i64 2000000, .int .i64 2000, .int .i64 1000, .int .i64 500, u270005, u270006, (.slice none 0 0), .int .i64 8] 26 (0, 0))) ∧ Aside0 (Below w.heap.size w wc))
          case first =>
           have H := HC23.out
           clear HC23
           by_cases c24 : x8_4 < a1
           ·rw [if_pos c24] at H
            have c24b0 : decide (x8_4 < a1) = true := decide_eq_true c24
            clear c24
            (first | rw [c24b0] | (simp only [i64_w, i32_w]; rw [c24b0]) | skip)
            by_cases c25 : x8_4 < 16
            ·rw [if_pos c25] at H
             have c25b0 : decide (x8_4 < 16) = true := decide_eq_true c25
             clear c25
             have H' := Aside0.mk H
             clear H
             go_wp2
             go_meet
             case rel => exact ⟨_, (decide (x0_5 > 1)), rs, H', ⟨by have := HJ2.out; have := HJ5.out; have := HK3.out; have := HK4.out; first | omega | exact Nat.le_refl _⟩, ⟨by (with_reducible repeat (first | apply Kd.R_alloc | apply Kd.R_drewN | apply Kd.R_drew)); exact HO_6.out⟩, ⟨by (with_reducible repeat (first | apply Kd.S_alloc | apply Kd.S_drewN | apply Kd.S_drew)); exact HO_270005.out⟩, ⟨by (with_reducible repeat (first | apply Kd.R_alloc | apply Kd.R_drewN | apply Kd.R_drew)); exact HO_270006.out⟩, ⟨bk BK268⟩, ⟨bk BK269⟩, ⟨bw2 HB GE268 GE269⟩⟩
            ·rw [if_neg c25] at H
             have c25b0 : decide (x8_4 < 16) = false := decide_eq_false c25
             clear c25
             have H' := Aside0.mk H
             clear H
             go_wp2
             go_meet
             case rel => exact ⟨_, (false), rs, H', ⟨by have := HJ2.out; have := HJ5.out; have := HK3.out; have := HK4.out; first | omega | exact Nat.le_refl _⟩, ⟨by (with_reducible repeat (first | apply Kd.R_alloc | apply Kd.R_drewN | apply Kd.R_drew)); exact HO_6.out⟩, ⟨by (with_reducible repeat (first | apply Kd.S_alloc | apply Kd.S_drewN | apply Kd.S_drew)); exact HO_270005.out⟩, ⟨by (with_reducible repeat (first | apply Kd.R_alloc | apply Kd.R_drewN | apply Kd.R_drew)); exact HO_270006.out⟩, ⟨bk BK268⟩, ⟨bk BK269⟩, ⟨bw2 HB GE268 GE269⟩⟩
           ·rw [if_neg c24] at H
            have c24b0 : decide (x8_4 < a1) = false := decide_eq_false c24
            clear c24
            (first | rw [c24b0] | (simp only [i64_w, i32_w]; rw [c24b0]) | skip)
            have H' := Aside0.mk H
            clear H
            go_wp2
            go_meet
            case rel => exact ⟨_, (false), rs, H', ⟨by have := HJ2.out; have := HJ5.out; have := HK3.out; have := HK4.out; first | omega | exact Nat.le_refl _⟩, ⟨by (with_reducible repeat (first | apply Kd.R_alloc | apply Kd.R_drewN | apply Kd.R_drew)); exact HO_6.out⟩, ⟨by (with_reducible repeat (first | apply Kd.S_alloc | apply Kd.S_drewN | apply Kd.S_drew)); exact HO_270005.out⟩, ⟨by (with_reducible repeat (first | apply Kd.R_alloc | apply Kd.R_drewN | apply Kd.R_drew)); exact HO_270006.out⟩, ⟨bk BK268⟩, ⟨bk BK269⟩, ⟨bw2 HB GE268 GE269⟩⟩
          case rest =>
           clear HC23
           try clear c1
           try clear c2
           try clear p2
           try clear c5
           try clear c5b0
           try clear p6
           try clear c7
           try clear c7b0
           try clear c9
           try clear c11
           try clear c11b0
           try clear c12
           try clear c13
           try clear c14
           try clear c24
           try clear c24b0
           try clear c25
           try clear c25b0
           try clear hcz10_0 hcz10_1 hcz10_2 hcz10_3 hcz10_4 hcz10_5 hcz10_6 hcz10_7 hcz10_8
           try clear hcz15_0 hcz15_1 hcz15_2 hcz15_3 hcz15_4 hcz15_5 hcz15_6 hcz15_7 hcz15_8
           try clear hcz21_0 hcz21_1 hcz21_2 hcz21_3 hcz21_4 hcz21_5 hcz21_6 hcz21_7 hcz21_8
           try clear hfz10_0 hfz10_1 hfz10_2 hfz10_3 hfz10_4 hfz10_5 hfz10_6 hfz10_7 hfz10_8
           try clear hfz15_0 hfz15_1 hfz15_2 hfz15_3 hfz15_4 hfz15_5 hfz15_6 hfz15_7 hfz15_8
           try clear hfz21_0 hfz21_1 hfz21_2 hfz21_3 hfz21_4 hfz21_5 hfz21_6 hfz21_7 hfz21_8
           try clear p2
           try clear p6
           obtain ⟨kq, x48_22, rfl, HA, HJ22, HO_6, HO_270005, HO_270006, BK268, BK269, HB⟩ := hcut
           cases kq with
           | zero => exact absurd HA.out (by simp [tocsinref08_Family.j4])
           | succ kj22 =>
            have H := HA.out
            clear HA
            simp only [tocsinref08_Family.j4] at H
            by_cases c26 : x48_22 = true
            ·subst c26
             have H1 : (if x0_5 = 0 then (none) else ((tocsinref07_Of.f kj22 x6_3).bind fun t279 => ((tocsinref07_Of.f kj22 (([Int.tmod x8_4 x0_5] : List Int))).bind fun t283 => (if x270006_4.length < 4398046511104 then (tocsinref08_Family.l1 kj22 x0_5 a1 x6_3 (wrap64 (x8_4 + 1)) x0_5 2000000 2000 1000 500 x270005_3 (x270006_4 ++ [(⟨Int.tmod x8_4 x0_5, (t279 - t283) % 4294967296, wrap64 (10000 + (wrap64 (50000 * x8_4))), wrap64 (64 + x8_4)⟩ : S40)]) 8) else (none))))) = some (r1, r2, r3, r4, r5, r6, r7, r8, r9) := by rw [if_pos rfl] at H; exact H
             clear H
             have H := H1
             clear H1
             by_cases c27 : x0_5 = 0
             ·rw [if_pos c27] at H
              exact absurd H (by simp)
             ·rw [if_neg c27] at H
              have c27b0 : (x0_5 == 0) = false := beq_eq_false_iff_ne.mpr c27
              have c27b1 : (x0_5 != 0) = true := bne_iff_ne.mpr c27
              replace H := Option.bind_eq_some_iff.mp H
              obtain ⟨t279, A280, H⟩ := H
              replace H : ((tocsinref07_Of.f kj22 (([Int.tmod x8_4 x0_5] : List Int))).bind fun t283 => (if x270006_4.length < 4398046511104 then (tocsinref08_Family.l1 kj22 x0_5 a1 x6_3 (wrap64 (x8_4 + 1)) x0_5 2000000 2000 1000 500 x270005_3 (x270006_4 ++ [(⟨Int.tmod x8_4 x0_5, (t279 - t283) % 4294967296, wrap64 (10000 + (wrap64 (50000 * x8_4))), wrap64 (64 + x8_4)⟩ : S40)]) 8) else (none))) = some (r1, r2, r3, r4, r5, r6, r7, r8, r9) := H
              have A28 := Aside0.mk A280
              clear A280
              obtain ⟨y280, hy280⟩ : ∃ y_ : List Int, y_ = (([Int.tmod x8_4 x0_5] : List Int)) := ⟨_, rfl⟩
              replace H : ((tocsinref07_Of.f kj22 y280).bind fun t283 => (if x270006_4.length < 4398046511104 then (tocsinref08_Family.l1 kj22 x0_5 a1 x6_3 (wrap64 (x8_4 + 1)) x0_5 2000000 2000 1000 500 x270005_3 (x270006_4 ++ [(⟨Int.tmod x8_4 x0_5, (t279 - t283) % 4294967296, wrap64 (10000 + (wrap64 (50000 * x8_4))), wrap64 (64 + x8_4)⟩ : S40)]) 8) else (none))) = some (r1, r2, r3, r4, r5, r6, r7, r8, r9) := by first | (rw [hy280]; with_reducible exact H) | (have H2_ := (Option.bind_some _ _).symm.trans H; rw [hy280]; with_reducible exact H2_) | (have H2_ := (Option.bind_some _ _).symm.trans H; with_reducible exact H2_) | with_reducible exact H | (rw [hy280]; exact H) | exact H
              have Ny280 := Aside0.mk hy280
              clear hy280
              replace H := Option.bind_eq_some_iff.mp H
              obtain ⟨t283, A290, H⟩ := H
              replace H : (if x270006_4.length < 4398046511104 then (tocsinref08_Family.l1 kj22 x0_5 a1 x6_3 (wrap64 (x8_4 + 1)) x0_5 2000000 2000 1000 500 x270005_3 (x270006_4 ++ [(⟨Int.tmod x8_4 x0_5, (t279 - t283) % 4294967296, wrap64 (10000 + (wrap64 (50000 * x8_4))), wrap64 (64 + x8_4)⟩ : S40)]) 8) else (none)) = some (r1, r2, r3, r4, r5, r6, r7, r8, r9) := H
              have A29 := Aside0.mk A290
              clear A290
              by_cases c30 : x270006_4.length < 4398046511104
              ·rw [if_pos c30] at H
               have LMc30 := Aside0.mk c30
               clear c30
               obtain ⟨y284, hy284⟩ : ∃ y_ : List (S40), y_ = (x270006_4 ++ [(⟨Int.tmod x8_4 x0_5, (t279 - t283) % 4294967296, wrap64 (10000 + (wrap64 (50000 * x8_4))), wrap64 (64 + x8_4)⟩ : S40)]) := ⟨_, rfl⟩
               replace H : (tocsinref08_Family.l1 kj22 x0_5 a1 x6_3 (wrap64 (x8_4 + 1)) x0_5 2000000 2000 1000 500 x270005_3 y284 8) = some (r1, r2, r3, r4, r5, r6, r7, r8, r9) := by first | (rw [hy284]; with_reducible exact H) | (have H2_ := (Option.bind_some _ _).symm.trans H; rw [hy284]; with_reducible exact H2_) | (have H2_ := (Option.bind_some _ _).symm.trans H; with_reducible exact H2_) | with_reducible exact H | (rw [hy284]; exact H) | exact H
               have Ny284 := Aside0.mk hy284
               clear hy284
               have H' := Aside0.mk H
               clear H
               obtain ⟨Ao31, co31, eo31⟩ := Kd.R_slice HO_6.out
               subst eo31
               obtain ⟨Ao32, co32, eo32⟩ := Kd.R_slice HO_270006.out
               subst eo32
               try go_wp2
               have n0_ := Aside0.mk (Kd.R_drew HO_6.out)
               have n1_ := Aside0.mk (Kd.S_drew HO_270005.out)
               have n2_ := Aside0.mk (Kd.R_drew HO_270006.out)
               have n3_ := Aside0.mk (blk_drew BK268.out)
               have n4_ := Aside0.mk (blk_drew BK269.out)
               have n5_ := Aside0.mk (below_drew1 HB.out)
               clear HO_6
               clear HO_270005
               clear HO_270006
               clear BK268
               clear BK269
               clear HB
               have HO_6 := n0_
               have HO_270005 := n1_
               have HO_270006 := n2_
               have BK268 := n3_
               have BK269 := n4_
               have HB := n5_
               clear n0_ n1_ n2_ n3_ n4_ n5_
               refine start_ (n := 19) (S := fun w' => w'.cell? ⟨gb269, 0, none⟩ = some (.int .i64 x0_5) ∧ w'.cell? ⟨gb269, 1, none⟩ = some (.int .i64 2000000) ∧ w'.cell? ⟨gb269, 2, none⟩ = some (.int .i64 2000) ∧ w'.cell? ⟨gb269, 3, none⟩ = some (.int .i64 1000) ∧ w'.cell? ⟨gb269, 4, none⟩ = some (.int .i64 500) ∧ w'.cell? ⟨gb269, 5, none⟩ = some (u270005) ∧ w'.cell? ⟨gb269, 6, none⟩ = some (.slice Ao32 x270006_4.length co32) ∧ w'.cell? ⟨gb269, 7, none⟩ = some (.slice none 0 0) ∧ w'.cell? ⟨gb269, 8, none⟩ = some (.int .i64 8)) (ds := [18]) #[false, false, false, false, false, false, false, false, false, false, false, false, false, false, false, false, false, false, false] (by kernel_rfl) rfl rfl (by exact bc9 BK269) (fun hHeld => ?_); refine with_tabW tocsinref08_Family.tab16 tocsinref08_Family.bits16 (fun HT_ HW_ => ?_)
               generalize wc.drew = w33 at HO_6 HO_270005 HO_270006 BK268 BK269 HB hHeld ⊢
               refine pl 0 54 #[true, false, false, false, false, false, false, false, false, false, false, false, false, false, false, false, false, false, false] HT_ ?_
               refine pl 2 56 #[true, false, true, false, false, false, false, false, false, false, false, false, false, false, false, false, false, false, false] HT_ ?_
               refine pl 3 57 #[true, false, true, true, false, false, false, false, false, false, false, false, false, false, false, false, false, false, false] HT_ ?_
               refine pl 5 59 #[true, false, true, true, false, true, false, false, false, false, false, false, false, false, false, false, false, false, false] HT_ ?_
               refine pl 9 63 #[true, false, true, true, false, true, false, false, false, true, false, false, false, false, false, false, false, false, false] HT_ ?_
               refine pl 10 64 #[true, false, true, true, false, true, false, false, false, true, true, false, false, false, false, false, false, false, false] HT_ ?_
               refine pl 11 65 #[true, false, true, true, false, true, false, false, false, true, true, true, false, false, false, false, false, false, false] HT_ ?_
               refine pl 12 66 #[true, false, true, true, false, true, false, false, false, true, true, true, true, false, false, false, false, false, false] HT_ ?_
               refine pl 13 67 #[true, false, true, true, false, true, false, false, false, true, true, true, true, true, false, false, false, false, false] HT_ ?_
               refine tk9 1 55 #[true, true, true, true, false, true, false, false, false, true, true, true, true, true, false, false, false, false, false] HT_ HW_ hHeld ?_
               refine join_ (σ := Value) 7 #[true, true, true, true, true, true, true, false, false, true, true, true, true, true, false, false, false, false, false] (fun s_ => [(58, .int .u32 t279), (60, s_)]) (fun s_ w' => (w'.cell? ⟨gb269, 0, none⟩ = some (.int .i64 x0_5) ∧ w'.cell? ⟨gb269, 1, none⟩ = some (.int .i64 2000000) ∧ w'.cell? ⟨gb269, 2, none⟩ = some (.int .i64 2000) ∧ w'.cell? ⟨gb269, 3, none⟩ = some (.int .i64 1000) ∧ w'.cell? ⟨gb269, 4, none⟩ = some (.int .i64 500) ∧ w'.cell? ⟨gb269, 5, none⟩ = some (u270005) ∧ w'.cell? ⟨gb269, 6, none⟩ = some (.slice Ao32 x270006_4.length co32) ∧ w'.cell? ⟨gb269, 7, none⟩ = some (.slice none 0 0) ∧ w'.cell? ⟨gb269, 8, none⟩ = some (.int .i64 8)) ∧ (Kd.R (Kd.int .i64) 3 w' w.heap.size (fun k_ => some k_ ≠ (.slice Ao31 x6_3.length co31 : Value).ownBlock) s_ y280) ∧ (Kd.S (Kd.slice 2 (Kd.int .i64)) 66 w' w.heap.size (fun _ => True) u270005 x270005_3) ∧ (Kd.R k40 40 w' w.heap.size (fun _ => True) (.slice Ao32 x270006_4.length co32) x270006_4) ∧ (Kd.R (Kd.int .i64) 3 w' w.heap.size (fun k_ => some k_ ≠ (s_ : Value).ownBlock) (.slice Ao31 x6_3.length co31) x6_3) ∧ (w'.heap[gb268]? = some (.cells #[.int .i64 0, .int .i64 0, .int .i64 0, .int .i64 0, .int .i64 0, .slice none 0 0, .slice none 0 0, .slice none 0 0, .int .i64 0] 26 (0, 0))) ∧ (w'.heap[gb269]? = some (.cells #[.int .i64 x0_5, .int .i64 2000000, .int .i64 2000, .int .i64 1000, .int .i64 500, u270005, .slice Ao32 x270006_4.length co32, .slice none 0 0, .int .i64 8] 26 (0, 0))) ∧ (Below w.heap.size w w')) ?_ ?_
               rotate_left
               ·intro hCont
                refine two_ (i := 4) (j := 6) (Ni := some 58) (Nj := some 60) #[true, true, true, true, true, true, false, false, false, true, true, true, true, true, false, false, false, false, false] #[true, true, true, true, false, true, true, false, false, true, true, true, true, true, false, false, false, false, false] rfl rfl rfl rfl (two_of HT_.out (by kernel_rfl)) (by decide) (by decide) (fun K hK => ?_) (fun K hK => ?_)
                ·skip
                 refine gor Try.func44 #[.slice Ao31 x6_3.length co31] ?_
                 with_reducible refine (tocsinref07_Of.calls kj22 _ _ x6_3 t279 _ ?side1 ?side2 A28.out).mono ?_
                 (case side1 => repeat (first | exact (Kd.R_reads' HO_6.out).2.2 | (with_reducible refine Kd.C_alloc ?_ _) | (with_reducible refine Kd.C_drewN ?_ _) | (with_reducible refine Kd.C_drew ?_)))
                 (case side2 => exact (Kd.R_reads' HO_6.out).2.1)
                 rintro e w' ⟨rfl, ⟨nd, rfl⟩⟩
                 refine ⟨_, rfl, ?_⟩
                 refine hK.out _ _ (by exact bc9 BK269) (fun hHeld => ?_)
                 clear hK K
                 refine norm_ (a' := ?_) ?_ ?_
                 rotate_left
                 ·show Act.put _ (some 58) _ = _
                  simp only [Act.put, sT, sZ, sS, i64_w, i32_w]
                  rfl
                 refine one_ (i := 6) (N := some 60) #[true, true, true, true, true, true, true, false, false, true, true, true, true, true, false, false, false, false, false] rfl rfl (one_of HT_.out (by kernel_rfl)) (by decide) (fun K hK => ?_)
                 refine Kd.R_lit_step (Kd.int .i64) _ 3 ?hg (N := 60) ?hd (xs := ([Int.tmod x8_4 x0_5] : List Int)) (inner := [.int .i64 (Int.tmod x8_4 x0_5)]) (ok := fun _ => True) (okp := fun _ => True) ?hr ?hp (fun _ hk => hk) trivial (Below.refl _ _) (Nat.le_refl _) (by simp) ?_; (case hd => rfl); (case hg => rfl); (case hr => first | (go_simp; done) | (go_simp; rfl)); (case hp => exact (Reps.one (show Kd.M (Kd.int .i64) _ _ _ (Int.tmod x8_4 x0_5) [.int .i64 (Int.tmod x8_4 x0_5)] from rfl) (Reps.none _ _)))
                 intro v281 w34 ho35 hb hg_ hnew_
                 clear hg_ hnew_
                 (first | rw [← Ny280.out] at ho35 | (simp only [Int.reduceToNat] at ho35; rw [← Ny280.out] at ho35))
                 have n0_ := Aside0.mk (Kd.R_elder' (by (with_reducible repeat (first | apply Kd.R_alloc | apply Kd.R_drewN | apply Kd.R_drew)); exact HO_6.out) (Kd.R_base ho35) hb)
                 have n1_ := Aside0.mk (Kd.S_below (by (with_reducible repeat (first | apply Kd.S_alloc | apply Kd.S_drewN | apply Kd.S_drew)); exact HO_270005.out) hb)
                 have n2_ := Aside0.mk (Kd.R_below (by (with_reducible repeat (first | apply Kd.R_alloc | apply Kd.R_drewN | apply Kd.R_drew)); exact HO_270006.out) hb)
                 have n3_ := Aside0.mk (Kd.R_lower (Kd.R_new' ho35 (Kd.R_lt (by (with_reducible repeat (first | apply Kd.R_alloc | apply Kd.R_drewN | apply Kd.R_drew)); exact HO_6.out))) (below_size (bw2 HB GE268 GE269)))
                 have n4_ := bb BK268 hb
                 have n5_ := bb BK269 hb
                 have n6_ := bs2 HB GE268 GE269 hb
                 clear HO_6
                 clear HO_270005
                 clear HO_270006
                 clear BK268
                 clear BK269
                 clear HB
                 have HO_6 := n0_
                 have HO_270005 := n1_
                 have HO_270006 := n2_
                 have HO282 := n3_
                 have BK268 := n4_
                 have BK269 := n5_
                 have HB := n6_
                 clear n0_ n1_ n2_ n3_ n4_ n5_ n6_
                 clear hb ho35
                 refine hK.out _ _ (by exact bc9 BK269) (fun hHeld => ?_)
                 clear hK K
                 refine norm_ (a' := ?_) ?_ ?_
                 rotate_left
                 ·show Act.put _ (some 60) _ = _
                  simp only [Act.put, sT, sZ, sS, i64_w, i32_w]
                  rfl
                 exact norm_ (by simp only [putAll, Act.put, sT, sZ, sS]) (hCont (v281) _ ⟨hHeld, (by (with_reducible repeat (first | apply Kd.R_alloc | apply Kd.R_drewN | apply Kd.R_drew)); exact Kd.R_mono HO282.out (fun _ hk => hk.2)), (by (with_reducible repeat (first | apply Kd.S_alloc | apply Kd.S_drewN | apply Kd.S_drew)); exact HO_270005.out), (by (with_reducible repeat (first | apply Kd.R_alloc | apply Kd.R_drewN | apply Kd.R_drew)); exact HO_270006.out), (by (with_reducible repeat (first | apply Kd.R_alloc | apply Kd.R_drewN | apply Kd.R_drew)); exact Kd.R_mono HO_6.out (fun _ hk => hk.2)), (bk BK268), (bk BK269), (bw2 HB GE268 GE269)⟩)
                ·skip
                 refine Kd.R_lit_step (Kd.int .i64) _ 3 ?hg (N := 60) ?hd (xs := ([Int.tmod x8_4 x0_5] : List Int)) (inner := [.int .i64 (Int.tmod x8_4 x0_5)]) (ok := fun _ => True) (okp := fun _ => True) ?hr ?hp (fun _ hk => hk) trivial (Below.refl _ _) (Nat.le_refl _) (by simp) ?_; (case hd => rfl); (case hg => rfl); (case hr => first | (go_simp; done) | (go_simp; rfl)); (case hp => exact (Reps.one (show Kd.M (Kd.int .i64) _ _ _ (Int.tmod x8_4 x0_5) [.int .i64 (Int.tmod x8_4 x0_5)] from rfl) (Reps.none _ _)))
                 intro v281 w34 ho35 hb hg_ hnew_
                 clear hg_ hnew_
                 (first | rw [← Ny280.out] at ho35 | (simp only [Int.reduceToNat] at ho35; rw [← Ny280.out] at ho35))
                 have n0_ := Aside0.mk (Kd.R_elder' (by (with_reducible repeat (first | apply Kd.R_alloc | apply Kd.R_drewN | apply Kd.R_drew)); exact HO_6.out) (Kd.R_base ho35) hb)
                 have n1_ := Aside0.mk (Kd.S_below (by (with_reducible repeat (first | apply Kd.S_alloc | apply Kd.S_drewN | apply Kd.S_drew)); exact HO_270005.out) hb)
                 have n2_ := Aside0.mk (Kd.R_below (by (with_reducible repeat (first | apply Kd.R_alloc | apply Kd.R_drewN | apply Kd.R_drew)); exact HO_270006.out) hb)
                 have n3_ := Aside0.mk (Kd.R_lower (Kd.R_new' ho35 (Kd.R_lt (by (with_reducible repeat (first | apply Kd.R_alloc | apply Kd.R_drewN | apply Kd.R_drew)); exact HO_6.out))) (below_size (bw2 HB GE268 GE269)))
                 have n4_ := bb BK268 hb
                 have n5_ := bb BK269 hb
                 have n6_ := bs2 HB GE268 GE269 hb
                 clear HO_6
                 clear HO_270005
                 clear HO_270006
                 clear BK268
                 clear BK269
                 clear HB
                 have HO_6 := n0_
                 have HO_270005 := n1_
                 have HO_270006 := n2_
                 have HO282 := n3_
                 have BK268 := n4_
                 have BK269 := n5_
                 have HB := n6_
                 clear n0_ n1_ n2_ n3_ n4_ n5_ n6_
                 clear hb ho35
                 refine hK.out _ _ (by exact bc9 BK269) (fun hHeld => ?_)
                 clear hK K
                 refine norm_ (a' := ?_) ?_ ?_
                 rotate_left
                 ·show Act.put _ (some 60) _ = _
                  simp only [Act.put, sT, sZ, sS, i64_w, i32_w]
                  rfl
                 refine one_ (i := 4) (N := some 58) #[true, true, true, true, true, true, true, false, false, true, true, true, true, true, false, false, false, false, false] rfl rfl (one_of HT_.out (by kernel_rfl)) (by decide) (fun K hK => ?_)
                 refine gor Try.func44 #[.slice Ao31 x6_3.length co31] ?_
                 with_reducible refine (tocsinref07_Of.calls kj22 _ _ x6_3 t279 _ ?side1 ?side2 A28.out).mono ?_
                 (case side1 => repeat (first | exact (Kd.R_reads' HO_6.out).2.2 | (with_reducible refine Kd.C_alloc ?_ _) | (with_reducible refine Kd.C_drewN ?_ _) | (with_reducible refine Kd.C_drew ?_)))
                 (case side2 => exact (Kd.R_reads' HO_6.out).2.1)
                 rintro e w' ⟨rfl, ⟨nd, rfl⟩⟩
                 refine ⟨_, rfl, ?_⟩
                 refine hK.out _ _ (by exact bc9 BK269) (fun hHeld => ?_)
                 clear hK K
                 refine norm_ (a' := ?_) ?_ ?_
                 rotate_left
                 ·show Act.put _ (some 58) _ = _
                  simp only [Act.put, sT, sZ, sS, i64_w, i32_w]
                  rfl
                 exact norm_ (by simp only [putAll, Act.put, sT, sZ, sS]) (hCont (v281) _ ⟨hHeld, (by (with_reducible repeat (first | apply Kd.R_alloc | apply Kd.R_drewN | apply Kd.R_drew)); exact Kd.R_mono HO282.out (fun _ hk => hk.2)), (by (with_reducible repeat (first | apply Kd.S_alloc | apply Kd.S_drewN | apply Kd.S_drew)); exact HO_270005.out), (by (with_reducible repeat (first | apply Kd.R_alloc | apply Kd.R_drewN | apply Kd.R_drew)); exact HO_270006.out), (by (with_reducible repeat (first | apply Kd.R_alloc | apply Kd.R_drewN | apply Kd.R_drew)); exact Kd.R_mono HO_6.out (fun _ hk => hk.2)), (bk BK268), (bk BK269), (bw2 HB GE268 GE269)⟩)
               rintro v281 w36 ⟨hS_, h0_, h1_, h2_, h3_, h4_, h5_, h6_⟩
               have n0_ : Aside0 (Kd.R (Kd.int .i64) 3 w36 w.heap.size (fun k_ => some k_ ≠ (.slice Ao31 x6_3.length co31 : Value).ownBlock) v281 y280) := ⟨h0_⟩
               have n1_ : Aside0 (Kd.S (Kd.slice 2 (Kd.int .i64)) 66 w36 w.heap.size (fun _ => True) u270005 x270005_3) := ⟨h1_⟩
               have n2_ : Aside0 (Kd.R k40 40 w36 w.heap.size (fun _ => True) (.slice Ao32 x270006_4.length co32) x270006_4) := ⟨h2_⟩
               have n3_ : Aside0 (Kd.R (Kd.int .i64) 3 w36 w.heap.size (fun k_ => some k_ ≠ (v281 : Value).ownBlock) (.slice Ao31 x6_3.length co31) x6_3) := ⟨h3_⟩
               have n4_ : Aside0 (w36.heap[gb268]? = some (.cells #[.int .i64 0, .int .i64 0, .int .i64 0, .int .i64 0, .int .i64 0, .slice none 0 0, .slice none 0 0, .slice none 0 0, .int .i64 0] 26 (0, 0))) := ⟨h4_⟩
               have n5_ : Aside0 (w36.heap[gb269]? = some (.cells #[.int .i64 x0_5, .int .i64 2000000, .int .i64 2000, .int .i64 1000, .int .i64 500, u270005, .slice Ao32 x270006_4.length co32, .slice none 0 0, .int .i64 8] 26 (0, 0))) := ⟨h5_⟩
               have n6_ : Aside0 (Below w.heap.size w w36) := ⟨h6_⟩
               clear HO_6
               clear HO_270005
               clear HO_270006
               clear BK268
               clear BK269
               clear HB
               clear h0_ h1_ h2_ h3_ h4_ h5_ h6_
               have HO282 := n0_
               have HO_270005 := n1_
               have HO_270006 := n2_
               have HO_6 := n3_
               have BK268 := n4_
               have BK269 := n5_
               have HB := n6_
               clear n0_ n1_ n2_ n3_ n4_ n5_ n6_
               have hHeld : w36.cell? ⟨gb269, 0, none⟩ = some (.int .i64 x0_5) ∧ w36.cell? ⟨gb269, 1, none⟩ = some (.int .i64 2000000) ∧ w36.cell? ⟨gb269, 2, none⟩ = some (.int .i64 2000) ∧ w36.cell? ⟨gb269, 3, none⟩ = some (.int .i64 1000) ∧ w36.cell? ⟨gb269, 4, none⟩ = some (.int .i64 500) ∧ w36.cell? ⟨gb269, 5, none⟩ = some (u270005) ∧ w36.cell? ⟨gb269, 6, none⟩ = some (.slice Ao32 x270006_4.length co32) ∧ w36.cell? ⟨gb269, 7, none⟩ = some (.slice none 0 0) ∧ w36.cell? ⟨gb269, 8, none⟩ = some (.int .i64 8) := hS_
               obtain ⟨Ao37, co37, eo37⟩ := Kd.R_slice HO282.out
               (first | subst eo37 | (injection eo37 with f1_ f2_ f3_; have f4_ := f1_.symm; have f5_ := f3_.symm; clear f1_ f2_ f3_; subst f4_; subst f5_))
               refine norm_ (a' := ?_) ?_ ?_
               rotate_left
               ·simp only [putAll, Act.put, sT, sZ, sS]
                rfl
               refine one_ (i := 7) (N := some 61) #[true, true, true, true, true, true, true, true, false, true, true, true, true, true, false, false, false, false, false] rfl rfl (one_of HT_.out (by kernel_rfl)) (by decide) (fun K hK => ?_)
               refine gor Try.func44 #[.slice Ao37 y280.length co37] ?_
               with_reducible refine (tocsinref07_Of.calls kj22 _ _ y280 t283 _ ?side1 ?side2 A29.out).mono ?_
               (case side1 => repeat (first | exact (Kd.R_reads' HO282.out).2.2 | (with_reducible refine Kd.C_alloc ?_ _) | (with_reducible refine Kd.C_drewN ?_ _) | (with_reducible refine Kd.C_drew ?_)))
               (case side2 => exact (Kd.R_reads' HO282.out).2.1)
               rintro e w' ⟨rfl, ⟨nd, rfl⟩⟩
               refine ⟨_, rfl, ?_⟩
               refine hK.out _ _ (by exact bc9 BK269) (fun hHeld => ?_)
               clear hK K
               refine norm_ (a' := ?_) ?_ ?_
               rotate_left
               ·show Act.put _ (some 61) _ = _
                simp only [Act.put, sT, sZ, sS, i64_w, i32_w]
                rfl
               refine pl 8 62 #[true, true, true, true, true, true, true, true, true, true, true, true, true, true, false, false, false, false, false] HT_ ?_
               refine pl 14 68 #[true, true, true, true, true, true, true, true, true, true, true, true, true, true, true, false, false, false, false] HT_ ?_
               refine one_ (i := 15) (N := some 69) #[true, true, true, true, true, true, true, true, true, true, true, true, true, true, true, true, false, false, false] rfl rfl (one_of HT_.out (by kernel_rfl)) (by decide) (fun K hK => ?_)
               refine value_ (w1 := ?_) (v := ?_) (by rfl) rfl ?_ ?_
               rotate_left 2
               ·go_simp
                constructor
                ·rfl
                ·rfl
               refine hK.out _ _ ⟨(blk_cell (blk_alloc BK269.out _) 0).trans rfl, (blk_cell (blk_alloc BK269.out _) 1).trans rfl, (blk_cell (blk_alloc BK269.out _) 2).trans rfl, (blk_cell (blk_alloc BK269.out _) 3).trans rfl, (blk_cell (blk_alloc BK269.out _) 4).trans rfl, (blk_cell (blk_alloc BK269.out _) 5).trans rfl, (blk_cell (blk_alloc BK269.out _) 6).trans rfl, (blk_cell (blk_alloc BK269.out _) 7).trans rfl, (blk_cell (blk_alloc BK269.out _) 8).trans rfl⟩ (fun hHeld => ?_)
               clear hK K
               refine norm_ (a' := ?_) ?_ ?_
               rotate_left
               ·show Act.put _ (some 69) _ = _
                simp only [Act.put, sT, sZ, sS, i64_w, i32_w]
                rfl
               refine one_ (i := 16) (N := some 70) #[true, true, true, true, true, true, true, true, true, true, true, true, true, true, true, true, true, false, false] rfl rfl (one_of HT_.out (by kernel_rfl)) (by decide) (fun K hK => ?_)
               refine Kd.R_append_step k40 (w0 := w) w.heap.size (by rfl) (.tmp 55) (.tmp 69) 23 40 (.agg #[(.int .i64 0), (.int .u32 0), (.int .i64 0), (.int .i64 0)]) 32 rfl Try.underlying23 info40 rfl (by decide) (by omega) (.slice Ao32 x270006_4.length co32) x270006_4 (⟨Int.tmod x8_4 x0_5, (t279 - t283) % 4294967296, wrap64 (10000 + (wrap64 (50000 * x8_4))), wrap64 (64 + x8_4)⟩ : S40) [.int .i64 (Int.tmod x8_4 x0_5), .int .u32 ((t279 - t283) % 4294967296), .int .i64 (wrap64 (10000 + (wrap64 (50000 * x8_4)))), .int .i64 (wrap64 (64 + x8_4))] (fun _ => True) (fun _ => False) rfl rfl ?aP (fun _ hk => hk.elim) ?aF ?aO ?aB ?aS ?aL ?_
               (case aP => exact k40_mkM _ _ _ (⟨Int.tmod x8_4 x0_5, (t279 - t283) % 4294967296, wrap64 (10000 + (wrap64 (50000 * x8_4))), wrap64 (64 + x8_4)⟩ : S40))
               (case aB => exact (bw2 HB GE268 GE269))
               (case aF => exact (fun _ _ => trivial))
               (case aO => exact (by (with_reducible repeat (first | apply Kd.R_alloc | apply Kd.R_drewN | apply Kd.R_drew)); exact HO_270006.out))
               (case aS => exact (below_size (bw2 HB GE268 GE269)))
               (case aL => have := LMc30.out; omega)
               intro v285 w38 ho hb hg hat
               rw [← Ny284.out] at ho
               have n0_ := Aside0.mk (Kd.R_over' (by (with_reducible repeat (first | apply Kd.R_alloc | apply Kd.R_drewN | apply Kd.R_drew)); exact HO_6.out) (Kd.R_typed (by (with_reducible repeat (first | apply Kd.R_alloc | apply Kd.R_drewN | apply Kd.R_drew)); exact HO_270006.out)) (by decide) hg)
               have n1_ := Aside0.mk (Kd.S_over' (by (with_reducible repeat (first | apply Kd.S_alloc | apply Kd.S_drewN | apply Kd.S_drew)); exact HO_270005.out) (Kd.R_typed (by (with_reducible repeat (first | apply Kd.R_alloc | apply Kd.R_drewN | apply Kd.R_drew)); exact HO_270006.out)) (by decide) hg)
               have n2_ := Aside0.mk (blk_grown (g := gb268) (o := .cells #[.int .i64 0, .int .i64 0, .int .i64 0, .int .i64 0, .int .i64 0, .slice none 0 0, .slice none 0 0, .slice none 0 0, .int .i64 0] 26 (0, 0)) (bk BK268) hg (Kd.R_ne HO_270006.out BK268.out (by decide)))
               have n3_ := Aside0.mk (blk_grown (g := gb269) (o := .cells #[.int .i64 x0_5, .int .i64 2000000, .int .i64 2000, .int .i64 1000, .int .i64 500, u270005, .slice Ao32 x270006_4.length co32, .slice none 0 0, .int .i64 8] 26 (0, 0)) (bk BK269) hg (Kd.R_ne HO_270006.out BK269.out (by decide)))
               have n4_ := Aside0.mk (Kd.R_over' (by (with_reducible repeat (first | apply Kd.R_alloc | apply Kd.R_drewN | apply Kd.R_drew)); exact HO282.out) (Kd.R_typed (by (with_reducible repeat (first | apply Kd.R_alloc | apply Kd.R_drewN | apply Kd.R_drew)); exact HO_270006.out)) (by decide) hg)
               have n5_ := Aside0.mk (hb)
               have n6_ := Aside0.mk (ho)
               clear HO_6
               clear HO_270005
               clear BK268
               clear BK269
               clear HO282
               clear HB
               clear HO_270006
               have HO_6 := n0_
               have HO_270005 := n1_
               have BK268 := n2_
               have BK269 := n3_
               have HO282 := n4_
               have HB := n5_
               have HO286 := n6_
               clear n0_ n1_ n2_ n3_ n4_ n5_ n6_
               clear ho hb hg hat
               obtain ⟨Ao39, co39, eo39⟩ := Kd.R_slice HO286.out
               (first | subst eo39 | (injection eo39 with f1_ f2_ f3_; have f4_ := f1_.symm; have f5_ := f3_.symm; clear f1_ f2_ f3_; subst f4_; subst f5_))
               refine hK.out _ _ (by exact bc9 BK269) (fun hHeld => ?_)
               clear hK K
               refine norm_ (a' := ?_) ?_ ?_
               rotate_left
               ·show Act.put _ (some 70) _ = _
                simp only [Act.put, sT, sZ, sS, i64_w, i32_w]
                rfl
               refine pl 17 71 #[true, true, true, true, true, true, true, true, true, true, true, true, true, true, true, true, true, true, false] HT_ ?_
               refine last_ (i := 18) (N := none) #[true, true, true, true, true, true, true, true, true, true, true, true, true, true, true, true, true, true, true] rfl rfl (one_of HT_.out (by kernel_rfl)) (by decide) (fun K hK => ?_)
               have hs40 : w38.cell? ⟨gb269, 6, none⟩ = some (.slice Ao32 x270006_4.length co32) := (blk_cell BK269.out 6).trans rfl
               have hfs40 := blk_frozen BK269.out 6
               have hns40_0 := NB268_269.out
               have hms40_0 := NB269_268.out
               refine skip_ (w1 := ?_) (by rfl) rfl ?_ ?_
               rotate_left
               ·go_simp
                rfl
               refine hK.out _ _ ?_
               clear hK K
               refine done_ (done_of HT_.out (by kernel_rfl)) ?_
               try go_wp2
               go_roundg kj22
               case measure => have := HJ2.out; have := HJ5.out; have := HK3.out; have := HK4.out; have := HJ22.out; omega
               case rel => exact ⟨(wrap64 (x8_4 + 1)), (y284), (.slice Ao39 y284.length co39), rs, H', ⟨by have := HJ2.out; have := HJ5.out; have := HK3.out; have := HK4.out; have := HJ22.out; omega⟩, ⟨by (with_reducible repeat (first | apply Kd.R_alloc | apply Kd.R_drewN | apply Kd.R_drew)); exact Kd.R_mono (Kd.R_far (p := ⟨gb269, 6, none⟩) (Kd.R_types HO_6.out BK269.out (by decide)) (fun _ hk => hk.2) (.slice Ao39 y284.length co39)) (fun _ hk => trivial)⟩, ⟨by (with_reducible repeat (first | apply Kd.S_alloc | apply Kd.S_drewN | apply Kd.S_drew)); exact Kd.S_mono (Kd.S_far (p := ⟨gb269, 6, none⟩) (Kd.S_types HO_270005.out BK269.out (by decide)) (fun _ hk => hk.2) (.slice Ao39 y284.length co39)) (fun _ hk => trivial)⟩, ⟨by (with_reducible repeat (first | apply Kd.R_alloc | apply Kd.R_drewN | apply Kd.R_drew)); exact Kd.R_mono (Kd.R_far (p := ⟨gb269, 6, none⟩) (Kd.R_types HO286.out BK269.out (by decide)) (fun _ hk => hk.2) (.slice Ao39 y284.length co39)) (fun _ hk => trivial)⟩, ⟨bf1 NB268_269 BK268⟩, ⟨by (with_reducible repeat (first | refine blk_drewN ?_ _ | refine blk_drew ?_ | refine blk_alloc ?_ _)); refine blk_put (cs := #[.int .i64 x0_5, .int .i64 2000000, .int .i64 2000, .int .i64 1000, .int .i64 500, u270005, .slice Ao32 x270006_4.length co32, .slice none 0 0, .int .i64 8]) ?_ 6 _ rt; (with_reducible repeat (first | refine blk_drewN ?_ _ | refine blk_drew ?_ | refine blk_alloc ?_ _)); exact BK269.out⟩, ⟨bw2 HB GE268 GE269⟩⟩
              ·rw [if_neg c30] at H
               exact absurd H (by simp)
            ·replace c26 := Bool.eq_false_iff.mpr c26
             subst c26
             have H1 : (some (x0_5, 2000000, 2000, 1000, 500, x270005_3, x270006_4, ([] : List (S63)), 8)) = some (r1, r2, r3, r4, r5, r6, r7, r8, r9) := by rw [if_neg (show ¬ (false = true) by decide)] at H; exact H
             clear H
             have H := H1
             clear H1
             simp only [Option.some.injEq, Prod.mk.injEq] at H
             obtain ⟨rfl, rfl, rfl, rfl, rfl, rfl, rfl, rfl, rfl⟩ := H
             have hnb41 := NB269_268.out
             have hnc41 := NB268_269.out
             obtain ⟨hcz42_0, hcz42_1, hcz42_2, hcz42_3, hcz42_4, hcz42_5, hcz42_6, hcz42_7, hcz42_8, hfz42_0, hfz42_1, hfz42_2, hfz42_3, hfz42_4, hfz42_5, hfz42_6, hfz42_7, hfz42_8⟩ := bz9 BK269
             obtain ⟨hcz43_0, hcz43_1, hcz43_2, hcz43_3, hcz43_4, hcz43_5, hcz43_6, hcz43_7, hcz43_8, hfz43_0, hfz43_1, hfz43_2, hfz43_3, hfz43_4, hfz43_5, hfz43_6, hfz43_7, hfz43_8⟩ := bz9 BK268
             obtain ⟨Ao44, co44, eo44⟩ := Kd.S_slice HO_270005.out
             subst eo44
             obtain ⟨Ao45, co45, eo45⟩ := Kd.R_slice HO_270006.out
             subst eo45
             go_wp2
             refine bodyPost_ret (results_cell_row rfl _ _ gb268 26 #[.int .i64 x0_5, .int .i64 2000000, .int .i64 2000, .int .i64 1000, .int .i64 500, .slice Ao44 x270005_3.length co44, .slice Ao45 x270006_4.length co45, .slice none 0 0, .int .i64 8] (0, 0) _ rfl (by (with_reducible repeat (first | refine blk_drewN ?_ _ | refine blk_drew ?_ | refine blk_alloc ?_ _)); refine blk_put (cs := #[.int .i64 x0_5, .int .i64 2000000, .int .i64 2000, .int .i64 1000, .int .i64 500, .slice Ao44 x270005_3.length co44, .slice Ao45 x270006_4.length co45, .slice none 0 0, .int .i64 0]) ?_ 8 _ rt; (with_reducible repeat (first | refine blk_drewN ?_ _ | refine blk_drew ?_ | refine blk_alloc ?_ _)); refine blk_put (cs := #[.int .i64 x0_5, .int .i64 2000000, .int .i64 2000, .int .i64 1000, .int .i64 500, .slice Ao44 x270005_3.length co44, .slice Ao45 x270006_4.length co45, .slice none 0 0, .int .i64 0]) ?_ 7 _ rt; (with_reducible repeat (first | refine blk_drewN ?_ _ | refine blk_drew ?_ | refine blk_alloc ?_ _)); refine blk_put (cs := #[.int .i64 x0_5, .int .i64 2000000, .int .i64 2000, .int .i64 1000, .int .i64 500, .slice Ao44 x270005_3.length co44, .slice none 0 0, .slice none 0 0, .int .i64 0]) ?_ 6 _ rt; (with_reducible repeat (first | refine blk_drewN ?_ _ | refine blk_drew ?_ | refine blk_alloc ?_ _)); refine blk_put (cs := #[.int .i64 x0_5, .int .i64 2000000, .int .i64 2000, .int .i64 1000, .int .i64 500, .slice none 0 0, .slice none 0 0, .slice none 0 0, .int .i64 0]) ?_ 5 _ rt; (with_reducible repeat (first | refine blk_drewN ?_ _ | refine blk_drew ?_ | refine blk_alloc ?_ _)); refine blk_put (cs := #[.int .i64 x0_5, .int .i64 2000000, .int .i64 2000, .int .i64 1000, .int .i64 0, .slice none 0 0, .slice none 0 0, .slice none 0 0, .int .i64 0]) ?_ 4 _ rt; (with_reducible repeat (first | refine blk_drewN ?_ _ | refine blk_drew ?_ | refine blk_alloc ?_ _)); refine blk_put (cs := #[.int .i64 x0_5, .int .i64 2000000, .int .i64 2000, .int .i64 0, .int .i64 0, .slice none 0 0, .slice none 0 0, .slice none 0 0, .int .i64 0]) ?_ 3 _ rt; (with_reducible repeat (first | refine blk_drewN ?_ _ | refine blk_drew ?_ | refine blk_alloc ?_ _)); refine blk_put (cs := #[.int .i64 x0_5, .int .i64 2000000, .int .i64 0, .int .i64 0, .int .i64 0, .slice none 0 0, .slice none 0 0, .slice none 0 0, .int .i64 0]) ?_ 2 _ rt; (with_reducible repeat (first | refine blk_drewN ?_ _ | refine blk_drew ?_ | refine blk_alloc ?_ _)); refine blk_put (cs := #[.int .i64 x0_5, .int .i64 0, .int .i64 0, .int .i64 0, .int .i64 0, .slice none 0 0, .slice none 0 0, .slice none 0 0, .int .i64 0]) ?_ 1 _ rt; (with_reducible repeat (first | refine blk_drewN ?_ _ | refine blk_drew ?_ | refine blk_alloc ?_ _)); refine blk_put (cs := #[.int .i64 0, .int .i64 0, .int .i64 0, .int .i64 0, .int .i64 0, .slice none 0 0, .slice none 0 0, .slice none 0 0, .int .i64 0]) ?_ 0 _ rt; (with_reducible repeat (first | refine blk_drewN ?_ _ | refine blk_drew ?_ | refine blk_alloc ?_ _)); exact BK268.out) Try.underlying26 rfl (by kernel_rfl)) rfl ?_
             exact ⟨_, _, _, re, by (with_reducible repeat (first | apply Kd.S_alloc | apply Kd.S_drewN | apply Kd.S_drew)); exact Kd.S_mono (Kd.S_far (p := ⟨gb268, 8, none⟩) (Kd.S_far (p := ⟨gb268, 7, none⟩) (Kd.S_far (p := ⟨gb268, 6, none⟩) (Kd.S_far (p := ⟨gb268, 5, none⟩) (Kd.S_far (p := ⟨gb268, 4, none⟩) (Kd.S_far (p := ⟨gb268, 3, none⟩) (Kd.S_far (p := ⟨gb268, 2, none⟩) (Kd.S_far (p := ⟨gb268, 1, none⟩) (Kd.S_far (p := ⟨gb268, 0, none⟩) (Kd.S_types HO_270005.out BK268.out (by decide)) (fun _ hk => hk.2) (.int .i64 x0_5)) (fun _ hk => hk.2) (.int .i64 2000000)) (fun _ hk => hk.2) (.int .i64 2000)) (fun _ hk => hk.2) (.int .i64 1000)) (fun _ hk => hk.2) (.int .i64 500)) (fun _ hk => hk.2) (.slice Ao44 x270005_3.length co44)) (fun _ hk => hk.2) (.slice Ao45 x270006_4.length co45)) (fun _ hk => hk.2) (.slice none 0 0)) (fun _ hk => hk.2) (.int .i64 8)) (fun _ hk => trivial), by (with_reducible repeat (first | apply Kd.R_alloc | apply Kd.R_drewN | apply Kd.R_drew)); exact Kd.R_mono (Kd.R_far (p := ⟨gb268, 8, none⟩) (Kd.R_far (p := ⟨gb268, 7, none⟩) (Kd.R_far (p := ⟨gb268, 6, none⟩) (Kd.R_far (p := ⟨gb268, 5, none⟩) (Kd.R_far (p := ⟨gb268, 4, none⟩) (Kd.R_far (p := ⟨gb268, 3, none⟩) (Kd.R_far (p := ⟨gb268, 2, none⟩) (Kd.R_far (p := ⟨gb268, 1, none⟩) (Kd.R_far (p := ⟨gb268, 0, none⟩) (Kd.R_types HO_270006.out BK268.out (by decide)) (fun _ hk => hk.2) (.int .i64 x0_5)) (fun _ hk => hk.2) (.int .i64 2000000)) (fun _ hk => hk.2) (.int .i64 2000)) (fun _ hk => hk.2) (.int .i64 1000)) (fun _ hk => hk.2) (.int .i64 500)) (fun _ hk => hk.2) (.slice Ao44 x270005_3.length co44)) (fun _ hk => hk.2) (.slice Ao45 x270006_4.length co45)) (fun _ hk => hk.2) (.slice none 0 0)) (fun _ hk => hk.2) (.int .i64 8)) (fun _ hk => trivial), by first | exact Kd.R_nil _ _ _ _ _ | exact Kd.N_nil _ _ _ _ _ | exact Kd.V_nil _ _ _ _ _ | exact Kd.Q_nil _ _ _ _ _ | exact Kd.S_nil _ _ _ _ _, bw2 HB GE268 GE269⟩
end Go.Proofs.Ytbmldeikjfecfaa.T
