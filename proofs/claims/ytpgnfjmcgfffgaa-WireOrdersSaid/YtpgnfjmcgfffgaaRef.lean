/- The walks of the reference's functions of layer 9. -/
import Derived.Test.YtpgnfjmcgfffgaaWalk
import Derived.Deep.RegionHeld3
namespace Go.Proofs.Ytpgnfjmcgfffgaa
set_option linter.unusedVariables false
set_option linter.unusedSimpArgs false
open Go.RowKit

theorem bcell {W w1 : World} (hb : Below W.heap.size W w1) : (∀ b o, b < W.heap.size → w1.cell? ⟨b, o, none⟩ = W.cell? ⟨b, o, none⟩) ∧ (∀ b o, b < W.heap.size → w1.frozen? ⟨b, o, none⟩ = W.frozen? ⟨b, o, none⟩) :=
  ⟨fun b o h => hb.cell (p := ⟨b, o, none⟩) h, fun b o h => hb.frozen (p := ⟨b, o, none⟩) h⟩
theorem rreal_calls (t : Int) (w : World) :
    Calls Try.prog 14 #[.int .i64 t] w fun e w' => e = .returned (.bool (decide (Real t))) ∧ w = w' := by
  by_cases h0 : 0 ≤ t
  · have h1 : decide (0 ≤ t) = true := by simpa using h0
    go_enter Try.func14, Try.ntmps14
    go_wp2
    go_ret
    exact ⟨by simp [h0, Real], rfl⟩
  · have h1 : decide (0 ≤ t) = false := by simpa using h0
    go_enter Try.func14, Try.ntmps14
    go_wp2
    go_ret
    exact ⟨by rw [decide_eq_false (p := Real t) (fun h => by have := h.1; omega)]; rfl, rfl⟩
theorem rreal_yes (t : Int) (h : Real t) (w : World) :
    Calls Try.prog 14 #[.int .i64 t] w fun e w' => e = .returned (.bool true) ∧ w = w' := by
  simpa [h] using rreal_calls t w
theorem rreal_no (t : Int) (h : ¬ Real t) (w : World) :
    Calls Try.prog 14 #[.int .i64 t] w fun e w' => e = .returned (.bool false) ∧ w = w' := by
  simpa [h] using rreal_calls t w

def xw (d b o : Int) : Value := .agg #[.int .i64 d, .int .i64 b, .int .i64 o]

theorem rbusy_calls (d b o t : Int) (B : Bool) (hB : B = decide (b ≤ t ∧ t < o)) (w : World) :
    Calls Try.prog 10 #[xw d b o, .int .i64 t] w fun e w' => e = .returned (.bool B) ∧ Below w.heap.size w w' := by
  unfold xw
  by_cases h0 : b ≤ t
  · have h1 : decide (b ≤ t) = true := by simpa using h0
    by_cases h2 : t < o
    · have h3 : decide (t < o) = true := by simpa using h2
      obtain rfl : B = true := by rw [hB]; simp [h0, h2]
      clear hB
      go_enter Try.func10, Try.ntmps10
      go_wp2
      go_ret
      exact ⟨rfl, (Below.refl _ _).alloc (Nat.le_refl _) _⟩
    · have h3 : decide (t < o) = false := by simpa using h2
      obtain rfl : B = false := by rw [hB]; simp [h2]
      clear hB
      go_enter Try.func10, Try.ntmps10
      go_wp2
      go_ret
      exact ⟨rfl, (Below.refl _ _).alloc (Nat.le_refl _) _⟩
  · have h1 : decide (b ≤ t) = false := by simpa using h0
    obtain rfl : B = false := by rw [hB]; simp [h0]
    clear hB
    go_enter Try.func10, Try.ntmps10
    go_wp2
    go_ret
    exact ⟨rfl, (Below.refl _ _).alloc (Nat.le_refl _) _⟩

theorem ret_int {k : IntKind} {a b : Int} (h : a = b) : Ending.returned (.int k a) = .returned (.int k b) := by rw [h]

theorem rtime_calls (s : Int) (w : World) :
    Calls Try.prog 20 #[.int .i64 s] w fun e w' => e = .returned (.int .i64 (ftime s)) ∧ w = w' := by
  unfold ftime
  by_cases h1 : s < 64
  · rw [if_pos h1]
    go_enter Try.func20, Try.ntmps20
    go_wp2
    all_goals (first | (exfalso; omega) | (go_ret; exact ⟨rfl, rfl⟩) | (go_ret; exact ⟨ret_int (by omega), rfl⟩))
  · rw [if_neg h1]
    by_cases h2 : 1518 < s
    · rw [if_pos h2]
      go_enter Try.func20, Try.ntmps20
      go_wp2
      all_goals (first | (exfalso; omega) | (go_ret; exact ⟨rfl, rfl⟩) | (go_ret; exact ⟨ret_int (by omega), rfl⟩))
    · rw [if_neg h2]
      go_enter Try.func20, Try.ntmps20
      go_wp2
      all_goals (first | (exfalso; omega) | (go_ret; exact ⟨rfl, rfl⟩) | (go_ret; exact ⟨ret_int (by omega), rfl⟩))

def Ref12 (d b o t s : Int) (w : World) (R : Value) : Prop :=
  Calls Try.prog 12 #[xw d b o, .int .i64 t, .int .i64 s] w fun e w' => e = .returned R ∧ Below w.heap.size w w'
theorem rsend_bad (d b o t s : Int) (h : BadSend t s) (w : World) : Ref12 d b o t s w (.tuple #[xw d b o, .int .i64 0, .int .i64 1]) := by
  unfold Ref12 xw
  by_cases hr : Real t
  · have h1 : s < 64 ∨ 1518 < s := by rcases h with h | h; exact absurd hr h; exact h
    clear h
    have HR := Lib.hid hr
    clear hr
    by_cases h2 : s < 64
    · have h3 : decide (s < 64) = true := by simpa using h2
      clear h1
      go_enter Try.func12, Try.ntmps12
      go_wp2_with (go_at_call 14; refine (rreal_yes _ HR.out _).mono ?_; rintro e w' ⟨rfl, rfl⟩)
      exact bodyPost_ret (v := .tuple #[xw d b o, .int .i64 0, .int .i64 1]) (by simp [results, Try.results12, go_sem, xw]) rfl ⟨rfl, ((Below.refl _ _).alloc (Nat.le_refl _) _).alloc (by simp) _⟩
    · have h3 : decide (s < 64) = false := by simpa using h2
      have h4 : decide (1518 < s) = true := by simp; omega
      clear h1
      go_enter Try.func12, Try.ntmps12
      go_wp2_with (go_at_call 14; refine (rreal_yes _ HR.out _).mono ?_; rintro e w' ⟨rfl, rfl⟩)
      exact bodyPost_ret (v := .tuple #[xw d b o, .int .i64 0, .int .i64 1]) (by simp [results, Try.results12, go_sem, xw]) rfl ⟨rfl, ((Below.refl _ _).alloc (Nat.le_refl _) _).alloc (by simp) _⟩
  · have HR := Lib.hid hr
    clear hr h
    go_enter Try.func12, Try.ntmps12
    go_wp2_with (go_at_call 14; refine (rreal_no _ HR.out _).mono ?_; rintro e w' ⟨rfl, rfl⟩)
    exact bodyPost_ret (v := .tuple #[xw d b o, .int .i64 0, .int .i64 1]) (by simp [results, Try.results12, go_sem, xw]) rfl ⟨rfl, ((Below.refl _ _).alloc (Nat.le_refl _) _).alloc (by simp) _⟩

set_option maxHeartbeats 800000 in
theorem rsend_rest (d b o t s : Int) (h : ¬ BadSend t s) (w : World) (d0 : 0 ≤ d) (d1 : d ≤ 1048576) : Ref12 d b o t s w
    (if b ≤ t ∧ t < o then .tuple #[xw d b o, .int .i64 0, .int .i64 7] else if t < b then .tuple #[xw d b o, .int .i64 0, .int .i64 1]
      else .tuple #[xw d t (t + ftime s), .int .i64 (t + ftime s + d), .int .i64 0]) := by
  have hr : Real t := Decidable.byContradiction fun hh => h (.inl hh)
  have s1 : ¬ s < 64 := fun hh => h (.inr (.inl hh))
  have s2 : ¬ 1518 < s := fun hh => h (.inr (.inr hh))
  have s3 : decide (s < 64) = false := by simp; omega
  have s4 : decide (1518 < s) = false := by simp; omega
  have t0 := hr.1
  have t1 := hr.2
  obtain ⟨F0, F1⟩ := ftime_bd s
  have HT := Lib.hid (fun w => rtime_calls s w)
  have HR := Lib.hid hr
  clear h hr
  generalize ftime s = F at *
  by_cases hb : b ≤ t ∧ t < o
  · rw [if_pos hb]
    have HB := Lib.hid (fun w => rbusy_calls d b o t true (by simp [hb]) w)
    clear hb
    unfold Ref12 xw at *
    go_enter Try.func12, Try.ntmps12
    go_wp2_with (first | (go_at_call 14; refine (rreal_yes _ HR.out _).mono ?_; rintro e w' ⟨rfl, rfl⟩) | (go_at_call 10; refine (HB.out _).mono ?_; rintro e w1 ⟨rfl, HB1⟩; obtain ⟨hc, hf⟩ := bcell HB1; have hz := HB1.size; (simp at hz); have hz1 : w.heap.size < w1.heap.size := (by omega); have HB2 := Lib.hid HB1; clear HB1))
    exact bodyPost_ret (v := .tuple #[xw d b o, .int .i64 0, .int .i64 7]) (by simp [results, Try.results12, go_sem, xw, hc]) rfl ⟨rfl, (((((((Below.refl _ _).alloc (Nat.le_refl _) _).alloc (by simp) _).trans (HB2.out.mono (by simp; omega))).setCell (by simp) _).setCell (by simp) _).setCell (by simp) _)⟩
  · rw [if_neg hb]
    have HB := Lib.hid (fun w => rbusy_calls d b o t false (by simp; omega) w)
    by_cases hb2 : t < b
    · rw [if_pos hb2]
      have h3 : decide (t < b) = true := by simpa using hb2
      clear hb
      unfold Ref12 xw at *
      go_enter Try.func12, Try.ntmps12
      go_wp2_with (first | (go_at_call 14; refine (rreal_yes _ HR.out _).mono ?_; rintro e w' ⟨rfl, rfl⟩) | (go_at_call 10; refine (HB.out _).mono ?_; rintro e w1 ⟨rfl, HB1⟩; obtain ⟨hc, hf⟩ := bcell HB1; have hz := HB1.size; (simp at hz); have hz1 : w.heap.size < w1.heap.size := (by omega); have HB2 := Lib.hid HB1; clear HB1))
      exact bodyPost_ret (v := .tuple #[xw d b o, .int .i64 0, .int .i64 1]) (by simp [results, Try.results12, go_sem, xw, hc]) rfl ⟨rfl, (((((((Below.refl _ _).alloc (Nat.le_refl _) _).alloc (by simp) _).trans (HB2.out.mono (by simp; omega))).setCell (by simp) _).setCell (by simp) _).setCell (by simp) _)⟩
    · rw [if_neg hb2]
      have h3 : decide (t < b) = false := by simpa using hb2
      clear hb
      unfold Ref12 xw at *
      go_enter Try.func12, Try.ntmps12
      go_wp2_with (first | (go_at_call 14; refine (rreal_yes _ HR.out _).mono ?_; rintro e w' ⟨rfl, rfl⟩) | (go_at_call 10; refine (HB.out _).mono ?_; rintro e w1 ⟨rfl, HB1⟩; obtain ⟨hc, hf⟩ := bcell HB1; have hz := HB1.size; (simp at hz); have hz1 : w.heap.size < w1.heap.size := (by omega); have HB2 := Lib.hid HB1; clear HB1) | (go_at_call 20; refine (HT.out _).mono ?_; rintro e w' ⟨rfl, rfl⟩))
      have c0 : w1.cell? ⟨w.heap.size, 0, none⟩ = some (.int .i64 d) := by rw [hc _ _ (by simp; omega)]; simp
      have r0 : w1.cell? ⟨w.heap.size + 1, 0, none⟩ = some (.int .i64 0) := by rw [hc _ _ (by simp)]; simp
      have r1 : w1.cell? ⟨w.heap.size + 1, 1, none⟩ = some (.int .i64 0) := by rw [hc _ _ (by simp)]; simp
      have r2 : w1.cell? ⟨w.heap.size + 1, 2, none⟩ = some (.int .i64 0) := by rw [hc _ _ (by simp)]; simp
      have f0 : w1.frozen? ⟨w.heap.size + 1, 0, none⟩ = false := by rw [hf _ _ (by simp)]; simp
      have f1 : w1.frozen? ⟨w.heap.size + 1, 1, none⟩ = false := by rw [hf _ _ (by simp)]; simp
      have f2 : w1.frozen? ⟨w.heap.size + 1, 2, none⟩ = false := by rw [hf _ _ (by simp)]; simp
      have hz2 : w.heap.size + 1 < w1.heap.size := by omega
      have HB9 := Lib.hid (((((Below.refl _ _).alloc (Nat.le_refl _) _).alloc (by simp) _).trans (HB2.out.mono (by simp; omega))))
      clear hc hf HB2
      have hw : IntKind.i64.wrap (t + F) = t + F := IntWalk.i64_in _ (by omega)
      go_region_held3 (fun w' => w'.cell? ⟨w.heap.size, 0, none⟩ = some (.int .i64 d)) (go_keep) (first | (go_at_call 20; refine (HT.out _).mono ?_; rintro e w' ⟨rfl, rfl⟩))
      all_goals go_wp2
      all_goals go_region
      all_goals go_wp2
      all_goals
        refine bodyPost_ret (v := .tuple #[xw d t (t + F), .int .i64 (t + F + d), .int .i64 0]) (by simp [results, Try.results12, go_sem, xw, r0, r1, r2, hz2]) rfl ⟨rfl, ?_⟩
        repeat (first
          | exact HB9.out
          | refine Below.drew ?_
          | refine below_drewN ?_ _
          | refine Below.setCell ?_ (by simp) _
          | refine Below.alloc ?_ (by simp; omega) _)
end Go.Proofs.Ytpgnfjmcgfffgaa
