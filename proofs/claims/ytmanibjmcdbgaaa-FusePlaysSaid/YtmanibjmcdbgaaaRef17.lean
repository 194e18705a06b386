/- The document's own steps. -/
import Derived.Test.YtmanibjmcdbgaaaPlay
namespace Go.Proofs.Ytmanibjmcdbgaaa
set_option linter.unusedVariables false
set_option linter.unusedSimpArgs false
open Go.RowKit

theorem refMost_calls (q : Int) (M : Int) (hM : M = most q) (w : World) : Calls Try.prog 10 #[.int .i64 q] w fun e w' => e = .returned (.int .i64 M) ∧ w = w' := by
  subst hM
  unfold most
  by_cases h1 : q < 0
  · rw [if_pos h1]
    go_enter Try.func10, Try.ntmps10
    go_wp2
    all_goals first | (exfalso; omega) | (go_ret; exact ⟨rfl, rfl⟩)
  · rw [if_neg h1]
    by_cases h2 : 4096 < q
    · rw [if_pos h2]
      go_enter Try.func10, Try.ntmps10
      go_wp2
      all_goals first | (exfalso; omega) | (go_ret; exact ⟨rfl, rfl⟩)
    · rw [if_neg h2]
      go_enter Try.func10, Try.ntmps10
      go_wp2
      all_goals first | (exfalso; omega) | (go_ret; exact ⟨rfl, rfl⟩)

theorem refStep_calls (q M c n : Int) (hM : M = most q) (c0 : 0 ≤ c) (c1 : c ≤ 4611686018427387904) (w : World) : Calls Try.prog 9 #[.int .i64 q, .int .i64 c, .int .i64 n] w fun e w' => e = .returned (.tuple #[.int .u8 (chr M c n), .int .i64 (nxt M c n)]) ∧ w = w' := by
  have HM := Lib.hid (refMost_calls q M hM)
  clear hM
  obtain ⟨C, hC⟩ : ∃ C, C = chr M c n := ⟨_, rfl⟩
  obtain ⟨X, hX⟩ : ∃ X, X = nxt M c n := ⟨_, rfl⟩
  rw [← hC, ← hX]
  unfold chr okB at hC
  unfold nxt cTo at hX
  have H := Lib.hid (And.intro hC hX)
  clear hC hX
  by_cases h6 : n = 6
  · subst h6
    have e := H.out
    simp at e
    obtain ⟨e1, e2⟩ := e
    rw [e1, e2]
    clear e1 e2
    clear H
    go_enter Try.func9, Try.ntmps9
    go_wp2_with (go_at_call 10; refine (HM.out _).mono ?_; rintro e w' ⟨rfl, rfl⟩)
    go_ret2
    exact ⟨rfl, rfl⟩
  · have e6 : (n == 6) = false := by simpa using h6
    by_cases hr : 0 ≤ n ∧ n ≤ 7
    · have d1 : decide (n < 0) = false := by simp; omega
      have d2 : decide (7 < n) = false := by simp; omega
      by_cases hb : M < c
      · have e := H.out
        have hb' : ¬ c ≤ M := by omega
        simp [h6, hr, hb, hb'] at e
        obtain ⟨e1, e2⟩ := e
        rw [e1, e2]
        clear e1 e2
        clear H
        have d3 : decide (M < c) = true := by simpa using hb
        clear hb hb' hr h6
        go_enter Try.func9, Try.ntmps9
        go_wp2_with (go_at_call 10; refine (HM.out _).mono ?_; rintro e w' ⟨rfl, rfl⟩)
        go_ret2
        exact ⟨rfl, rfl⟩
      · have hb' : c ≤ M := by omega
        have d3 : decide (M < c) = false := by simpa using hb'
        have hn : n = 0 ∨ n = 1 ∨ n = 2 ∨ n = 3 ∨ n = 4 ∨ n = 5 ∨ n = 7 := by omega
        rcases hn with rfl | rfl | rfl | rfl | rfl | rfl | rfl
        all_goals
          have e := H.out
          simp [hb, hb'] at e
          obtain ⟨e1, e2⟩ := e
          rw [e1, e2]
          clear e1 e2
          clear H hb hb' hr h6 e6 d1 d2
          go_enter Try.func9, Try.ntmps9
          go_wp2_with (go_at_call 10; refine (HM.out _).mono ?_; rintro e w' ⟨rfl, rfl⟩)
          go_ret2
          exact ⟨rfl, rfl⟩
    · have e := H.out
      simp [h6, hr] at e
      obtain ⟨e1, e2⟩ := e
      rw [e1, e2]
      clear e1 e2
      clear H
      by_cases hn : n < 0
      · have d1 : decide (n < 0) = true := by simpa using hn
        clear hr h6 hn
        go_enter Try.func9, Try.ntmps9
        go_wp2_with (go_at_call 10; refine (HM.out _).mono ?_; rintro e w' ⟨rfl, rfl⟩)
        all_goals first | (exfalso; omega) | (go_ret2; exact ⟨rfl, rfl⟩)
      · have d1 : decide (n < 0) = false := by simpa using hn
        have d2 : decide (7 < n) = true := by simp; omega
        clear hr h6 hn
        go_enter Try.func9, Try.ntmps9
        go_wp2_with (go_at_call 10; refine (HM.out _).mono ?_; rintro e w' ⟨rfl, rfl⟩)
        all_goals first | (exfalso; omega) | (go_ret2; exact ⟨rfl, rfl⟩)
end Go.Proofs.Ytmanibjmcdbgaaa
