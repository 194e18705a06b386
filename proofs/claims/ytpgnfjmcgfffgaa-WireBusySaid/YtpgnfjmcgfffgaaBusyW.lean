/- The walk of WireBusy. -/
import Derived.Test.YtpgnfjmcgfffgaaFix
import Derived.OpenShut
namespace Go.Proofs.Ytpgnfjmcgfffgaa
set_option linter.unusedVariables false
set_option linter.unusedSimpArgs false
open Go.RowKit

set_option maxHeartbeats 1600000 in
theorem busyl_delay (d t at_ : Int) (h : d < 0 ∨ 1048576 < d) (w : World) :
    Calls Try.prog 7 #[.int .i64 d, .int .i64 t, .int .i64 at_] w fun e w' => e = .returned (.bool true) ∧ Below w.heap.size w w' := by
  have h := Lib.hid h
  go_enter Try.func7, Try.ntmps7
  go_wp2_with fail
  refine (fixed_calls _).mono ?_
  rintro e w0 ⟨rfl, HB0⟩
  have HB0 := Lib.hid HB0
  go_wp2_with fail
  refine (new_bad d h.out _).mono ?_
  rintro e w1 ⟨rfl, rfl⟩
  go_wp2
  go_ret
  exact ⟨rfl, HB0.out⟩

theorem bad_of (t : Int) (h : ¬ Real t) : BadSend t 100 := .inl h

set_option maxHeartbeats 3200000 in
theorem busyl_go (d t at_ : Int) (d0 : 0 ≤ d) (d1 : d ≤ 1048576) (ha0 : -9223372036854775808 ≤ at_) (ha1 : at_ ≤ 9223372036854775807) (w : World) :
    Calls Try.prog 7 #[.int .i64 d, .int .i64 t, .int .i64 at_] w fun e w' => e = .returned (.bool true) ∧ Below w.heap.size w w' := by
  by_cases hr : Real t
  · have f100 : ftime 100 = 800 := rfl
    have HG := Lib.hid (show ¬ BadSend t 100 by unfold BadSend; intro h; rcases h with h | h | h <;> first | exact h hr | omega)
    have t0 := hr.1
    have t1 := hr.2
    clear hr
    by_cases ha : Real at_
    · have a0 := ha.1
      have a1 := ha.2
      have HA := Lib.hid ha
      clear ha
      by_cases hgo : t ≤ at_ ∧ at_ < t + 800
      · obtain ⟨g0, g1⟩ := hgo
        go_enter Try.func7, Try.ntmps7
        go_wp2_with fail
        refine (fixed_calls _).mono ?_
        rintro e w0 ⟨rfl, HB0⟩
        have HB0 := Lib.hid HB0
        go_wp2_with fail
        refine (new_good d d0 d1 _).mono ?_
        rintro e w1 ⟨g, rfl, H1, hg, HB⟩
        have hge : w.heap.size ≤ g := by have := HB0.out.size; omega
        have HB1 := Lib.hid (HB0.out.trans (HB.mono HB0.out.size))
        have H1 := Lib.hid H1
        clear HB hg HB0
        go_wp2_with fail
        refine (send_goes g d 0 0 t 100 _ H1.out HG.out (by omega) (by omega) d0 d1).mono ?_
        rintro e w3 ⟨rfl, H3, G3⟩
        rw [f100] at H3
        have HB3 := Lib.hid (below_own HB1.out G3 HB1.out.size hge)
        have H3 := Lib.hid H3
        clear G3 HB1 H1
        go_wp2_with fail
        refine (free_busy g d t (t + 800) at_ _ H3.out HA.out g0 g1).mono ?_
        rintro e w4 ⟨rfl, rfl⟩
        go_wp2_with (go_at_call 16; refine (time_calls _ _).mono ?_; rintro e w' ⟨rfl, rfl⟩)
        go_ret
        exact ⟨rfl, HB3.out⟩
      · by_cases h1 : t ≤ at_
        · have h2 : ¬ at_ < t + 800 := fun h => hgo ⟨h1, h⟩
          clear hgo
          go_enter Try.func7, Try.ntmps7
          go_wp2_with fail
          refine (fixed_calls _).mono ?_
          rintro e w0 ⟨rfl, HB0⟩
          have HB0 := Lib.hid HB0
          go_wp2_with fail
          refine (new_good d d0 d1 _).mono ?_
          rintro e w1 ⟨g, rfl, H1, hg, HB⟩
          have hge : w.heap.size ≤ g := by have := HB0.out.size; omega
          have HB1 := Lib.hid (HB0.out.trans (HB.mono HB0.out.size))
          have H1 := Lib.hid H1
          clear HB hg HB0
          go_wp2_with fail
          refine (send_goes g d 0 0 t 100 _ H1.out HG.out (by omega) (by omega) d0 d1).mono ?_
          rintro e w3 ⟨rfl, H3, G3⟩
          rw [f100] at H3
          have HB3 := Lib.hid (below_own HB1.out G3 HB1.out.size hge)
          have H3 := Lib.hid H3
          clear G3 HB1 H1
          go_wp2_with fail
          refine (free_free g d t (t + 800) at_ _ H3.out HA.out (by omega)).mono ?_
          rintro e w4 ⟨rfl, rfl⟩
          go_wp2_with (go_at_call 16; refine (time_calls _ _).mono ?_; rintro e w' ⟨rfl, rfl⟩)
          go_ret
          exact ⟨rfl, HB3.out⟩
        · have h2 : decide (t ≤ at_) = false := by simpa using h1
          clear hgo
          go_enter Try.func7, Try.ntmps7
          go_wp2_with fail
          refine (fixed_calls _).mono ?_
          rintro e w0 ⟨rfl, HB0⟩
          have HB0 := Lib.hid HB0
          go_wp2_with fail
          refine (new_good d d0 d1 _).mono ?_
          rintro e w1 ⟨g, rfl, H1, hg, HB⟩
          have hge : w.heap.size ≤ g := by have := HB0.out.size; omega
          have HB1 := Lib.hid (HB0.out.trans (HB.mono HB0.out.size))
          have H1 := Lib.hid H1
          clear HB hg HB0
          go_wp2_with fail
          refine (send_goes g d 0 0 t 100 _ H1.out HG.out (by omega) (by omega) d0 d1).mono ?_
          rintro e w3 ⟨rfl, H3, G3⟩
          rw [f100] at H3
          have HB3 := Lib.hid (below_own HB1.out G3 HB1.out.size hge)
          have H3 := Lib.hid H3
          clear G3 HB1 H1
          go_wp2_with fail
          refine (free_free g d t (t + 800) at_ _ H3.out HA.out (by omega)).mono ?_
          rintro e w4 ⟨rfl, rfl⟩
          go_wp2_with (go_at_call 16; refine (time_calls _ _).mono ?_; rintro e w' ⟨rfl, rfl⟩)
          go_ret
          exact ⟨rfl, HB3.out⟩
    · have HA := Lib.hid (show (none : Option Addr) = none ∨ ¬ Real at_ from .inr ha)
      have hb : at_ < 0 ∨ 1125899906842624 < at_ := by unfold Real at ha; omega
      have HA2 := Lib.hid ha
      clear ha
      go_enter Try.func7, Try.ntmps7
      go_wp2_with fail
      refine (fixed_calls _).mono ?_
      rintro e w0 ⟨rfl, HB0⟩
      have HB0 := Lib.hid HB0
      go_wp2_with fail
      refine (new_good d d0 d1 _).mono ?_
      rintro e w1 ⟨g, rfl, H1, hg, HB⟩
      have hge : w.heap.size ≤ g := by have := HB0.out.size; omega
      have HB1 := Lib.hid (HB0.out.trans (HB.mono HB0.out.size))
      have H1 := Lib.hid H1
      clear HB hg HB0
      go_wp2_with fail
      refine (send_goes g d 0 0 t 100 _ H1.out HG.out (by omega) (by omega) d0 d1).mono ?_
      rintro e w3 ⟨rfl, H3, G3⟩
      rw [f100] at H3
      have HB3 := Lib.hid (below_own HB1.out G3 HB1.out.size hge)
      have H3 := Lib.hid H3
      clear G3 HB1 H1
      go_wp2_with fail
      refine (free_bad _ at_ _ (.inr HA2.out)).mono ?_
      rintro e w4 ⟨rfl, rfl⟩
      go_wp2
      all_goals first
        | (go_ret; exact ⟨by first | rfl | (simp; omega), HB3.out⟩)
  · have HG := Lib.hid (bad_of t hr)
    have hb : t < 0 ∨ 1125899906842624 < t := by unfold Real at hr; omega
    clear hr
    go_enter Try.func7, Try.ntmps7
    go_wp2_with fail
    refine (fixed_calls _).mono ?_
    rintro e w0 ⟨rfl, HB0⟩
    have HB0 := Lib.hid HB0
    go_wp2_with fail
    refine (new_good d d0 d1 _).mono ?_
    rintro e w1 ⟨g, rfl, H1, hg, HB⟩
    have hge : w.heap.size ≤ g := by have := HB0.out.size; omega
    have HB1 := Lib.hid (HB0.out.trans (HB.mono HB0.out.size))
    have H1 := Lib.hid H1
    clear HB hg HB0
    go_wp2_with fail
    refine (send_bad _ t 100 _ (.inr HG.out)).mono ?_
    rintro e w3 ⟨rfl, rfl⟩
    go_wp2
    all_goals first
      | (go_ret; exact ⟨by first | rfl | (simp; omega), HB1.out⟩)

theorem busyl_walk (d : Int) (_ : (Lit.int .i64 d).wf = true) (t : Int) (_ : (Lit.int .i64 t).wf = true) (at_ : Int) (wa : (Lit.int .i64 at_).wf = true) (w : World) :
    Calls Try.prog 7 #[.int .i64 d, .int .i64 t, .int .i64 at_] w fun e w' => e = .returned (.bool true) ∧ Below w.heap.size w w' := by
  have hb := bounds_i64 wa
  by_cases h : d < 0 ∨ 1048576 < d
  · exact busyl_delay d t at_ h w
  · exact busyl_go d t at_ (by omega) (by omega) hb.1 hb.2 w
end Go.Proofs.Ytpgnfjmcgfffgaa
