/- The walk of WireCuts. -/
import Derived.Test.YtpgnfjmcgfffgaaFix
import Derived.OpenShut
namespace Go.Proofs.Ytpgnfjmcgfffgaa
set_option linter.unusedVariables false
set_option linter.unusedSimpArgs false
open Go.RowKit

set_option maxHeartbeats 1600000 in
theorem cuts_bad (t s at_ : Int) (h : BadSend t s) (w : World) :
    Calls Try.prog 5 #[.int .i64 t, .int .i64 s, .int .i64 at_] w fun e w' => e = .returned (.bool true) ∧ Below w.heap.size w w' := by
  have h := Lib.hid h
  go_enter Try.func5, Try.ntmps5
  go_wp2_with fail
  refine (fixed_calls _).mono ?_
  rintro e w0 ⟨rfl, HB0⟩
  have HB0 := Lib.hid HB0
  go_wp2_with fail
  refine (new_good 50 (by omega) (by omega) _).mono ?_
  rintro e w1 ⟨g, rfl, H1, hg, HB⟩
  have HB1 := Lib.hid (HB0.out.trans (HB.mono HB0.out.size))
  have H1 := Lib.hid H1
  clear HB hg HB0
  go_wp2_with fail
  refine (cut_no g 50 0 0 t _ H1.out (by omega)).mono ?_
  rintro e w2 ⟨rfl, rfl⟩
  go_wp2_with fail
  refine (send_bad _ t s _ (.inr h.out)).mono ?_
  rintro e w3 ⟨rfl, rfl⟩
  go_wp2
  go_ret
  exact ⟨rfl, HB1.out⟩

set_option maxHeartbeats 3200000 in
theorem cuts_good (t s at_ : Int) (h : ¬ BadSend t s) (ha0 : -9223372036854775808 ≤ at_) (ha1 : at_ ≤ 9223372036854775807) (w : World) :
    Calls Try.prog 5 #[.int .i64 t, .int .i64 s, .int .i64 at_] w fun e w' => e = .returned (.bool true) ∧ Below w.heap.size w w' := by
  have hr : Real t := Decidable.byContradiction fun hh => h (.inl hh)
  have t0 := hr.1
  have t1 := hr.2
  obtain ⟨F0, F1⟩ := ftime_bd s
  have h := Lib.hid h
  have HT := Lib.hid (fun w => time_calls s w)
  have HS := Lib.hid (fun g w H => send_goes g 50 0 0 t s w H h.out (by omega) (by omega) (by omega) (by omega))
  clear hr
  generalize ftime s = F at *
  by_cases hgo : t ≤ at_ ∧ at_ < t + F
  · obtain ⟨g0, g1⟩ := hgo
    by_cases hm : at_ ≤ 1125899906842624
    · have HN := Lib.hid (show ¬ BadSend at_ 64 by unfold BadSend Real; omega)
      have HR := Lib.hid (show Real at_ from ⟨by omega, hm⟩)
      go_enter Try.func5, Try.ntmps5
      go_wp2_with fail
      refine (fixed_calls _).mono ?_
      rintro e w0 ⟨rfl, HB0⟩
      have HB0 := Lib.hid HB0
      go_wp2_with fail
      refine (new_good 50 (by omega) (by omega) _).mono ?_
      rintro e w1 ⟨g, rfl, H1, hg, HB⟩
      have hge : w.heap.size ≤ g := by have := HB0.out.size; omega
      have HB1 := Lib.hid (HB0.out.trans (HB.mono HB0.out.size))
      have H1 := Lib.hid H1
      clear HB hg HB0
      go_wp2_with fail
      refine (cut_no g 50 0 0 t _ H1.out (by omega)).mono ?_
      rintro e w2 ⟨rfl, rfl⟩
      go_wp2_with fail
      refine (HS.out g _ H1.out).mono ?_
      rintro e w3 ⟨rfl, H3, G3⟩
      have HB3 := Lib.hid (below_own HB1.out G3 HB1.out.size hge)
      have H3 := Lib.hid H3
      clear G3 HB1 H1
      go_wp2_with (go_at_call 16; refine (HT.out _).mono ?_; rintro e w' ⟨rfl, rfl⟩)
      refine (cut_yes g 50 t (t + F) at_ _ H3.out (by omega) (by omega)).mono ?_
      rintro e w4 ⟨rfl, rfl⟩
      have H4 := Lib.hid (H3.out.set2 at_)
      have HB4 := Lib.hid (HB3.out.setCell (p := ⟨g, 2, none⟩) hge (.int .i64 at_))
      clear H3 HB3
      go_wp2_with fail
      refine (cut_no g 50 t at_ at_ _ H4.out (by omega)).mono ?_
      rintro e w4 ⟨rfl, rfl⟩
      go_wp2_with fail
      refine (free_free g 50 t at_ at_ _ H4.out HR.out (by omega)).mono ?_
      rintro e w4 ⟨rfl, rfl⟩
      go_wp2_with fail
      refine (send_goes g 50 t at_ at_ 64 _ H4.out HN.out (by omega) (by omega) (by omega) (by omega)).mono ?_
      rintro e w6 ⟨rfl, H6, G6⟩
      have HB6 := Lib.hid (below_own HB4.out G6 HB4.out.size hge)
      clear H6 G6 HB4 H4
      go_wp2
      go_ret
      exact ⟨rfl, HB6.out⟩
    · go_enter Try.func5, Try.ntmps5
      go_wp2_with fail
      refine (fixed_calls _).mono ?_
      rintro e w0 ⟨rfl, HB0⟩
      have HB0 := Lib.hid HB0
      go_wp2_with fail
      refine (new_good 50 (by omega) (by omega) _).mono ?_
      rintro e w1 ⟨g, rfl, H1, hg, HB⟩
      have hge : w.heap.size ≤ g := by have := HB0.out.size; omega
      have HB1 := Lib.hid (HB0.out.trans (HB.mono HB0.out.size))
      have H1 := Lib.hid H1
      clear HB hg HB0
      go_wp2_with fail
      refine (cut_no g 50 0 0 t _ H1.out (by omega)).mono ?_
      rintro e w2 ⟨rfl, rfl⟩
      go_wp2_with fail
      refine (HS.out g _ H1.out).mono ?_
      rintro e w3 ⟨rfl, H3, G3⟩
      have HB3 := Lib.hid (below_own HB1.out G3 HB1.out.size hge)
      have H3 := Lib.hid H3
      clear G3 HB1 H1
      go_wp2_with (go_at_call 16; refine (HT.out _).mono ?_; rintro e w' ⟨rfl, rfl⟩)
      refine (cut_yes g 50 t (t + F) at_ _ H3.out (by omega) (by omega)).mono ?_
      rintro e w4 ⟨rfl, rfl⟩
      have H4 := Lib.hid (H3.out.set2 at_)
      have HB4 := Lib.hid (HB3.out.setCell (p := ⟨g, 2, none⟩) hge (.int .i64 at_))
      clear H3 HB3
      go_wp2_with fail
      refine (cut_no g 50 t at_ at_ _ H4.out (by omega)).mono ?_
      rintro e w4 ⟨rfl, rfl⟩
      go_wp2
      go_ret
      exact ⟨rfl, HB4.out⟩
  · by_cases h1 : t ≤ at_
    · have h2 : ¬ at_ < t + F := fun h => hgo ⟨h1, h⟩
      clear hgo
      go_enter Try.func5, Try.ntmps5
      go_wp2_with fail
      refine (fixed_calls _).mono ?_
      rintro e w0 ⟨rfl, HB0⟩
      have HB0 := Lib.hid HB0
      go_wp2_with fail
      refine (new_good 50 (by omega) (by omega) _).mono ?_
      rintro e w1 ⟨g, rfl, H1, hg, HB⟩
      have hge : w.heap.size ≤ g := by have := HB0.out.size; omega
      have HB1 := Lib.hid (HB0.out.trans (HB.mono HB0.out.size))
      have H1 := Lib.hid H1
      clear HB hg HB0
      go_wp2_with fail
      refine (cut_no g 50 0 0 t _ H1.out (by omega)).mono ?_
      rintro e w2 ⟨rfl, rfl⟩
      go_wp2_with fail
      refine (HS.out g _ H1.out).mono ?_
      rintro e w3 ⟨rfl, H3, G3⟩
      have HB3 := Lib.hid (below_own HB1.out G3 HB1.out.size hge)
      have H3 := Lib.hid H3
      clear G3 HB1 H1
      go_wp2_with (go_at_call 16; refine (HT.out _).mono ?_; rintro e w' ⟨rfl, rfl⟩)
      refine (cut_no g 50 t (t + F) at_ _ H3.out (by omega)).mono ?_
      rintro e w4 ⟨rfl, rfl⟩
      go_wp2
      go_ret
      exact ⟨rfl, HB3.out⟩
    · have h2 : decide (t ≤ at_) = false := by simpa using h1
      clear hgo
      go_enter Try.func5, Try.ntmps5
      go_wp2_with fail
      refine (fixed_calls _).mono ?_
      rintro e w0 ⟨rfl, HB0⟩
      have HB0 := Lib.hid HB0
      go_wp2_with fail
      refine (new_good 50 (by omega) (by omega) _).mono ?_
      rintro e w1 ⟨g, rfl, H1, hg, HB⟩
      have hge : w.heap.size ≤ g := by have := HB0.out.size; omega
      have HB1 := Lib.hid (HB0.out.trans (HB.mono HB0.out.size))
      have H1 := Lib.hid H1
      clear HB hg HB0
      go_wp2_with fail
      refine (cut_no g 50 0 0 t _ H1.out (by omega)).mono ?_
      rintro e w2 ⟨rfl, rfl⟩
      go_wp2_with fail
      refine (HS.out g _ H1.out).mono ?_
      rintro e w3 ⟨rfl, H3, G3⟩
      have HB3 := Lib.hid (below_own HB1.out G3 HB1.out.size hge)
      have H3 := Lib.hid H3
      clear G3 HB1 H1
      go_wp2_with (go_at_call 16; refine (HT.out _).mono ?_; rintro e w' ⟨rfl, rfl⟩)
      refine (cut_no g 50 t (t + F) at_ _ H3.out (by omega)).mono ?_
      rintro e w4 ⟨rfl, rfl⟩
      go_wp2
      go_ret
      exact ⟨rfl, HB3.out⟩

theorem cuts_walk (t : Int) (_ : (Lit.int .i64 t).wf = true) (s : Int) (_ : (Lit.int .i64 s).wf = true) (at_ : Int) (wa : (Lit.int .i64 at_).wf = true) (w : World) :
    Calls Try.prog 5 #[.int .i64 t, .int .i64 s, .int .i64 at_] w fun e w' => e = .returned (.bool true) ∧ Below w.heap.size w w' := by
  have hb := bounds_i64 wa
  by_cases h : BadSend t s
  · exact cuts_bad t s at_ h w
  · exact cuts_good t s at_ h hb.1 hb.2 w
end Go.Proofs.Ytpgnfjmcgfffgaa
