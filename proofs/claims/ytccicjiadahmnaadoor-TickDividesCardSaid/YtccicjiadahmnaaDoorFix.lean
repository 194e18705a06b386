/- The chapter's examples. -/
import Derived.Test.YtccicjiadahmnaaDoorTxt
import Derived.Laws.BitsAllLaws
namespace Go.Proofs.YtccicjiadahmnaaDoor.Hd
set_option linter.unusedVariables false
set_option linter.unusedSimpArgs false
open Go.RowKit Go.Proofs.YtccicjiadahmnaaDoorW.PrintWords

theorem fix_read : readN ⟨#[45, 57, 50, 50, 51, 51, 55, 50, 48, 51, 54, 56, 53, 52, 55, 55, 53, 56, 48, 56]⟩ = (-9223372036854775808, 0) := by decide +kernel
theorem fix_zero : readN ⟨#[45, 48]⟩ = (0, 2) := by decide +kernel
theorem fix_text : text (-7) = ⟨#[45, 55]⟩ := by decide +kernel
theorem half1 (w : World) : Calls Tryd.prog 21 #[.int .i64 9223372036854775807, .int .i64 9223372036854775805] w fun e w' => e = .returned (.int .i64 9223372036854775806) ∧ w = w' := by
  have h1 : bits .and .i64 9223372036854775807 9223372036854775805 = 9223372036854775805 := by decide +kernel
  have h2 : bits .xor .i64 9223372036854775807 9223372036854775805 = 2 := by decide +kernel
  go_enter Tryd.func21, Tryd.ntmps21
  go_wp2
  go_ret
  exact ⟨by first | rfl | (simp; done), rfl⟩
theorem half2 (w : World) : Calls Tryd.prog 21 #[.int .i64 (-1), .int .i64 0] w fun e w' => e = .returned (.int .i64 (-1)) ∧ w = w' := by
  have h1 : bits .and .i64 (-1) 0 = 0 := by decide +kernel
  have h2 : bits .xor .i64 (-1) 0 = -1 := by decide +kernel
  go_enter Tryd.func21, Tryd.ntmps21
  go_wp2
  go_ret
  exact ⟨by first | rfl | (simp; done), rfl⟩
theorem clamp1 (w : World) : Calls Tryd.prog 29 #[.int .i64 9, .int .i64 1, .int .i64 5] w fun e w' => e = .returned (.int .i64 5) ∧ w = w' := by
  go_enter Tryd.func29, Tryd.ntmps29
  go_wp2
  go_ret
  exact ⟨rfl, rfl⟩
theorem mul1 (w : World) : Calls Tryd.prog 13 #[.int .i64 (-3), .int .i64 5] w fun e w' => e = .returned (.tuple #[.int .i64 (-15), .int .i64 0]) ∧ Below w.heap.size w w' := by
  have H := Lib.hid (tick_MulDiv.calls (-3) 5 1 (-15) 0 w (by decide +kernel))
  go_enter Tryd.func13, Tryd.ntmps13
  go_wp2_with fail
  refine H.out.mono ?_
  rintro e w1 ⟨rfl, hB⟩
  go_wp2
  go_ret2
  exact ⟨rfl, hB⟩
def tocsinlaw02_fixed.f : Option Bool := some true
set_option maxHeartbeats 2000000 in
set_option maxRecDepth 100000 in
theorem fixed_calls (w : World) (hT : Tabs w) : Calls Tryd.prog 10 #[] w fun e w' => e = .returned (.bool true) ∧ Below w.heap.size w w' := by
  have HT := Lib.hid hT
  have H1 := Lib.hid (fun W => tick_Add.calls 9223372036854775807 1 0 4 W (by decide +kernel))
  have H2 := Lib.hid (fun W => tick_MulDiv.calls (-7) 1 2 (-4) 0 W (by decide +kernel))
  have H3 := Lib.hid (fun W => tick_MulDiv.calls 4611686018427387904 4 8 2305843009213693952 0 W (by decide +kernel))
  have H4 := Lib.hid (fun A W hr => Sum_calls A 3 [9223372036854775807, 1, -1] (by decide) (by decide) W hr)
  have H5 := Lib.hid (fun W => tick_Sub.calls 3 5 (-2) 0 W (by decide +kernel))
  have H7 := Lib.hid (fun W hW => tick_Parse.calls ⟨#[45, 57, 50, 50, 51, 51, 55, 50, 48, 51, 54, 56, 53, 52, 55, 55, 53, 56, 48, 56]⟩ (-9223372036854775808) 0 W (by unfold tick_Parse.f; rw [fix_read]; rfl) hW)
  have H8 := Lib.hid (fun W hW => tick_Parse.calls ⟨#[45, 48]⟩ 0 2 W (by unfold tick_Parse.f; rw [fix_zero]; rfl) hW)
  have H9 := Lib.hid (fun W hW => tick_Print.calls (-7) ⟨#[45, 55]⟩ W (by unfold tick_Print.f; rw [fix_text]; rfl) hW)
  clear hT
  go_enter Tryd.func10, Tryd.ntmps10
  go_wp2_with fail
  refine (H1.out _).mono ?_
  rintro e w1 ⟨rfl, hB⟩
  have B1 := Lib.hid hB
  clear hB
  go_wp2_with fail
  refine (H2.out _).mono ?_
  rintro e w2 ⟨rfl, hB⟩
  have B2 := Lib.hid (B1.out.trans (hB.mono B1.out.size))
  clear hB
  go_wp2_with fail
  refine (H3.out _).mono ?_
  rintro e w3 ⟨rfl, hB⟩
  have B3 := Lib.hid (B2.out.trans (hB.mono B2.out.size))
  clear hB
  go_wp2_with fail
  refine (H4.out _ _ ?hr).mono ?_
  case hr =>
    refine ⟨rfl, by decide, fun _ => ⟨_, rfl, fun j hj => ?_⟩⟩
    rcases (show j = 0 ∨ j = 1 ∨ j = 2 by simp at hj; omega) with rfl | rfl | rfl <;> exact (blk_cell (heap_alloc_new _ _) _).trans rfl
  rintro e w4 ⟨rfl, hB⟩
  have B4 := Lib.hid ((B3.out.alloc B3.out.size _).trans (hB.mono (by have := B3.out.size; simp; omega)))
  clear hB
  go_wp2_with fail
  refine (H5.out _).mono ?_
  rintro e w5 ⟨rfl, hB⟩
  have B5 := Lib.hid (B4.out.trans (hB.mono B4.out.size))
  clear hB
  go_wp2_with fail
  refine (mul1 _).mono ?_
  rintro e w6 ⟨rfl, hB⟩
  have B6 := Lib.hid (B5.out.trans (hB.mono B5.out.size))
  clear hB
  go_wp2_with fail
  refine (H7.out _ (HT.out.below B6.out)).mono ?_
  rintro e w7 ⟨rfl, hB⟩
  have B7 := Lib.hid (B6.out.trans (hB.mono B6.out.size))
  clear hB
  go_wp2_with fail
  refine (H8.out _ (HT.out.below B7.out)).mono ?_
  rintro e w8 ⟨rfl, hB⟩
  have B8 := Lib.hid (B7.out.trans (hB.mono B7.out.size))
  clear hB
  have s1 : inR ([9223372036854775807, 1, -1] : List Int).sum := by decide
  have s2 : val ([9223372036854775807, 1, -1] : List Int).sum = 9223372036854775807 := by decide
  have s3 : err ([9223372036854775807, 1, -1] : List Int).sum = 0 := by decide
  simp only [s2, s3]
  clear s1 s2 s3
  go_wp2_with fail
  refine (half1 _).mono ?_
  rintro e w' ⟨rfl, rfl⟩
  go_wp2_with fail
  refine (half2 _).mono ?_
  rintro e w' ⟨rfl, rfl⟩
  go_wp2_with fail
  refine (H9.out _ (HT.out.below B8.out)).mono ?_
  rintro e w9 ⟨rfl, hB⟩
  have B9 := Lib.hid (B8.out.trans (hB.mono B8.out.size))
  clear hB
  go_wp2_with fail
  refine (clamp1 _).mono ?_
  rintro e w' ⟨rfl, rfl⟩
  go_wp2
  go_ret
  exact ⟨rfl, B9.out⟩
theorem tocsinlaw02_fixed.calls (r : Bool) (w : World) (h : tocsinlaw02_fixed.f = some r) (hT : Tabs w) : Calls Tryd.prog 10 #[] w fun e w' => e = .returned (.bool r) ∧ Below w.heap.size w w' := by
  obtain rfl := Option.some.inj h
  exact fixed_calls w hT
end Go.Proofs.YtccicjiadahmnaaDoor.Hd
