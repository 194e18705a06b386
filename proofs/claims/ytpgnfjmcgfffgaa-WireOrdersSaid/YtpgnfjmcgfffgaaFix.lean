/- The chapter's examples, as the statements run them first. -/
import Derived.Test.YtpgnfjmcgfffgaaWalk
namespace Go.Proofs.Ytpgnfjmcgfffgaa
set_option linter.unusedVariables false
set_option linter.unusedSimpArgs false
open Go.RowKit

theorem below_own {B g : Nat} {a w w' : World} (h : Below B a w) (hg : w.grownBy w' (some g)) (hB : B ≤ w.heap.size) (hr : B ≤ g) : Below B a w' :=
  h.grown hg hB (fun k hk => by injection hk with hk; omega)

set_option maxHeartbeats 1600000 in
theorem fixed_calls (w : World) :
    Calls Try.prog 8 #[] w fun e w' => e = .returned (.bool true) ∧ Below w.heap.size w w' := by
  have f64 : ftime 64 = 512 := rfl
  have f1518 : ftime 1518 = 12144 := rfl
  go_enter Try.func8, Try.ntmps8
  go_wp2_with fail
  refine (new_good 100 (by omega) (by omega) _).mono ?_
  rintro e w1 ⟨g, rfl, H1, hg, HB⟩
  have HB := Lib.hid HB
  have H1 := Lib.hid H1
  have hge : w.heap.size ≤ g := Nat.le_of_eq hg.symm
  clear hg
  go_wp2_with fail
  refine (new_bad (-1) (.inl (by omega)) _).mono ?_
  rintro e w2 ⟨rfl, rfl⟩
  go_wp2_with fail
  refine (send_goes g 100 0 0 1000 64 _ H1.out (by decide) (by omega) (by omega) (by omega) (by omega)).mono ?_
  rintro e w3 ⟨rfl, H3, G3⟩
  rw [f64] at H3
  have HB3 := Lib.hid (below_own HB.out G3 HB.out.size hge)
  have H3 := Lib.hid H3
  clear G3 HB H1
  go_wp2_with fail
  refine (send_busy g 100 1000 1512 1200 64 _ H3.out (by decide) (by omega) (by omega)).mono ?_
  rintro e w4 ⟨rfl, rfl⟩
  go_wp2_with fail
  refine (free_busy g 100 1000 1512 1200 _ H3.out (by decide) (by omega) (by omega)).mono ?_
  rintro e w4 ⟨rfl, rfl⟩
  go_wp2_with fail
  refine (send_goes g 100 1000 1512 1512 1518 _ H3.out (by decide) (by omega) (by omega) (by omega) (by omega)).mono ?_
  rintro e w5 ⟨rfl, H5, G5⟩
  rw [f1518] at H5
  have HB5 := Lib.hid (below_own HB3.out G5 HB3.out.size hge)
  have H5 := Lib.hid H5
  clear G5 HB3 H3
  go_wp2_with fail
  refine (cut_yes g 100 1512 13656 2000 _ H5.out (by omega) (by omega)).mono ?_
  rintro e w6 ⟨rfl, rfl⟩
  have H6 := Lib.hid (H5.out.set2 2000)
  have HB6 := Lib.hid (HB5.out.setCell (p := ⟨g, 2, none⟩) hge (.int .i64 2000))
  clear H5 HB5
  go_wp2_with fail
  refine (send_old g 100 1512 2000 1400 64 _ H6.out (by decide) (by omega)).mono ?_
  rintro e w7 ⟨rfl, rfl⟩
  go_wp2_with fail
  refine (clear_good 0 0 0 0 5 7 (by omega) (by omega) (by omega) _).mono ?_
  rintro e w8 ⟨rfl, HB8⟩
  have HB8 := Lib.hid (HB6.out.trans (HB8.mono HB6.out.size))
  clear HB6
  unfold ctl
  go_wp2
  go_ret
  exact ⟨rfl, HB8.out.alloc HB8.out.size _⟩
end Go.Proofs.Ytpgnfjmcgfffgaa
