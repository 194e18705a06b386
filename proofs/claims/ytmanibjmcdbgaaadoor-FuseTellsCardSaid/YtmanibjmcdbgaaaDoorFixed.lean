/- The chapter's examples. -/
import Derived.Test.YtmanibjmcdbgaaaDoorPlay
import Derived.Test.YtmanibjmcdbgaaaDoorSafe
import Derived.Deep.AppendLies
namespace Go.Proofs.YtmanibjmcdbgaaaDoor
set_option linter.unusedVariables false
set_option linter.unusedSimpArgs false
open Go.RowKit

theorem known27 : Known 19 #[] := ⟨fun _ => by kernel_rfl, fun _ => by kernel_rfl⟩
theorem known28 : Known 20 #[] := ⟨fun _ => by kernel_rfl, fun _ => by kernel_rfl⟩
theorem known29 : KnownF 22 #[] := ⟨fun _ => by kernel_rfl, fun _ => by kernel_rfl⟩
def xText : ByteArray := ⟨#[120]⟩
theorem work27 (w : World) : Calls Tryd.prog 19 #[] w fun e w' => e = .returned (.tuple #[]) ∧ w = w' := by
  go_enter Tryd.func19, Tryd.ntmps19
  go_wp2
  go_end0
  exact ⟨rfl, rfl⟩
theorem work28 (w : World) : Calls Tryd.prog 20 #[] w fun e w' => e = .panicked [{ v := .iface 9 (.string xText), recovered := false }] ∧ w = w' := by
  go_enter Tryd.func20, Tryd.ntmps20
  go_wp2
  exact ⟨rfl, rfl, rfl⟩
theorem work29 (w : World) : Calls Tryd.prog 22 #[] w fun e w' => e = .returned (.float .f64 4611686018427387904) ∧ w = w' := by
  go_enter Tryd.func22, Tryd.ntmps22
  go_wp2
  go_ret
  exact ⟨rfl, rfl⟩
def fixZ (i : Nat) : Int := if i = 0 then 0 else if i = 1 then 1 else if i = 2 then 2 else if i = 3 then 1 else if i = 4 then 0 else if i = 5 then 6 else 0
theorem fix_letters : letters 1 fixZ 7 = [121, 110, 110, 110, 110, 45, 121] := by decide
theorem fix_counts : counts 1 fixZ 7 = [0, 1, 2, 2, 2, 0, 0] := by decide
def fixCells : Array Value := #[.int .i64 0, .int .i64 1, .int .i64 2, .int .i64 1, .int .i64 0, .int .i64 6, .int .i64 0]
theorem fix_at (w : World) : ScriptAt (w.alloc (.cells fixCells 3)) (some ⟨w.heap.size, 0, none⟩) 7 fixZ := by
  have h := heap_alloc_new w (.cells fixCells 3)
  intro i hi
  refine ⟨w.heap.size, 0, rfl, by simp, ?_⟩
  rw [blk_cell h]
  obtain rfl | rfl | rfl | rfl | rfl | rfl | rfl : i = 0 ∨ i = 1 ∨ i = 2 ∨ i = 3 ∨ i = 4 ∨ i = 5 ∨ i = 6 := by omega
  all_goals rfl
theorem fix_play (w : World) : Calls Tryd.prog 18 #[.int .i64 1, .slice (some ⟨w.heap.size, 0, none⟩) 7 7] (w.alloc (.cells fixCells 3)) fun e w' =>
    (∃ g cap, e = .returned (.tuple #[.string ⟨#[121, 110, 110, 110, 110, 45, 121]⟩, .slice (some ⟨g, 0, none⟩) 7 cap]) ∧ w'.cell? ⟨g, 2, none⟩ = some (.int .i64 2) ∧ w'.cell? ⟨g, 6, none⟩ = some (.int .i64 0) ∧ g < w'.heap.size) ∧ Below w.heap.size w w' := by
  refine (play_calls 1 1 (by decide) _ 7 7 fixZ _ (fix_at w) (by decide)).mono ?_
  rintro e w' ⟨v, rfl, hO, hB⟩
  rw [fix_counts] at hO
  obtain ⟨g, cap, rfl, _⟩ := hO.form (by decide)
  refine ⟨⟨g, cap, by rw [fix_letters]; rfl, ?_, ?_, (hO.lt g rfl).2⟩, ((Below.refl _ _).alloc (Nat.le_refl _) _).trans (hB.mono (by simp))⟩
  · exact hO.cellAt 2 (by decide)
  · exact hO.cellAt 6 (by decide)
theorem two_one : oneB 4611686018427387904 = 4611686018427387904 := by decide +kernel
theorem safe_two (w : World) : Calls Tryd.prog 21 #[.func (.func 22) #[] #[]] w fun e w' => e = .returned (.float .f64 4611686018427387904) ∧ Below w.heap.size w w' := by
  have h := safe_val 22 #[] known29 4611686018427387904 w fun W _ => (work29 W).mono (by rintro e w' ⟨he, rfl⟩; exact ⟨he, Below.refl _ _⟩)
  rwa [two_one] at h
set_option maxRecDepth 100000 in
set_option maxHeartbeats 3200000 in
theorem fixed_calls (w : World) : Calls Tryd.prog 4 #[] w fun e w' => e = .returned (.bool true) ∧ Below w.heap.size w w' := by
  have hmf := mkf
  go_enter Tryd.func4, Tryd.ntmps4
  go_wp2_with fail
  refine (fix_play w).mono ?_
  rintro e w1 ⟨⟨gl, cap, rfl, c2, c6, hgl⟩, hB⟩
  have HB := Lib.hid hB
  have C := Lib.hid (And.intro c2 c6)
  clear hB c2 c6
  go_wp2_with fail
  refine (new_calls 0 _).mono ?_
  rintro e w2 ⟨g, rfl, hF, hg, hB2⟩
  have c2 := (hB2.cell (p := ⟨gl, 2, none⟩) (by simpa using hgl)).trans C.out.1
  have c6 := (hB2.cell (p := ⟨gl, 6, none⟩) (by simpa using hgl)).trans C.out.2
  have HF := Lib.hid hF
  have hge : w.heap.size ≤ g := by have := HB.out.size; omega
  have HB2 := Lib.hid (HB.out.trans (hB2.mono HB.out.size))
  clear hF hg hB2 hgl C HB
  have HD := Lib.hid (do_works g 0 0 0 _ w2 HF.out (by decide) 19 #[] known27 (fun n => (work27 _).mono (by
    rintro e w' ⟨he, rfl⟩
    exact ⟨he, ⟨_, (atWork_chg w2 (some ⟨g, 0, none⟩) n (fun _ => False)).blk HF.out (fun h => h)⟩, Chg.refl _ _⟩)))
  go_wp2_with fail
  refine HD.out.mono ?_
  rintro e w3 ⟨rfl, ⟨l, hF3⟩, hC3⟩
  have HB3 := Lib.hid (HB2.out.trans (hC3.toBelow HB2.out.size (fun k hk h => by omega)))
  clear hC3 HB2 HF c2 c6 HD
  have HD := Lib.hid (do_throws g 0 0 l w3 hF3 (by decide) (by decide) (by decide) 20 #[] known28 _ _ xText (tells_string xText) work28)
  clear hF3
  go_wp2_with fail
  refine HD.out.mono ?_
  rintro e w4 ⟨rfl, hF4, hC4⟩
  have HB4 := Lib.hid (HB3.out.trans (hC4.toBelow HB3.out.size (fun k hk h => by omega)))
  have HF4 := Lib.hid hF4
  clear hC4 HB3 HD hF4
  go_wp2_with fail
  refine (caught_calls g 0 1 _ _ HF4.out).mono ?_
  rintro e w5 ⟨rfl, rfl⟩
  go_wp2_with fail
  refine (blown_calls g 0 1 _ _ HF4.out true (by decide)).mono ?_
  rintro e w5 ⟨rfl, n, rfl⟩
  have HF5 := Lib.hid (show IsF (w4.drewN n) g 0 1 xText from HF4.out)
  have HB5 := Lib.hid (HB4.out.trans ((Chg.refl (fun _ => False) w4).drewN n |>.toBelow HB4.out.size (fun _ _ h => h)))
  clear HF4 HB4
  go_wp2_with fail
  refine (last_calls g 0 1 _ _ HF5.out).mono ?_
  rintro e w6 ⟨rfl, rfl⟩
  unfold xText
  go_wp2_with fail
  have HS := Lib.hid (safe_two (w4.drewN n))
  refine HS.out.mono ?_
  rintro e w7 ⟨rfl, hB7⟩
  have HB7 := Lib.hid (HB5.out.trans (hB7.mono HB5.out.size))
  clear hB7 HB5 HF5 HS
  have hfe : ∀ W : World, (binOp .eql 34 (.float .f64 4611686018427387904) (.float .f64 4611686018427387904)).run Tryd.prog W = .ok (.bool true) W := fun _ => by kernel_rfl
  go_wp2
  go_ret
  exact ⟨rfl, HB7.out⟩
end Go.Proofs.YtmanibjmcdbgaaaDoor
