/- FuseSafe. -/
import Derived.Test.YtmanibjmcdbgaaaFixed
import Derived.Test.YtmanibjmcdbgaaaRefOne
namespace Go.Proofs.Ytmanibjmcdbgaaa
set_option linter.unusedVariables false
set_option linter.unusedSimpArgs false
open Go.RowKit

theorem known25 : Known 25 #[] := ⟨fun _ => by kernel_rfl, fun _ => by kernel_rfl⟩
theorem known20 (a b : Addr) : KnownF 20 #[.pointer (some a), .pointer (some b)] := ⟨fun _ => by kernel_rfl, fun _ => by kernel_rfl⟩
theorem nan_self : oneB 9221120237041090561 = 9221120237041090561 := by decide +kernel
def boxBad (b : Bool) : Obj := .cells #[.bool b] 4 (0, 0)
def noText : ByteArray := ⟨#[110, 111]⟩
theorem work20_bad (b f : Nat) (w : World) (hb : w.heap[b]? = some (boxBad true)) : Calls Try.prog 20 #[.pointer (some ⟨b, 0, none⟩), .pointer (some ⟨f, 0, none⟩)] w fun e w' => e = .panicked [{ v := .iface 9 (.string noText), recovered := false }] ∧ Below w.heap.size w w' := by
  have b0 := blk_cell hb 0
  clear hb
  go_enter Try.func20, Try.ntmps20
  go_wp2
  exact ⟨rfl, rfl, Below.refl _ _⟩
theorem work20_good (b f x : Nat) (w : World) (hb : w.heap[b]? = some (boxBad false)) (hf : w.heap[f]? = some (boxX x)) : Calls Try.prog 20 #[.pointer (some ⟨b, 0, none⟩), .pointer (some ⟨f, 0, none⟩)] w fun e w' => e = .returned (.float .f64 x) ∧ Below w.heap.size w w' := by
  have b0 := blk_cell hb 0
  have f0 := blk_cell hf 0
  clear hb hf
  go_enter Try.func20, Try.ntmps20
  go_wp2
  go_ret
  exact ⟨rfl, Below.refl _ _⟩
theorem alloc2_top (w : World) (o1 o2 : Obj) : ((w.alloc o1).alloc o2).heap[w.heap.size + 1]? = some o2 := by
  have h := heap_alloc_new (w.alloc o1) o2
  simpa using h
def wantB (x : Nat) (bad : Bool) : Nat := if bad then 9221120237041090561 else oneB x
theorem safe20 (b f x : Nat) (bad : Bool) (w : World) (hb : w.heap[b]? = some (boxBad bad)) (hf : w.heap[f]? = some (boxX x)) :
    Calls Try.prog 19 #[.func (.func 20) #[] #[.pointer (some ⟨b, 0, none⟩), .pointer (some ⟨f, 0, none⟩)]] w fun e w' => e = .returned (.float .f64 (wantB x bad)) ∧ Below w.heap.size w w' := by
  cases bad with
  | true =>
    have h := safe_panics _ _ (known20 ⟨b, 0, none⟩ ⟨f, 0, none⟩) noText w fun W hB => work20_bad b f W (blk_below hb hB (blk_lt hb))
    rwa [nan_self] at h
  | false => exact safe_val _ _ (known20 _ _) x w fun W hB => work20_good b f x W (blk_below hb hB (blk_lt hb)) (blk_below hf hB (blk_lt hf))
theorem refNan_calls (w : World) : Calls Try.prog 21 #[.float .f64 9221120237041090561] w fun e w' => e = .returned (.int .u64 9221120237041090561) ∧ w = w' := by
  have h := refOne_calls 9221120237041090561 (by decide) w
  rwa [nan_self] at h
theorem safeNil_calls (w : World) : Calls Try.prog 19 #[.nilFunc] w fun e w' => e = .returned (.float .f64 9221120237041090561) ∧ Below w.heap.size w w' := by
  have h := safe_nil w
  rwa [nan_self] at h
set_option maxRecDepth 100000 in
set_option maxHeartbeats 6400000 in
theorem fuseSafe_calls (x : Nat) (wx : (Lit.float .f64 x).wf = true) (bad : Bool) (w : World) : Calls Try.prog 6 #[.float .f64 x, .bool bad] w fun e w' => e = .returned (.bool true) ∧ Below w.heap.size w w' := by
  have hmf := mkf
  have hbits := tobits
  have WX := Lib.hid wx
  have hse : ∀ (n : Nat), ((n : Int) == (n : Int)) = true := fun n => by simp
  clear wx
  cases hbad : bad
  all_goals
    clear hbad
    go_enter Try.func6, Try.ntmps6
    go_wp2_with fail
    refine (fixed_calls _).mono ?_
    rintro e w1 ⟨rfl, hB⟩
    have hb1 := blk_below (alloc2_top _ _ _) hB (by simp)
    have hx1 := blk_below (blk_alloc (heap_alloc_new _ _) _) hB (by simp; omega)
    have H1 := Lib.hid (And.intro hb1 (And.intro hx1 ((((Below.refl w.heap.size w).alloc (Nat.le_refl _) _).alloc (by simp) _).trans (hB.mono (by simp; omega)))))
    clear hb1 hx1 hB
    go_wp2_with fail
    refine (safe20 _ _ x _ w1 H1.out.1 H1.out.2.1).mono ?_
    rintro e w2 ⟨rfl, hB⟩
    have hb2 := blk_below H1.out.1 hB (blk_lt H1.out.1)
    have hx2 := blk_below H1.out.2.1 hB (blk_lt H1.out.2.1)
    have b0 := blk_cell hb2 0
    have x0 := blk_cell hx2 0
    have H2 := Lib.hid (And.intro hb2 (And.intro hx2 (H1.out.2.2.trans (hB.mono H1.out.2.2.size))))
    clear hb2 hx2 hB H1
    unfold wantB
    go_wp2_with fail
    refine (refOne_calls x WX.out _).mono ?_
    rintro e w3 ⟨rfl, rfl⟩
    go_wp2_with fail
  · refine (mend_nil _).mono ?_
    rintro e w3 ⟨rfl, rfl⟩
    clear b0 x0
    go_wp2_with fail
    refine (safeNil_calls _).mono ?_
    rintro e w3 ⟨rfl, hB3⟩
    have H3 := Lib.hid (H2.out.2.2.trans (hB3.mono H2.out.2.2.size))
    clear H2 hB3
    go_wp2_with fail
    refine (nan_calls _).mono ?_
    rintro e w4 ⟨rfl, rfl⟩
    go_wp2_with fail
    refine (refNan_calls _).mono ?_
    rintro e w4 ⟨rfl, rfl⟩
    go_wp2_with fail
    refine (do_nil _ _).mono ?_
    rintro e w4 ⟨rfl, hB4⟩
    have H4 := Lib.hid (H3.out.trans (hB4.mono H3.out.size))
    clear H3 hB4
    go_wp2_with fail
    refine (caught_nil _).mono ?_
    rintro e w5 ⟨rfl, rfl⟩
    go_wp2_with fail
    refine (blown_nil _).mono ?_
    rintro e w5 ⟨rfl, n, rfl⟩
    go_wp2_with fail
    refine (last_nil _).mono ?_
    rintro e w5 ⟨rfl, rfl⟩
    go_wp2
    go_ret
    exact ⟨rfl, H4.out.trans ((Chg.refl (fun _ => False) _).drewN n |>.toBelow H4.out.size (fun _ _ h => h))⟩
  · refine (nan_calls _).mono ?_
    rintro e w3 ⟨rfl, rfl⟩
    go_wp2_with fail
    refine (refNan_calls _).mono ?_
    rintro e w3 ⟨rfl, rfl⟩
    go_wp2_with fail
    refine (mend_nil _).mono ?_
    rintro e w3 ⟨rfl, rfl⟩
    clear b0 x0
    go_wp2_with fail
    refine (safeNil_calls _).mono ?_
    rintro e w3 ⟨rfl, hB3⟩
    have H3 := Lib.hid (H2.out.2.2.trans (hB3.mono H2.out.2.2.size))
    clear H2 hB3
    go_wp2_with fail
    refine (nan_calls _).mono ?_
    rintro e w4 ⟨rfl, rfl⟩
    go_wp2_with fail
    refine (refNan_calls _).mono ?_
    rintro e w4 ⟨rfl, rfl⟩
    go_wp2_with fail
    refine (do_nil _ _).mono ?_
    rintro e w4 ⟨rfl, hB4⟩
    have H4 := Lib.hid (H3.out.trans (hB4.mono H3.out.size))
    clear H3 hB4
    go_wp2_with fail
    refine (caught_nil _).mono ?_
    rintro e w5 ⟨rfl, rfl⟩
    go_wp2_with fail
    refine (blown_nil _).mono ?_
    rintro e w5 ⟨rfl, n, rfl⟩
    go_wp2_with fail
    refine (last_nil _).mono ?_
    rintro e w5 ⟨rfl, rfl⟩
    go_wp2
    go_ret
    exact ⟨rfl, H4.out.trans ((Chg.refl (fun _ => False) _).drewN n |>.toBelow H4.out.size (fun _ _ h => h))⟩
end Go.Proofs.Ytmanibjmcdbgaaa
