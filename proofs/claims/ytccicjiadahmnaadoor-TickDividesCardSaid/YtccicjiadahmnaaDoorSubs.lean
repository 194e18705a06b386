/- Sub, at any two numbers. -/
import Derived.Test.YtccicjiadahmnaaDoorAdds
namespace Go.Proofs.YtccicjiadahmnaaDoor.Hd
set_option linter.unusedVariables false
set_option linter.unusedSimpArgs false
open Go.RowKit

theorem knownS (a b : Addr) : KnownI 33 #[.pointer (some a), .pointer (some b)] := ⟨fun _ => by kernel_rfl⟩
theorem sub1_ok (p q : Nat) (a b : Int) (ha : inR a) (hb : inR b) (hs : inR (a - b)) (w : World) (hp : w.heap[p]? = some (boxN b)) (hq : w.heap[q]? = some (boxN a)) :
    Calls Tryd.prog 33 #[.pointer (some ⟨p, 0, none⟩), .pointer (some ⟨q, 0, none⟩)] w fun e w' => e = .returned (.int .i64 (a - b)) ∧ Below w.heap.size w w' := by
  have p0 := blk_cell hp 0
  have q0 := blk_cell hq 0
  by_cases hm : b = -9223372036854775808
  · subst hm
    have h1 : decide (0 ≤ a) = false := by unfold inR at hs ha; simp; omega
    obtain ⟨D, hD⟩ : ∃ D, D = a - -9223372036854775808 := ⟨_, rfl⟩
    have hw : wrap64 (a - -9223372036854775808) = D := by unfold inR at hs; rw [hD]; simp [wrap64]; omega
    rw [← hD]
    clear hp hq ha hb hs hD
    go_enter Tryd.func33, Tryd.ntmps33
    go_wp2
    all_goals first | (exfalso; omega) | (go_ret; first | exact ⟨rfl, Below.refl _ _⟩ | exact ⟨congrArg (fun x => Ending.returned (.int .i64 x)) hw, Below.refl _ _⟩)
  · have h1 : (b == -9223372036854775808) = false := by simpa using hm
    have hw : wrap64 (-b) = -b := by unfold inR at hb; simp [wrap64]; omega
    have H := Lib.hid (add_ok a (-b) ha (by unfold inR at *; omega) (by unfold inR at *; omega) w)
    rw [show a + -b = a - b by omega] at H
    have hb1 : -9223372036854775807 ≤ b ∧ b ≤ 9223372036854775807 := by unfold inR at hb; omega
    clear hp hq ha hb hs hm
    go_enter Tryd.func33, Tryd.ntmps33
    go_wp2_with fail
    refine H.out.mono ?_
    rintro e w' ⟨rfl, rfl⟩
    go_wp2
    go_ret
    exact ⟨rfl, Below.refl _ _⟩
theorem sub1_beyond (p q : Nat) (a b : Int) (ha : inR a) (hb : inR b) (hs : ¬ inR (a - b)) (w : World) (hp : w.heap[p]? = some (boxN b)) (hq : w.heap[q]? = some (boxN a)) :
    Calls Tryd.prog 33 #[.pointer (some ⟨p, 0, none⟩), .pointer (some ⟨q, 0, none⟩)] w fun e w' => e = .panicked [{ v := beyond, recovered := false }] ∧ Below w.heap.size w w' := by
  have p0 := blk_cell hp 0
  have q0 := blk_cell hq 0
  by_cases hm : b = -9223372036854775808
  · subst hm
    have h1 : decide (0 ≤ a) = true := by unfold inR at hs ha; simp; omega
    clear hp hq ha hb hs
    go_enter Tryd.func33, Tryd.ntmps33
    go_wp2
    all_goals first | (exfalso; omega) | exact ⟨rfl, rfl, Below.refl _ _⟩
  · have h1 : (b == -9223372036854775808) = false := by simpa using hm
    have hw : wrap64 (-b) = -b := by unfold inR at hb; simp [wrap64]; omega
    have H := Lib.hid (add_beyond a (-b) ha (by unfold inR at *; omega) (by unfold inR at *; omega) w)
    have hb1 : -9223372036854775807 ≤ b ∧ b ≤ 9223372036854775807 := by unfold inR at hb; omega
    clear hp hq ha hb hs hm
    go_enter Tryd.func33, Tryd.ntmps33
    go_wp2_with fail
    refine H.out.mono ?_
    rintro e w' ⟨rfl, rfl⟩
    exact ⟨rfl, rfl, Below.refl _ _⟩
theorem Sub_calls (a b : Int) (ha : inR a) (hb : inR b) (w : World) : Calls Tryd.prog 12 #[.int .i64 a, .int .i64 b] w fun e w' => e = .returned (.tuple #[.int .i64 (val (a - b)), .int .i64 (err (a - b))]) ∧ Below w.heap.size w w' := by
  have hmf := mkf
  have HC := Lib.hid (show Calls Tryd.prog 30 #[.func (.func 33) #[] #[.pointer (some ⟨w.heap.size + 1, 0, none⟩), .pointer (some ⟨w.heap.size, 0, none⟩)]] ((w.alloc (boxN a)).alloc (boxN b)) fun e w' => e = .returned (.tuple #[.int .i64 (val (a - b)), .int .i64 (err (a - b))]) ∧ Below w.heap.size w w' from by
    have hb0 : Below w.heap.size w ((w.alloc (boxN a)).alloc (boxN b)) := ((Below.refl w.heap.size w).alloc (Nat.le_refl _) _).alloc (by simp) _
    have hp : ((w.alloc (boxN a)).alloc (boxN b)).heap[w.heap.size]? = some (boxN a) := blk_alloc (heap_alloc_new w _) _
    have hq := two_top w (boxN a) (boxN b)
    unfold val err
    by_cases hs : inR (a - b)
    · rw [if_pos hs, if_pos hs]
      exact (checked_ok _ _ (knownS _ _) (a - b) _ fun W hW => sub1_ok _ _ a b ha hb hs W (blk_below hq hW (blk_lt hq)) (blk_below hp hW (blk_lt hp))).mono fun e w' ⟨he, h⟩ => ⟨he, hb0.trans (h.mono (by simp; omega))⟩
    · rw [if_neg hs, if_neg hs]
      exact (checked_beyond _ _ (knownS _ _) _ fun W hW => sub1_beyond _ _ a b ha hb hs W (blk_below hq hW (blk_lt hq)) (blk_below hp hW (blk_lt hp))).mono fun e w' ⟨he, h⟩ => ⟨he, hb0.trans (h.mono (by simp; omega))⟩)
  generalize val (a - b) = V at HC ⊢
  generalize err (a - b) = E at HC ⊢
  clear ha hb
  go_enter Tryd.func12, Tryd.ntmps12
  go_wp2_with fail
  refine HC.out.mono ?_
  rintro e w1 ⟨rfl, hB⟩
  go_wp2
  go_ret2
  exact ⟨rfl, hB⟩
end Go.Proofs.YtccicjiadahmnaaDoor.Hd
