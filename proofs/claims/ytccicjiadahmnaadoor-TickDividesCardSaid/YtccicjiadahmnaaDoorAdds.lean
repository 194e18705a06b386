/- Add, at any two numbers. -/
import Derived.Test.YtccicjiadahmnaaDoorAdd
namespace Go.Proofs.YtccicjiadahmnaaDoor.Hd
set_option linter.unusedVariables false
set_option linter.unusedSimpArgs false
open Go.RowKit

theorem knownA (a b : Addr) : KnownI 31 #[.pointer (some a), .pointer (some b)] := ⟨fun _ => by kernel_rfl⟩
theorem add1_ok (p q : Nat) (a b : Int) (ha : inR a) (hb : inR b) (hs : inR (a + b)) (w : World) (hp : w.heap[p]? = some (boxN a)) (hq : w.heap[q]? = some (boxN b)) :
    Calls Tryd.prog 31 #[.pointer (some ⟨p, 0, none⟩), .pointer (some ⟨q, 0, none⟩)] w fun e w' => e = .returned (.int .i64 (a + b)) ∧ Below w.heap.size w w' := by
  have p0 := blk_cell hp 0
  have q0 := blk_cell hq 0
  have H := Lib.hid (add_ok a b ha hb hs w)
  clear hp hq ha hb hs
  go_enter Tryd.func31, Tryd.ntmps31
  go_wp2_with fail
  refine H.out.mono ?_
  rintro e w' ⟨rfl, rfl⟩
  go_wp2
  go_ret
  exact ⟨rfl, Below.refl _ _⟩
theorem add1_beyond (p q : Nat) (a b : Int) (ha : inR a) (hb : inR b) (hs : ¬ inR (a + b)) (w : World) (hp : w.heap[p]? = some (boxN a)) (hq : w.heap[q]? = some (boxN b)) :
    Calls Tryd.prog 31 #[.pointer (some ⟨p, 0, none⟩), .pointer (some ⟨q, 0, none⟩)] w fun e w' => e = .panicked [{ v := beyond, recovered := false }] ∧ Below w.heap.size w w' := by
  have p0 := blk_cell hp 0
  have q0 := blk_cell hq 0
  have H := Lib.hid (add_beyond a b ha hb hs w)
  clear hp hq ha hb hs
  go_enter Tryd.func31, Tryd.ntmps31
  go_wp2_with fail
  refine H.out.mono ?_
  rintro e w' ⟨rfl, rfl⟩
  exact ⟨rfl, rfl, Below.refl _ _⟩
theorem Add_calls (a b : Int) (ha : inR a) (hb : inR b) (w : World) : Calls Tryd.prog 11 #[.int .i64 a, .int .i64 b] w fun e w' => e = .returned (.tuple #[.int .i64 (val (a + b)), .int .i64 (err (a + b))]) ∧ Below w.heap.size w w' := by
  have hmf := mkf
  have HC := Lib.hid (show Calls Tryd.prog 30 #[.func (.func 31) #[] #[.pointer (some ⟨w.heap.size, 0, none⟩), .pointer (some ⟨w.heap.size + 1, 0, none⟩)]] ((w.alloc (boxN a)).alloc (boxN b)) fun e w' => e = .returned (.tuple #[.int .i64 (val (a + b)), .int .i64 (err (a + b))]) ∧ Below w.heap.size w w' from by
    have hb0 : Below w.heap.size w ((w.alloc (boxN a)).alloc (boxN b)) := ((Below.refl w.heap.size w).alloc (Nat.le_refl _) _).alloc (by simp) _
    have hp : ((w.alloc (boxN a)).alloc (boxN b)).heap[w.heap.size]? = some (boxN a) := blk_alloc (heap_alloc_new w _) _
    have hq := two_top w (boxN a) (boxN b)
    unfold val err
    by_cases hs : inR (a + b)
    · rw [if_pos hs, if_pos hs]
      exact (checked_ok _ _ (knownA _ _) (a + b) _ fun W hW => add1_ok _ _ a b ha hb hs W (blk_below hp hW (blk_lt hp)) (blk_below hq hW (blk_lt hq))).mono fun e w' ⟨he, h⟩ => ⟨he, hb0.trans (h.mono (by simp; omega))⟩
    · rw [if_neg hs, if_neg hs]
      exact (checked_beyond _ _ (knownA _ _) _ fun W hW => add1_beyond _ _ a b ha hb hs W (blk_below hp hW (blk_lt hp)) (blk_below hq hW (blk_lt hq))).mono fun e w' ⟨he, h⟩ => ⟨he, hb0.trans (h.mono (by simp; omega))⟩)
  generalize val (a + b) = V at HC ⊢
  generalize err (a + b) = E at HC ⊢
  clear ha hb
  go_enter Tryd.func11, Tryd.ntmps11
  go_wp2_with fail
  refine HC.out.mono ?_
  rintro e w1 ⟨rfl, hB⟩
  go_wp2
  go_ret2
  exact ⟨rfl, hB⟩
end Go.Proofs.YtccicjiadahmnaaDoor.Hd
