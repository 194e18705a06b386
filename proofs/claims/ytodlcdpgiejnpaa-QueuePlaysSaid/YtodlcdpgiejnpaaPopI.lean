/- What is looked at and taken out (int). -/
import Derived.Test.YtodlcdpgiejnpaaPushI
namespace Go.Proofs.Ytodlcdpgiejnpaa.QI
set_option linter.unusedVariables false
set_option linter.unusedSimpArgs false
open Go.RowKit Hp

theorem new_calls (n : Int) (w : World) :
    Calls Try.prog 13 #[.int .i64 n] w fun e w' => e = .returned (.pointer (some ⟨w.heap.size, 0, none⟩)) ∧ HasQ w' w.heap.size none (min (max n 0) 65536) 0 [] ∧ Below w.heap.size w w' := by
  by_cases h1 : n < 0
  · have hm : min (max n 0) 65536 = 0 := by omega
    rw [hm]
    clear hm
    go_enter Try.func13, Try.ntmps13
    go_wp2
    all_goals first | (exfalso; omega) | (go_ret; exact ⟨rfl, ⟨0, heap_alloc_new w _, fun _ => ⟨rfl, rfl⟩, fun b hb => by cases hb⟩, (Below.refl _ _).alloc (Nat.le_refl _) _⟩)
  · by_cases h2 : 65536 < n
    · have hm : min (max n 0) 65536 = 65536 := by omega
      rw [hm]
      clear hm
      go_enter Try.func13, Try.ntmps13
      go_wp2
      all_goals first | (exfalso; omega) | (go_ret; exact ⟨rfl, ⟨0, heap_alloc_new w _, fun _ => ⟨rfl, rfl⟩, fun b hb => by cases hb⟩, (Below.refl _ _).alloc (Nat.le_refl _) _⟩)
    · have hm : min (max n 0) 65536 = n := by omega
      rw [hm]
      clear hm
      go_enter Try.func13, Try.ntmps13
      go_wp2
      all_goals first | (exfalso; omega) | (go_ret; exact ⟨rfl, ⟨0, heap_alloc_new w _, fun _ => ⟨rfl, rfl⟩, fun b hb => by cases hb⟩, (Below.refl _ _).alloc (Nat.le_refl _) _⟩)

theorem len_nil (w : World) : Calls Try.prog 16 #[.pointer none] w fun e w' => e = .returned (.int .i64 0) ∧ w' = w := by
  go_enter Try.func16, Try.ntmps16
  go_wp2
  go_ret
  exact ⟨rfl, rfl⟩
theorem len_calls (g : Nat) (bo : Option Nat) (most num : Int) (L : List (It X)) (w : World) (h : HasQ w g bo most num L) :
    Calls Try.prog 16 #[.pointer (some ⟨g, 0, none⟩)] w fun e w' => e = .returned (.int .i64 L.length) ∧ w' = w := by
  obtain ⟨cap, hq, h1, h2⟩ := h
  have c2 := blk_cell hq 2
  simp only [sl] at c2
  generalize (bo.map fun b => (⟨b, 0, none⟩ : Addr)) = A at *
  generalize L.length = m at *
  clear h1 h2 hq
  go_enter Try.func16, Try.ntmps16
  go_wp2
  go_ret
  exact ⟨rfl, rfl⟩

theorem peek_nil (w : World) : Calls Try.prog 19 #[.pointer none] w fun e w' => e = .returned (.tuple #[(Value.int .i64) 0, .int .i64 0, .bool false]) ∧ w' = w := by
  go_enter Try.func19, Try.ntmps19
  go_wp2_with (go_at_call 16; refine (len_nil _).mono ?_; rintro e w' ⟨rfl, rfl⟩)
  go_ret3
  exact ⟨rfl, rfl⟩
theorem peek_none (g : Nat) (bo : Option Nat) (most num : Int) (w : World) (h : HasQ w g bo most num []) :
    Calls Try.prog 19 #[.pointer (some ⟨g, 0, none⟩)] w fun e w' => e = .returned (.tuple #[(Value.int .i64) 0, .int .i64 0, .bool false]) ∧ w' = w := by
  have hl := len_calls g bo most num [] w h
  simp only [List.length_nil] at hl
  have HL := Lib.hid hl
  clear hl h
  go_enter Try.func19, Try.ntmps19
  go_wp2_with (go_at_call 16; refine HL.out.mono ?_; rintro e w' ⟨rfl, rfl⟩)
  go_ret3
  exact ⟨rfl, rfl⟩
theorem peek_calls (g : Nat) (bo : Option Nat) (most num : Int) (y : It X) (L : List (It X)) (w : World) (h : HasQ w g bo most num L) (h0 : L[0]? = some y) (hlen : L.length ≤ 65536) :
    Calls Try.prog 19 #[.pointer (some ⟨g, 0, none⟩)] w fun e w' => e = .returned (.tuple #[(Value.int .i64) y.x, .int .i64 y.t, .bool true]) ∧ Below w.heap.size w w' := by
  have hl := len_calls g bo most num L w h
  obtain ⟨cap, hq, h1, h2⟩ := h
  have hlt := (List.getElem?_eq_some_iff.1 h0).1
  cases bo with
  | none => obtain ⟨rfl, _⟩ := h1 rfl; simp at hlt
  | some b =>
    obtain ⟨hne, hr⟩ := h2 b rfl
    have c2 := blk_cell hq 2
    simp only [sl, Option.map_some] at c2
    have hyr := range5 (hr.range 0 y h0)
    simp only [Nat.zero_mul, Nat.zero_add] at hyr
    have HL := Lib.hid hl
    obtain ⟨m, hm⟩ : ∃ m, m = L.length := ⟨_, rfl⟩
    rw [← hm] at c2 hlt HL
    have hm0 : ((m : Int) == 0) = false := by simp; omega
    have hm1 : (0 : Int) < (m : Int) := by omega
    clear hl hq h1 h2 hr hm h0
    go_enter Try.func19, Try.ntmps19
    go_wp2_with (go_at_call 16; refine HL.out.mono ?_; rintro e w' ⟨rfl, rfl⟩)
    go_quiet (fail)
    go_wp2
    go_ret3
    exact ⟨rfl, below_drewN (Below.refl _ _) _⟩
theorem pop_nil (w : World) : Calls Try.prog 15 #[.pointer none] w fun e w' => e = .returned (.tuple #[(Value.int .i64) 0, .int .i64 0, .bool false]) ∧ w' = w := by
  go_enter Try.func15, Try.ntmps15
  go_wp2_with (go_at_call 19; refine (peek_nil _).mono ?_; rintro e w' ⟨rfl, rfl⟩)
  go_ret3
  exact ⟨rfl, rfl⟩
theorem pop_none (g : Nat) (bo : Option Nat) (most num : Int) (w : World) (h : HasQ w g bo most num []) :
    Calls Try.prog 15 #[.pointer (some ⟨g, 0, none⟩)] w fun e w' => e = .returned (.tuple #[(Value.int .i64) 0, .int .i64 0, .bool false]) ∧ w' = w := by
  have HL := Lib.hid (peek_none g bo most num w h)
  clear h
  go_enter Try.func15, Try.ntmps15
  go_wp2_with (go_at_call 19; refine HL.out.mono ?_; rintro e w' ⟨rfl, rfl⟩)
  go_ret3
  exact ⟨rfl, rfl⟩
end Go.Proofs.Ytodlcdpgiejnpaa.QI
