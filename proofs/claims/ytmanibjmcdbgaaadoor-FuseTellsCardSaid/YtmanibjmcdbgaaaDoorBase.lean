/- The walks of package fuse's small functions. -/
import Derived.Test.YtmanibjmcdbgaaaDoorRows
import Derived.WalkKit
import Derived.WalkSpells
import Derived.WalkLawsBesides
import Derived.Deep.QuietTactic
import Derived.BigQuiet
import Derived.Deep.DeepCutAuto
import Derived.Deep.RegionHeld3
import Derived.Defers
import Derived.Recover
import Derived.KernelRfl
import Derived.Lib.Hide
import Derived.Stop.Asserts
namespace Go.Proofs.YtmanibjmcdbgaaaDoor
set_option linter.unusedVariables false
set_option linter.unusedSimpArgs false
open Go.RowKit

theorem blk_below {w w' : World} {B g : Nat} {o : Obj} (h : w.heap[g]? = some o) (hb : Below B w w') (hg : g < B) : w'.heap[g]? = some o := (hb.block g hg).trans h
theorem blk_lt {w : World} {g : Nat} {o : Obj} (h : w.heap[g]? = some o) : g < w.heap.size := by
  rcases Nat.lt_or_ge g w.heap.size with hlt | hge
  · exact hlt
  · rw [Array.getElem?_eq_none hge] at h; cases h
theorem blk_alloc {w : World} {g : Nat} {o : Obj} (h : w.heap[g]? = some o) (o' : Obj) : (w.alloc o').heap[g]? = some o := (Below.heap_alloc w o' g (blk_lt h)).trans h
theorem blk_cell {w : World} {g : Nat} {cs : Array Value} {t : TypeId} {fr : Nat × Nat} (h : w.heap[g]? = some (.cells cs t fr)) (i : Nat) : w.cell? ⟨g, i, none⟩ = cs[i]? := cell_of_row w g i cs t fr h
theorem blk_frozen {w : World} {g : Nat} {cs : Array Value} {t : TypeId} (h : w.heap[g]? = some (.cells cs t (0, 0))) (i : Nat) : w.frozen? ⟨g, i, none⟩ = false := by simp [World.frozen?, h]
theorem blk_grown {w w' : World} {g : Nat} {o : Obj} {row : Option Nat} (h : w.heap[g]? = some o) (hg : w.grownBy w' row) (hne : some g ≠ row) : w'.heap[g]? = some o := (hg.block g (blk_lt h) hne).trans h
theorem blk_far {w : World} {g : Nat} {o : Obj} (h : w.heap[g]? = some o) {p : Addr} (hne : g ≠ p.block) (u : Value) : (w.setCell p u).heap[g]? = some o := (Below.heap_setCell w p u g hne).trans h
theorem blk_set {w : World} {g : Nat} {cs : Array Value} {t : TypeId} {fr : Nat × Nat} (h : w.heap[g]? = some (.cells cs t fr)) (i : Nat) (u : Value) : (w.setCell ⟨g, i, none⟩ u).heap[g]? = some (.cells (cs.setIfInBounds i u) t fr) := by
  simp [World.setCell, Array.getElem?_modify, h]
theorem blk_ne {w : World} {g g' : Nat} {cs cs' : Array Value} {t t' : TypeId} {f f' : Nat × Nat} (h : w.heap[g]? = some (.cells cs t f)) (h' : w.heap[g']? = some (.cells cs' t' f')) (hne : t ≠ t') : g ≠ g' := by
  rintro rfl
  rw [h] at h'
  injection h' with h'
  injection h' with _ ht
  exact hne ht

/-- A fuse at block g: how many it bears, how many were caught, the last text. -/
def IsF (w : World) (g : Nat) (m c : Int) (l : ByteArray) : Prop := w.heap[g]? = some (.cells #[.int .i64 m, .int .i64 c, .string l] 38 (0, 0))

def most (n : Int) : Int := if n < 0 then 0 else if 4096 < n then 4096 else n

set_option maxHeartbeats 400000 in
theorem new_calls (n : Int) (w : World) :
    Calls Tryd.prog 5 #[.int .i64 n] w fun e w' => ∃ g, e = .returned (.pointer (some ⟨g, 0, none⟩)) ∧ IsF w' g (most n) 0 ByteArray.empty ∧ g = w.heap.size ∧ Below w.heap.size w w' := by
  unfold most
  by_cases h1 : n < 0
  · rw [if_pos h1]
    go_enter Tryd.func5, Tryd.ntmps5
    go_wp2
    all_goals first | (exfalso; omega) | (go_ret; exact ⟨_, rfl, heap_alloc_new w _, rfl, (Below.refl _ _).alloc (Nat.le_refl _) _⟩)
  · rw [if_neg h1]
    by_cases h2 : 4096 < n
    · rw [if_pos h2]
      go_enter Tryd.func5, Tryd.ntmps5
      go_wp2
      all_goals first | (exfalso; omega) | (go_ret; exact ⟨_, rfl, heap_alloc_new w _, rfl, (Below.refl _ _).alloc (Nat.le_refl _) _⟩)
    · rw [if_neg h2]
      go_enter Tryd.func5, Tryd.ntmps5
      go_wp2
      all_goals first | (exfalso; omega) | (go_ret; exact ⟨_, rfl, heap_alloc_new w _, rfl, (Below.refl _ _).alloc (Nat.le_refl _) _⟩)

theorem blown_nil (w : World) : Calls Tryd.prog 16 #[.pointer none] w fun e w' => e = .returned (.bool true) ∧ ∃ n, w' = w.drewN n := by
  go_enter Tryd.func16, Tryd.ntmps16
  go_wp2
  go_quiet (fail)
  go_wp2
  go_ret
  exact ⟨rfl, _, rfl⟩
theorem blown_calls (g : Nat) (m c : Int) (l : ByteArray) (w : World) (h : IsF w g m c l) (B : Bool) (hB : B = decide (m < c)) :
    Calls Tryd.prog 16 #[.pointer (some ⟨g, 0, none⟩)] w fun e w' => e = .returned (.bool B) ∧ ∃ n, w' = w.drewN n := by
  have c0 := blk_cell h 0
  have c1 := blk_cell h 1
  have HB := Lib.hid hB
  clear h hB
  go_enter Tryd.func16, Tryd.ntmps16
  go_wp2
  go_quiet (fail)
  go_wp2
  go_ret
  exact ⟨by rw [HB.out]; rfl, _, rfl⟩
theorem caught_nil (w : World) : Calls Tryd.prog 14 #[.pointer none] w fun e w' => e = .returned (.int .i64 0) ∧ w = w' := by
  go_enter Tryd.func14, Tryd.ntmps14
  go_wp2
  go_ret
  exact ⟨rfl, rfl⟩
theorem caught_calls (g : Nat) (m c : Int) (l : ByteArray) (w : World) (h : IsF w g m c l) :
    Calls Tryd.prog 14 #[.pointer (some ⟨g, 0, none⟩)] w fun e w' => e = .returned (.int .i64 c) ∧ w = w' := by
  have c1 := blk_cell h 1
  clear h
  go_enter Tryd.func14, Tryd.ntmps14
  go_wp2
  go_ret
  exact ⟨rfl, rfl⟩
theorem last_nil (w : World) : Calls Tryd.prog 6 #[.pointer none] w fun e w' => e = .returned (.string ⟨#[]⟩) ∧ w = w' := by
  go_enter Tryd.func6, Tryd.ntmps6
  go_wp2
  go_ret
  exact ⟨rfl, rfl⟩
theorem last_calls (g : Nat) (m c : Int) (l : ByteArray) (w : World) (h : IsF w g m c l) :
    Calls Tryd.prog 6 #[.pointer (some ⟨g, 0, none⟩)] w fun e w' => e = .returned (.string l) ∧ w = w' := by
  have c2 := blk_cell h 2
  clear h
  go_enter Tryd.func6, Tryd.ntmps6
  go_wp2
  go_ret
  exact ⟨rfl, rfl⟩
theorem mend_nil (w : World) : Calls Tryd.prog 15 #[.pointer none] w fun e w' => e = .returned (.tuple #[]) ∧ w = w' := by
  go_enter Tryd.func15, Tryd.ntmps15
  go_wp2
  go_end0
  exact ⟨rfl, rfl⟩
theorem mend_calls (g : Nat) (m c : Int) (l : ByteArray) (w : World) (h : IsF w g m c l) :
    Calls Tryd.prog 15 #[.pointer (some ⟨g, 0, none⟩)] w fun e w' => e = .returned (.tuple #[]) ∧ (w.setCell ⟨g, 1, none⟩ (.int .i64 0)).setCell ⟨g, 2, none⟩ (.string ⟨#[]⟩) = w' := by
  have c1 := blk_cell h 1
  have c2 := blk_cell h 2
  have f1 := blk_frozen h 1
  have f2 := blk_frozen h 2
  clear h
  go_enter Tryd.func15, Tryd.ntmps15
  go_wp2
  go_end0
  exact ⟨rfl, rfl⟩

/-- What a panic's value tells. -/
def Tells (v : Value) (s : ByteArray) : Prop := ∀ w : World, Calls Tryd.prog 24 #[v] w fun e w' => e = .returned (.string s) ∧ Below w.heap.size w w'
theorem ta_str (s : ByteArray) (w : World) : (Instr.typeAssert (.iface 9 (.string s)) 20 9 true).run Tryd.prog w = .ok (.tuple #[.string s, .bool true]) w := by kernel_rfl
theorem ta_int (n : Int) (w : World) : (Instr.typeAssert (.iface 3 (.int .i64 n)) 20 9 true).run Tryd.prog w = .ok (.tuple #[.string ⟨#[]⟩, .bool false]) w := by kernel_rfl
theorem ta_int2 (n : Int) (w : World) : (Instr.typeAssert (.iface 3 (.int .i64 n)) 20 45 true).run Tryd.prog w = .ok (.tuple #[.nilIface, .bool false]) w :=
  run_typeAssert_lacksB Tryd.underlying45 (by kernel_rfl) (by kernel_rfl) _ _ w
theorem tells_string (s : ByteArray) : Tells (.iface 9 (.string s)) s := by
  intro w
  have h1 := ta_str s
  go_enter Tryd.func24, Tryd.ntmps24
  go_wp2
  go_ret
  exact ⟨rfl, Below.refl _ _⟩
theorem tells_int (n : Int) : Tells (.iface 3 (.int .i64 n)) ⟨#[111, 116, 104, 101, 114]⟩ := by
  intro w
  have h1 := ta_int n
  have h2 := ta_int2 n
  go_enter Tryd.func24, Tryd.ntmps24
  go_wp2
  go_ret
  exact ⟨rfl, Below.refl _ _⟩
end Go.Proofs.YtmanibjmcdbgaaaDoor
