/- What the library's variables hold stays where memory only grows. -/
import Derived.Test.YtlaikchebojidaaDoorProg
import Derived.WalkKit
import Derived.WalkSmall
import Derived.KernelRfl
import Derived.Lib.LaidTab
import Derived.Lib.ItoaNum
import Derived.Lib.TrailingZeros
namespace Go.Proofs.YtlaikchebojidaaDoor
open Go.RowKit
theorem tab_named : Tryd.prog.globalNamed "internal/strconv.uint64pow10" = some 4 := by kernel_rfl
theorem syn_named : Tryd.prog.globalNamed "strconv.ErrSyntax" = some 1 := by kernel_rfl
theorem rng_named : Tryd.prog.globalNamed "strconv.ErrRange" = some 2 := by kernel_rfl
theorem deb_named : Tryd.prog.globalNamed "math/bits.deBruijn32tab" = some 0 := by kernel_rfl
/-- What the library's variables hold. -/
structure Tabs (w : World) : Prop where
  tab : Lib.TabIs Tryd.prog w "internal/strconv.uint64pow10" .u64 Lib.pow10Tab
  syn : ∃ tp p, w.var? Tryd.prog "strconv.ErrSyntax" = some #[.iface tp p]
  rng : ∃ tp p, w.var? Tryd.prog "strconv.ErrRange" = some #[.iface tp p]
  deb : Lib.TabIs Tryd.prog w "math/bits.deBruijn32tab" .u8 (Lib.deBruijn32tab.map Int.ofNat)
  max : ∃ m, w.cell? ⟨3, 0, none⟩ = some (.int .i64 m)
theorem var_keeps {w w' : World} {n : String} {g : Nat} {cs : Array Value} (hn : Tryd.prog.globalNamed n = some g) (hb : Below w.heap.size w w') (h : w.var? Tryd.prog n = some cs) : w'.var? Tryd.prog n = some cs := by
  refine var?_below hb hn ?_ h
  unfold World.var? at h
  simp only [hn, Option.bind_some] at h
  rcases Nat.lt_or_ge g w.heap.size with h' | h'
  · exact h'
  · rw [Array.getElem?_eq_none h'] at h; simp at h
theorem cell_lt {w : World} {g : Nat} {v : Value} (h : w.cell? ⟨g, 0, none⟩ = some v) : g < w.heap.size := by
  rcases Nat.lt_or_ge g w.heap.size with h' | h'
  · exact h'
  · unfold World.cell? at h
    simp only [Array.getElem?_eq_none h'] at h
    simp at h
theorem Tabs.below {w w' : World} (h : Tabs w) (hb : Below w.heap.size w w') : Tabs w' := by
  obtain ⟨h1, ⟨a, b, h2⟩, ⟨c, d, h3⟩, h4, ⟨m, h5⟩⟩ := h
  exact ⟨var_keeps tab_named hb h1, ⟨a, b, var_keeps syn_named hb h2⟩, ⟨c, d, var_keeps rng_named hb h3⟩, var_keeps deb_named hb h4, ⟨m, (hb.cell (p := ⟨3, 0, none⟩) (cell_lt h5)).trans h5⟩⟩
end Go.Proofs.YtlaikchebojidaaDoor
