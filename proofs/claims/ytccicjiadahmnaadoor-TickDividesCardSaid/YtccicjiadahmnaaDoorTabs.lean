/- What the library's variables hold stays where memory only grows. -/
import Derived.Test.YtccicjiadahmnaaDoorProg
import Derived.WalkKit
import Derived.WalkSmall
import Derived.KernelRfl
import Derived.Lib.LaidTab
import Derived.Lib.ItoaNum
namespace Go.Proofs.YtccicjiadahmnaaDoor
open Go.RowKit
theorem tab_named : Tryd.prog.globalNamed "internal/strconv.uint64pow10" = some 2 := by kernel_rfl
theorem syn_named : Tryd.prog.globalNamed "strconv.ErrSyntax" = some 3 := by kernel_rfl
theorem rng_named : Tryd.prog.globalNamed "strconv.ErrRange" = some 4 := by kernel_rfl
/-- What the library's variables hold. -/
structure Tabs (w : World) : Prop where
  tab : Lib.TabIs Tryd.prog w "internal/strconv.uint64pow10" .u64 Lib.pow10Tab
  syn : ∃ tp p, w.var? Tryd.prog "strconv.ErrSyntax" = some #[.iface tp p]
  rng : ∃ tp p, w.var? Tryd.prog "strconv.ErrRange" = some #[.iface tp p]
theorem var_keeps {w w' : World} {n : String} {g : Nat} {cs : Array Value} (hn : Tryd.prog.globalNamed n = some g) (hb : Below w.heap.size w w') (h : w.var? Tryd.prog n = some cs) : w'.var? Tryd.prog n = some cs := by
  refine var?_below hb hn ?_ h
  unfold World.var? at h
  simp only [hn, Option.bind_some] at h
  rcases Nat.lt_or_ge g w.heap.size with h' | h'
  · exact h'
  · rw [Array.getElem?_eq_none h'] at h; simp at h
theorem Tabs.below {w w' : World} (h : Tabs w) (hb : Below w.heap.size w w') : Tabs w' := by
  obtain ⟨h1, ⟨a, b, h2⟩, ⟨c, d, h3⟩⟩ := h
  exact ⟨var_keeps tab_named hb h1, ⟨a, b, var_keeps syn_named hb h2⟩, ⟨c, d, var_keeps rng_named hb h3⟩⟩
end Go.Proofs.YtccicjiadahmnaaDoor
