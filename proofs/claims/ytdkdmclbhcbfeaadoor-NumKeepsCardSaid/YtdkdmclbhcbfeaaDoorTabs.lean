/- What the library's variables hold stays where memory only grows. -/
import Derived.Test.YtdkdmclbhcbfeaaDoorF
namespace Go.Proofs.YtdkdmclbhcbfeaaDoor
open Go.RowKit
/-- What the library's variables hold. -/
structure Tabs (w : World) : Prop where
  tz : w.cell? ⟨5, 15, none⟩ = some (.int .u8 4)
  syn : ∃ tp p, w.cell? ⟨2, 0, none⟩ = some (.iface tp p)
  rng : ∃ tp p, w.cell? ⟨3, 0, none⟩ = some (.iface tp p)
theorem cell_kept {w w' : World} {a : Addr} {v : Value} (hb : Below w.heap.size w w') (h : w.cell? a = some v) : w'.cell? a = some v := by
  refine (hb.cell ?_).trans h
  rcases Nat.lt_or_ge a.block w.heap.size with h' | h'
  · exact h'
  · unfold World.cell? at h
    rw [Array.getElem?_eq_none h'] at h
    simp at h
theorem Tabs.below {w w' : World} (h : Tabs w) (hb : Below w.heap.size w w') : Tabs w' := by
  obtain ⟨h1, ⟨a, b, h2⟩, ⟨c, d, h3⟩⟩ := h
  exact ⟨cell_kept hb h1, ⟨a, b, cell_kept hb h2⟩, ⟨c, d, cell_kept hb h3⟩⟩
end Go.Proofs.YtdkdmclbhcbfeaaDoor
