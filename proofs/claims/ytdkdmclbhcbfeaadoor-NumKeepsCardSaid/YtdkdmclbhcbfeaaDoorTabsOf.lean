/- What the library's variables hold, out of what the rows list. -/
import Derived.Test.YtdkdmclbhcbfeaaDoorTabs
import Derived.Test.YtdkdmclbhcbfeaaDoorRows
import Derived.LaidSub
import Derived.LaidLaws
import Derived.LaidHandle
import Derived.Lib.LaidTab
import Derived.Stop.LaidErr
import Derived.MakeChecks
namespace Go.Proofs.YtdkdmclbhcbfeaaDoor
open Go.RowKit Go.ChangeShapes Go.WideShapes
theorem deb_named : Tryd.prog.globalNamed "math/bits.deBruijn64tab" = some 5 := by kernel_rfl
theorem syn_named : Tryd.prog.globalNamed "strconv.ErrSyntax" = some 2 := by kernel_rfl
theorem rng_named : Tryd.prog.globalNamed "strconv.ErrRange" = some 3 := by kernel_rfl
theorem gDebType : (Tryd.prog.globals[5]?).map (·.type) = some 113 := by kernel_rfl
theorem gSynType : (Tryd.prog.globals[2]?).map (·.type) = some 59 := by kernel_rfl
theorem gRngType : (Tryd.prog.globals[3]?).map (·.type) = some 59 := by kernel_rfl
theorem cellsA : Tryd.prog.cellsOf 113 = 64 := by kernel_rfl
theorem cells1 : Tryd.prog.cellsOf 5 = 1 := by kernel_rfl
theorem cellsE : Tryd.prog.cellsOf 111 = 1 := by kernel_rfl
theorem cellsS : Tryd.prog.cellsOf 9 = 1 := by kernel_rfl
theorem star : "*" ++ "errors.errorString" = "*errors.errorString" := by decide
theorem rowE (u : TypeId) (h : Tryd.prog.typeName? 3 u = some "*errors.errorString") : u = 109 :=
  typeName_ptr_named (nm := "errors.errorString") (by rw [star]; kernel_rfl) (by kernel_rfl) (by decide) u (by rw [star]; exact h)
def debT : List Int := [0, 1, 56, 2, 57, 49, 28, 3, 61, 58, 42, 50, 38, 29, 17, 4, 62, 47, 59, 36, 45, 43, 51, 22, 53, 39, 33, 30, 24, 18, 12, 5, 63, 55, 48, 27, 60, 41, 37, 16, 46, 35, 44, 21, 52, 32, 23, 11, 54, 26, 40, 15, 34, 20, 31, 10, 25, 14, 19, 9, 13, 8, 7, 6]
theorem tabs_of {W : World} (h : laidMetH Tryd.prog Rows.numKindsRow.laid W) : Tabs W := by
  have h1 : laidMetH Tryd.prog [("math/bits.deBruijn64tab", Rows.laid_math_bits_deBruijn64tab)] W := laidMetH.filter (fun x => x.1 == "math/bits.deBruijn64tab") h
  have h2 : laidMetH Tryd.prog [("strconv.ErrSyntax", Rows.laid_strconv_ErrSyntax)] W := laidMetH.filter (fun x => x.1 == "strconv.ErrSyntax") h
  have h3 : laidMetH Tryd.prog [("strconv.ErrRange", Rows.laid_strconv_ErrRange)] W := laidMetH.filter (fun x => x.1 == "strconv.ErrRange") h
  rw [MakeChecks.laidMetH_plain _ _ _ (by kernel_rfl)] at h1 h2 h3
  obtain ⟨a, s, e2, _⟩ := laid_sentinel h2 syn_named gSynType Tryd.underlying59 rowE Tryd.underlying109 Tryd.underlying111 rfl rfl Tryd.underlying9 cellsE cellsS
  obtain ⟨b, t, e3, _⟩ := laid_sentinel h3 rng_named gRngType Tryd.underlying59 rowE Tryd.underlying109 Tryd.underlying111 rfl rfl Tryd.underlying9 cellsE cellsS
  have e1 : Lib.TabIs Tryd.prog W "math/bits.deBruijn64tab" .u8 debT := Lib.tabIs_of_head (rest := []) deb_named gDebType Tryd.underlying113 Tryd.underlying5 cells1 cellsA h1
  exact ⟨Lib.TabIs.cell e1 deb_named 15 (by decide), ⟨_, _, World.var?_cell syn_named e2 0⟩, ⟨_, _, World.var?_cell rng_named e3 0⟩⟩
end Go.Proofs.YtdkdmclbhcbfeaaDoor
