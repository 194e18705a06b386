/- What the library's variables hold, out of what the rows list. -/
import Derived.Test.YtccicjiadahmnaaDoorTabs
import Derived.Test.YtccicjiadahmnaaDoorRows
import Derived.LaidSub
import Derived.LaidLaws
import Derived.LaidHandle
import Derived.Stop.LaidErr
import Derived.MakeChecks
namespace Go.Proofs.YtccicjiadahmnaaDoor
open Go.RowKit Go.ChangeShapes Go.WideShapes
theorem gTabType : (Tryd.prog.globals[2]?).map (·.type) = some 83 := by kernel_rfl
theorem gSynType : (Tryd.prog.globals[3]?).map (·.type) = some 63 := by kernel_rfl
theorem gRngType : (Tryd.prog.globals[4]?).map (·.type) = some 63 := by kernel_rfl
theorem cellsA : Tryd.prog.cellsOf 83 = 20 := by kernel_rfl
theorem cells1 : Tryd.prog.cellsOf 50 = 1 := by kernel_rfl
theorem cellsE : Tryd.prog.cellsOf 97 = 1 := by kernel_rfl
theorem cellsS : Tryd.prog.cellsOf 9 = 1 := by kernel_rfl
theorem star : "*" ++ "errors.errorString" = "*errors.errorString" := by decide
theorem rowE (u : TypeId) (h : Tryd.prog.typeName? 3 u = some "*errors.errorString") : u = 95 :=
  typeName_ptr_named (nm := "errors.errorString") (by rw [star]; kernel_rfl) (by kernel_rfl) (by decide) u (by rw [star]; exact h)
theorem tabs_of {W : World} (h : laidMetH Tryd.prog Rows.tickAddsRow.laid W) : Tabs W := by
  have h1 : laidMetH Tryd.prog [("internal/strconv.uint64pow10", Rows.laid_internal_strconv_uint64pow10)] W := laidMetH.filter (fun x => x.1 == "internal/strconv.uint64pow10") h
  have h2 : laidMetH Tryd.prog [("strconv.ErrSyntax", Rows.laid_strconv_ErrSyntax)] W := laidMetH.filter (fun x => x.1 == "strconv.ErrSyntax") h
  have h3 : laidMetH Tryd.prog [("strconv.ErrRange", Rows.laid_strconv_ErrRange)] W := laidMetH.filter (fun x => x.1 == "strconv.ErrRange") h
  rw [MakeChecks.laidMetH_plain _ _ _ (by kernel_rfl)] at h2 h3
  obtain ⟨a, s, e2, _⟩ := laid_sentinel h2 syn_named gSynType Tryd.underlying63 rowE Tryd.underlying95 Tryd.underlying97 rfl rfl Tryd.underlying9 cellsE cellsS
  obtain ⟨b, t, e3, _⟩ := laid_sentinel h3 rng_named gRngType Tryd.underlying63 rowE Tryd.underlying95 Tryd.underlying97 rfl rfl Tryd.underlying9 cellsE cellsS
  exact ⟨Lib.tabIs_of_head (rest := []) tab_named gTabType Tryd.underlying83 Tryd.underlying50 cells1 cellsA h1, ⟨_, _, e2⟩, ⟨_, _, e3⟩⟩
end Go.Proofs.YtccicjiadahmnaaDoor
