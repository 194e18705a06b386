/- make with room: an empty row of numbers of one's own. -/
import Derived.Test.YtdkdmclbhcbfeaaDoorF
namespace Go.Proofs.YtdkdmclbhcbfeaaDoor.Nu
open Go.RowKit Go.Proofs.YtdkdmclbhcbfeaaDoor.Fl Go.Proofs.YtdkdmclbhcbfeaaDoorW.PrintWords Go.Proofs.YtdkdmclbhcbfeaaDoorW.PrintLast Go.Proofs.YtdkdmclbhcbfeaaDoorW.PrintMore
set_option linter.unusedVariables false
set_option linter.unusedSimpArgs false
theorem info_F : (Tryd.prog.info? 22).map (fun i => (i.zero, i.size, i.bytes)) = some (some (.float .f64 0), 1, 8) := by kernel_rfl
theorem room_run (m : Nat) (hm : m * 8 ≤ 281474976710656) (W : World) : (Instr.makeSlice 30 (.int .i64 0) (.int .i64 (m : Int))).run Tryd.prog W = .ok (.slice (some ⟨W.heap.size, 0, none⟩) 0 m) (W.alloc (.cells (madeCells #[.float .f64 0] m) 22)) := by
  obtain ⟨i0, hi, hzz⟩ := Option.map_eq_some_iff.1 info_F
  simp only [Prod.mk.injEq] at hzz
  obtain ⟨hz0, hz1, hz2⟩ := hzz
  have hr := run_make (P := Tryd.prog) W 30 22 i0 (.float .f64 0) Tryd.underlying30 hi hz0 .i64 .i64 0 (m : Int) (by omega) (by omega) (by rw [hz2]; omega) (by omega)
  rw [hz1] at hr
  have hc : (Value.float .f64 0).cells = #[.float .f64 0] := rfl
  rw [hc] at hr
  simpa using hr
theorem room_R (m : Nat) (hm : m ≤ 9223372036854775807) (W : World) (base : Nat) (hb : base ≤ W.heap.size) : Kd.R kF 22 (W.alloc (.cells (madeCells #[.float .f64 0] m) 22)) base (fun _ => True) (.slice (some ⟨W.heap.size, 0, none⟩) 0 m) [] := by
  refine ⟨fun _ _ => trivial, [], ⟨rfl, .inr ⟨W.heap.size, m, madeCells #[.float .f64 0] m, rfl, hb, blk_new W _, Nat.zero_le _, ?_, ?_, rfl⟩⟩, rfl, fun j x h => by cases h⟩
  · simpa [maxLen] using hm
  · simp [size_madeCells, kF_sz]
end Go.Proofs.YtdkdmclbhcbfeaaDoor.Nu
