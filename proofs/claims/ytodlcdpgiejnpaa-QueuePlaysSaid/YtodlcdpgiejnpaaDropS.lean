/- The script's own drop; a nil test. -/
import Derived.Test.YtodlcdpgiejnpaaDrop
import Derived.Test.YtodlcdpgiejnpaaPeeks
namespace Go.Proofs.Ytodlcdpgiejnpaa
set_option linter.unusedVariables false
set_option linter.unusedSimpArgs false
open Go.RowKit Hp QI

theorem play1_calls (bx : Nat) (o : Opp) (x : Int) (W : World) (h : W.heap[bx]? = some (.cells (ocells o).toArray 28 (0, 0))) :
    Calls Try.prog 26 #[.int .i64 x, .pointer (some ⟨bx, 0, none⟩)] W fun e W' => e = .returned (.bool (decide (o.x ≤ x))) ∧ W' = W := by
  have c4 := blk_cell h 4
  obtain ⟨kd, t, r, n, ox⟩ := o
  simp only [ocells] at c4 ⊢
  clear h
  go_enter Try.func26, Try.ntmps26
  go_wp2
  go_ret
  exact ⟨by simp, rfl⟩

theorem dropSpec : DropSpec := by
  intro g bo most num S bx o w hQ hg hbo hbx
  have hgl := hQ.lt.1
  have hbl := blk_lt hbx
  have hK : Keeps w g 26 #[.pointer (some ⟨bx, 0, none⟩)] S (fun y => decide (o.x ≤ y.x)) (fun _ W => Far w w W g) :=
    ⟨fun k y W _ hI _ => (play1_calls bx o y.x W ((hI.old bx hbl hg).trans hbx)).mono fun e W' ⟨he, hw⟩ => ⟨he, hw ▸ hI, hw ▸ Since.refl _ _ _⟩,
     fun k W W' hI hF => hI.trans hF, hgl, enters_of Try.func26 (by kernel_rfl) rfl⟩
  refine (drop_calls hQ hK ⟨rfl, rfl, rfl, Nat.le_refl _, fun _ _ _ => rfl⟩).mono ?_
  rintro e W ⟨he, bo', hq, hI, hs, hb⟩
  refine ⟨he, bo', hq, hI.os, hI.tape, hI.output, hI.size, fun k hk h1 _ => hI.old k hk h1, hb⟩
end Go.Proofs.Ytodlcdpgiejnpaa
