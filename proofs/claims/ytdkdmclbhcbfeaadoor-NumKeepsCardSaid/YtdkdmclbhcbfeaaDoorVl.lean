/- The values of the chapter's examples. -/
import Derived.Test.YtdkdmclbhcbfeaaDoorLg
import Derived.Test.YtdkdmclbhcbfeaaDoorPs
import Derived.Test.YtdkdmclbhcbfeaaDoorD
namespace Go.Proofs.YtdkdmclbhcbfeaaDoor.Nu
open Go.RowKit Go.Proofs.YtdkdmclbhcbfeaaDoor.Fl Go.Proofs.YtdkdmclbhcbfeaaDoorW.PrintWords Go.Proofs.YtdkdmclbhcbfeaaDoorW.PrintLast Go.Proofs.YtdkdmclbhcbfeaaDoorW.PrintMore
set_option linter.unusedVariables false
set_option linter.unusedSimpArgs false
/-- a row that is written out is read -/
theorem built_C (W : World) (L : List Nat) (hL : L.length ≤ 9223372036854775807) (cs : Array Value) (hc : cs = (L.map (Value.float .f64)).toArray) (ty : TypeId) : kF.C (W.alloc (.cells cs ty)) (some ⟨W.heap.size, 0, none⟩) L.length L := by
  subst hc
  refine ⟨rfl, hL, fun _ => ⟨_, rfl, fun i x hx => ⟨[.float .f64 x], rfl, rfl, fun j v hv => ?_⟩⟩⟩
  have hj : j = 0 := by have := (List.getElem?_eq_some_iff.1 hv).1; simpa using this
  subst hj
  simp only [List.getElem?_cons_zero, Option.some.injEq] at hv
  subst hv
  rw [kF_sz, add_plain, blk_cell (blk_new W _)]
  simp [hx]
theorem v_k1 : kind 9223372036854775808 = 4 := by decide
theorem v_k2 : kind 0 = 5 := by decide
theorem v_c1 : cmp3 9223372036854775808 0 = -1 := by decide
theorem v_i1 : intV 4612811918334230528 = (2, 0) := by decide +kernel
theorem v_i2 : intV 4615063718147915776 = (4, 0) := by decide +kernel
theorem v_i3 : intV 4890946611321988160 = (0, 4) := by decide +kernel
theorem v_t1 : arithV .mul 4611686018427387904 4613937818241073152 = 4618441417868443648 := by decide +kernel
theorem v_s1 : sumV [9223372036854775808] 0 = 0 := by decide +kernel
theorem v_one : oneN 4617315517961601024 = 4617315517961601024 := by decide
theorem v_p1 : hexS 16 (oneN 9223372036854775808) = ⟨#[56, 48, 48, 48, 48, 48, 48, 48, 48, 48, 48, 48, 48, 48, 48, 48]⟩ := by decide +kernel
theorem v_q1 : parseV ⟨#[51, 102, 102, 48, 48, 48, 48, 48, 48, 48, 48, 48, 48, 48, 48, 48]⟩ = (4607182418800017408, 0) := by decide +kernel
theorem v_l1 : leastV [4613937818241073152, 9223372036854775808, 0] = 9223372036854775808 := by
  have h : sortV [4613937818241073152, 9223372036854775808, 0] = [9223372036854775808, 0, 4613937818241073152] :=
    (sortV_only (l := [4613937818241073152, 9223372036854775808, 0]) (by decide) (by decide) (by decide)).symm
  unfold leastV numsV
  rw [h]
  decide
theorem v_g1 : greatV [4607182418800017408, 4611686018427387904] = 4611686018427387904 := by
  have h : sortV [4607182418800017408, 4611686018427387904] = [4607182418800017408, 4611686018427387904] :=
    (sortV_only (l := [4607182418800017408, 4611686018427387904]) (by decide) (by decide) (by decide)).symm
  unfold greatV numsV
  rw [h]
  decide
theorem up_alloc {W w' : World} {o : Obj} (h : Below (W.alloc o).heap.size (W.alloc o) w') : Below W.heap.size W w' :=
  (below_alloc (Below.refl _ W) o).trans (h.mono (below_alloc (Below.refl _ W) o).size)
theorem b_least (W : World) : Calls Tryd.prog 22 #[.slice (some ⟨W.heap.size, 0, none⟩) 3 3] (W.alloc (.cells #[.float .f64 4613937818241073152, .float .f64 9223372036854775808, .float .f64 0] 22)) fun e w' => e = .returned (.float .f64 9223372036854775808) ∧ Below W.heap.size W w' := by
  have h := least_calls (some ⟨W.heap.size, 0, none⟩) 3 [4613937818241073152, 9223372036854775808, 0] _ (built_C W [4613937818241073152, 9223372036854775808, 0] (by decide) _ rfl 22) (by decide) (by decide)
  rw [v_l1] at h
  exact h.mono fun e w' ⟨he, hb⟩ => ⟨he, up_alloc hb⟩
theorem b_great (W : World) : Calls Tryd.prog 24 #[.slice (some ⟨W.heap.size, 0, none⟩) 2 2] (W.alloc (.cells #[.float .f64 4607182418800017408, .float .f64 4611686018427387904] 22)) fun e w' => e = .returned (.float .f64 4611686018427387904) ∧ Below W.heap.size W w' := by
  have h := greatest_calls (some ⟨W.heap.size, 0, none⟩) 2 [4607182418800017408, 4611686018427387904] _ (built_C W [4607182418800017408, 4611686018427387904] (by decide) _ rfl 22) (by decide) (by decide)
  rw [v_g1] at h
  exact h.mono fun e w' ⟨he, hb⟩ => ⟨he, up_alloc hb⟩
theorem b_sum (W : World) : Calls Tryd.prog 26 #[.slice (some ⟨W.heap.size, 0, none⟩) 1 1] (W.alloc (.cells #[.float .f64 9223372036854775808] 22)) fun e w' => e = .returned (.float .f64 0) ∧ Below W.heap.size W w' := by
  have h := sum_calls (some ⟨W.heap.size, 0, none⟩) 1 [9223372036854775808] _ (built_C W [9223372036854775808] (by decide) _ rfl 22) (by decide)
  rw [v_s1] at h
  exact h.mono fun e w' ⟨he, hb⟩ => ⟨he, up_alloc hb⟩
theorem b_sort (W : World) : Calls Tryd.prog 21 #[.slice (some ⟨W.heap.size, 0, none⟩) 1 1] (W.alloc (.cells #[.float .f64 4607182418800017408] 22)) fun e w' => (∃ A c, e = .returned (.slice A 1 c)) ∧ Below W.heap.size W w' := by
  have h := nsort_calls (some ⟨W.heap.size, 0, none⟩) 1 [4607182418800017408] _ (built_C W [4607182418800017408] (by decide) _ rfl 22) (by decide) (by decide)
  refine h.mono ?_
  rintro e w' ⟨v, rfl, hR, hb⟩
  obtain ⟨A, c, rfl, _, _⟩ := R_C hR
  rw [sortV_length]
  exact ⟨⟨A, c, rfl⟩, up_alloc hb⟩
end Go.Proofs.YtdkdmclbhcbfeaaDoor.Nu
