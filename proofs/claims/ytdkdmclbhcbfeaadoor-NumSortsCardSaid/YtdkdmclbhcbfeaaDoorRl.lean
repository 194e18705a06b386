/- The document's Least and Greatest, walked. -/
import Derived.Test.YtdkdmclbhcbfeaaDoorRs
namespace Go.Proofs.YtdkdmclbhcbfeaaDoor.Nu
open Go.RowKit Go.Proofs.YtdkdmclbhcbfeaaDoor.Fl Go.Proofs.YtdkdmclbhcbfeaaDoorW.PrintWords Go.Proofs.YtdkdmclbhcbfeaaDoorW.PrintLast Go.Proofs.YtdkdmclbhcbfeaaDoorW.PrintMore
set_option linter.unusedVariables false
set_option linter.unusedSimpArgs false
theorem mem_nan {l : List Nat} {x : Nat} (h : x ∈ sortV l) : nan x = decide (x = 9221120237041090561) := by
  obtain ⟨z, hz, rfl⟩ := List.mem_map.1 ((sortV_perm _).mem_iff.1 h)
  unfold oneN
  by_cases hn : nan z = true
  · rw [if_pos hn]; decide
  · rw [if_neg hn]
    have hf : nan z = false := by cases hq : nan z; · rfl
                                  · exact absurd hq hn
    rw [hf]
    symm
    rw [decide_eq_false_iff_not]
    intro e
    rw [e] at hf
    exact absurd hf (by decide)
theorem least_nil {l : List Nat} (h : sortV l = []) : leastV l = 9221120237041090561 := by unfold leastV numsV; rw [h]; rfl
theorem least_nan {l : List Nat} (h : (sortV l)[0]? = some 9221120237041090561) : leastV l = 9221120237041090561 := by
  unfold leastV numsV
  rw [List.filter_eq_nil_iff.2]
  · rfl
  · intro y hy
    obtain ⟨j, hj⟩ := List.mem_iff_getElem?.1 hy
    rw [nan_up l 0 j _ y (Nat.zero_le _) h hj (by decide)]
    simp
theorem least_num {l : List Nat} {x : Nat} (h : (sortV l)[0]? = some x) (hx : x ≠ 9221120237041090561) : leastV l = x := by
  unfold leastV numsV
  have hm := List.mem_of_getElem? h
  have hn : nan x = false := by rw [mem_nan hm]; exact decide_eq_false hx
  cases hs : sortV l with
  | nil => rw [hs] at h; cases h
  | cons y r =>
    rw [hs] at h
    simp only [List.getElem?_cons_zero, Option.some.injEq] at h
    subst h
    rw [List.filter_cons_of_pos (by rw [hn]; rfl)]
    rfl
theorem great_none {l : List Nat} (h : ∀ (j : Nat) y, (sortV l)[j]? = some y → y = 9221120237041090561) : greatV l = 9221120237041090561 := by
  unfold greatV numsV
  rw [List.filter_eq_nil_iff.2]
  · rfl
  · intro y hy
    obtain ⟨j, hj⟩ := List.mem_iff_getElem?.1 hy
    rw [h j y hj]
    decide
theorem great_num {l : List Nat} {k x : Nat} (h : (sortV l)[k]? = some x) (hx : x ≠ 9221120237041090561) (hb : ∀ (j : Nat) y, k < j → (sortV l)[j]? = some y → y = 9221120237041090561) : greatV l = x := by
  unfold greatV numsV
  have hm := List.mem_of_getElem? h
  have hn : nan x = false := by rw [mem_nan hm]; exact decide_eq_false hx
  obtain ⟨h1, h2⟩ := List.getElem?_eq_some_iff.1 h
  have hd : ((sortV l).drop (k + 1)).filter (fun x => !nan x) = [] := by
    rw [List.filter_eq_nil_iff]
    intro y hy
    obtain ⟨j, hj⟩ := List.mem_iff_getElem?.1 hy
    rw [List.getElem?_drop] at hj
    rw [hb _ y (by omega) hj]
    decide
  have ht : (sortV l).take (k + 1) = (sortV l).take k ++ [x] := by rw [List.take_add_one, h]; rfl
  conv => lhs; rw [← List.take_append_drop (k + 1) (sortV l)]
  rw [List.filter_append, hd, List.append_nil, ht, List.filter_append, List.filter_cons_of_pos (by rw [hn]; rfl), List.filter_nil, List.getLastD_eq_getLast?]
  simp
set_option maxHeartbeats 1600000 in
theorem rleast_calls (A : Option Addr) (c : Nat) (l : List Nat) (w : World) (hr : kF.C w A l.length l) (hc : l.length ≤ c) (hcm : c ≤ 9223372036854775807) (hl : ∀ x ∈ l, x < 18446744073709551616) (hlen : l.length * 8 ≤ 140737488351232) :
    Calls Tryd.prog 23 #[.slice A l.length c] w fun e w' => e = .returned (.int .u64 (leastV l : Nat)) ∧ Below w.heap.size w w' := by
  have HS := Lib.hid (rsort_calls l.length A c l w rfl hr hc hcm hl hlen)
  have F0 := Lib.hid (fun h => least_nil (l := l) h)
  have F1 := Lib.hid (fun h => least_nan (l := l) h)
  have F2 := Lib.hid (fun x h hx => least_num (l := l) (x := x) h hx)
  have HSL := Lib.hid (sortV_length l)
  generalize l.length = n at HS hlen hc HSL ⊢
  generalize leastV l = v at F0 F1 F2 ⊢
  generalize sortV l = S at HS F0 F1 F2 HSL
  clear hr hl
  go_enter Tryd.func23, Tryd.ntmps23
  go_wp2_with fail
  refine HS.out.mono ?_
  rintro e w1 ⟨u, rfl, hR, hb⟩
  have HB := Lib.hid hb
  clear hb HS
  obtain ⟨A1, c1, rfl, hC, hc1⟩ := R_CU hR
  rcases S with _ | ⟨x, S⟩
  · obtain rfl := F0.out rfl
    clear hR hC hc1
    simp only [List.length_nil]
    go_wp2
    go_ret
    exact ⟨rfl, HB.out⟩
  · have hA : ∃ a1, A1 = some a1 := by obtain ⟨a1, hA, _⟩ := hC.2.2 (by simp); exact ⟨a1, hA⟩
    obtain ⟨a1, rfl⟩ := hA
    have z0 := C_cell hC (by simp) 0 x rfl
    rw [show a1.add 0 = a1 from rfl] at z0
    rw [HSL.out] at hc1 ⊢
    have hn0 : ((n : Int) == 0) = false := by rw [beq_eq_false_iff_ne]; have := HSL.out; simp only [List.length_cons] at this; omega
    have hn1 : (0 : Int) < (n : Int) := by have := HSL.out; simp only [List.length_cons] at this; omega
    clear hR hC
    by_cases hx : x = 9221120237041090561
    · subst hx
      obtain rfl := F1.out rfl
      go_wp2
      go_ret
      exact ⟨rfl, HB.out⟩
    · obtain rfl := F2.out x rfl hx
      have hx1 : ((v : Int) == 9221120237041090561) = false := by rw [beq_eq_false_iff_ne]; omega
      clear hx
      go_wp2
      go_ret
      exact ⟨rfl, HB.out⟩
set_option maxHeartbeats 1600000 in
theorem rgreat_calls (A : Option Addr) (c : Nat) (l : List Nat) (w : World) (hr : kF.C w A l.length l) (hc : l.length ≤ c) (hcm : c ≤ 9223372036854775807) (hl : ∀ x ∈ l, x < 18446744073709551616) (hlen : l.length * 8 ≤ 140737488351232) :
    Calls Tryd.prog 25 #[.slice A l.length c] w fun e w' => e = .returned (.int .u64 (greatV l : Nat)) ∧ Below w.heap.size w w' := by
  have HS := Lib.hid (rsort_calls l.length A c l w rfl hr hc hcm hl hlen)
  have F0 := Lib.hid (fun h => great_none (l := l) h)
  have F2 := Lib.hid (fun k x h hx hb => great_num (l := l) (k := k) (x := x) h hx hb)
  have HSL := Lib.hid (sortV_length l)
  generalize l.length = n at HS hlen hc HSL ⊢
  generalize greatV l = v at F0 F2 ⊢
  generalize sortV l = S at HS F0 F2 HSL
  clear hr hl
  go_enter Tryd.func25, Tryd.ntmps25
  go_wp2_with fail
  refine HS.out.mono ?_
  rintro e w1 ⟨u, rfl, hR, hb⟩
  have HB := Lib.hid hb
  clear hb HS
  obtain ⟨A1, c1, rfl, hC, hc1⟩ := R_CU hR
  have HC := Lib.hid hC
  rw [HSL.out] at hc1 ⊢
  clear hR hC
  go_wp2
  go_loopg [4] n (fun gg s4 W => ∃ k : Nat, k ≤ n ∧ k ≤ gg ∧ s4 = .int .i64 ((k : Int) - 1) ∧ w1 = W ∧ Aside (∀ (j : Nat) y, k ≤ j → S[j]? = some y → y = 9221120237041090561))
  case atStart => exact ⟨n, Nat.le_refl _, Nat.le_refl _, by go_num, rfl, (show Aside _ from fun j y hj hy => by have := (List.getElem?_eq_some_iff.1 hy).1; have := HSL.out; omega)⟩
  case round =>
    obtain ⟨k, hk, hg, rfl, rfl, AN⟩ := hrel
    rcases k with _ | k
    · rw [show ((0 : Nat) : Int) - 1 = -1 from rfl]
      obtain rfl := F0.out (fun j y hy => AN.out j y (Nat.zero_le _) hy)
      go_wp2
      go_ret
      exact ⟨rfl, HB.out⟩
    · obtain ⟨x, hx⟩ : ∃ x, S[k]? = some x := ⟨_, List.getElem?_eq_getElem (by have := HSL.out; omega)⟩
      have hA : ∃ a1, A1 = some a1 := by obtain ⟨a1, hA, _⟩ := HC.out.2.2 (by have := HSL.out; omega); exact ⟨a1, hA⟩
      obtain ⟨a1, rfl⟩ := hA
      have z0 := C_cell HC.out (by have := HSL.out; omega) k x hx
      have e1 : ((k + 1 : Nat) : Int) - 1 = (k : Int) := by omega
      rw [e1]
      have k1 : (0 : Int) ≤ (k : Int) := by omega
      have k2 : (k : Int) < (n : Int) := by omega
      have HX := Lib.hid hx
      clear hx e1
      by_cases hq : x = 9221120237041090561
      · subst hq
        go_wp2
        go_roundg k
        case measure => omega
        case rel => exact ⟨k, by omega, Nat.le_refl _, by go_num, rfl, (show Aside _ from fun j y hj hy => by
          by_cases e : j = k
          · subst e; rw [HX.out] at hy; cases hy; rfl
          · exact AN.out j y (by omega) hy)⟩
      · obtain rfl := F2.out k x HX.out hq (fun j y hj hy => AN.out j y (by omega) hy)
        have hq1 : ((v : Int) == 9221120237041090561) = false := by rw [beq_eq_false_iff_ne]; omega
        clear hq
        go_wp2
        go_ret
        exact ⟨rfl, HB.out⟩
end Go.Proofs.YtdkdmclbhcbfeaaDoor.Nu
