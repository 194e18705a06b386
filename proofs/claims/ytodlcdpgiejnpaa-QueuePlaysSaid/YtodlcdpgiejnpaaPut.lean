/- The document's Put. -/
import Derived.Test.YtodlcdpgiejnpaaLat
namespace Go.Proofs.Ytodlcdpgiejnpaa
set_option linter.unusedVariables false
set_option linter.unusedSimpArgs false
open Go.RowKit Hp

theorem nlx (a b : Tp) : (!lx a b) = if a.1 != b.1 then decide (b.1 < a.1) else if a.2.1 != b.2.1 then decide (b.2.1 < a.2.1) else decide (b.2.2.1 ≤ a.2.2.1) := by
  have key : ∀ P : Prop, [Decidable P] → ((¬ lx a b = true) ↔ P) → (!lx a b) = decide P := by
    intro P _ h
    rw [Bool.eq_iff_iff]
    simp only [Bool.not_eq_true', decide_eq_true_eq]
    rw [← h]
    simp
  by_cases h1 : a.1 = b.1
  · rw [if_neg (by simp [h1])]
    by_cases h2 : a.2.1 = b.2.1
    · rw [if_neg (by simp [h2])]
      exact key _ (by rw [lx_iff]; omega)
    · rw [if_pos (by simp [h2])]
      exact key _ (by rw [lx_iff]; omega)
  · rw [if_pos (by simp [h1])]
    exact key _ (by rw [lx_iff]; omega)
set_option maxHeartbeats 800000 in
theorem behind_calls (a b : Tp) (w : World) :
    Calls Try.prog 27 #[.agg (tc4 a).toArray, .agg (tc4 b).toArray] w fun e w' => e = .returned (.bool (!lx a b)) ∧ Below w.heap.size w w' := by
  rw [nlx]
  obtain ⟨at', ar, an, ax⟩ := a
  obtain ⟨bt, br, bn, bx⟩ := b
  simp only [tc4]
  have hB := ((Below.refl w.heap.size w).alloc (Nat.le_refl _) (.cells #[.int .i64 at', .int .i64 ar, .int .i64 an, .int .i64 ax] 34 (0, 0))).alloc (by simp) (.cells #[.int .i64 bt, .int .i64 br, .int .i64 bn, .int .i64 bx] 34 (0, 0))
  have HB := Lib.hid hB
  clear hB
  by_cases h1 : at' = bt
  · have e1 : (at' != bt) = false := by simp [h1]
    have e1' : (at' == bt) = true := by simp [h1]
    by_cases h2 : ar = br
    · have e2 : (ar != br) = false := by simp [h2]
      have e2' : (ar == br) = true := by simp [h2]
      clear h1 h2
      go_enter Try.func27, Try.ntmps27
      go_wp2
      go_ret
      exact ⟨by simp [e1, e2], HB.out⟩
    · have e2 : (ar != br) = true := by simp [h2]
      have e2' : (ar == br) = false := by simp [h2]
      clear h1 h2
      go_enter Try.func27, Try.ntmps27
      go_wp2
      go_ret
      exact ⟨by simp [e1, e2], HB.out⟩
  · have e1 : (at' != bt) = true := by simp [h1]
    have e1' : (at' == bt) = false := by simp [h1]
    clear h1
    go_enter Try.func27, Try.ntmps27
    go_wp2
    go_ret
    exact ⟨by simp [e1], HB.out⟩

/-- the place where a new one goes -/
def Cut (x : Tp) (T : List Tp) (lo hi : Nat) : Prop := lo ≤ hi ∧ hi ≤ T.length ∧ (∀ j y, j < lo → T[j]? = some y → lx x y = false) ∧ (∀ j y, hi ≤ j → T[j]? = some y → lx x y = true)
theorem insT_at (x : Tp) : ∀ (T : List Tp) (lo : Nat), Cut x T lo lo → insT x T = T.take lo ++ x :: T.drop lo
  | [], lo, h => by
    have : lo = 0 := by have := h.2.1; simpa using this
    subst this; rfl
  | y :: T, 0, h => by
    have := h.2.2.2 0 y (Nat.le_refl _) rfl
    simp [insT, this]
  | y :: T, lo + 1, h => by
    have h0 := h.2.2.1 0 y (by omega) rfl
    have ih := insT_at x T lo ⟨Nat.le_refl _, by have := h.2.1; simpa using this, fun j z hj hz => h.2.2.1 (j + 1) z (by omega) hz, fun j z hj hz => h.2.2.2 (j + 1) z (by omega) hz⟩
    simp [insT, h0, ih]
theorem lx_after {T : List Tp} (h : SortT T) {x y z : Tp} {i j : Nat} (hij : i ≤ j) (hy : T[i]? = some y) (hz : T[j]? = some z) (hl : lx x y = true) : lx x z = true := by
  by_cases e : i = j
  · subst e; obtain rfl : y = z := by simpa using hy.symm.trans hz
    exact hl
  · obtain ⟨h1, e1⟩ := List.getElem?_eq_some_iff.1 hy
    obtain ⟨h2, e2⟩ := List.getElem?_eq_some_iff.1 hz
    have := List.pairwise_iff_getElem.1 h i j h1 h2 (by omega)
    rw [e1, e2, Bool.eq_false_iff, Ne, lx_iff] at this
    rw [lx_iff] at hl ⊢
    omega
theorem lx_before {T : List Tp} (h : SortT T) {x y z : Tp} {i j : Nat} (hij : i ≤ j) (hy : T[i]? = some y) (hz : T[j]? = some z) (hl : lx x z = false) : lx x y = false := by
  cases hc : lx x y
  · rfl
  · rw [lx_after h hij hy hz hc] at hl; cases hl
theorem Cut.up {x : Tp} {T : List Tp} {lo hi m : Nat} (hs : SortT T) (h : Cut x T lo hi) (hm : m < hi) (y : Tp) (hy : T[m]? = some y) (hl : lx x y = false) (hlo : lo ≤ m) : Cut x T (m + 1) hi :=
  ⟨by omega, h.2.1, fun j z hj hz => lx_before hs (i := j) (j := m) (by omega) hz hy hl, h.2.2.2⟩
theorem Cut.down {x : Tp} {T : List Tp} {lo hi m : Nat} (hs : SortT T) (h : Cut x T lo hi) (hm : m < hi) (y : Tp) (hy : T[m]? = some y) (hl : lx x y = true) (hlo : lo ≤ m) : Cut x T lo m :=
  ⟨hlo, by have := h.2.1; omega, h.2.2.1, fun j z hj hz => lx_after hs (i := m) (j := j) (by omega) hy hz hl⟩
theorem Cut.start (x : Tp) (T : List Tp) : Cut x T 0 T.length :=
  ⟨Nat.zero_le _, Nat.le_refl _, fun j y hj => absurd hj (by omega), fun j y hj hy => by have := (List.getElem?_eq_some_iff.1 hy).1; omega⟩
/-- the row while the new one goes down to its place: at i stands x, ahead of it and behind it all is as it was -/
def Sh (x : Tp) (T : List Tp) (i : Nat) : List Tp := T.take i ++ x :: T.drop i
theorem Sh.len (x : Tp) (T : List Tp) (i : Nat) (hi : i ≤ T.length) : (Sh x T i).length = T.length + 1 := by unfold Sh; simp; omega
theorem Sh.step (x : Tp) (T : List Tp) (i : Nat) (y : Tp) (hi : i + 1 ≤ T.length) (hy : T[i]? = some y) : ((Sh x T (i + 1)).set (i + 1) y).set i x = Sh x T i := by
  obtain ⟨h1, e1⟩ := List.getElem?_eq_some_iff.1 hy
  unfold Sh
  rw [List.take_succ_eq_append_getElem h1, e1, List.drop_eq_getElem_cons h1, e1]
  have hl : (T.take i ++ [y]).length = i + 1 := by simp; omega
  rw [List.set_append_right _ _ (by omega), hl, Nat.sub_self, List.set_cons_zero, List.append_assoc, List.set_append_right _ _ (by simp; omega)]
  simp
  have : i - min i T.length = 0 := by omega
  rw [this]
  rfl
theorem Sh.get (x : Tp) (T : List Tp) (i : Nat) (hi : i + 1 ≤ T.length) : (Sh x T (i + 1))[i]? = T[i]? := by
  unfold Sh
  rw [List.getElem?_append_left (by simp; omega), List.getElem?_take, if_pos (by omega)]
end Go.Proofs.Ytodlcdpgiejnpaa
