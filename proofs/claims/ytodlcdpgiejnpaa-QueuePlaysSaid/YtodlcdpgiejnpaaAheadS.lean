/- Which of two things stands ahead (string). -/
import Derived.Test.YtodlcdpgiejnpaaBase
namespace Go.Proofs.Ytodlcdpgiejnpaa.QS
set_option linter.unusedVariables false
set_option linter.unusedSimpArgs false
open Go.RowKit Hp

abbrev X := ByteArray
abbrev en : It X → List Value := enc Value.string

set_option maxHeartbeats 800000 in
theorem ahead_calls (a b : It X) (w : World) :
    Calls Try.prog 35 #[.agg (en a).toArray, .agg (en b).toArray] w fun e w' => e = .returned (.bool (fore a b)) ∧ Below w.heap.size w w' := by
  obtain ⟨at', ar, an, ak, ax⟩ := a
  obtain ⟨bt, br, bn, bk, bx⟩ := b
  simp only [en, enc]
  have HA : fore (⟨at', ar, an, ak, ax⟩ : It X) ⟨bt, br, bn, bk, bx⟩ = if at' != bt then decide (at' < bt) else if ar != br then decide (ar < br) else if an != bn then decide (an < bn) else decide (ak < bk) := rfl
  rw [HA]
  clear HA
  have hB := ((Below.refl w.heap.size w).alloc (Nat.le_refl _) (.cells #[.int .i64 at', .int .i64 ar, .int .i64 an, .int .u64 ak, Value.string ax] 72 (0, 0))).alloc (by simp) (.cells #[.int .i64 bt, .int .i64 br, .int .i64 bn, .int .u64 bk, Value.string bx] 72 (0, 0))
  have HB := Lib.hid hB
  clear hB
  by_cases h1 : at' = bt
  · have e1 : (at' != bt) = false := by simp [h1]
    have e1' : (at' == bt) = true := by simp [h1]
    by_cases h2 : ar = br
    · have e2 : (ar != br) = false := by simp [h2]
      have e2' : (ar == br) = true := by simp [h2]
      by_cases h3 : an = bn
      · have e3 : (an != bn) = false := by simp [h3]
        have e3' : (an == bn) = true := by simp [h3]
        clear h1 h2 h3
        go_enter Try.func35, Try.ntmps35
        go_wp2
        go_ret
        trace_state
        exact ⟨by simp [e1, e2, e3], HB.out⟩
      · have e3 : (an != bn) = true := by simp [h3]
        have e3' : (an == bn) = false := by simp [h3]
        clear h1 h2 h3
        go_enter Try.func35, Try.ntmps35
        go_wp2
        go_ret
        exact ⟨by simp [e1, e2, e3], HB.out⟩
    · have e2 : (ar != br) = true := by simp [h2]
      have e2' : (ar == br) = false := by simp [h2]
      clear h1 h2
      go_enter Try.func35, Try.ntmps35
      go_wp2
      go_ret
      exact ⟨by simp [e1, e2], HB.out⟩
  · have e1 : (at' != bt) = true := by simp [h1]
    have e1' : (at' == bt) = false := by simp [h1]
    clear h1
    go_enter Try.func35, Try.ntmps35
    go_wp2
    go_ret
    exact ⟨by simp [e1], HB.out⟩
end Go.Proofs.Ytodlcdpgiejnpaa.QS
