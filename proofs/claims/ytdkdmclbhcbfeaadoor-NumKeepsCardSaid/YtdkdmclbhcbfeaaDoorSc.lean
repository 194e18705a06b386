/- Many cells of a block written. -/
import Derived.Test.YtdkdmclbhcbfeaaDoorF
namespace Go.Proofs.YtdkdmclbhcbfeaaDoor.Nu
open Go.RowKit Go.Proofs.YtdkdmclbhcbfeaaDoorW.PrintWords Go.Proofs.YtdkdmclbhcbfeaaDoorW.PrintLast Go.Proofs.YtdkdmclbhcbfeaaDoorW.PrintMore
set_option linter.unusedVariables false
set_option linter.unusedSimpArgs false
def setM (cur : Array Value) (o : Nat) : List Value → Array Value
  | [] => cur
  | v :: r => setM (cur.setIfInBounds o v) (o + 1) r
theorem setM_size (cur : Array Value) (o : Nat) (vs : List Value) : (setM cur o vs).size = cur.size := by
  induction vs generalizing cur o with
  | nil => rfl
  | cons v r ih => unfold setM; rw [ih]; simp
theorem setM_get (cur : Array Value) (o : Nat) (vs : List Value) (p : Nat) (hf : o + vs.length ≤ cur.size) : (setM cur o vs)[p]? = if o ≤ p ∧ p < o + vs.length then vs[p - o]? else cur[p]? := by
  induction vs generalizing cur o with
  | nil => rw [if_neg (by simp)]; rfl
  | cons v r ih =>
    unfold setM
    simp only [List.length_cons] at hf
    rw [ih _ _ (by simp; omega)]
    by_cases hp : p = o
    · subst hp
      rw [if_neg (by omega), if_pos (by simp), Array.getElem?_setIfInBounds_self_of_lt (by omega)]
      simp
    · by_cases hq : o + 1 ≤ p ∧ p < o + 1 + r.length
      · rw [if_pos hq, if_pos (by simp; omega)]
        obtain ⟨d, rfl⟩ : ∃ d, p = o + 1 + d := ⟨p - (o + 1), by omega⟩
        rw [show o + 1 + d - (o + 1) = d by omega, show o + 1 + d - o = d + 1 by omega]
        rfl
      · rw [if_neg hq, if_neg (by simp; omega), Array.getElem?_setIfInBounds_ne (by omega)]
theorem setCells_blk {w : World} {b : Nat} {cur : Array Value} {ty : TypeId} (h : w.heap[b]? = some (.cells cur ty (0, 0))) (o : Nat) (vs : List Value) : (w.setCells b o vs).heap[b]? = some (.cells (setM cur o vs) ty (0, 0)) := by
  induction vs generalizing w cur o with
  | nil => exact h
  | cons v r ih => exact ih (blk_set h o v) (o + 1)
theorem setCells_far {w : World} {b : Nat} (o : Nat) (vs : List Value) (k : Nat) (hk : k ≠ b) : (w.setCells b o vs).heap[k]? = w.heap[k]? := by
  induction vs generalizing w o with
  | nil => rfl
  | cons v r ih => unfold World.setCells; rw [ih, Below.heap_setCell w _ v k hk]
theorem setCells_size {w : World} {b : Nat} (o : Nat) (vs : List Value) : (w.setCells b o vs).heap.size = w.heap.size := by
  induction vs generalizing w o with
  | nil => rfl
  | cons v r ih => unfold World.setCells; rw [ih]; simp [World.setCell]
theorem grown_setCells (w : World) (b o : Nat) (vs : List Value) : w.grownBy (w.setCells b o vs) (some b) := by
  induction vs generalizing w o with
  | nil => exact ⟨rfl, rfl, rfl, Nat.le_refl _, fun _ _ _ => rfl⟩
  | cons v r ih =>
    have h := ih (w.setCell ⟨b, o, none⟩ v) (o + 1)
    unfold World.setCells
    refine ⟨h.os, h.tape, h.output, ?_, fun k hk hne => ?_⟩
    · have := h.size; simpa [World.setCell] using this
    · rw [h.block k (by simpa [World.setCell] using hk) hne]
      exact Below.heap_setCell w _ v k (fun e => hne (by rw [e]))

end Go.Proofs.YtdkdmclbhcbfeaaDoor.Nu
