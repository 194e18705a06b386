/- slices.DeleteFunc with a test of the things. -/
import Derived.Test.YtodlcdpgiejnpaaIndex
namespace Go.Proofs.Ytodlcdpgiejnpaa.QI
set_option linter.unusedVariables false
set_option linter.unusedSimpArgs false
open Go.RowKit Hp

/-- what DeleteFunc leaves: all that was made since w, but the row's block b, and the block g, are as they were -/
structure SinceB (w W W' : World) (g b : Nat) : Prop where
  size : W.heap.size ≤ W'.heap.size
  new : ∀ j, w.heap.size ≤ j → j < W.heap.size → j ≠ b → W'.heap[j]? = W.heap[j]?
  at_ : W'.heap[g]? = W.heap[g]?
theorem Since.toB {w W W' : World} {g : Nat} (h : Since w W W' g) (b : Nat) : SinceB w W W' g b := ⟨h.size, fun j h1 h2 _ => h.new j h1 h2, h.at_⟩
theorem SinceB.trans {w a b c : World} {g q : Nat} (h : SinceB w a b g q) (k : SinceB w b c g q) : SinceB w a c g q :=
  ⟨Nat.le_trans h.size k.size, fun j h1 h2 h3 => (k.new j h1 (Nat.lt_of_lt_of_le h2 h.size) h3).trans (h.new j h1 h2 h3), k.at_.trans h.at_⟩
theorem SinceB.of_grown {w W W' : World} {g b : Nat} (hg : g ≠ b) (hgl : g < W.heap.size) (h : W.grownBy W' (some b)) : SinceB w W W' g b :=
  ⟨h.size, fun j _ h2 h3 => h.block j h2 (by simpa using h3), h.block g hgl (by simpa using hg)⟩
def Z5 : List Value := [.int .i64 0, .int .i64 0, .int .i64 0, .int .u64 0, .int .i64 0]
theorem zero_run : ∀ w, (Go.zeroValue 61).run Try.prog w = .ok (.agg Z5.toArray) w := fun w => by kernel_rfl
theorem zc_one (n : Nat) : ∀ v ∈ (Builtin.zeroCells Z5.toArray n).toList, v.oneCell' = true := by
  intro v hv
  simp only [Builtin.zeroCells, Array.toList_map, List.mem_map] at hv
  obtain ⟨i, _, rfl⟩ := hv
  have hi : i % 5 < 5 := Nat.mod_lt _ (by omega)
  show (Z5.toArray[i % 5]!).oneCell' = true
  generalize i % 5 = r at hi
  obtain rfl | rfl | rfl | rfl | rfl : r = 0 ∨ r = 1 ∨ r = 2 ∨ r = 3 ∨ r = 4 := by omega
  all_goals rfl
theorem clear_run (w : World) (ty : TypeId) (b o n c : Nat) (hn : 0 < n) (hc : w.there b o (n * 5)) :
    (Builtin.clear_ #[57] ty #[.slice (some ⟨b, o, none⟩) n c]).run Try.prog w = .ok (.tuple #[]) (w.setCells b o (Builtin.zeroCells Z5.toArray n).toList) := by
  have hsz : (Builtin.zeroCells Z5.toArray n).toList.length = n * 5 := by rw [Array.length_toList, size_zeroCells]; rfl
  have hst := run_storeCells_cells (P := Try.prog) b o (Builtin.zeroCells Z5.toArray n).toList 0 w (fun j hj => (hc j (by omega)).1) (fun j hj => (hc j (by omega)).2) (zc_one n)
  simp only [Nat.add_zero] at hst
  obtain ⟨m, rfl⟩ : ∃ m, n = m + 1 := ⟨n - 1, by omega⟩
  have hz : (Value.agg #[.int .i64 0, .int .i64 0, .int .i64 0, .int .u64 0, .int .i64 0]).cells = Z5.toArray := rfl
  simp [Builtin.clear_, run_underlying Try.underlying57, zero_run, hz, hst]
theorem row_spoil {w : World} {b cap : Nat} {L : List (It Int)} (h : ro w b L cap) (o : Nat) (vs : List Value) (ho : L.length * 5 ≤ o) (hv : o + vs.length ≤ cap * 5) : ro (w.setCells b o vs) b L cap := by
  obtain ⟨cur, h, hs, hl, hm, hr⟩ := h
  refine ⟨_, setCells_blk h _ _, by rw [setM_size, hs], hl, hm, fun m y hy i v hv' => ?_⟩
  have hi : i < 5 := by have := (List.getElem?_eq_some_iff.1 hv').1; simpa [enc] using this
  have hml := (List.getElem?_eq_some_iff.1 hy).1
  rw [setM_get _ _ _ _ (by omega), if_neg (by omega)]
  exact hr m y hy i v hv'
theorem row_there {w : World} {b cap : Nat} {L : List (It Int)} (h : ro w b L cap) (o n : Nat) (hv : o + n ≤ cap * 5) : w.there b o n := by
  obtain ⟨cur, h, hs, _⟩ := h
  intro i hi
  refine ⟨?_, blk_frozen h _⟩
  rw [blk_cell h, Array.getElem?_eq_getElem (by omega)]
  rfl
/-- the row while it is rewritten: i of the first j are kept -/
def Mid (S C : List (It Int)) (p : It Int → Bool) (i j : Nat) : Prop := C.length = S.length ∧ i < j ∧ j ≤ S.length ∧ C.take i = (S.take j).filter p ∧ ∀ q, j ≤ q → C[q]? = S[q]?
theorem Mid.keep {S C : List (It Int)} {p : It Int → Bool} {i j : Nat} (h : Mid S C p i j) (y : It Int) (hy : S[j]? = some y) (hp : p y = true) : Mid S (C.set i y) p (i + 1) (j + 1) := by
  obtain ⟨hl, hij, hjn, ht, hq⟩ := h
  have hj := (List.getElem?_eq_some_iff.1 hy)
  obtain ⟨hj1, hj2⟩ := hj
  refine ⟨by simp [hl], by omega, by omega, ?_, fun q hq' => ?_⟩
  · rw [List.take_succ_eq_append_getElem hj1, List.filter_append, ← ht, hj2, List.take_succ_eq_append_getElem (by simp; omega), List.take_set]
    simp [hp]
    rw [List.set_eq_of_length_le (by simp; omega)]
  · rw [List.getElem?_set_ne (by omega)]
    exact hq q (by omega)
theorem Mid.drop {S C : List (It Int)} {p : It Int → Bool} {i j : Nat} (h : Mid S C p i j) (y : It Int) (hy : S[j]? = some y) (hp : p y = false) : Mid S C p i (j + 1) := by
  obtain ⟨hl, hij, hjn, ht, hq⟩ := h
  obtain ⟨hj1, hj2⟩ := (List.getElem?_eq_some_iff.1 hy)
  refine ⟨hl, by omega, by omega, ?_, fun q hq' => hq q (by omega)⟩
  rw [List.take_succ_eq_append_getElem hj1, List.filter_append, ← ht, hj2]
  simp [hp]
theorem Mid.start {S : List (It Int)} {p : It Int → Bool} {k : Nat} {y : It Int} (hall : ∀ j z, j < k → S[j]? = some z → p z = true) (hy : S[k]? = some y) (hp : p y = false) : Mid S S p k (k + 1) := by
  obtain ⟨hj1, hj2⟩ := (List.getElem?_eq_some_iff.1 hy)
  refine ⟨rfl, by omega, by omega, ?_, fun q _ => rfl⟩
  rw [List.take_succ_eq_append_getElem hj1, List.filter_append, hj2]
  simp [hp]
  symm
  rw [List.filter_eq_self]
  intro z hz
  obtain ⟨q, hq⟩ := List.mem_iff_getElem?.1 hz
  rw [List.getElem?_take] at hq
  split at hq
  · exact hall q z (by assumption) hq
  · cases hq
theorem filter_all {S : List (It Int)} {p : It Int → Bool} (hall : ∀ j z, j < S.length → S[j]? = some z → p z = true) : S.filter p = S := by
  rw [List.filter_eq_self]
  intro z hz
  obtain ⟨q, hq⟩ := List.mem_iff_getElem?.1 hz
  exact hall q z (List.getElem?_eq_some_iff.1 hq).1 hq
end Go.Proofs.Ytodlcdpgiejnpaa.QI
