/- A queue by what is in it, in order (string). -/
import Derived.Test.YtodlcdpgiejnpaaPop2S
namespace Go.Proofs.Ytodlcdpgiejnpaa.QS
set_option linter.unusedVariables false
set_option linter.unusedSimpArgs false
open Go.RowKit Hp

def QAt (w : World) (g : Nat) (bo : Option Nat) (most num : Int) (S : List (It X)) : Prop :=
  (∃ L, HasQ w g bo most num L ∧ L.Perm S ∧ IsHeap L) ∧ Sorted S ∧ (S.length : Int) ≤ most ∧ most ≤ 65536 ∧ (∀ x ∈ S, x.k ≤ num) ∧ 0 ≤ num

variable {w : World} {g : Nat} {bo : Option Nat} {most num : Int} {S : List (It X)}
theorem QAt.lt (h : QAt w g bo most num S) : g < w.heap.size ∧ ∀ k, bo = some k → k < w.heap.size ∧ k ≠ g := by
  obtain ⟨⟨L, ⟨cap, hq, h1, h2⟩, _⟩, _⟩ := h
  exact ⟨blk_lt hq, fun k hk => ⟨(h2 k hk).2.lt, (h2 k hk).1⟩⟩
theorem QAt.kept (h : QAt w g bo most num S) {w' : World} (hg : w'.heap[g]? = w.heap[g]?) (hb : ∀ k, bo = some k → w'.heap[k]? = w.heap[k]?) : QAt w' g bo most num S := by
  obtain ⟨⟨L, ⟨cap, hq, h1, h2⟩, r⟩, s⟩ := h
  exact ⟨⟨L, ⟨cap, hg.trans hq, h1, fun b hb' => ⟨(h2 b hb').1, (h2 b hb').2.kept (hb b hb')⟩⟩, r⟩, s⟩
theorem QAt.below (h : QAt w g bo most num S) {w' : World} (hB : Below w.heap.size w w') : QAt w' g bo most num S :=
  h.kept (hB.block g h.lt.1) fun k hk => hB.block k (h.lt.2 k hk).1
/-- another queue's call leaves it -/
theorem QAt.apart (h : QAt w g bo most num S) {w' : World} {g2 : Nat} {b2 b3 : Option Nat} (hf : Fr w w' g2 b2 b3) (h1 : g ≠ g2) (h2 : some g ≠ b2) (h3 : ∀ k, bo = some k → k ≠ g2 ∧ some k ≠ b2) : QAt w' g bo most num S :=
  h.kept (hf.block g h.lt.1 h1 h2) fun k hk => hf.block k (h.lt.2 k hk).1 (h3 k hk).1 (h3 k hk).2
theorem QAt.len (h : QAt w g bo most num S) : ∃ L, HasQ w g bo most num L ∧ L.length = S.length := by
  obtain ⟨⟨L, hq, hp, _⟩, _⟩ := h
  exact ⟨L, hq, hp.length_eq⟩

theorem new_at (n : Int) (w : World) :
    Calls Try.prog 21 #[.int .i64 n] w fun e w' => e = .returned (.pointer (some ⟨w.heap.size, 0, none⟩)) ∧ QAt w' w.heap.size none (min (max n 0) 65536) 0 [] ∧ Below w.heap.size w w' :=
  (new_calls n w).mono fun e w' ⟨he, hq, hb⟩ => ⟨he, ⟨⟨[], hq, .refl _, heap_nil⟩, sorted_nil, by simp; omega, by omega, by simp, by omega⟩, hb⟩
theorem len_at (h : QAt w g bo most num S) : Calls Try.prog 23 #[.pointer (some ⟨g, 0, none⟩)] w fun e w' => e = .returned (.int .i64 S.length) ∧ w' = w := by
  obtain ⟨L, hq, hl⟩ := h.len
  rw [← hl]
  exact len_calls g bo most num L w hq
theorem push_full_at (h : QAt w g bo most num S) (t r n : Int) (x : X) (hf : (S.length : Int) = most) :
    Calls Try.prog 22 #[.pointer (some ⟨g, 0, none⟩), .int .i64 t, .int .i64 r, .int .i64 n, Value.string x] w fun e w' => e = .returned (.int .i64 6) ∧ Below w.heap.size w w' := by
  obtain ⟨L, hq, hl⟩ := h.len
  exact push_full g bo most num L t r n x w hq (by rw [hl]; exact hf)
theorem push_at (h : QAt w g bo most num S) (t r n : Int) (x : X) (hf : (S.length : Int) < most) (hn : num < 9223372036854775807) :
    Calls Try.prog 22 #[.pointer (some ⟨g, 0, none⟩), .int .i64 t, .int .i64 r, .int .i64 n, Value.string x] w fun e w' => e = .returned (.int .i64 0) ∧
      ∃ bo', QAt w' g bo' most (num + 1) (ins ⟨t, r, n, num + 1, x⟩ S) ∧ Fr w w' g bo bo' := by
  obtain ⟨⟨L, hq, hp, hh⟩, hs, hl, hm, hk, h0⟩ := h
  refine (push_calls g bo most num L t r n x w hq hh (by rw [hp.length_eq]; exact hf) hm h0 (by omega)).mono ?_
  rintro e w' ⟨rfl, bo', L', hq', hp', hh', hF⟩
  refine ⟨rfl, bo', ⟨⟨L', hq', (hp'.trans (hp.cons _)).trans (ins_perm _ S).symm, hh'⟩, ins_sorted _ S hs (fun y hy => by have := hk y hy; show y.k < num + 1; omega), by rw [ins_length]; omega, hm, fun y hy => ?_, by omega⟩, hF⟩
  rcases List.mem_cons.1 ((ins_perm _ S).mem_iff.1 hy) with rfl | hy
  · exact Int.le_refl _
  · have := hk y hy; omega
theorem peek_none_at (h : QAt w g bo most num []) : Calls Try.prog 24 #[.pointer (some ⟨g, 0, none⟩)] w fun e w' => e = .returned (.tuple #[Value.string ByteArray.empty, .int .i64 0, .bool false]) ∧ w' = w := by
  obtain ⟨L, hq, hl⟩ := h.len
  obtain rfl := List.eq_nil_of_length_eq_zero hl
  exact peek_none g bo most num w hq
theorem pop_none_at (h : QAt w g bo most num []) : Calls Try.prog 25 #[.pointer (some ⟨g, 0, none⟩)] w fun e w' => e = .returned (.tuple #[Value.string ByteArray.empty, .int .i64 0, .bool false]) ∧ w' = w := by
  obtain ⟨L, hq, hl⟩ := h.len
  obtain rfl := List.eq_nil_of_length_eq_zero hl
  exact pop_none g bo most num w hq
theorem peek_at {y : It X} (h : QAt w g bo most num (y :: S)) : Calls Try.prog 24 #[.pointer (some ⟨g, 0, none⟩)] w fun e w' => e = .returned (.tuple #[Value.string y.x, .int .i64 y.t, .bool true]) ∧ Below w.heap.size w w' := by
  obtain ⟨⟨L, hq, hp, hh⟩, hs, hl, hm, hk, h0⟩ := h
  exact peek_calls g bo most num y L w hq (head_is L y S hp hh hs) (by rw [hp.length_eq]; omega)
theorem pop_at {y : It X} (h : QAt w g bo most num (y :: S)) : Calls Try.prog 25 #[.pointer (some ⟨g, 0, none⟩)] w fun e w' => e = .returned (.tuple #[Value.string y.x, .int .i64 y.t, .bool true]) ∧
    QAt w' g bo most num S ∧ Fr w w' g bo bo := by
  obtain ⟨⟨L, hq, hp, hh⟩, hs, hl, hm, hk, h0⟩ := h
  have hlen := hp.length_eq
  simp only [List.length_cons] at hlen hl
  have hd := head_is L y S hp hh hs
  obtain ⟨z, hz⟩ : ∃ z, L[L.length - 1]? = some z := ⟨_, List.getElem?_eq_getElem (by omega)⟩
  refine (pop_calls g bo most num y z L w hq hh hd hz (by omega)).mono ?_
  rintro e w' ⟨rfl, L', hq', hp', hh', hF⟩
  exact ⟨rfl, ⟨⟨L', hq', hp'.trans (pop_perm L y z S hp hd hz), hh'⟩, (List.pairwise_cons.1 hs).2, by omega, hm, fun x hx => hk x (List.mem_cons_of_mem _ hx), h0⟩, hF⟩
end Go.Proofs.Ytodlcdpgiejnpaa.QS
