/- A row of things in one block: five cells each. -/
import Derived.Test.YtodlcdpgiejnpaaBase
namespace Go.Proofs.Ytodlcdpgiejnpaa
set_option linter.unusedVariables false
set_option linter.unusedSimpArgs false
open Go.RowKit Hp

def setM (cur : Array Value) (o : Nat) : List Value → Array Value
  | [] => cur
  | v :: r => setM (cur.setIfInBounds o v) (o + 1) r
theorem setM_size (cur : Array Value) (o : Nat) (vs : List Value) : (setM cur o vs).size = cur.size := by
  induction vs generalizing cur o with
  | nil => rfl
  | cons v r ih => unfold setM; rw [ih]; simp
theorem setM_get (cur : Array Value) (o : Nat) (vs : List Value) (p : Nat) (hf : o + vs.length ≤ cur.size) : (setM cur o vs)[p]? = if o ≤ p ∧ p < o + vs.length then vs[p - o]? else cur[p]? := by
  induction vs generalizing cur o with
  | nil => rw [if_neg (by simp)]; rfl
  | cons v r ih =>
    unfold setM
    simp only [List.length_cons] at hf
    rw [ih _ _ (by simp; omega)]
    by_cases hp : p = o
    · subst hp
      rw [if_neg (by omega), if_pos (by simp), Array.getElem?_setIfInBounds_self_of_lt (by omega)]
      simp
    · by_cases hq : o + 1 ≤ p ∧ p < o + 1 + r.length
      · rw [if_pos hq, if_pos (by simp; omega)]
        obtain ⟨d, rfl⟩ : ∃ d, p = o + 1 + d := ⟨p - (o + 1), by omega⟩
        rw [show o + 1 + d - (o + 1) = d by omega, show o + 1 + d - o = d + 1 by omega]
        rfl
      · rw [if_neg hq, if_neg (by simp; omega), Array.getElem?_setIfInBounds_ne (by omega)]
theorem setCells_blk {w : World} {b : Nat} {cur : Array Value} {ty : TypeId} {fr : Nat × Nat} (h : w.heap[b]? = some (.cells cur ty fr)) (o : Nat) (vs : List Value) : (w.setCells b o vs).heap[b]? = some (.cells (setM cur o vs) ty fr) := by
  induction vs generalizing w cur o with
  | nil => exact h
  | cons v r ih => exact ih (blk_set h o v) (o + 1)
theorem setCells_far {w : World} {b : Nat} (o : Nat) (vs : List Value) (k : Nat) (hk : k ≠ b) : (w.setCells b o vs).heap[k]? = w.heap[k]? := by
  induction vs generalizing w o with
  | nil => rfl
  | cons v r ih => unfold World.setCells; rw [ih, Below.heap_setCell w _ v k hk]
theorem setCells_size {w : World} {b : Nat} (o : Nat) (vs : List Value) : (w.setCells b o vs).heap.size = w.heap.size := by
  induction vs generalizing w o with
  | nil => rfl
  | cons v r ih => unfold World.setCells; rw [ih]; simp [World.setCell]
theorem grown_setCells (w : World) (b o : Nat) (vs : List Value) : w.grownBy (w.setCells b o vs) (some b) := by
  induction vs generalizing w o with
  | nil => exact ⟨rfl, rfl, rfl, Nat.le_refl _, fun _ _ _ => rfl⟩
  | cons v r ih =>
    have h := ih (w.setCell ⟨b, o, none⟩ v) (o + 1)
    unfold World.setCells
    refine ⟨h.os, h.tape, h.output, ?_, fun k hk hne => ?_⟩
    · have := h.size; simpa [World.setCell] using this
    · rw [h.block k (by simpa [World.setCell] using hk) hne]
      exact Below.heap_setCell w _ v k (fun e => hne (by rw [e]))

section
variable {α : Type} {f : α → Value} {ty : TypeId}
/-- the things L lie in block b, which has room for cap of them -/
def Row (f : α → Value) (ty : TypeId) (w : World) (b : Nat) (L : List (It α)) (cap : Nat) : Prop :=
  ∃ cur, w.heap[b]? = some (.cells cur ty (0, 0)) ∧ cur.size = cap * 5 ∧ L.length ≤ cap ∧ cap ≤ maxLen ∧ ∀ j x, L[j]? = some x → ∀ i v, (enc f x)[i]? = some v → cur[j * 5 + i]? = some v
variable {w : World} {b : Nat} {L : List (It α)} {cap : Nat}
theorem Row.lt (h : Row f ty w b L cap) : b < w.heap.size := by obtain ⟨cur, h, _⟩ := h; exact blk_lt h
theorem Row.kept (h : Row f ty w b L cap) {w' : World} (hk : w'.heap[b]? = w.heap[b]?) : Row f ty w' b L cap := by
  obtain ⟨cur, h, r⟩ := h; exact ⟨cur, hk.trans h, r⟩
theorem Row.range (h : Row f ty w b L cap) (j : Nat) (x : It α) (hx : L[j]? = some x) : w.rangeAt b (j * 5) (enc f x) := by
  obtain ⟨cur, h, _, _, _, hr⟩ := h
  intro i v hv
  rw [blk_cell h]
  exact hr j x hx i v hv
theorem Row.there (h : Row f ty w b L cap) (j : Nat) (hj : j < cap) : w.there b (j * 5) 5 := by
  obtain ⟨cur, h, hs, _⟩ := h
  intro i hi
  refine ⟨?_, blk_frozen h _⟩
  rw [blk_cell h, Array.getElem?_eq_getElem (by omega)]
  rfl
theorem Row.set (h : Row f ty w b L cap) (j : Nat) (x : It α) (hj : j < L.length) : Row f ty (w.setCells b (j * 5) (enc f x)) b (L.set j x) cap := by
  obtain ⟨cur, h, hs, hl, hm, hr⟩ := h
  refine ⟨_, setCells_blk h _ _, by rw [setM_size, hs], by simpa using hl, hm, fun m y hy i v hv => ?_⟩
  have hi : i < 5 := by have := (List.getElem?_eq_some_iff.1 hv).1; simpa [enc] using this
  rw [setM_get _ _ _ _ (by rw [enc_len]; omega), enc_len]
  rw [List.getElem?_set] at hy
  by_cases hmj : j = m
  · subst hmj
    rw [if_pos rfl, if_pos hj] at hy
    obtain rfl : x = y := by simpa using hy
    rw [if_pos (by omega), show j * 5 + i - j * 5 = i by omega]
    exact hv
  · rw [if_neg hmj] at hy
    rw [if_neg (by omega)]
    exact hr m y hy i v hv
theorem Row.spoil (h : Row f ty w b L cap) (j : Nat) (vs : List Value) (hv : vs.length = 5) (hj : L.length ≤ j) (hc : j < cap) : Row f ty (w.setCells b (j * 5) vs) b L cap := by
  obtain ⟨cur, h, hs, hl, hm, hr⟩ := h
  refine ⟨_, setCells_blk h _ _, by rw [setM_size, hs], hl, hm, fun m y hy i v hv' => ?_⟩
  have hi : i < 5 := by have := (List.getElem?_eq_some_iff.1 hv').1; simpa [enc] using this
  have hml := (List.getElem?_eq_some_iff.1 hy).1
  rw [setM_get _ _ _ _ (by rw [hv]; omega), hv, if_neg (by omega)]
  exact hr m y hy i v hv'
theorem Row.take (h : Row f ty w b L cap) (n : Nat) : Row f ty w b (L.take n) cap := by
  obtain ⟨cur, h, hs, hl, hm, hr⟩ := h
  refine ⟨cur, h, hs, by rw [List.length_take]; omega, hm, fun m y hy => hr m y ?_⟩
  rw [List.getElem?_take] at hy
  split at hy
  · exact hy
  · cases hy
theorem grown_drew (w : World) (r : Option Nat) : w.grownBy w.drew r := ⟨rfl, rfl, rfl, Nat.le_refl _, fun _ _ _ => rfl⟩
theorem Row.swapped (h : Row f ty w b L cap) (i j : Nat) (x y : It α) (hx : L[i]? = some x) (hj : j < L.length) :
    Row f ty ((w.setCells b (i * 5) (enc f y)).setCells b (j * 5) (enc f x)).drew b (swap L i j x y) cap ∧ w.grownBy ((w.setCells b (i * 5) (enc f y)).setCells b (j * 5) (enc f x)).drew (some b) := by
  have hi := (List.getElem?_eq_some_iff.1 hx).1
  have h1 := h.set i y hi
  have h2 := h1.set j x (by rw [List.length_set]; exact hj)
  have g3 := grown_trans (grown_trans (grown_setCells w b (i * 5) (enc f y)) (grown_setCells _ b (j * 5) (enc f x))) (grown_drew _ _)
  generalize (w.setCells b (i * 5) (enc f y)).setCells b (j * 5) (enc f x) = W at h2 g3
  exact ⟨h2.kept (w' := W.drew) rfl, g3⟩
theorem range5 {w : World} {b o : Nat} {v0 v1 v2 v3 v4 : Value} (h : w.rangeAt b o [v0, v1, v2, v3, v4]) :
    w.cell? ⟨b, o, none⟩ = some v0 ∧ w.cell? ⟨b, o + 1, none⟩ = some v1 ∧ w.cell? ⟨b, o + 2, none⟩ = some v2 ∧ w.cell? ⟨b, o + 3, none⟩ = some v3 ∧ w.cell? ⟨b, o + 4, none⟩ = some v4 :=
  ⟨h 0 v0 rfl, h 1 v1 rfl, h 2 v2 rfl, h 3 v3 rfl, h 4 v4 rfl⟩
theorem flat_get (f : α → Value) : ∀ (L : List (It α)) (j i : Nat), i < 5 → (L.flatMap (enc f))[j * 5 + i]? = (L[j]?).bind fun x => (enc f x)[i]?
  | [], j, i, hi => by simp
  | x :: L, 0, i, hi => by
    rw [List.flatMap_cons, List.getElem?_append_left (by rw [enc_len]; omega)]
    simp
  | x :: L, j + 1, i, hi => by
    rw [List.flatMap_cons, List.getElem?_append_right (by rw [enc_len]; omega), enc_len, show (j + 1) * 5 + i - 5 = j * 5 + i by omega, flat_get f L j i hi]
    simp
theorem flat_len (f : α → Value) (L : List (It α)) : (L.flatMap (enc f)).length = L.length * 5 := by
  induction L with
  | nil => rfl
  | cons x L ih => rw [List.flatMap_cons, List.length_append, ih, enc_len, List.length_cons]; omega
theorem Row.owns (h : Row f ty w b L cap) {base : Nat} (hb : base ≤ b) : w.ownsRow base ty 5 (.slice (some ⟨b, 0, none⟩) L.length cap) L.length (L.flatMap (enc f)) := by
  obtain ⟨cur, h, hs, hl, hm, hr⟩ := h
  refine ⟨flat_len f L, .inr ⟨b, cap, cur, rfl, hb, h, hl, hm, hs, ?_⟩⟩
  refine List.ext_getElem? fun p => ?_
  rw [List.getElem?_take]
  obtain ⟨j, i, hi, rfl⟩ : ∃ j i, i < 5 ∧ p = j * 5 + i := ⟨p / 5, p % 5, by omega, by omega⟩
  rw [flat_get f L j i hi]
  by_cases hj : j < L.length
  · rw [if_pos (by omega), List.getElem?_eq_getElem hj, Array.getElem?_toList]
    have hx := List.getElem?_eq_getElem hj
    have := hr j _ hx i ((enc f L[j])[i]'(by rw [enc_len]; omega)) (List.getElem?_eq_getElem _)
    rw [this]
    simp only [Option.bind_some]
    rw [List.getElem?_eq_getElem (by rw [enc_len]; omega)]
  · rw [if_neg (by omega), List.getElem?_eq_none (by omega)]
    rfl
theorem owns_row {base : Nat} {g n cap : Nat} (h : w.ownsRow base ty 5 (.slice (some ⟨g, 0, none⟩) n cap) n (L.flatMap (enc f))) (hn : n = L.length) : Row f ty w g L cap ∧ base ≤ g := by
  obtain ⟨hl, h | ⟨g', cap', cur, he, hb, hg, hn', hm, hs, ht⟩⟩ := h
  · cases h.1
  · simp only [Value.slice.injEq, Option.some.injEq, Addr.mk.injEq, and_true, true_and] at he
    obtain ⟨rfl, rfl⟩ := he
    refine ⟨⟨cur, hg, hs, by omega, hm, fun j x hx i v hv => ?_⟩, hb⟩
    have hi : i < 5 := by have := (List.getElem?_eq_some_iff.1 hv).1; simpa [enc] using this
    have hj := (List.getElem?_eq_some_iff.1 hx).1
    have h2 := flat_get f L j i hi
    rw [hx, Option.bind_some, hv, ← ht, List.getElem?_take, if_pos (by omega), Array.getElem?_toList] at h2
    exact h2
end
end Go.Proofs.Ytodlcdpgiejnpaa
