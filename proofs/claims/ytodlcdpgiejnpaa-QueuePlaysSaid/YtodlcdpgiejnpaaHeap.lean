/- A heap of things with what they stand by: plain Lean, no program in sight. -/
import Derived.RowKit
namespace Go.Proofs.Ytodlcdpgiejnpaa.Hp
set_option linter.unusedVariables false

structure It (α : Type) where
  t : Int
  r : Int
  n : Int
  k : Int
  x : α

variable {α : Type}

def fore (a b : It α) : Bool :=
  if a.t != b.t then decide (a.t < b.t) else if a.r != b.r then decide (a.r < b.r) else if a.n != b.n then decide (a.n < b.n) else decide (a.k < b.k)

theorem fore_iff (a b : It α) : fore a b = true ↔ a.t < b.t ∨ a.t = b.t ∧ (a.r < b.r ∨ a.r = b.r ∧ (a.n < b.n ∨ a.n = b.n ∧ a.k < b.k)) := by
  unfold fore
  split
  · rename_i h; simp at h; simp; omega
  · rename_i h; simp at h
    split
    · rename_i h2; simp at h2; simp; omega
    · rename_i h2; simp at h2
      split
      · rename_i h3; simp at h3; simp; omega
      · rename_i h3; simp at h3; simp; omega

theorem fore_irrefl (a : It α) : fore a a = false := by
  rw [Bool.eq_false_iff]; intro h; rw [fore_iff] at h; omega
theorem fore_trans {a b c : It α} (h : fore a b = true) (k : fore b c = true) : fore a c = true := by
  rw [fore_iff] at *; omega
theorem fore_ntrans {a b c : It α} (h : fore a b = false) (k : fore b c = false) : fore a c = false := by
  rw [Bool.eq_false_iff, Ne, fore_iff] at *; omega
theorem fore_asymm {a b : It α} (h : fore a b = true) : fore b a = false := by
  rw [Bool.eq_false_iff]; intro k; rw [fore_iff] at *; omega
theorem fore_total {a b : It α} (h : a.k ≠ b.k) (hn : fore a b = false) : fore b a = true := by
  rw [Bool.eq_false_iff, Ne, fore_iff] at hn; rw [fore_iff]; omega

def swap (L : List (It α)) (i j : Nat) (a b : It α) : List (It α) := (L.set i b).set j a

/-- the heap's order at the place j -/
def Fine (L : List (It α)) (j : Nat) : Prop := ∀ a b, L[j]? = some a → L[(j - 1) / 2]? = some b → fore a b = false
def IsHeap (L : List (It α)) : Prop := ∀ j, 0 < j → Fine L j
/-- all is in order but at the place i -/
def UpInv (L : List (It α)) (i : Nat) : Prop :=
  (∀ j, 0 < j → j ≠ i → Fine L j) ∧ (0 < i → ∀ j, 0 < j → (j - 1) / 2 = i → ∀ a b, L[j]? = some a → L[(i - 1) / 2]? = some b → fore a b = false)
/-- all is in order but below the place i -/
def DownInv (L : List (It α)) (i : Nat) : Prop :=
  (∀ j, 0 < j → (j - 1) / 2 ≠ i → Fine L j) ∧ (0 < i → ∀ j, 0 < j → (j - 1) / 2 = i → ∀ a b, L[j]? = some a → L[(i - 1) / 2]? = some b → fore a b = false)

theorem swap_get (L : List (It α)) (i j : Nat) (a b : It α) (m : Nat) (hi : i < L.length) (hj : j < L.length) :
    (swap L i j a b)[m]? = if m = j then some a else if m = i then some b else L[m]? := by
  unfold swap
  rw [List.getElem?_set, List.length_set]
  by_cases h : j = m
  · rw [if_pos h, if_pos hj, if_pos h.symm]
  · rw [if_neg h, if_neg (fun e => h e.symm), List.getElem?_set]
    by_cases h2 : i = m
    · rw [if_pos h2, if_pos hi, if_pos h2.symm]
    · rw [if_neg h2, if_neg (fun e => h2 e.symm)]

theorem swap_length (L : List (It α)) (i j : Nat) (a b : It α) : (swap L i j a b).length = L.length := by simp [swap]

theorem swap_perm (L : List (It α)) (i j : Nat) (a b : It α) (hi : L[i]? = some a) (hj : L[j]? = some b) : (swap L i j a b).Perm L := by
  obtain ⟨h1, e1⟩ := List.getElem?_eq_some_iff.1 hi
  obtain ⟨h2, e2⟩ := List.getElem?_eq_some_iff.1 hj
  unfold swap
  subst e1 e2
  exact List.set_set_perm h1 h2

theorem up_stop (L : List (It α)) (i : Nat) (h : UpInv L i) (hs : i = 0 ∨ Fine L i) : IsHeap L := by
  intro j hj
  by_cases e : j = i
  · subst e; rcases hs with hs | hs
    · omega
    · exact hs
  · exact h.1 j hj e
theorem up_step (L : List (It α)) (i : Nat) (a b : It α) (h : UpInv L i) (h0 : 0 < i) (ha : L[i]? = some a) (hb : L[(i - 1) / 2]? = some b) (hlt : fore a b = true) :
    UpInv (swap L i ((i - 1) / 2) a b) ((i - 1) / 2) := by
  have li := (List.getElem?_eq_some_iff.1 ha).1
  have lp := (List.getElem?_eq_some_iff.1 hb).1
  obtain ⟨p, hp⟩ : ∃ p, p = (i - 1) / 2 := ⟨_, rfl⟩
  rw [← hp] at hb lp ⊢
  have hpi : p < i := by omega
  constructor
  · intro j hj hne u v hu hv
    rw [swap_get _ _ _ _ _ _ li lp] at hu hv
    rw [if_neg hne] at hu
    by_cases hji : j = i
    · subst hji
      rw [if_pos rfl] at hu
      rw [← hp, if_pos rfl] at hv
      obtain rfl : b = u := by simpa using hu
      obtain rfl : a = v := by simpa using hv
      exact fore_asymm hlt
    · rw [if_neg hji] at hu
      by_cases hjp : (j - 1) / 2 = p
      · rw [if_pos hjp] at hv
        obtain rfl : a = v := by simpa using hv
        have := h.1 j hj hji u b hu (by rw [hjp]; exact hb)
        cases hc : fore u a
        · rfl
        · rw [fore_trans hc hlt] at this; cases this
      · rw [if_neg hjp] at hv
        by_cases hjq : (j - 1) / 2 = i
        · rw [if_pos hjq] at hv
          obtain rfl : b = v := by simpa using hv
          exact h.2 h0 j hj hjq u b hu (by rw [← hp]; exact hb)
        · rw [if_neg hjq] at hv
          exact h.1 j hj hji u v hu hv
  · intro hp0 j hj hjp u v hu hv
    rw [swap_get _ _ _ _ _ _ li lp] at hu hv
    rw [if_neg (show ¬ (p - 1) / 2 = p by omega), if_neg (show ¬ (p - 1) / 2 = i by omega)] at hv
    have hpv := h.1 p hp0 (by omega) b v hb hv
    rw [if_neg (show ¬ j = p by omega)] at hu
    by_cases hji : j = i
    · rw [if_pos hji] at hu
      obtain rfl : b = u := by simpa using hu
      exact hpv
    · rw [if_neg hji] at hu
      exact fore_ntrans (h.1 j hj hji u b hu (by rw [hjp]; exact hb)) hpv

theorem down_stop (L : List (It α)) (i : Nat) (h : DownInv L i) (hs : ∀ j, 0 < j → (j - 1) / 2 = i → Fine L j) : IsHeap L := by
  intro j hj
  by_cases e : (j - 1) / 2 = i
  · exact hs j hj e
  · exact h.1 j hj e
theorem down_step (L : List (It α)) (i m : Nat) (a b : It α) (h : DownInv L i) (h0 : 0 < m) (hm : (m - 1) / 2 = i) (ha : L[i]? = some a) (hb : L[m]? = some b) (hlt : fore b a = true)
    (hleast : ∀ j c, 0 < j → (j - 1) / 2 = i → L[j]? = some c → fore c b = false) :
    DownInv (swap L i m a b) m := by
  have li := (List.getElem?_eq_some_iff.1 ha).1
  have lm := (List.getElem?_eq_some_iff.1 hb).1
  have him : i < m := by omega
  constructor
  · intro j hj hne u v hu hv
    rw [swap_get _ _ _ _ _ _ li lm] at hu hv
    rw [if_neg hne] at hv
    by_cases hjp : (j - 1) / 2 = i
    · rw [if_pos hjp] at hv
      obtain rfl : b = v := by simpa using hv
      by_cases hjm : j = m
      · rw [if_pos hjm] at hu
        obtain rfl : a = u := by simpa using hu
        exact fore_asymm hlt
      · rw [if_neg hjm, if_neg (show ¬ j = i by omega)] at hu
        exact hleast j u hj hjp hu
    · rw [if_neg hjp] at hv
      rw [if_neg (show ¬ j = m by omega)] at hu
      by_cases hji : j = i
      · rw [if_pos hji] at hu
        obtain rfl : b = u := by simpa using hu
        exact h.2 (by omega) m h0 hm b v hb (by rw [← hji]; exact hv)
      · rw [if_neg hji] at hu
        exact h.1 j hj hjp u v hu hv
  · intro hm0 j hj hjm u v hu hv
    rw [swap_get _ _ _ _ _ _ li lm] at hu hv
    rw [if_neg (show ¬ (m - 1) / 2 = m by omega), if_pos hm] at hv
    obtain rfl : b = v := by simpa using hv
    rw [if_neg (show ¬ j = m by omega), if_neg (show ¬ j = i by omega)] at hu
    exact h.1 j hj (by omega) u b hu (by rw [hjm]; exact hb)

theorem heap_head (L : List (It α)) (h : IsHeap L) (a : It α) (ha : L[0]? = some a) : ∀ (j : Nat) (b : It α), L[j]? = some b → fore b a = false := by
  intro j
  induction j using Nat.strongRecOn with
  | ind j ih =>
    intro b hb
    by_cases h0 : j = 0
    · subst h0; obtain rfl : a = b := by simpa using ha.symm.trans hb
      exact fore_irrefl a
    · have lj := (List.getElem?_eq_some_iff.1 hb).1
      obtain ⟨c, hc⟩ : ∃ c, L[(j - 1) / 2]? = some c := ⟨_, List.getElem?_eq_getElem (by omega)⟩
      exact fore_ntrans (h j (by omega) b c hb hc) (ih ((j - 1) / 2) (by omega) c hc)

/-- in their order, no two alike -/
def Sorted (S : List (It α)) : Prop := S.Pairwise (fun a b => fore a b = true)
def ins (x : It α) : List (It α) → List (It α)
  | [] => [x]
  | y :: l => if fore x y then x :: y :: l else y :: ins x l
theorem ins_perm (x : It α) : ∀ S : List (It α), (ins x S).Perm (x :: S)
  | [] => .refl _
  | y :: l => by
    unfold ins
    split
    · exact .refl _
    · exact (List.Perm.cons y (ins_perm x l)).trans (List.Perm.swap x y l)
theorem ins_length (x : It α) (S : List (It α)) : (ins x S).length = S.length + 1 := by simpa using (ins_perm x S).length_eq
theorem ins_sorted (x : It α) (S : List (It α)) (h : Sorted S) (hk : ∀ y ∈ S, y.k < x.k) : Sorted (ins x S) := by
  induction S with
  | nil => unfold ins Sorted; simp
  | cons y l ih =>
    unfold Sorted at *
    rw [List.pairwise_cons] at h
    unfold ins
    split
    · rename_i hx
      rw [List.pairwise_cons, List.pairwise_cons]
      refine ⟨fun z hz => ?_, h⟩
      rcases List.mem_cons.1 hz with rfl | hz
      · exact hx
      · exact fore_trans hx (h.1 z hz)
    · rename_i hx
      rw [List.pairwise_cons]
      refine ⟨fun z hz => ?_, ih h.2 (fun z hz => hk z (List.mem_cons_of_mem _ hz))⟩
      rcases List.mem_cons.1 ((ins_perm x l).mem_iff.1 hz) with rfl | hz
      · exact fore_total (by have := hk y (List.mem_cons_self ..); omega) (by simpa using hx)
      · exact h.1 z hz

/-- what the heap's first is: the first of all in their order -/
theorem head_is (L : List (It α)) (y : It α) (S : List (It α)) (hp : L.Perm (y :: S)) (hh : IsHeap L) (hs : Sorted (y :: S)) : L[0]? = some y := by
  have hl := hp.length_eq
  simp only [List.length_cons] at hl
  obtain ⟨a, ha⟩ : ∃ a, L[0]? = some a := ⟨_, List.getElem?_eq_getElem (by omega)⟩
  have hm : a ∈ y :: S := hp.mem_iff.1 (List.mem_of_getElem? ha)
  obtain ⟨j, hj⟩ := List.mem_iff_getElem?.1 (hp.mem_iff.2 (List.mem_cons_self (a := y) (l := S)))
  have hn := heap_head L hh a ha j y hj
  rcases List.mem_cons.1 hm with rfl | hm
  · exact ha
  · have := (List.pairwise_cons.1 hs).1 a hm
    rw [this] at hn; cases hn
theorem heap_nil : IsHeap ([] : List (It α)) := fun j _ a b h _ => by simp at h
theorem sorted_nil : Sorted ([] : List (It α)) := by simp [Sorted]
/-- a thing laid at the end -/
theorem up_start (L : List (It α)) (h : IsHeap L) (x : It α) : UpInv (L ++ [x]) L.length := by
  constructor
  · intro j hj hne a b ha hb
    by_cases hl : j < L.length
    · rw [List.getElem?_append_left hl] at ha
      rw [List.getElem?_append_left (by omega)] at hb
      exact h j hj a b ha hb
    · have := (List.getElem?_eq_some_iff.1 ha).1
      simp at this; omega
  · intro h0 j hj hji a b ha hb
    have := (List.getElem?_eq_some_iff.1 ha).1
    simp at this; omega
/-- the last laid at the front -/
theorem down_start (L : List (It α)) (h : IsHeap L) (z : It α) (n : Nat) (hn : n ≤ L.length) : DownInv ((L.set 0 z).take n) 0 := by
  constructor
  · intro j hj hne a b ha hb
    rw [List.getElem?_take] at ha hb
    split at ha <;> try cases ha
    split at hb <;> try cases hb
    rw [List.getElem?_set_ne (by omega)] at ha hb
    exact h j hj a b ha hb
  · intro h0; omega
theorem pop_perm (L : List (It α)) (y z : It α) (S : List (It α)) (hp : L.Perm (y :: S)) (h0 : L[0]? = some y) (hz : L[L.length - 1]? = some z) :
    ((L.set 0 z).take (L.length - 1)).Perm S := by
  cases L with
  | nil => simp at h0
  | cons c L =>
    obtain rfl : c = y := by simpa using h0
    have hS := hp.cons_inv
    simp only [List.set_cons_zero, List.length_cons, Nat.add_sub_cancel] at *
    cases hn : L.length with
    | zero =>
      obtain rfl : L = [] := List.eq_nil_of_length_eq_zero hn
      simpa using hS
    | succ n =>
      rw [hn] at hz
      simp only [List.getElem?_cons_succ] at hz
      rw [List.take_succ_cons]
      have hc : L = L.take n ++ [z] := by
        obtain ⟨hl, hg⟩ := List.getElem?_eq_some_iff.1 hz
        have := List.take_succ_eq_append_getElem hl
        rw [hg] at this
        rw [← this, List.take_of_length_le (by omega)]
      have h1 : (z :: L.take n).Perm L := by
        conv => rhs; rw [hc]
        exact (List.perm_append_singleton z (L.take n)).symm
      exact h1.trans hS

/-- the least of a place and of those below it that were looked at (up to e) -/
def Best (L : List (It α)) (k m e : Nat) : Prop :=
  (m = k ∨ 0 < m ∧ (m - 1) / 2 = k ∧ ∃ a c, L[m]? = some a ∧ L[k]? = some c ∧ fore a c = true) ∧
  ∀ j x y, (j = k ∨ 0 < j ∧ (j - 1) / 2 = k ∧ j < e) → L[j]? = some x → L[m]? = some y → fore x y = false
theorem best_start (L : List (It α)) (k : Nat) : Best L k k (2 * k + 1) := by
  refine ⟨.inl rfl, fun j x y hj hx hy => ?_⟩
  rcases hj with rfl | ⟨h1, h2, h3⟩
  · obtain rfl : x = y := by simpa using hx.symm.trans hy
    exact fore_irrefl x
  · omega
theorem best_take (L : List (It α)) (k m e : Nat) (h : Best L k m e) (x y : It α) (h1 : 2 * k + 1 ≤ e) (h2 : e ≤ 2 * k + 2) (hx : L[e]? = some x) (hy : L[m]? = some y) (hlt : fore x y = true) : Best L k e (e + 1) := by
  have he := (List.getElem?_eq_some_iff.1 hx).1
  obtain ⟨c, hc⟩ : ∃ c, L[k]? = some c := ⟨_, List.getElem?_eq_getElem (by omega)⟩
  refine ⟨.inr ⟨by omega, by omega, x, c, hx, hc, ?_⟩, fun j u v hj hu hv => ?_⟩
  · cases hf : fore x c
    · have h3 := h.2 k c y (.inl rfl) hc hy
      have := fore_ntrans hf h3
      rw [this] at hlt; cases hlt
    · rfl
  · obtain rfl : x = v := by simpa using hx.symm.trans hv
    by_cases hje : j = e
    · subst hje
      obtain rfl : x = u := by simpa using hx.symm.trans hu
      exact fore_irrefl x
    · have := h.2 j u y (by rcases hj with rfl | ⟨a, b, c⟩; exact .inl rfl; exact .inr ⟨a, b, by omega⟩) hu hy
      exact fore_ntrans this (fore_asymm hlt)
theorem best_keep (L : List (It α)) (k m e : Nat) (h : Best L k m e) (x y : It α) (hx : L[e]? = some x) (hy : L[m]? = some y) (hlt : fore x y = false) : Best L k m (e + 1) := by
  refine ⟨h.1, fun j u v hj hu hv => ?_⟩
  by_cases hje : j = e
  · subst hje
    obtain rfl : x = u := by simpa using hx.symm.trans hu
    obtain rfl : y = v := by simpa using hy.symm.trans hv
    exact hlt
  · exact h.2 j u v (by rcases hj with rfl | ⟨a, b, c⟩; exact .inl rfl; exact .inr ⟨a, b, by omega⟩) hu hv
theorem best_lt (L : List (It α)) (k m e : Nat) (h : Best L k m e) (hk : k < L.length) : m < L.length := by
  rcases h.1 with rfl | ⟨_, _, a, c, ha, _⟩
  · exact hk
  · exact (List.getElem?_eq_some_iff.1 ha).1
theorem best_stop (L : List (It α)) (k e : Nat) (h : Best L k k e) (hd : DownInv L k) (he : L.length ≤ e ∨ e = 2 * k + 3) : IsHeap L := by
  refine down_stop L k hd fun j hj hp a b ha hb => ?_
  have hl := (List.getElem?_eq_some_iff.1 ha).1
  exact h.2 j a b (.inr ⟨hj, hp, by omega⟩) ha (by rw [← hp]; exact hb)
theorem best_down (L : List (It α)) (k m e : Nat) (h : Best L k m e) (hm : m ≠ k) (hd : DownInv L k) (he : L.length ≤ e ∨ e = 2 * k + 3) :
    ∃ a b, L[k]? = some a ∧ L[m]? = some b ∧ k < m ∧ m < L.length ∧ DownInv (swap L k m a b) m := by
  rcases h.1 with rfl | ⟨h0, h1, b, a, hb, ha, hlt⟩
  · exact absurd rfl hm
  · refine ⟨a, b, ha, hb, by omega, (List.getElem?_eq_some_iff.1 hb).1, down_step L k m a b hd h0 h1 ha hb hlt fun j c hj hp hc => ?_⟩
    have hl := (List.getElem?_eq_some_iff.1 hc).1
    exact h.2 j c b (.inr ⟨hj, hp, by omega⟩) hc hb
end Go.Proofs.Ytodlcdpgiejnpaa.Hp
