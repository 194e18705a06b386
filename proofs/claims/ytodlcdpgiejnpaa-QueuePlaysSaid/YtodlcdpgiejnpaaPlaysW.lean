/- The law: every answer of every script of a queue is as the document says. -/
import Derived.Test.YtodlcdpgiejnpaaKeep
import Derived.Test.YtodlcdpgiejnpaaOpen
namespace Go.Proofs.Ytodlcdpgiejnpaa
set_option linter.unusedVariables false
set_option linter.unusedSimpArgs false
open Go.RowKit Hp QI

theorem stQ_inv (most : Int) (hm : 0 ≤ most) (ops : List Opp) : ∀ k, Sorted (stQ most ops k).2 ∧ (∀ y ∈ (stQ most ops k).2, y.k ≤ (stQ most ops k).1) ∧ ((stQ most ops k).2.length : Int) ≤ most
  | 0 => ⟨sorted_nil, by simp [stQ], by simpa [stQ] using hm⟩
  | k + 1 => by
    obtain ⟨h1, h2, h3⟩ := stQ_inv most hm ops k
    cases ho : ops[k]? with
    | none => rw [stQ, ho]; exact ⟨h1, h2, h3⟩
    | some o =>
      rw [stQ_succ most ops k o ho]
      obtain ⟨⟨nm, S⟩, hst⟩ : ∃ st, st = stQ most ops k := ⟨_, rfl⟩
      rw [← hst] at h1 h2 h3 ⊢
      simp only at h1 h2 h3
      unfold stepQ
      split
      · split
        · refine ⟨ins_sorted _ S h1 (fun y hy => by have := h2 y hy; show y.k < nm + 1; omega), fun y hy => ?_, by rw [ins_length]; simp only at *; omega⟩
          rcases List.mem_cons.1 ((ins_perm _ S).mem_iff.1 hy) with rfl | hy
          · exact Int.le_refl _
          · have := h2 y hy; simp only; omega
        · exact ⟨h1, h2, h3⟩
      · split
        · cases S with
          | nil => exact ⟨h1, h2, h3⟩
          | cons y S => exact ⟨(List.pairwise_cons.1 h1).2, fun z hz => h2 z (List.mem_cons_of_mem _ hz), by simp at h3; simp only; omega⟩
        · split
          · cases S with
            | nil => exact ⟨h1, h2, h3⟩
            | cons y S => exact ⟨h1, h2, h3⟩
          · split
            · exact ⟨h1, h2, h3⟩
            · split
              · exact ⟨sorted_filter h1 _, fun y hy => h2 y (List.mem_filter.1 hy).1, by have := List.length_filter_le (fun y : It Int => decide (o.x ≤ y.x)) S; simp only at *; omega⟩
              · exact ⟨h1, h2, h3⟩
theorem tells_get (most : Int) (ops : List Opp) (o : Opp) (k : Nat) (ho : ops[k]? = some o) : ∀ n, k < n → n ≤ ops.length → (tells most ops n)[k]? = some (stepQ most (stQ most ops k) o).2
  | 0, h, _ => by omega
  | n + 1, h, hn => by
    have hl := tells_len most ops n (by omega)
    rw [tells_succ most ops n _ (List.getElem?_eq_getElem (show n < ops.length by omega))]
    by_cases hk : k < n
    · rw [List.getElem?_append_left (by omega)]
      exact tells_get most ops o k ho n hk (by omega)
    · obtain rfl : k = n := by omega
      rw [List.getElem?_append_right (by omega), hl, Nat.sub_self]
      have : ops[k] = o := by have := (List.getElem?_eq_some_iff.1 ho).2; exact this
      rw [this]
      rfl
theorem flatT_get : ∀ (T : List Tl) (j i : Nat), i < 4 → (T.flatMap tcells)[j * 4 + i]? = (T[j]?).bind fun x => (tcells x)[i]?
  | [], j, i, hi => by simp
  | x :: L, 0, i, hi => by
    rw [List.flatMap_cons, List.getElem?_append_left (by show _ < 4; omega)]
    simp
  | x :: L, j + 1, i, hi => by
    rw [List.flatMap_cons, List.getElem?_append_right (by show 4 ≤ _; omega), show (j + 1) * 4 + i - (tcells x).length = j * 4 + i by show (j + 1) * 4 + i - 4 = _; omega, flatT_get L j i hi]
    simp
/-- what was told, as it lies -/
def Got (w : World) (Ga : Option Addr) (ts : List Tl) : Prop :=
  ∀ k T, ts[k]? = some T → ∃ g, Ga = some ⟨g, 0, none⟩ ∧ g < w.heap.size ∧ w.cell? ⟨g, k * 4, none⟩ = some (.int .i64 T.x) ∧ w.cell? ⟨g, k * 4 + 1, none⟩ = some (.int .i64 T.t) ∧ w.cell? ⟨g, k * 4 + 2, none⟩ = some (.bool T.ok) ∧ w.cell? ⟨g, k * 4 + 3, none⟩ = some (.int .i64 T.n)
theorem Got.below {w w' : World} {Ga : Option Addr} {ts : List Tl} (h : Got w Ga ts) (hb : Below w.heap.size w w') : Got w' Ga ts := by
  intro k T hT
  obtain ⟨g, h0, h1, c0, c1, c2, c3⟩ := h k T hT
  exact ⟨g, h0, Nat.lt_of_lt_of_le h1 hb.size, cellk hb c0, cellk hb c1, cellk hb c2, cellk hb c3⟩
theorem got_of {w : World} {base n : Nat} {v : Value} {ts : List Tl} (h : w.ownsRow base 30 4 v n (ts.flatMap tcells)) (hn : ts.length = n) : ∃ Ga cap, v = .slice Ga n cap ∧ Got w Ga ts := by
  have h' := h
  obtain ⟨hl, ⟨rfl, h0⟩ | ⟨g, cap, cur, rfl, _, hg, _⟩⟩ := h'
  · subst h0
    refine ⟨none, 0, rfl, fun k T hT => ?_⟩
    have := (List.getElem?_eq_some_iff.1 hT).1
    omega
  · refine ⟨_, cap, rfl, fun k T hT => ⟨g, rfl, blk_lt hg, ?_⟩⟩
    have hc := h.cells (g := g) rfl
    have hk : ∀ i u, i < 4 → (tcells T)[i]? = some u → w.cell? ⟨g, k * 4 + i, none⟩ = some u := by
      intro i u hi hu
      have := hc (k * 4 + i) u (by rw [flatT_get _ _ _ hi, hT]; exact hu)
      rw [Addr.add_mid, Nat.zero_add] at this
      exact this
    exact ⟨hk 0 _ (by omega) rfl, hk 1 _ (by omega) rfl, hk 2 _ (by omega) rfl, hk 3 _ (by omega) rfl⟩
end Go.Proofs.Ytodlcdpgiejnpaa
