/- There is one order of numbers only. No program in sight. -/
import Derived.Test.YtdkdmclbhcbfeaaDoorFl
namespace Go.Proofs.YtdkdmclbhcbfeaaDoor.Fl
set_option linter.unusedVariables false
set_option linter.unusedSimpArgs false
theorem sorted_one : ∀ (l1 l2 : List Nat), l1.Perm l2 → l1.Pairwise (fun a b => rank a ≤ rank b) → l2.Pairwise (fun a b => rank a ≤ rank b) → (∀ a ∈ l1, ∀ b ∈ l1, rank a = rank b → a = b) → l1 = l2
  | [], l2, h, _, _, _ => h.nil_eq
  | a :: t, [], h, _, _, _ => absurd h.length_eq (by simp)
  | a :: t, b :: t2, h, s1, s2, inj => by
    have hb : b ∈ a :: t := h.mem_iff.2 (List.mem_cons_self ..)
    have ha : a ∈ b :: t2 := h.mem_iff.1 (List.mem_cons_self ..)
    have h1 : rank a ≤ rank b := by
      rcases List.mem_cons.1 hb with e | e
      · rw [e]; exact Nat.le_refl _
      · exact (List.pairwise_cons.1 s1).1 b e
    have h2 : rank b ≤ rank a := by
      rcases List.mem_cons.1 ha with e | e
      · rw [e]; exact Nat.le_refl _
      · exact (List.pairwise_cons.1 s2).1 a e
    have e : a = b := inj a (List.mem_cons_self ..) b hb (Nat.le_antisymm h1 h2)
    subst e
    rw [sorted_one t t2 ((List.perm_cons a).1 h) (List.pairwise_cons.1 s1).2 (List.pairwise_cons.1 s2).2 (fun x hx y hy => inj x (List.mem_cons_of_mem _ hx) y (List.mem_cons_of_mem _ hy))]
/-- forms are told apart by their ranks -/
theorem one_inj {l : List Nat} (hl : ∀ x ∈ l, x < 18446744073709551616) : ∀ a ∈ l.map oneN, ∀ b ∈ l.map oneN, rank a = rank b → a = b := by
  intro a ha b hb h
  obtain ⟨x, hx, rfl⟩ := List.mem_map.1 ha
  obtain ⟨y, hy, rfl⟩ := List.mem_map.1 hb
  have one_le : ∀ z, z < 18446744073709551616 → oneN z < 18446744073709551616 := by intro z hz; unfold oneN; split <;> omega
  have idem : ∀ z, oneN (oneN z) = oneN z := by
    intro z; unfold oneN
    by_cases c : nan z = true
    · rw [if_pos c, if_pos (by decide)]
    · rw [if_neg c, if_neg c]
  have := (rank_inj (one_le x (hl x hx)) (one_le y (hl y hy))).1 h
  rwa [idem, idem] at this
def leR (a b : Nat) : Bool := decide (rank a ≤ rank b)
/-- the numbers' forms in order -/
def sortV (l : List Nat) : List Nat := (l.map oneN).mergeSort leR
theorem sortV_perm (l : List Nat) : (sortV l).Perm (l.map oneN) := List.mergeSort_perm _ _
theorem sortV_sorted (l : List Nat) : (sortV l).Pairwise (fun a b => rank a ≤ rank b) := by
  have h := List.pairwise_mergeSort (le := leR) (fun a b c h1 h2 => by
    unfold leR at *
    simp only [decide_eq_true_eq] at *
    omega) (fun a b => by
    unfold leR
    simp only [Bool.or_eq_true, decide_eq_true_eq]
    omega) (l.map oneN)
  exact h.imp fun h => of_decide_eq_true h
/-- whatever is in order and has the same forms is that list -/
theorem sortV_only {l r : List Nat} (hl : ∀ x ∈ l, x < 18446744073709551616) (hp : r.Perm (l.map oneN)) (hs : r.Pairwise (fun a b => rank a ≤ rank b)) : r = sortV l := by
  refine (sorted_one (sortV l) r ((sortV_perm l).trans hp.symm) (sortV_sorted l) hs ?_).symm
  intro a ha b hb h
  exact one_inj hl a ((sortV_perm l).mem_iff.1 ha) b ((sortV_perm l).mem_iff.1 hb) h
/-- the order in which the list comes does not matter -/
theorem sortV_perms {l m : List Nat} (hl : ∀ x ∈ l, x < 18446744073709551616) (h : m.Perm l) : sortV m = sortV l :=
  sortV_only hl ((sortV_perm m).trans (h.map oneN)) (sortV_sorted m)
theorem sortV_length (l : List Nat) : (sortV l).length = l.length := by rw [(sortV_perm l).length_eq, List.length_map]
end Go.Proofs.YtdkdmclbhcbfeaaDoor.Fl
