/- Two queues that were given the same, one of them less: plain Lean. -/
import Derived.Test.YtodlcdpgiejnpaaDropS
namespace Go.Proofs.Ytodlcdpgiejnpaa
set_option linter.unusedVariables false
open Hp

abbrev Tp := Int × Int × Int × Int
def strip (y : It Int) : Tp := (y.t, y.r, y.n, y.x)
def lx (a b : Tp) : Bool := decide (a.1 < b.1 ∨ a.1 = b.1 ∧ (a.2.1 < b.2.1 ∨ a.2.1 = b.2.1 ∧ a.2.2.1 < b.2.2.1))
theorem lx_iff (a b : Tp) : lx a b = true ↔ a.1 < b.1 ∨ a.1 = b.1 ∧ (a.2.1 < b.2.1 ∨ a.2.1 = b.2.1 ∧ a.2.2.1 < b.2.2.1) := by unfold lx; simp
theorem fore_lx (x y : It Int) (h : y.k < x.k) : fore x y = lx (strip x) (strip y) := by
  rw [Bool.eq_iff_iff, fore_iff, lx_iff]
  simp only [strip]
  omega
def insT (x : Tp) : List Tp → List Tp
  | [] => [x]
  | y :: l => if lx x y then x :: y :: l else y :: insT x l
theorem strip_ins (x : It Int) (S : List (It Int)) (h : ∀ y ∈ S, y.k < x.k) : (ins x S).map strip = insT (strip x) (S.map strip) := by
  induction S with
  | nil => rfl
  | cons y l ih =>
    have hy := fore_lx x y (h y (List.mem_cons_self ..))
    simp only [ins, List.map_cons, insT]
    rw [hy]
    split
    · rfl
    · rw [List.map_cons, ih (fun z hz => h z (List.mem_cons_of_mem _ hz))]
/-- in order: none is less than one ahead of it -/
def SortT (T : List Tp) : Prop := T.Pairwise (fun a b => lx b a = false)
theorem sort_strip {S : List (It Int)} (h : Sorted S) : SortT (S.map strip) := by
  unfold SortT
  rw [List.pairwise_map]
  refine List.Pairwise.imp (fun {a b} hab => ?_) h
  rw [Bool.eq_false_iff, Ne, lx_iff]
  rw [fore_iff] at hab
  simp only [strip]
  omega
theorem insT_filter (p : Tp → Bool) (x : Tp) : ∀ T : List Tp, SortT T → (insT x T).filter p = if p x then insT x (T.filter p) else T.filter p
  | [], _ => by simp only [insT, List.filter_cons, List.filter_nil]
  | y :: l, h => by
    have h' := List.pairwise_cons.1 h
    simp only [insT]
    split
    · rename_i hx
      rw [List.filter_cons]
      split
      · rename_i hp
        cases hf : (y :: l).filter p with
        | nil => rfl
        | cons z r =>
          have hz : z ∈ y :: l := (List.mem_filter.1 (hf ▸ List.mem_cons_self (a := z) (l := r))).1
          have hxz : lx x z = true := by
            rcases List.mem_cons.1 hz with rfl | hz
            · exact hx
            · have := h'.1 z hz
              rw [Bool.eq_false_iff, Ne, lx_iff] at this
              rw [lx_iff] at hx ⊢
              omega
          simp only [insT]
          rw [if_pos hxz]
      · rfl
    · rename_i hx
      rw [List.filter_cons, List.filter_cons, insT_filter p x l h'.2]
      by_cases hy : p y = true
      · rw [if_pos hy, if_pos hy]
        by_cases hp : p x = true
        · rw [if_pos hp, if_pos hp]
          simp only [insT]
          rw [if_neg hx]
        · rw [if_neg hp, if_neg hp]
      · rw [if_neg hy, if_neg hy]

/-- what is in a queue that was given the first k calls' things -/
def allQ (ops : List Opp) : Nat → List (It Int)
  | 0 => []
  | k + 1 => match ops[k]? with | none => allQ ops k | some o => ins ⟨o.t, o.r, o.n, (k : Int) + 1, o.x⟩ (allQ ops k)
theorem allQ_succ {ops : List Opp} {k : Nat} {o : Opp} (h : ops[k]? = some o) : allQ ops (k + 1) = ins ⟨o.t, o.r, o.n, (k : Int) + 1, o.x⟩ (allQ ops k) := by rw [allQ, h]
/-- the queue b beside the queue a: it holds those that are kept, in the same order -/
def Beside (p : It Int → Bool) (Sa Sb : List (It Int)) : Prop := (Sa.filter p).map strip = Sb.map strip
theorem filter_strip (th : Int) (S : List (It Int)) : (S.filter fun y => decide (th ≤ y.x)).map strip = (S.map strip).filter fun a => decide (th ≤ a.2.2.2) := by
  rw [List.filter_map]
  rfl
theorem Beside.both {th : Int} {Sa Sb : List (It Int)} (h : Beside (fun y => decide (th ≤ y.x)) Sa Sb) (hs : Sorted Sa) (t r n x ka kb : Int) (ha : ∀ y ∈ Sa, y.k < ka) (hb : ∀ y ∈ Sb, y.k < kb) (hx : th ≤ x) :
    Beside (fun y => decide (th ≤ y.x)) (ins ⟨t, r, n, ka, x⟩ Sa) (ins ⟨t, r, n, kb, x⟩ Sb) := by
  unfold Beside at *
  rw [filter_strip] at *
  rw [strip_ins _ _ ha, strip_ins _ _ hb, insT_filter _ _ _ (sort_strip hs), if_pos (by simp only [strip]; exact decide_eq_true hx), h]
  rfl
theorem Beside.skip {th : Int} {Sa Sb : List (It Int)} (h : Beside (fun y => decide (th ≤ y.x)) Sa Sb) (hs : Sorted Sa) (t r n x ka : Int) (ha : ∀ y ∈ Sa, y.k < ka) (hx : ¬ th ≤ x) :
    Beside (fun y => decide (th ≤ y.x)) (ins ⟨t, r, n, ka, x⟩ Sa) Sb := by
  unfold Beside at *
  rw [filter_strip] at *
  rw [strip_ins _ _ ha, insT_filter _ _ _ (sort_strip hs), if_neg (by simp only [strip]; intro hc; exact hx (of_decide_eq_true hc)), h]
theorem Beside.len {p : It Int → Bool} {Sa Sb : List (It Int)} (h : Beside p Sa Sb) : (Sa.filter p).length = Sb.length := by
  have := congrArg List.length h
  simpa using this
end Go.Proofs.Ytodlcdpgiejnpaa
