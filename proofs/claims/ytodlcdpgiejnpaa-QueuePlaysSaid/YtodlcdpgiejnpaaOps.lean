/- A script's calls, as they lie in memory; what a script of calls does, in plain Lean. -/
import Derived.Test.YtodlcdpgiejnpaaAbsI
namespace Go.Proofs.Ytodlcdpgiejnpaa
set_option linter.unusedVariables false
set_option linter.unusedSimpArgs false
open Go.RowKit Hp

structure Opp where
  kd : Int
  t : Int
  r : Int
  n : Int
  x : Int
structure Tl where
  x : Int
  t : Int
  ok : Bool
  n : Int
def tcells (o : Tl) : List Value := [.int .i64 o.x, .int .i64 o.t, .bool o.ok, .int .i64 o.n]
def ocells (o : Opp) : List Value := [.int .i64 o.kd, .int .i64 o.t, .int .i64 o.r, .int .i64 o.n, .int .i64 o.x]

def OpsAt (w : World) (A : Option Addr) (ops : List Opp) : Prop :=
  ∀ k o, ops[k]? = some o → ∃ B off, A = some ⟨B, off, none⟩ ∧ B < w.heap.size ∧ w.cell? ⟨B, off + k * 5, none⟩ = some (.int .i64 o.kd) ∧ w.cell? ⟨B, off + k * 5 + 1, none⟩ = some (.int .i64 o.t) ∧
    w.cell? ⟨B, off + k * 5 + 2, none⟩ = some (.int .i64 o.r) ∧ w.cell? ⟨B, off + k * 5 + 3, none⟩ = some (.int .i64 o.n) ∧ w.cell? ⟨B, off + k * 5 + 4, none⟩ = some (.int .i64 o.x)
theorem OpsAt.below {w w' : World} {A : Option Addr} {ops : List Opp} (h : OpsAt w A ops) (hb : Below w.heap.size w w') : OpsAt w' A ops := by
  intro k o ho
  obtain ⟨B, off, hA, hB, h0, h1, h2, h3, h4⟩ := h k o ho
  have hc : ∀ i v, w.cell? ⟨B, i, none⟩ = some v → w'.cell? ⟨B, i, none⟩ = some v := fun i v hv => cellk hb hv
  exact ⟨B, off, hA, Nat.lt_of_lt_of_le hB hb.size, hc _ _ h0, hc _ _ h1, hc _ _ h2, hc _ _ h3, hc _ _ h4⟩
theorem OpsAt.at_ {w : World} {A : Option Addr} {ops : List Opp} (h : OpsAt w A ops) : (∀ (k : Nat) (o : Opp), ops[k]? = some o → ∃ B off, A = some ⟨B, off, none⟩ ∧ B < w.heap.size) :=
  fun k o ho => by obtain ⟨B, off, h1, h2, _⟩ := h k o ho; exact ⟨B, off, h1, h2⟩
theorem OpsAt.take {w : World} {A : Option Addr} {ops : List Opp} (h : OpsAt w A ops) (n : Nat) : OpsAt w A (ops.take n) := by
  intro k o ho
  rw [List.getElem?_take] at ho
  split at ho
  · exact h k o ho
  · cases ho

/-- one call: the counter, what is in the queue; what is told -/
def stepQ (most : Int) (st : Int × List (It Int)) (o : Opp) : (Int × List (It Int)) × Tl :=
  if o.kd = 1 then (if (st.2.length : Int) < most then ((st.1 + 1, ins ⟨o.t, o.r, o.n, st.1 + 1, o.x⟩ st.2), ⟨0, 0, true, 0⟩) else (st, ⟨0, 0, false, 0⟩))
  else if o.kd = 2 then (match st.2 with | [] => (st, ⟨0, 0, false, 0⟩) | y :: S => ((st.1, S), ⟨y.x, y.t, true, 0⟩))
  else if o.kd = 3 then (match st.2 with | [] => (st, ⟨0, 0, false, 0⟩) | y :: S => (st, ⟨y.x, y.t, true, 0⟩))
  else if o.kd = 4 then (st, ⟨0, 0, false, st.2.length⟩)
  else if o.kd = 5 then ((st.1, st.2.filter fun y => decide (o.x ≤ y.x)), ⟨0, 0, false, (st.2.length : Int) - ((st.2.filter fun y => decide (o.x ≤ y.x)).length : Int)⟩)
  else (st, ⟨0, 0, false, 0⟩)
def stQ (most : Int) (ops : List Opp) : Nat → Int × List (It Int)
  | 0 => (0, [])
  | k + 1 => match ops[k]? with | none => stQ most ops k | some o => (stepQ most (stQ most ops k) o).1
def tells (most : Int) (ops : List Opp) : Nat → List Tl
  | 0 => []
  | k + 1 => match ops[k]? with | none => tells most ops k | some o => tells most ops k ++ [(stepQ most (stQ most ops k) o).2]
theorem stQ_num (most : Int) (ops : List Opp) : ∀ k, 0 ≤ (stQ most ops k).1 ∧ (stQ most ops k).1 ≤ k
  | 0 => by simp [stQ]
  | k + 1 => by
    have h := stQ_num most ops k
    unfold stQ
    split
    · omega
    · unfold stepQ
      repeat' split
      all_goals simp
      all_goals omega
theorem tells_len (most : Int) (ops : List Opp) : ∀ k, k ≤ ops.length → (tells most ops k).length = k
  | 0, _ => rfl
  | k + 1, h => by
    unfold tells
    rw [List.getElem?_eq_getElem (show k < ops.length by omega)]
    simp [tells_len most ops k (by omega)]
theorem stQ_succ (most : Int) (ops : List Opp) (k : Nat) (o : Opp) (h : ops[k]? = some o) : stQ most ops (k + 1) = (stepQ most (stQ most ops k) o).1 := by
  rw [stQ, h]
theorem tells_succ (most : Int) (ops : List Opp) (k : Nat) (o : Opp) (h : ops[k]? = some o) : tells most ops (k + 1) = tells most ops k ++ [(stepQ most (stQ most ops k) o).2] := by
  rw [tells, h]

/-- what Drop does with a test on the things (the closure of a script) -/
def DropSpec : Prop := ∀ (g : Nat) (bo : Option Nat) (most num : Int) (S : List (It Int)) (bx : Nat) (o : Opp) (w : World), QI.QAt w g bo most num S → bx ≠ g → some bx ≠ bo →
  w.heap[bx]? = some (.cells (ocells o).toArray 28 (0, 0)) →
  Calls Try.prog 17 #[.pointer (some ⟨g, 0, none⟩), .func (.func 26) #[] #[.pointer (some ⟨bx, 0, none⟩)]] w fun e w' =>
    e = .returned (.int .i64 ((S.length : Int) - ((S.filter fun y => decide (o.x ≤ y.x)).length : Int))) ∧ ∃ bo', QI.QAt w' g bo' most num (S.filter fun y => decide (o.x ≤ y.x)) ∧ Fr w w' g bo bo'
end Go.Proofs.Ytodlcdpgiejnpaa
