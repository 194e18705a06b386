/- What a call on a queue leaves of the rest. -/
import Derived.Test.YtodlcdpgiejnpaaRow
namespace Go.Proofs.Ytodlcdpgiejnpaa
set_option linter.unusedVariables false
open Go.RowKit Hp
/-- all but the queue's own two blocks is as it was; its row lies where it lay, or is new -/
structure Fr (w w' : World) (g : Nat) (bo bo' : Option Nat) : Prop where
  os : w'.os = w.os
  tape : w'.tape = w.tape
  output : w'.output = w.output
  size : w.heap.size ≤ w'.heap.size
  block : ∀ k, k < w.heap.size → k ≠ g → some k ≠ bo → w'.heap[k]? = w.heap[k]?
  at_ : bo' = bo ∨ ∃ k, bo' = some k ∧ w.heap.size ≤ k
theorem Fr.refl (w : World) (g : Nat) (bo : Option Nat) : Fr w w g bo bo := ⟨rfl, rfl, rfl, Nat.le_refl _, fun _ _ _ _ => rfl, .inl rfl⟩
theorem Fr.trans {a b c : World} {g : Nat} {o p q : Option Nat} (h : Fr a b g o p) (k : Fr b c g p q) : Fr a c g o q := by
  refine ⟨k.os.trans h.os, k.tape.trans h.tape, k.output.trans h.output, Nat.le_trans h.size k.size, fun i hi h1 h2 => ?_, ?_⟩
  · refine (k.block i (Nat.lt_of_lt_of_le hi h.size) h1 ?_).trans (h.block i hi h1 h2)
    rcases h.at_ with e | ⟨j, e, hj⟩
    · rw [e]; exact h2
    · rw [e]; intro e2; injection e2 with e2; omega
  · rcases k.at_ with e | ⟨j, e, hj⟩
    · rw [e]; exact h.at_
    · exact .inr ⟨j, e, Nat.le_trans h.size hj⟩
theorem Fr.of_below {w w' : World} {g : Nat} {bo : Option Nat} (h : Below w.heap.size w w') : Fr w w' g bo bo := ⟨h.os, h.tape, h.output, h.size, fun k hk _ _ => h.block k hk, .inl rfl⟩
theorem Fr.of_grown {w w' : World} {g : Nat} {bo : Option Nat} (h : w.grownBy w' bo) : Fr w w' g bo bo := ⟨h.os, h.tape, h.output, h.size, fun k hk _ hn => h.block k hk hn, .inl rfl⟩
theorem Fr.of_grownq {w w' : World} {g : Nat} {bo : Option Nat} (h : w.grownBy w' (some g)) : Fr w w' g bo bo := ⟨h.os, h.tape, h.output, h.size, fun k hk hn _ => h.block k hk (fun e => hn (Option.some.inj e)), .inl rfl⟩
theorem Fr.below {w w' : World} {g : Nat} {bo bo' : Option Nat} (h : Fr w w' g bo bo') {B : Nat} (hg : B ≤ g) (hb : ∀ k, bo = some k → B ≤ k) (hB : B ≤ w.heap.size) : Below B w w' :=
  ⟨h.os, h.tape, h.output, h.size, fun k hk => h.block k (Nat.lt_of_lt_of_le hk hB) (by omega) (fun e => by have := hb k e.symm; omega)⟩
theorem Fr.row {w w' : World} {g : Nat} {bo bo' : Option Nat} (h : Fr w w' g bo bo') {B : Nat} (hb : ∀ k, bo = some k → B ≤ k) (hB : B ≤ w.heap.size) : ∀ k, bo' = some k → B ≤ k := by
  intro k hk
  rcases h.at_ with e | ⟨j, e, hj⟩
  · exact hb k (e ▸ hk)
  · rw [e] at hk; injection hk with hk; omega
/-- the value of a slice that lies at the head of a block, or nil -/
def sl (bo : Option Nat) (n cap : Nat) : Value := .slice (bo.map fun b => ⟨b, 0, none⟩) n cap
/-- a piece of code is walked once for all the ways through it: F is found on the first way -/
theorem wp_through {β : Type} {P : Program} {c : Code} {Q' : Exit → Act → World → Prop} {a : Act} {w : World} (Q : β → Exit → Act → World → Prop) {F : β} (h : c.wp P (Q F) a w) (hq : ∀ e a w, Q F e a w → Q' e a w) : c.wp P Q' a w :=
  Code.wp_mono hq h
theorem cell_ad {w : World} {a : Addr} {v : Value} (h : w.cell? a = some v) (o : Obj) : (w.alloc o).drew.cell? a = some v :=
  (World.cell?_of_block (w := w) (w' := (w.alloc o).drew) (heap_alloc_old w o (World.block_lt_of_cell? w _ h))).trans h
theorem frozen_ad {w : World} {a : Addr} (hb : a.block < w.heap.size) (h : w.frozen? a = false) (o : Obj) : (w.alloc o).drew.frozen? a = false :=
  (World.frozen?_of_block (w := w) (w' := (w.alloc o).drew) (heap_alloc_old w o hb)).trans h
end Go.Proofs.Ytodlcdpgiejnpaa
