/- How a slice of one-cell elements is read, and the law FusePlays over it. -/
import Derived.Test.YtmanibjmcdbgaaaPlays
import Derived.ProofKit
import Derived.Deep.Slices
import Derived.SizedLaws
import Derived.OpenShut
namespace Go.Proofs.Ytmanibjmcdbgaaa
set_option linter.unusedVariables false
set_option linter.unusedSimpArgs false
open Go.ChangeShapes Go.WideShapes Go.Deep Go.RowKit
theorem add_flat {A : Addr} {w : World} {v : Value} (h : w.cell? A = some v) : A = ⟨A.block, A.off, none⟩ := by
  obtain ⟨b, o, s⟩ := A
  cases s with
  | none => rfl
  | some q =>
    simp [World.cell?] at h
    split at h <;> simp at h
theorem add_at {b off : Nat} (j : Nat) : (⟨b, off, none⟩ : Addr).add j = ⟨b, off + j, none⟩ := by
  unfold Addr.add
  split
  · rename_i h; subst h; rfl
  · rfl
theorem add_zero' (a : Addr) : a.add 0 = a := rfl

theorem row_open {H : Type} {enc : TypeId × Value → H} {W : World} {base : Nat} {T E : TypeId} {B : Nat} {v : Value} {d : DataW H} {p : List MemPlace} (hT : Try.prog.underlying T = some (.slice E)) (hC : Try.prog.cellsOf E = 1) (hB : Try.prog.bytesOf E = B)
    (hok : Value.okWide Try.prog W .any base T v) (hr : DataW.Trod enc Try.prog W 0 (fun _ => true) true T v d p) {ts : List TypeId} {ds : List (DataW H)} {j : Nat} (hsz : (DataW.weightsEach Try.prog ts ds).all (· ≤ reachBytes) = true)
    (htj : ts[j]? = some T) (hdj : ds[j]? = some d) :
    ∃ A n c, v = .slice A n c ∧ (∀ i, i < n → ∃ b off u m y, A = some ⟨b, off, none⟩ ∧ b < W.heap.size ∧ W.cell? ⟨b, off + i, none⟩ = some u ∧ DataW.trod enc Try.prog W 0 (fun _ => true) true m E [u] = some y) ∧ n * B ≤ 140737488351232 := by
  obtain ⟨A, n, c, rfl⟩ := okWide_slice hT hok
  obtain ⟨fuel, hf⟩ := hr
  simp only [Value.cells] at hf
  rcases open_slice1 hT hC hf with ⟨hcs, _⟩ | ⟨a, len, cap, m, fu, V, D, Pl, hcs, _, hl, _, hm, hx, hall⟩
  · simp at hcs
    obtain ⟨rfl, rfl, rfl⟩ := hcs
    exact ⟨none, 0, 0, rfl, fun i hi => absurd hi (by omega), by omega⟩
  · simp at hcs
    obtain ⟨rfl, rfl, rfl⟩ := hcs
    refine ⟨some a, n, c, rfl, ?_, ?_⟩
    · intro i hi
      obtain ⟨h0, ht⟩ := hall i (by rw [hm]; simp; omega)
      obtain ⟨hz, _⟩ := hall 0 (by rw [hm]; simp; omega)
      have ha := add_flat hz
      rw [add_zero'] at ha
      rw [ha, add_at] at h0
      refine ⟨a.block, a.off, V i, fu, _, by rw [← ha], ?_, h0, ht⟩
      rcases Nat.lt_or_ge a.block W.heap.size with hlt | hge
      · exact hlt
      · simp [World.cell?, Array.getElem?_eq_none hge] at h0
    · obtain ⟨hx, _⟩ := Prod.mk.inj hx
      subst hx
      have z := sized_slice hsz htj hdj hT
      rw [hB] at z
      simp [reachBytes] at z
      have hmul := Nat.mul_le_mul_right B (Nat.le_add_right n (m - n))
      omega

theorem script_open {H : Type} {enc : TypeId × Value → H} {W : World} {base : Nat} {v : Value} {d : DataW H} {p : List MemPlace} (hok : Value.okWide Try.prog W .any base 22 v) (hr : DataW.Trod enc Try.prog W 0 (fun _ => true) true 22 v d p)
    {ts : List TypeId} {ds : List (DataW H)} {j : Nat} (hsz : (DataW.weightsEach Try.prog ts ds).all (· ≤ reachBytes) = true) (htj : ts[j]? = some 22) (hdj : ds[j]? = some d) :
    ∃ A n c Z, v = .slice A n c ∧ ScriptAt W A n Z ∧ n * 8 ≤ 140737488351232 := by
  obtain ⟨A, n, c, e, hall, hb⟩ := row_open (B := 8) Try.underlying22 (by kernel_rfl) (by kernel_rfl) hok hr hsz htj hdj
  obtain ⟨Z, hZ⟩ := choose_lt (α := Int) (n := n) (p := fun i v => ∃ b off, A = some ⟨b, off, none⟩ ∧ b < W.heap.size ∧ W.cell? ⟨b, off + i, none⟩ = some (.int .i64 v)) (fun i hi => by
    obtain ⟨b, off, u, m, y, e1, h1, h2, h3⟩ := hall i hi
    obtain ⟨z, e2, _⟩ := DataW.trod_int Try.underlying3 h3
    injection e2 with e2
    subst e2
    exact ⟨z, b, off, e1, h1, h2⟩)
  exact ⟨A, n, c, Z, e, hZ, by omega⟩
theorem plays_law {H : Type} {enc : TypeId × Value → H} {base : Nat} {dd : DataW H} {p : List MemPlace} {ts : List TypeId} {ds : List (DataW H)} (q : Int) (_ : (Lit.int .i64 q).wf = true) (v : Value) {w : World}
    (hok : Value.okWide Try.prog w .any base 22 v) (hr : DataW.Trod enc Try.prog w 0 (fun _ => true) true 22 v dd p)
    (hsz : (DataW.weightsEach Try.prog ts ds).all (· ≤ reachBytes) = true) (ht : ts[1]? = some 22) (hd : ds[1]? = some dd) (w' : World) (hw : w' = w) :
    Calls Try.prog 3 #[.int .i64 q, v] w' fun e W => e = .returned (.bool true) ∧ Below w'.heap.size w' W := by
  subst hw
  obtain ⟨A, n, c, Z, rfl, hA, hn⟩ := script_open hok hr hsz ht hd
  exact plays_walk q A n c Z w' hA hn
end Go.Proofs.Ytmanibjmcdbgaaa
