/- A slice of numbers that is handed in, opened. -/
import Derived.Test.YtdkdmclbhcbfeaaDoorF
import Derived.SizedLaws
import Derived.ChangeSlices
import Derived.Laws.Cover2
namespace Go.Proofs.YtdkdmclbhcbfeaaDoor.Nu
open Go.ChangeShapes Go.WideShapes Go.RowKit Go.Proofs.YtdkdmclbhcbfeaaDoorW.PrintWords
set_option linter.unusedVariables false
set_option linter.unusedSimpArgs false
section
variable {H : Type} {enc : TypeId × Value → H} {P : Program} {w : World} {base : Nat} {spare : Nat → Bool} {held : Bool}
theorem trod_num {t : TypeId} {fuel : Nat} {cs : List Value} {x : DataW H × List MemPlace} (ht : P.underlying t = some (.float .f64)) (h : DataW.trod enc P w base spare held fuel t cs = some x) : ∃ n, cs = [.float .f64 n] ∧ (Lit.float .f64 n).wf = true := by
  cases fuel with
  | zero => simp [DataW.trod] at h
  | succ n =>
    unfold DataW.trod at h
    rw [ht] at h
    split at h <;> simp_all
/-- len numbers lie at a -/
def RowF (w : World) (a : Option Addr) (len : Nat) (zs : List Nat) : Prop :=
  zs.length = len ∧ (0 < len → ∃ x, a = some x ∧ ∀ i y, zs[i]? = some y → w.cell? (x.add i) = some (.float .f64 y)) ∧ ∀ n ∈ zs, n < 18446744073709551616
theorem take_lift {α : Type} (p : Nat → α → Prop) (n : Nat) (h : ∀ i, i < n → ∃ y, p i y) : ∃ l : List α, l.length = n ∧ ∀ i y, l[i]? = some y → p i y := by
  induction n with
  | zero => exact ⟨[], rfl, fun i y h => by cases h⟩
  | succ n ih =>
    obtain ⟨l, hl, hp⟩ := ih (fun i hi => h i (by omega))
    obtain ⟨y, hy⟩ := h n (by omega)
    refine ⟨l ++ [y], by simp [hl], fun i z hz => ?_⟩
    rw [List.getElem?_append] at hz
    split at hz
    · exact hp i z hz
    · rename_i hi
      have : i - l.length = 0 := by have := (List.getElem?_eq_some_iff.1 hz).1; simp at this; omega
      rw [this] at hz
      simp at hz
      subst hz
      rw [show i = n by omega]
      exact hy
theorem open_nums {t e : TypeId} {a : Option Addr} {len cap : Nat} {d : DataW H} {ps : List MemPlace} (ht : P.underlying t = some (.slice e)) (he : P.underlying e = some (.float .f64)) (hc : P.cellsOf e = 1)
    (h : DataW.Trod enc P w base spare held t (.slice a len cap) d ps) : ∃ zs, RowF w a len zs ∧ len ≤ cap ∧ cap ≤ 9223372036854775807 := by
  obtain ⟨fuel, hf⟩ := h
  rcases DataW.trod_slice ht hf with ⟨h0, _⟩ | ⟨x, l, c, elems, rest, n, _, hcs, _, hb, hl, hm, hlen, hel, _, _⟩
  · simp [Value.cells] at h0
    obtain ⟨rfl, rfl, rfl⟩ := h0
    exact ⟨[], ⟨rfl, fun h => absurd h (by decide), fun n hn => by cases hn⟩, by decide, by decide⟩
  · simp [Value.cells] at hcs
    obtain ⟨rfl, rfl, rfl⟩ := hcs
    obtain ⟨zs, hz, hp⟩ := take_lift (fun i y => w.cell? (x.add i) = some (.float .f64 y) ∧ (Lit.float .f64 y).wf = true) len (fun i hi => by
      have h1 := hel i hi
      have h2 : elems[i]? = some elems[i] := List.getElem?_eq_getElem (by omega)
      rw [h2, hc, Nat.mul_one, Option.bind_eq_some_iff] at h1
      obtain ⟨cs, h3, h4⟩ := h1
      obtain ⟨m, rfl, hw⟩ := trod_num he h4
      exact ⟨m, cell_of_cells?_one h3, hw⟩)
    refine ⟨zs, ⟨hz, fun _ => ⟨x, rfl, fun i y hy => (hp i y hy).1⟩, fun y hy => ?_⟩, hl, hm⟩
    obtain ⟨i, hi⟩ := List.mem_iff_getElem?.1 hy
    exact of_decide_eq_true (hp i y hi).2
theorem sized_nums {t e : TypeId} {a : Option Addr} {len cap : Nat} {d : DataW H} {ps : List MemPlace} {ts : List TypeId} {ds : List (DataW H)} {j : Nat}
    (hsz : (DataW.weightsEach P ts ds).all (· ≤ reachBytes) = true) (ht : ts[j]? = some t) (hd : ds[j]? = some d) (hu : P.underlying t = some (.slice e)) (he : P.underlying e = some (.float .f64)) {B : Nat} (hB : P.bytesOf e = B)
    (h : DataW.Trod enc P w base spare held t (.slice a len cap) d ps) : len * B ≤ 140737488351232 := by
  obtain ⟨fuel, hf⟩ := h
  rcases DataW.trod_slice hu hf with ⟨h0, _⟩ | ⟨x, l, c, elems, rest, n, _, hcs, hx, hb, hl, hm, hlen, hel, _, _⟩
  · simp [Value.cells] at h0
    obtain ⟨rfl, rfl, rfl⟩ := h0
    simp
  · simp [Value.cells] at hcs
    obtain ⟨rfl, rfl, rfl⟩ := hcs
    obtain ⟨hx, _⟩ := Prod.mk.inj hx
    subst hx
    have z := sized_slice hsz ht hd hu
    rw [hB, List.length_map, List.length_map, hlen] at z
    exact Nat.le_trans (Nat.mul_le_mul_right _ (Nat.le_add_right _ _)) z
end
theorem RowF.C {w : World} {a : Option Addr} {len : Nat} {zs : List Nat} (h : RowF w a len zs) (hm : len ≤ 9223372036854775807) : kF.C w a zs.length zs := by
  obtain ⟨h1, h2, h3⟩ := h
  subst h1
  refine ⟨rfl, hm, fun h0 => ?_⟩
  obtain ⟨x, hx, hc⟩ := h2 h0
  refine ⟨x, hx, fun i y hy => ⟨[.float .f64 y], rfl, rfl, fun j u hu => ?_⟩⟩
  have hj : j = 0 := by have := (List.getElem?_eq_some_iff.1 hu).1; simpa using this
  subst hj
  simp only [List.getElem?_cons_zero, Option.some.injEq] at hu
  subst hu
  rw [kF_sz, Nat.add_zero, Nat.mul_one]
  exact hc i y hy
end Go.Proofs.YtdkdmclbhcbfeaaDoor.Nu
