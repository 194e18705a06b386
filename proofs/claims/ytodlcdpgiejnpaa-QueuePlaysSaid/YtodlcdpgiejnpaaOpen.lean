/- How the script, a slice of calls, is read. -/
import Derived.Test.YtodlcdpgiejnpaaFix
import Derived.ProofKit
import Derived.Deep.Slices
import Derived.Deep.Fields
import Derived.SizedLaws
import Derived.OpenShut
namespace Go.Proofs.Ytodlcdpgiejnpaa
set_option linter.unusedVariables false
set_option linter.unusedSimpArgs false
open Go.ChangeShapes Go.WideShapes Go.Deep Go.RowKit
section
variable {H : Type} {enc : TypeId × Value → H} {P : Program} {w : World} {base : Nat} {spare : Nat → Bool} {held : Bool}
theorem field_cell {e : TypeId} {fs : Array Field} {a : Addr} {n m : Nat} {cs : List Value} {x : DataW H × List MemPlace} (he : P.underlying e = some (.struct fs)) (hone : oneCellFields P fs = true)
    (hc : w.cells? base a n = some cs) (ht : DataW.trod enc P w base spare held m e cs = some x) {j : Nat} {f : Field} (hf : fs[j]? = some f) (hj : j < n) :
    ∃ v y fuel, w.cell? (a.add j) = some v ∧ DataW.trod enc P w base spare held fuel f.type [v] = some y := by
  obtain ⟨xs, fuel, _, _, _, hl, hall⟩ := DataW.trod_struct he ht
  obtain ⟨ho, h1⟩ := hone_of hone j f hf
  obtain ⟨_, hlen, hcell⟩ := World.cells?_some hc
  have hjc : j < cs.length := by omega
  have hjx : j < xs.length := by rw [hl]; exact (Array.getElem?_eq_some_iff.1 hf).1
  have h2 := hall j f hf
  rw [ho, h1, List.drop_eq_getElem_cons hjc, List.take_succ_cons, List.take_zero, List.getElem?_eq_getElem hjx] at h2
  exact ⟨cs[j], xs[j], fuel, by rw [hcell j hj, List.getElem?_eq_getElem hjc], h2⟩
theorem field_int {e t : TypeId} {k : IntKind} {fs : Array Field} {a : Addr} {n m : Nat} {cs : List Value} {x : DataW H × List MemPlace} (he : P.underlying e = some (.struct fs)) (hone : oneCellFields P fs = true)
    (hc : w.cells? base a n = some cs) (ht : DataW.trod enc P w base spare held m e cs = some x) {j : Nat} {f : Field} (hf : fs[j]? = some f) (hj : j < n) (hu : f.type = t) (hk : P.underlying t = some (.int k)) :
    ∃ z : Int, w.cell? (a.add j) = some (.int k z) ∧ (Lit.int k z).wf = true := by
  subst hu
  obtain ⟨v, y, fuel, hv, hy⟩ := field_cell he hone hc ht hf hj
  obtain ⟨z, e1, _, hw⟩ := DataW.trod_int hk hy
  injection e1 with e1
  subst e1
  exact ⟨z, hv, hw⟩
end
theorem add_flat {A : Addr} {w : World} {v : Value} (h : w.cell? A = some v) : A = ⟨A.block, A.off, none⟩ := by
  obtain ⟨b, o, s⟩ := A
  cases s with
  | none => rfl
  | some q =>
    simp [World.cell?] at h
    split at h <;> simp at h
theorem add_at {b off : Nat} (j : Nat) : (⟨b, off, none⟩ : Addr).add j = ⟨b, off + j, none⟩ := by
  unfold Addr.add
  split
  · rename_i h; subst h; rfl
  · rfl
theorem add_zero' (a : Addr) : a.add 0 = a := rfl
theorem list_of {α : Type} {P : Nat → α → Prop} : ∀ n : Nat, (∀ i, i < n → ∃ o, P i o) → ∃ l : List α, l.length = n ∧ ∀ i o, l[i]? = some o → P i o
  | 0, _ => ⟨[], rfl, by simp⟩
  | n + 1, h => by
    obtain ⟨l, hl, hp⟩ := list_of n (fun i hi => h i (by omega))
    obtain ⟨o, ho⟩ := h n (by omega)
    refine ⟨l ++ [o], by simp [hl], fun i x hx => ?_⟩
    by_cases hi : i < l.length
    · rw [List.getElem?_append_left hi] at hx; exact hp i x hx
    · have := (List.getElem?_eq_some_iff.1 hx).1
      simp at this
      obtain rfl : i = n := by omega
      rw [List.getElem?_append_right (by omega)] at hx
      simp [hl] at hx
      exact hx ▸ ho
/-- each number of a call is in its range -/
def OpWf (o : Opp) : Prop := (Lit.int .i64 o.kd).wf = true ∧ (Lit.int .i64 o.t).wf = true ∧ (Lit.int .i64 o.r).wf = true ∧ (Lit.int .i64 o.n).wf = true ∧ (Lit.int .i64 o.x).wf = true

set_option maxRecDepth 100000 in
theorem script_open {H : Type} {enc : TypeId × Value → H} {W : World} {base : Nat} {v : Value} {d : DataW H} {p : List MemPlace} (hok : Value.okWide Try.prog W .any base 22 v)
    (hr : DataW.Trod enc Try.prog W 0 (fun _ => true) true 22 v d p) {ts : List TypeId} {ds : List (DataW H)} {j : Nat} (hsz : (DataW.weightsEach Try.prog ts ds).all (· ≤ reachBytes) = true)
    (htj : ts[j]? = some 22) (hdj : ds[j]? = some d) :
    ∃ A ops c, v = .slice A ops.length c ∧ OpsAt W A ops ∧ (∀ o ∈ ops, OpWf o) ∧ ops.length ≤ c ∧ ops.length * 40 ≤ 140737488351232 := by
  obtain ⟨A, n, c, rfl⟩ := okWide_slice Try.underlying22 hok
  obtain ⟨fuel, hf⟩ := hr
  rcases open_slice Try.underlying22 hf with ⟨hcs, _⟩ | ⟨a, len, cap, m, fu, D, Pl, hcs, _, hl, hlc, hm, hx, hall⟩
  · simp [Value.cells] at hcs
    obtain ⟨rfl, rfl, rfl⟩ := hcs
    exact ⟨none, [], 0, rfl, fun k o ho => by simp at ho, by simp, by simp, by simp⟩
  · simp [Value.cells] at hcs
    obtain ⟨rfl, rfl, rfl⟩ := hcs
    have hC : Try.prog.cellsOf 28 = 5 := by kernel_rfl
    have key : ∀ i, i < n → ∃ o : Opp, OpWf o ∧ a = ⟨a.block, a.off, none⟩ ∧ a.block < W.heap.size ∧ W.cell? ⟨a.block, a.off + i * 5, none⟩ = some (.int .i64 o.kd) ∧ W.cell? ⟨a.block, a.off + i * 5 + 1, none⟩ = some (.int .i64 o.t) ∧
        W.cell? ⟨a.block, a.off + i * 5 + 2, none⟩ = some (.int .i64 o.r) ∧ W.cell? ⟨a.block, a.off + i * 5 + 3, none⟩ = some (.int .i64 o.n) ∧ W.cell? ⟨a.block, a.off + i * 5 + 4, none⟩ = some (.int .i64 o.x) := by
      intro i hi
      obtain ⟨cs, hcells, ht⟩ := hall i (by rw [hm]; simp; omega)
      rw [hC] at hcells
      obtain ⟨z0, h0, v0⟩ := field_int Try.underlying28 (by kernel_rfl) hcells ht (j := 0) rfl (by omega) rfl Try.underlying3
      obtain ⟨z1, h1, v1⟩ := field_int Try.underlying28 (by kernel_rfl) hcells ht (j := 1) rfl (by omega) rfl Try.underlying2
      obtain ⟨z2, h2, v2⟩ := field_int Try.underlying28 (by kernel_rfl) hcells ht (j := 2) rfl (by omega) rfl Try.underlying2
      obtain ⟨z3, h3, v3⟩ := field_int Try.underlying28 (by kernel_rfl) hcells ht (j := 3) rfl (by omega) rfl Try.underlying2
      obtain ⟨z4, h4, v4⟩ := field_int Try.underlying28 (by kernel_rfl) hcells ht (j := 4) rfl (by omega) rfl Try.underlying3
      have e0 := add_flat h0
      rw [add_zero'] at h0 e0
      have hb : (a.add (i * 5)).block = a.block := by unfold Addr.add; split <;> rfl
      have ho : (a.add (i * 5)).off = a.off + i * 5 := by
        unfold Addr.add
        split
        · rename_i hz; rw [hz]; rfl
        · rfl
      have ha : a = ⟨a.block, a.off, none⟩ := by
        obtain ⟨cs0, hc0, ht0⟩ := hall 0 (by rw [hm]; simp; omega)
        rw [hC] at hc0
        obtain ⟨z, hz, _⟩ := field_int Try.underlying28 (by kernel_rfl) hc0 ht0 (j := 0) rfl (by omega) rfl Try.underlying3
        have hz := add_flat hz
        simp only [Nat.zero_mul, add_zero'] at hz
        exact hz
      rw [e0, hb, ho] at h0 h1 h2 h3 h4
      rw [add_at] at h1 h2 h3 h4
      refine ⟨⟨z0, z1, z2, z3, z4⟩, ⟨v0, v1, v2, v3, v4⟩, ha, ?_, h0, h1, h2, h3, h4⟩
      rcases Nat.lt_or_ge a.block W.heap.size with hlt | hge
      · exact hlt
      · simp [World.cell?, Array.getElem?_eq_none hge] at h0
    obtain ⟨l, hl', hP⟩ := list_of n key
    subst hl'
    refine ⟨some a, l, c, rfl, fun k o ho => ?_, fun o ho => ?_, by omega, ?_⟩
    · obtain ⟨_, ha, hB, h0, h1, h2, h3, h4⟩ := hP k o ho
      exact ⟨a.block, a.off, by rw [← ha], hB, h0, h1, h2, h3, h4⟩
    · obtain ⟨i, hi⟩ := List.mem_iff_getElem?.1 ho
      exact (hP i o hi).1
    · obtain ⟨hx, _⟩ := Prod.mk.inj hx
      subst hx
      have z := sized_slice hsz htj hdj Try.underlying22
      have hB : Try.prog.bytesOf 28 = 40 := by kernel_rfl
      rw [hB] at z
      simp [reachBytes] at z
      omega
end Go.Proofs.Ytodlcdpgiejnpaa
