/- A part of the proof of the statement PlanLands: words, contracts of functions that it reaches, and what they compute. No condition. -/
import Derived.Test.YtbmldeikjfecfaaE02
import Derived.ProofKit
import Derived.Deep.Slices
import Derived.Deep.Fields
import Derived.SizedLaws
import Derived.OpenShut
import Derived.ChangeSlices
set_option linter.unusedVariables false
set_option linter.unusedSimpArgs false
namespace Go.Proofs.Ytbmldeikjfecfaa.Hd
open Go.ChangeShapes Go.WideShapes Go.Deep Go.RowKit Go.Proofs.Ytbmldeikjfecfaa.T Go.Proofs.YtbmldeikjfecfaaW.PrintWords Go.Proofs.YtbmldeikjfecfaaW.PrintLast Go.Proofs.YtbmldeikjfecfaaW.PrintMore
section
variable {H : Type} {enc : TypeId × Value → H} {P : Program} {w : World} {base : Nat} {spare : Nat → Bool} {held : Bool}
theorem field_cell {e : TypeId} {fs : Array Field} {a : Addr} {n m : Nat} {cs : List Value} {x : DataW H × List MemPlace} (he : P.underlying e = some (.struct fs)) (hone : oneCellFields P fs = true)
    (hc : w.cells? base a n = some cs) (ht : DataW.trod enc P w base spare held m e cs = some x) {j : Nat} {f : Field} (hf : fs[j]? = some f) (hj : j < n) :
    ∃ v y fuel, w.cell? (a.add j) = some v ∧ DataW.trod enc P w base spare held fuel f.type [v] = some y := by
  obtain ⟨xs, fuel, _, _, _, hl, hall⟩ := DataW.trod_struct he ht
  obtain ⟨ho, h1⟩ := hone_of hone j f hf
  obtain ⟨_, hlen, hcell⟩ := World.cells?_some hc
  have hjc : j < cs.length := by omega
  have hjx : j < xs.length := by rw [hl]; exact (Array.getElem?_eq_some_iff.1 hf).1
  have h2 := hall j f hf
  rw [ho, h1, List.drop_eq_getElem_cons hjc, List.take_succ_cons, List.take_zero, List.getElem?_eq_getElem hjx] at h2
  exact ⟨cs[j], xs[j], fuel, by rw [hcell j hj, List.getElem?_eq_getElem hjc], h2⟩
theorem field_int {e t : TypeId} {k : IntKind} {fs : Array Field} {a : Addr} {n m : Nat} {cs : List Value} {x : DataW H × List MemPlace} (he : P.underlying e = some (.struct fs)) (hone : oneCellFields P fs = true)
    (hc : w.cells? base a n = some cs) (ht : DataW.trod enc P w base spare held m e cs = some x) {j : Nat} {f : Field} (hf : fs[j]? = some f) (hj : j < n) (hu : f.type = t) (hk : P.underlying t = some (.int k)) :
    ∃ z : Int, w.cell? (a.add j) = some (.int k z) ∧ (Lit.int k z).wf = true := by
  subst hu
  obtain ⟨v, y, fuel, hv, hy⟩ := field_cell he hone hc ht hf hj
  obtain ⟨z, e1, _, hw⟩ := DataW.trod_int hk hy
  injection e1 with e1
  subst e1
  exact ⟨z, hv, hw⟩
theorem val_field {e : TypeId} {fs : Array Field} {m : Nat} {cs : List Value} {x : DataW H × List MemPlace} (he : P.underlying e = some (.struct fs)) (hone : oneCellFields P fs = true)
    (ht : DataW.trod enc P w base spare held m e cs = some x) {j : Nat} {f : Field} {v : Value} (hf : fs[j]? = some f) (hj : cs[j]? = some v) :
    ∃ y fuel, DataW.trod enc P w base spare held fuel f.type [v] = some y := by
  obtain ⟨xs, fuel, _, _, _, hl, hall⟩ := DataW.trod_struct he ht
  obtain ⟨ho, h1⟩ := hone_of hone j f hf
  obtain ⟨hjc, hv⟩ := List.getElem?_eq_some_iff.1 hj
  have hjx : j < xs.length := by rw [hl]; exact (Array.getElem?_eq_some_iff.1 hf).1
  have h2 := hall j f hf
  rw [ho, h1, List.drop_eq_getElem_cons hjc, List.take_succ_cons, List.take_zero, List.getElem?_eq_getElem hjx, hv] at h2
  exact ⟨xs[j], fuel, h2⟩
theorem val_int {e t : TypeId} {k : IntKind} {fs : Array Field} {m : Nat} {cs : List Value} {x : DataW H × List MemPlace} (he : P.underlying e = some (.struct fs)) (hone : oneCellFields P fs = true)
    (ht : DataW.trod enc P w base spare held m e cs = some x) {j : Nat} {f : Field} {v : Value} (hf : fs[j]? = some f) (hj : cs[j]? = some v) (hu : f.type = t) (hk : P.underlying t = some (.int k)) : ∃ z : Int, v = .int k z ∧ (Lit.int k z).wf = true := by
  subst hu
  obtain ⟨y, fuel, hy⟩ := val_field he hone ht hf hj
  obtain ⟨z, e1, _, hw⟩ := DataW.trod_int hk hy
  injection e1 with e1
  exact ⟨z, e1, hw⟩
end
theorem list_of {α : Type} {P : Nat → α → Prop} : ∀ n : Nat, (∀ i, i < n → ∃ o, P i o) → ∃ l : List α, l.length = n ∧ ∀ i o, l[i]? = some o → P i o
  | 0, _ => ⟨[], rfl, by simp⟩
  | n + 1, h => by
    obtain ⟨l, hl, hp⟩ := list_of n (fun i hi => h i (by omega))
    obtain ⟨o, ho⟩ := h n (by omega)
    refine ⟨l ++ [o], by simp [hl], fun i x hx => ?_⟩
    by_cases hi : i < l.length
    · rw [List.getElem?_append_left hi] at hx; exact hp i x hx
    · have := (List.getElem?_eq_some_iff.1 hx).1
      simp at this
      obtain rfl : i = n := by omega
      rw [List.getElem?_append_right (by omega)] at hx
      simp [hl] at hx
      exact hx ▸ ho
theorem wf_i64 {z : Int} (h : (Lit.int .i64 z).wf = true) : i64 z := by
  simp [Lit.wf, IntKind.min, IntKind.max, IntKind.signed, IntKind.bits] at h
  unfold i64
  omega
theorem wf_u32 {z : Int} (h : (Lit.int .u32 z).wf = true) : u32 z := by
  simp [Lit.wf, IntKind.min, IntKind.max, IntKind.signed, IntKind.bits] at h
  unfold u32
  omega
section
variable {H : Type} {enc : TypeId × Value → H} {W : World} {base : Nat} {held : Bool} {fuel : Nat} {x : DataW H × List MemPlace}
theorem open_row {v : Value} (h : DataW.trod enc Try.prog W base (fun _ => true) held fuel 66 [v] = some x) :
    ∃ A c, ∃ l : List Int, v = .slice A l.length c ∧ l.length ≤ c ∧ l.length ≤ 9223372036854775807 ∧ (Kd.int .i64).C W A l.length l ∧ ∀ z ∈ l, i64 z := by
  rcases open_ints Try.underlying66 Try.underlying2 (by kernel_rfl) h with ⟨hcs, _⟩ | ⟨a, len, cap, zs, hcs, _, hl, hm, hz, _, hcell, hwz⟩
  · simp at hcs
    exact ⟨none, 0, [], hcs, by simp, by simp, ⟨rfl, by simp, fun h => absurd h (Nat.lt_irrefl 0)⟩, by simp⟩
  · simp at hcs hz
    unfold maxLen at hm
    have hlen : (zs.take len).length = len := by rw [List.length_take]; omega
    refine ⟨some a, cap, zs.take len, by rw [hlen]; exact hcs, by omega, by omega, ⟨rfl, by omega, fun _ => ⟨a, rfl, fun j p hj => ?_⟩⟩, fun z hzm => wf_i64 (hwz z (List.mem_of_mem_take hzm))⟩
    have hjl : j < len := by have := (List.getElem?_eq_some_iff.1 hj).1; omega
    refine ⟨[.int .i64 p], rfl, rfl, fun i u hu => ?_⟩
    rcases i with _ | i
    · simp at hu
      subst hu
      have hc := hcell j (by omega)
      rw [List.getElem?_take, if_pos hjl] at hj
      rw [List.getD_eq_getElem?_getD, hj] at hc
      have hs : (Kd.int .i64).sz = 1 := rfl
      rw [hs, Nat.mul_one, Nat.add_zero]
      exact hc
    · simp at hu
theorem open_rows {v : Value} (h : DataW.trod enc Try.prog W base (fun _ => true) held fuel 22 [v] = some x) :
    ∃ A c, ∃ l : List (List Int), v = .slice A l.length c ∧ l.length ≤ c ∧ l.length ≤ 9223372036854775807 ∧ Kd.C (Kd.slice 2 (Kd.int .i64)) W A l.length l ∧ ∀ r ∈ l, r.length ≤ 9223372036854775807 ∧ ∀ z ∈ r, i64 z := by
  rcases open_slice Try.underlying22 h with ⟨hcs, _⟩ | ⟨a, len, cap, m, fu, D, Pl, hcs, _, hl, hm, hmm, _, hall⟩
  · simp at hcs
    exact ⟨none, 0, [], hcs, by simp, by simp, ⟨rfl, by simp, fun h => absurd h (Nat.lt_irrefl 0)⟩, by simp⟩
  · simp at hcs hmm
    unfold maxLen at hm
    have hC : Try.prog.cellsOf 66 = 1 := by kernel_rfl
    have key : ∀ i, i < len → ∃ r : List Int, ∃ A c, W.cell? (a.add i) = some (.slice A r.length c) ∧ r.length ≤ c ∧ r.length ≤ 9223372036854775807 ∧ (Kd.int .i64).C W A r.length r ∧ ∀ z ∈ r, i64 z := by
      intro i hi
      obtain ⟨cs, hcells, ht⟩ := hall i (by omega)
      rw [hC] at hcells
      obtain ⟨_, hlen, hcell⟩ := World.cells?_some hcells
      obtain ⟨v0, rfl⟩ : ∃ v0, cs = [v0] := List.length_eq_one_iff.1 hlen
      obtain ⟨A, c, r, rfl, h1, h2, h3, h4⟩ := open_row ht
      have := hcell 0 (by omega)
      rw [Nat.mul_one] at this
      exact ⟨r, A, c, this, h1, h2, h3, h4⟩
    obtain ⟨l, hll, hp⟩ := list_of len key
    refine ⟨some a, cap, l, by rw [hll]; exact hcs, by omega, by omega, ⟨rfl, by omega, fun _ => ⟨a, rfl, fun j p hj => ?_⟩⟩, fun r hr => ?_⟩
    · obtain ⟨A, c, h1, h2, h3, h4, h5⟩ := hp j p hj
      refine ⟨[.slice A p.length c], rfl, ⟨A, c, rfl, h2, h4⟩, fun i u hu => ?_⟩
      rcases i with _ | i
      · simp at hu
        subst hu
        have hs : (Kd.slice 2 (Kd.int .i64)).sz = 1 := rfl
        rw [hs, Nat.mul_one, Nat.add_zero]
        exact h1
      · simp at hu
    · obtain ⟨j, hj⟩ := List.mem_iff_getElem?.1 hr
      obtain ⟨A, c, h1, h2, h3, h4, h5⟩ := hp j r hj
      exact ⟨h3, h5⟩
theorem open_entries {v : Value} (h : DataW.trod enc Try.prog W base (fun _ => true) held fuel 23 [v] = some x) :
    ∃ A c, ∃ l : List S40, v = .slice A l.length c ∧ l.length ≤ c ∧ l.length ≤ 9223372036854775807 ∧ Kd.C k40 W A l.length l ∧ ∀ e ∈ l, okE e := by
  rcases open_slice Try.underlying23 h with ⟨hcs, _⟩ | ⟨a, len, cap, m, fu, D, Pl, hcs, _, hl, hm, hmm, _, hall⟩
  · simp at hcs
    exact ⟨none, 0, [], hcs, by simp, by simp, ⟨rfl, by simp, fun h => absurd h (Nat.lt_irrefl 0)⟩, by simp⟩
  · simp at hcs hmm
    unfold maxLen at hm
    have hC : Try.prog.cellsOf 40 = 4 := by kernel_rfl
    have key : ∀ i, i < len → ∃ e : S40, okE e ∧ W.cell? (a.add (i * 4)) = some (.int .i64 e.f0) ∧ W.cell? ((a.add (i * 4)).add 1) = some (.int .u32 e.f1) ∧ W.cell? ((a.add (i * 4)).add 2) = some (.int .i64 e.f2) ∧ W.cell? ((a.add (i * 4)).add 3) = some (.int .i64 e.f3) := by
      intro i hi
      obtain ⟨cs, hcells, ht⟩ := hall i (by omega)
      rw [hC] at hcells
      obtain ⟨z0, h0, v0⟩ := field_int Try.underlying40 (by kernel_rfl) hcells ht (j := 0) rfl (by omega) rfl Try.underlying3
      obtain ⟨z1, h1, v1⟩ := field_int Try.underlying40 (by kernel_rfl) hcells ht (j := 1) rfl (by omega) rfl Try.underlying38
      obtain ⟨z2, h2, v2⟩ := field_int Try.underlying40 (by kernel_rfl) hcells ht (j := 2) rfl (by omega) rfl Try.underlying2
      obtain ⟨z3, h3, v3⟩ := field_int Try.underlying40 (by kernel_rfl) hcells ht (j := 3) rfl (by omega) rfl Try.underlying3
      exact ⟨⟨z0, z1, z2, z3⟩, ⟨wf_i64 v0, wf_u32 v1, wf_i64 v2, wf_i64 v3⟩, h0, h1, h2, h3⟩
    obtain ⟨l, hll, hp⟩ := list_of len key
    refine ⟨some a, cap, l, by rw [hll]; exact hcs, by omega, by omega, ⟨rfl, by omega, fun _ => ⟨a, rfl, fun j p hj => ?_⟩⟩, fun e he => ?_⟩
    · obtain ⟨_, h0, h1, h2, h3⟩ := hp j p hj
      refine ⟨_, rfl, k40_mk W p, fun i u hu => ?_⟩
      have hs : k40.sz = 4 := rfl
      rw [hs]
      rcases i with _ | _ | _ | _ | i
      · simp at hu; subst hu; exact h0
      · simp at hu; subst hu; rw [← Go.Deep.add_add]; exact h1
      · simp at hu; subst hu; rw [← Go.Deep.add_add]; exact h2
      · simp at hu; subst hu; rw [← Go.Deep.add_add]; exact h3
      · simp at hu
    · obtain ⟨j, hj⟩ := List.mem_iff_getElem?.1 he
      exact (hp j e hj).1
theorem open_links {v : Value} (h : DataW.trod enc Try.prog W base (fun _ => true) held fuel 24 [v] = some x) :
    ∃ A c, ∃ l : List S63, v = .slice A l.length c ∧ l.length ≤ c ∧ l.length ≤ 9223372036854775807 ∧ Kd.C k63 W A l.length l ∧ ∀ e ∈ l, okL e := by
  rcases open_slice Try.underlying24 h with ⟨hcs, _⟩ | ⟨a, len, cap, m, fu, D, Pl, hcs, _, hl, hm, hmm, _, hall⟩
  · simp at hcs
    exact ⟨none, 0, [], hcs, by simp, by simp, ⟨rfl, by simp, fun h => absurd h (Nat.lt_irrefl 0)⟩, by simp⟩
  · simp at hcs hmm
    unfold maxLen at hm
    have hC : Try.prog.cellsOf 63 = 4 := by kernel_rfl
    have key : ∀ i, i < len → ∃ e : S63, okL e ∧ W.cell? (a.add (i * 4)) = some (.int .i64 e.f0) ∧ W.cell? ((a.add (i * 4)).add 1) = some (.int .u32 e.f1) ∧ W.cell? ((a.add (i * 4)).add 2) = some (.int .i64 e.f2) ∧ W.cell? ((a.add (i * 4)).add 3) = some (.int .i64 e.f3) := by
      intro i hi
      obtain ⟨cs, hcells, ht⟩ := hall i (by omega)
      rw [hC] at hcells
      obtain ⟨z0, h0, v0⟩ := field_int Try.underlying63 (by kernel_rfl) hcells ht (j := 0) rfl (by omega) rfl Try.underlying3
      obtain ⟨z1, h1, v1⟩ := field_int Try.underlying63 (by kernel_rfl) hcells ht (j := 1) rfl (by omega) rfl Try.underlying38
      obtain ⟨z2, h2, v2⟩ := field_int Try.underlying63 (by kernel_rfl) hcells ht (j := 2) rfl (by omega) rfl Try.underlying2
      obtain ⟨z3, h3, v3⟩ := field_int Try.underlying63 (by kernel_rfl) hcells ht (j := 3) rfl (by omega) rfl Try.underlying3
      exact ⟨⟨z0, z1, z2, z3⟩, ⟨wf_i64 v0, wf_u32 v1, wf_i64 v2, wf_i64 v3⟩, h0, h1, h2, h3⟩
    obtain ⟨l, hll, hp⟩ := list_of len key
    refine ⟨some a, cap, l, by rw [hll]; exact hcs, by omega, by omega, ⟨rfl, by omega, fun _ => ⟨a, rfl, fun j p hj => ?_⟩⟩, fun e he => ?_⟩
    · obtain ⟨_, h0, h1, h2, h3⟩ := hp j p hj
      refine ⟨_, rfl, k63_mk W p, fun i u hu => ?_⟩
      have hs : k63.sz = 4 := rfl
      rw [hs]
      rcases i with _ | _ | _ | _ | i
      · simp at hu; subst hu; exact h0
      · simp at hu; subst hu; rw [← Go.Deep.add_add]; exact h1
      · simp at hu; subst hu; rw [← Go.Deep.add_add]; exact h2
      · simp at hu; subst hu; rw [← Go.Deep.add_add]; exact h3
      · simp at hu
    · obtain ⟨j, hj⟩ := List.mem_iff_getElem?.1 he
      exact (hp j e hj).1
set_option maxRecDepth 100000 in
theorem config_open {r : Reach} {b0 : Nat} {v : Value} {d : DataW H} {p : List MemPlace} (hok : Value.okWide Try.prog W r b0 26 v) (hr : DataW.Trod enc Try.prog W base (fun _ => true) held 26 v d p) :
    ∃ (hosts cyc dly win prec : Int) (A5 : Option Addr) (c5 : Nat) (ds : List (List Int)) (A6 : Option Addr) (c6 : Nat) (es : List S40) (A7 : Option Addr) (c7 : Nat) (ls : List S63) (q : Int),
      v = .agg #[.int .i64 hosts, .int .i64 cyc, .int .i64 dly, .int .i64 win, .int .i64 prec, .slice A5 ds.length c5, .slice A6 es.length c6, .slice A7 ls.length c7, .int .i64 q] ∧ sane hosts cyc dly win prec ds es ls q ∧
      Kd.C (Kd.slice 2 (Kd.int .i64)) W A5 ds.length ds ∧ ds.length ≤ c5 ∧ Kd.C k40 W A6 es.length es ∧ es.length ≤ c6 ∧ Kd.C k63 W A7 ls.length ls ∧ ls.length ≤ c7 := by
  obtain ⟨cs, rfl, hsz⟩ := okWide_struct Try.underlying26 hok
  have hC : Try.prog.cellsOf 26 = 9 := by kernel_rfl
  rw [hC] at hsz
  obtain ⟨l⟩ := cs
  have hl : l.length = 9 := by simpa using hsz
  obtain ⟨fuel, hf⟩ := hr
  have hcl : (Value.agg ⟨l⟩).cells.toList = l := by simp [Value.cells]
  rw [hcl] at hf
  match l, hl with
  | [v0, v1, v2, v3, v4, v5, v6, v7, v8], _ =>
    obtain ⟨z0, rfl, w0⟩ := val_int Try.underlying26 (by kernel_rfl) hf (j := 0) rfl rfl rfl Try.underlying3
    obtain ⟨z1, rfl, w1⟩ := val_int Try.underlying26 (by kernel_rfl) hf (j := 1) rfl rfl rfl Try.underlying2
    obtain ⟨z2, rfl, w2⟩ := val_int Try.underlying26 (by kernel_rfl) hf (j := 2) rfl rfl rfl Try.underlying2
    obtain ⟨z3, rfl, w3⟩ := val_int Try.underlying26 (by kernel_rfl) hf (j := 3) rfl rfl rfl Try.underlying2
    obtain ⟨z4, rfl, w4⟩ := val_int Try.underlying26 (by kernel_rfl) hf (j := 4) rfl rfl rfl Try.underlying2
    obtain ⟨y5, f5, h5⟩ := val_field Try.underlying26 (by kernel_rfl) hf (j := 5) rfl rfl
    obtain ⟨y6, f6, h6⟩ := val_field Try.underlying26 (by kernel_rfl) hf (j := 6) rfl rfl
    obtain ⟨y7, f7, h7⟩ := val_field Try.underlying26 (by kernel_rfl) hf (j := 7) rfl rfl
    obtain ⟨z8, rfl, w8⟩ := val_int Try.underlying26 (by kernel_rfl) hf (j := 8) rfl rfl rfl Try.underlying3
    obtain ⟨A5, c5, ds, rfl, d1, d2, d3, d4⟩ := open_rows h5
    obtain ⟨A6, c6, es, rfl, e1, e2, e3, e4⟩ := open_entries h6
    obtain ⟨A7, c7, ls, rfl, l1, l2, l3, l4⟩ := open_links h7
    exact ⟨z0, z1, z2, z3, z4, A5, c5, ds, A6, c6, es, A7, c7, ls, z8, rfl, ⟨wf_i64 w0, wf_i64 w1, wf_i64 w2, wf_i64 w3, wf_i64 w4, wf_i64 w8, d4, e4, l4, d2, e2, l2⟩, d3, d1, e3, e1, l3, l1⟩
end
end Go.Proofs.Ytbmldeikjfecfaa.Hd
