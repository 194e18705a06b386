/- A part of the proof of the statement PlanLands: words, contracts of functions that it reaches, and what they compute. No condition. -/
import Derived.Test.YtbmldeikjfecfaaE08
set_option linter.unusedVariables false
set_option linter.unusedSimpArgs false
namespace Go.Proofs.Ytbmldeikjfecfaa.Hd
open Go.RowKit Go.Proofs.Ytbmldeikjfecfaa.T Go.Proofs.YtbmldeikjfecfaaW.PrintWords Go.Proofs.YtbmldeikjfecfaaW.PrintLast Go.Proofs.YtbmldeikjfecfaaW.PrintMore
structure Okc (hosts cyc dly win prec : Int) (ds : List (List Int)) (es : List S40) (ls : List S63) (q : Int) : Prop where
  h : 1 ≤ hosts ∧ hosts ≤ 6
  c : 1 ≤ cyc ∧ cyc ≤ 1073741824
  s : spansV cyc dly win prec = true
  d : (ds.length : Int) = hosts ∧ ds.all (rowV dly) = true
  n : es.length ≤ 16
  e5 : es.any (bad5 hosts) = false
  e6 : es.any (bad6 cyc dly win prec) = false
  e7 : pairsV es bad7 = false
  e8 : pairsV es (bad8 dly prec) = false
  m : ls.length ≤ 16
  e9 : ls.any (bad9 hosts) = false
  q : 1 ≤ q ∧ q ≤ 64
section
variable {hosts cyc dly win prec : Int} {ds : List (List Int)} {es : List S40} {ls : List S63} {q : Int}
theorem zero_ok (h : checkV hosts cyc dly win prec ds es ls q = 0) : Okc hosts cyc dly win prec ds es ls q := by
  unfold checkV at h
  by_cases c1 : 1 ≤ hosts ∧ hosts ≤ 6
  · rw [if_neg (fun h => h c1)] at h
    by_cases c2 : 1 ≤ cyc ∧ cyc ≤ 1073741824
    · rw [if_neg (fun h => h c2)] at h
      cases c3 : spansV cyc dly win prec with
      | false => rw [if_pos c3] at h; cases h
      | true =>
        rw [if_neg (by rw [c3]; decide)] at h
        by_cases c4 : (ds.length : Int) = hosts ∧ ds.all (rowV dly) = true
        · rw [if_neg (fun h => h c4)] at h
          by_cases c5 : 16 < es.length ∨ es.any (bad5 hosts) = true
          · rw [if_pos c5] at h; cases h
          · rw [if_neg c5] at h
            by_cases c6 : es.any (bad6 cyc dly win prec) = true
            · rw [if_pos c6] at h; cases h
            · rw [if_neg c6] at h
              by_cases c7 : pairsV es bad7 = true
              · rw [if_pos c7] at h; cases h
              · rw [if_neg c7] at h
                by_cases c8 : pairsV es (bad8 dly prec) = true
                · rw [if_pos c8] at h; cases h
                · rw [if_neg c8] at h
                  by_cases c9 : 16 < ls.length ∨ ls.any (bad9 hosts) = true
                  · rw [if_pos c9] at h; cases h
                  · rw [if_neg c9] at h
                    by_cases c10 : 1 ≤ q ∧ q ≤ 64
                    · exact ⟨c1, c2, c3, c4, by omega, by simpa using fun h => c5 (.inr h), by simpa using c6, by simpa using c7, by simpa using c8, by omega, by simpa using fun h => c9 (.inr h), c10⟩
                    · rw [if_pos c10] at h; cases h
        · rw [if_pos c4] at h; cases h
    · rw [if_pos c2] at h; cases h
  · rw [if_pos c1] at h; cases h
theorem pairs_none {l : List S40} {bad : S40 → S40 → Bool} (h : pairsV l bad = false) : l.Pairwise fun b a => bad a b = false := by
  rw [List.pairwise_iff_getElem]
  intro i j hi hj hij
  unfold pairsV at h
  have h1 := List.any_eq_false.1 h j (by simpa using hj)
  have h2 : ((l.take j).any fun b => bad (l.getD j z40) b) = false := by simpa using h1
  have h3 := List.any_eq_false.1 h2 l[i] (List.mem_take_iff_getElem.2 ⟨i, by omega, rfl⟩)
  rw [List.getD_eq_getElem?_getD, List.getElem?_eq_getElem hj] at h3
  simpa using h3
theorem Okc.route (k : Okc hosts cyc dly win prec ds es ls q) {e : S40} (he : e ∈ es) : routeV hosts e.f0 e.f1 e.f3 = true := by
  have := List.any_eq_false.1 k.e5 e he
  unfold bad5 at this
  simpa using this
theorem Okc.span (k : Okc hosts cyc dly win prec ds es ls q) : 1 ≤ cyc ∧ cyc ≤ 1073741824 ∧ 0 ≤ dly ∧ dly ≤ 1048576 ∧ 0 ≤ win ∧ win ≤ 1048576 ∧ 0 ≤ prec ∧ prec ≤ 1048576 := of_decide_eq_true k.s
theorem Okc.times (k : Okc hosts cyc dly win prec ds es ls q) {e : S40} (he : e ∈ es) : quietV dly win prec ≤ e.f2 ∧ e.f2 < cyc ∧ lateV dly prec e < cyc := by
  have := List.any_eq_false.1 k.e6 e he
  unfold bad6 at this
  simp only [Bool.or_eq_true, decide_eq_true_eq, not_or] at this
  omega
theorem Okc.fwd (k : Okc hosts cyc dly win prec ds es ls q) {e : S40} (he : e ∈ es) : 0 ≤ e.f2 ∧ e.f2 < fwdV dly prec e ∧ fwdV dly prec e + timeV e.f3 < cyc := by
  have h1 := k.times he
  have h2 := k.span
  have h3 := time_in e.f3
  unfold lateV at h1
  unfold quietV at h1
  unfold fwdV at *
  omega
theorem has_and {a b : Int} (ha : u32 a) (hb : u32 b) {i : Int} (h1 : hasV a i = true) (h2 : hasV b i = true) : (Go.bits .and .u32 a b != 0) = true := by
  unfold hasV at h1 h2
  simp only [Bool.and_eq_true, decide_eq_true_eq] at h1 h2
  obtain ⟨n, rfl⟩ := Int.eq_ofNat_of_zero_le ha.1
  obtain ⟨m, rfl⟩ := Int.eq_ofNat_of_zero_le hb.1
  have ha2 := ha.2
  have hb2 := hb.2
  rw [and_u32 n m (by omega) (by omega)]
  rw [Int.toNat_natCast] at h1 h2
  have : (n &&& m).testBit i.toNat = true := by rw [Nat.testBit_and, h1.2, h2.2]; rfl
  have hne : n &&& m ≠ 0 := by
    intro h0
    rw [h0] at this
    simp at this
  rw [bne_iff_ne]
  intro h
  exact hne (by omega)
theorem meet_same {a ta tb : Int} (h1 : 0 < ta) (h2 : 0 < tb) : meetV a ta a tb = true := by
  unfold meetV
  rw [decide_eq_true (by omega), decide_eq_true (by omega)]
  rfl
theorem res_apart (k : Okc hosts cyc dly win prec ds es ls q) (ho : ∀ e ∈ es, okE e) (host : Int) (down : Bool) : (resV dly prec es host down).Pairwise fun x y => x.f0 ≠ y.f0 := by
  unfold resV
  rw [List.pairwise_map, List.pairwise_filter]
  have hP : es.Pairwise fun b a => bad7 a b = false ∧ bad8 dly prec a b = false := (pairs_none k.e7).and (pairs_none k.e8)
  refine (List.pairwise_iff_getElem.2 fun i j hi hj hij p1 p2 => ?_)
  have hh := (List.pairwise_iff_getElem.1 hP) i j hi hj hij
  have o1 := (ho _ (List.getElem_mem hi)).2.1
  have o2 := (ho _ (List.getElem_mem hj)).2.1
  generalize es[i] = b at *
  generalize es[j] = a at *
  have t1 := time_in a.f3
  have t2 := time_in b.f3
  intro he
  unfold onWire at p1 p2
  unfold stretchV at he
  cases down with
  | false =>
    simp only [Bool.false_eq_true, if_false, decide_eq_true_eq] at p1 p2 he
    have := hh.1
    unfold bad7 at this
    rw [decide_eq_true (by omega), he, meet_same (by omega) (by omega)] at this
    cases this
  | true =>
    simp only [if_true] at p1 p2 he
    have := hh.2
    unfold bad8 at this
    rw [has_and o2 o1 p2 p1, he, meet_same (by omega) (by omega)] at this
    cases this
theorem sorted_is {S L : List S71} (hp : S.Perm L) (hs : S.Pairwise fun x y => x.f0 ≤ y.f0) (hd : L.Pairwise fun x y => x.f0 ≠ y.f0) : S = L.mergeSort (fun x y => decide (x.f0 ≤ y.f0)) := by
  have hm := List.pairwise_mergeSort (le := fun x y : S71 => decide (x.f0 ≤ y.f0)) (fun a b c h1 h2 => by simp only [decide_eq_true_eq] at *; omega) (fun a b => by simp only [Bool.or_eq_true, decide_eq_true_eq]; omega) L
  have hmp := List.mergeSort_perm L (fun x y => decide (x.f0 ≤ y.f0))
  refine List.Perm.eq_of_pairwise (le := fun x y : S71 => x.f0 ≤ y.f0) (fun a b ha hb h1 h2 => ?_) hs (hm.imp (fun h => of_decide_eq_true h)) (hp.trans hmp.symm)
  have ha' := hp.subset ha
  have hb' := hmp.subset hb
  by_cases e : a = b
  · exact e
  · exfalso
    have : a.f0 ≠ b.f0 := by
      have hsym : ∀ {x y : S71}, x.f0 ≠ y.f0 → y.f0 ≠ x.f0 := fun h => fun h' => h h'.symm
      obtain ⟨i, hi, rfl⟩ := List.mem_iff_getElem.1 ha'
      obtain ⟨j, hj, rfl⟩ := List.mem_iff_getElem.1 hb'
      rcases Nat.lt_trichotomy i j with h | h | h
      · exact (List.pairwise_iff_getElem.1 hd) i j hi hj h
      · subst h; exact absurd rfl e
      · exact hsym ((List.pairwise_iff_getElem.1 hd) j i hj hi h)
    omega
end
end Go.Proofs.Ytbmldeikjfecfaa.Hd
