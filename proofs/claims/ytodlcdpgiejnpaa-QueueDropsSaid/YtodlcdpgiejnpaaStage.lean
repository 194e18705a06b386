/- The law of dropping: the drop itself. -/
import Derived.Test.YtodlcdpgiejnpaaTwo
namespace Go.Proofs.Ytodlcdpgiejnpaa
set_option linter.unusedVariables false
set_option linter.unusedSimpArgs false
open Go.RowKit Hp QI

theorem drop_stage {w v : World} {L1 ga gb gc tc tt : Nat} {ba bb bc : Option Nat} {j kb : Nat} {th : Int} {Sa Sb : List (It Int)} (hT : Two w v L1 ga gb ba bb j kb Sa Sb) (hc : QIn w v gc bc 65536 j Sa)
    (htb : v.heap[w.heap.size]? = some (.cells #[.int .i64 th] 3 (0, 0))) (htc : v.heap[tc]? = some (.cells #[.pointer (some ⟨gc, 0, none⟩)] 37 (0, 0))) (htt : v.heap[tt]? = some (.cells #[.bool true] 4 (0, 0)))
    (hl1 : Sa.length = j) (hl2 : (Sa.filter fun y => decide (th ≤ y.x)).length = kb) (o1 : w.heap.size < ga) (o2 : w.heap.size < gb) (o3 : ga < gc) (o4 : gb < gc) (o5 : gc < tc) (o6 : tc < tt)
    (hbc : ∀ x, bc = some x → tc < x ∧ x < tt) (hbb : ∀ x, bb = some x → x < gc) (hL : L1 ≤ v.heap.size) :
    Calls Try.prog 17 #[.pointer (some ⟨ga, 0, none⟩), .func (.func 18) #[] #[.pointer (some ⟨tc, 0, none⟩), .pointer (some ⟨tt, 0, none⟩), .pointer (some ⟨w.heap.size, 0, none⟩)]] v fun e w6 =>
      e = .returned (.int .i64 ((j : Int) - (kb : Int))) ∧ ∃ ba', QAt w6 gc bc 65536 j [] ∧ Two w w6 L1 ga gb ba' bb j kb (Sa.filter fun y => decide (th ≤ y.x)) Sb ∧
        w6.heap[tc]? = some (.cells #[.pointer (some ⟨gc, 0, none⟩)] 37 (0, 0)) ∧ w6.heap[tt]? = some (.cells #[.bool true] 4 (0, 0)) := by
  have vtt := blk_lt htt
  have hga := hT.ga_
  have hlb := hT.lb
  have hab := hT.gab
  have hvs := hT.a.bel.size
  have k1 : gc < v.heap.size ∧ tc < v.heap.size ∧ tt < v.heap.size ∧ w.heap.size < v.heap.size ∧ gb < v.heap.size ∧ ga < v.heap.size := by omega
  have k2 : ∀ x, bc = some x → x < v.heap.size := fun x hx => by have := hbc x hx; omega
  have k3 : ∀ x, bb = some x → x < v.heap.size := fun x hx => by have := hbb x hx; omega
  have k4 : w.heap.size ≤ gc ∧ w.heap.size ≤ tt ∧ w.heap.size ≤ ga := by omega
  have k5 : ∀ x, bc = some x → w.heap.size ≤ x := fun x hx => by have := hbc x hx; omega
  have m1 : tc ≠ gc ∧ some tc ≠ bc := ⟨by omega, fun e => by have := hbc _ e.symm; omega⟩
  have m2 : tt ≠ gc ∧ some tt ≠ bc := ⟨by omega, fun e => by have := hbc _ e.symm; omega⟩
  have m3 : w.heap.size ≠ gc ∧ some w.heap.size ≠ bc := ⟨by omega, fun e => by have := hbc _ e.symm; omega⟩
  have m4 : w.heap.size ≠ tt ∧ tc ≠ tt := by omega
  have m5 : gb ≠ gc ∧ some gb ≠ bc ∧ gb ≠ tt := ⟨by omega, fun e => by have := hbc _ e.symm; omega, by omega⟩
  have m6 : ∀ x, bb = some x → x ≠ gc ∧ some x ≠ bc ∧ x ≠ tt := fun x hx => ⟨by have := hbb x hx; omega, fun e => by have := hbb x hx; have := hbc _ e.symm; omega, by have := hbb x hx; omega⟩
  have m7 : ga ≠ gc ∧ some ga ≠ bc ∧ ga ≠ tt := ⟨by omega, fun e => by have := hbc _ e.symm; omega, by omega⟩
  have m8 : ga ≠ tc ∧ ga ≠ w.heap.size ∧ ga ≠ gb := ⟨by omega, by omega, hab⟩
  have m9 : ∀ x, bb = some x → x ≠ ga := fun x hx => by have := hlb x hx; omega
  have mx : ∀ x, bc = some x → x ≠ ga ∧ x ≠ tt := fun x hx => by have := hbc x hx; omega
  have hke := keeps (w := w) (v := v) (gc := gc) (tc := tc) (tt := tt) (tb := w.heap.size) (gb := gb) (ga := ga) (bc := bc) (bb := bb) (th := th) (nc := j) (nb := kb) (Sa := Sa) (Sb := Sb) hvs k1 k2 k3 k4 k5 m1 m2 m3 m4 m5 m6 m7 m8 m9 mx
  have hI0 : DInv w gc tc tt w.heap.size gb bc bb th j kb Sa Sb 0 v := ⟨hc.q, hT.b.q, htc, htt, htb, hT.a.bel⟩
  refine (drop_calls hT.a.q hke hI0).mono ?_
  rintro e w6 ⟨he, ba', hQa, hI6, hs6, hba⟩
  rw [hl1, hl2] at he
  have hdn : Sa.drop Sa.length = [] := List.drop_eq_nil_of_le (Nat.le_refl _)
  have hc6 := hI6.c
  rw [hdn] at hc6
  refine ⟨he, ba', hc6, ⟨⟨hQa, hT.a.g_, fun x hx => ?_, hI6.bel⟩, ⟨hI6.b, hT.b.g_, hT.b.b_, hI6.bel⟩, fun x hx => ?_, hlb, fun x hx e2 => ?_, hab, hga, hT.gb_⟩, hI6.tc_, hI6.tt_⟩
  · rcases hba with e | ⟨q, e, hq⟩
    · exact hT.a.b_ x (e ▸ hx)
    · rw [e] at hx; injection hx with hx; omega
  · rcases hba with e | ⟨q, e, hq⟩
    · exact hT.la x (e ▸ hx)
    · rw [e] at hx; injection hx with hx; omega
  · rcases hba with e | ⟨q, e, hq⟩
    · exact hT.ne x (e ▸ hx) e2
    · rw [e] at hx; injection hx with hx; have := k3 x e2; omega

/-- the variable 'ordered' is made; a call that leaves the rest -/
theorem stage1 {w wp : World} {L1 ga gb gc tc tt : Nat} {ba bb bc : Option Nat} {j kb : Int} {nc th : Int} {Sa Sb Sc : List (It Int)} (hQc : QIn w wp gc bc 65536 nc Sc) (hT : Two w wp L1 ga gb ba bb j kb Sa Sb) {tb : Nat} (hTB : wp.heap[tb]? = some (.cells #[.int .i64 th] 3 (0, 0)))
    (hTC : wp.heap[tc]? = some (.cells #[.pointer (some ⟨gc, 0, none⟩)] 37 (0, 0))) (htt : tt = wp.heap.size) : ∀ v, Below (wp.alloc (.cells #[.bool true] 4)).heap.size (wp.alloc (.cells #[.bool true] 4)) v →
    Two w v L1 ga gb ba bb j kb Sa Sb ∧ QIn w v gc bc 65536 nc Sc ∧ v.heap[tb]? = some (.cells #[.int .i64 th] 3 (0, 0)) ∧ v.heap[tc]? = some (.cells #[.pointer (some ⟨gc, 0, none⟩)] 37 (0, 0)) ∧
      v.heap[tt]? = some (.cells #[.bool true] 4 (0, 0)) ∧ wp.heap.size ≤ v.heap.size := by
  intro v hB
  have h1 := blk_alloc hTB (.cells #[.bool true] 4)
  have h2 := blk_alloc hTC (.cells #[.bool true] 4)
  have h3 := heap_alloc_new wp (.cells #[.bool true] 4)
  have hs := hB.size
  simp at hs
  exact ⟨(hT.alloc _).next hB, (hQc.alloc _).next hB, blk_below h1 hB (blk_lt h1), blk_below h2 hB (blk_lt h2), by rw [htt]; exact blk_below h3 hB (blk_lt h3), by omega⟩
end Go.Proofs.Ytodlcdpgiejnpaa
