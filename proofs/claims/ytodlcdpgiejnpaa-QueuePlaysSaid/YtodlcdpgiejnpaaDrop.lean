/- What is dropped. -/
import Derived.Test.YtodlcdpgiejnpaaDelW
namespace Go.Proofs.Ytodlcdpgiejnpaa.QI
set_option linter.unusedVariables false
set_option linter.unusedSimpArgs false
open Go.RowKit Hp

set_option maxRecDepth 100000 in
set_option maxHeartbeats 1600000 in
theorem insertion_none (fv : Value) (w : World) : Calls Try.prog 40 #[.slice none 0 0, .int .i64 0, .int .i64 0, fv] w fun e w' => e = .returned (.tuple #[]) ∧ w' = w := by
  go_enter Try.func40, Try.ntmps40
  go_wp2
  refine wp_loop_rounds 1 ?_
  rw [rounds_succ]
  go_wp2
  go_end0
  exact ⟨rfl, rfl⟩
set_option maxRecDepth 100000 in
set_option maxHeartbeats 1600000 in
theorem pdq_none (lim : Int) (fv : Value) (w : World) : Calls Try.prog 37 #[.slice none 0 0, .int .i64 0, .int .i64 0, .int .i64 lim, fv] w fun e w' => e = .returned (.tuple #[]) ∧ w' = w := by
  go_enter Try.func37, Try.ntmps37
  go_wp2_with fail
  refine wp_loop_rounds 1 ?_
  rw [rounds_succ]
  go_wp2_with fail
  refine (insertion_none _ _).mono ?_
  rintro e w' ⟨rfl, rfl⟩
  go_wp2
  refine bodyPost_ret (results_none rfl _ _ _) rfl ?_
  exact ⟨rfl, rfl⟩
set_option maxRecDepth 100000 in
set_option maxHeartbeats 1600000 in
theorem sort_none (fv : Value) (w : World) : Calls Try.prog 31 #[.slice none 0 0, fv] w fun e w' => e = .returned (.tuple #[]) ∧ w' = w := by
  have hl : ∀ W, Calls Try.prog 38 #[.int .u64 0] W fun e w' => e = .returned (.int .i64 (Lib.bitLen 0 : Nat)) ∧ w' = W := fun W => by
    have h := Any.bits_Len (SlLaysF0.n15.bits (P := Try.prog) (ρ := Try.sortQ_ren) { Try.sortQ with }) 0 W (by omega) (by omega)
    exact h
  go_enter Try.func31, Try.ntmps31
  go_wp2_with fail
  refine (hl _).mono ?_
  rintro e w' ⟨rfl, rfl⟩
  go_wp2_with fail
  refine (pdq_none _ _ _).mono ?_
  rintro e w' ⟨rfl, rfl⟩
  go_wp2
  go_end0
  exact ⟨rfl, rfl⟩
set_option maxRecDepth 100000 in
set_option maxHeartbeats 1600000 in
theorem index_none (fv : Value) (w : World) : Calls Try.prog 39 #[.slice none 0 0, fv] w fun e w' => e = .returned (.int .i64 (-1)) ∧ w' = w := by
  go_enter Try.func39, Try.ntmps39
  go_wp2
  refine wp_loop_rounds 1 ?_
  rw [rounds_succ]
  go_wp2
  go_ret
  exact ⟨rfl, rfl⟩
set_option maxRecDepth 100000 in
set_option maxHeartbeats 1600000 in
theorem delete_none (fv : Value) (w : World) : Calls Try.prog 33 #[.slice none 0 0, fv] w fun e w' => e = .returned (.slice none 0 0) ∧ w' = w := by
  go_enter Try.func33, Try.ntmps33
  go_wp2_with fail
  refine (index_none _ _).mono ?_
  rintro e w' ⟨rfl, rfl⟩
  go_wp2
  go_ret
  exact ⟨rfl, rfl⟩

theorem neNil (m : Nat) (caps : Array Value) : ∀ W : World, (binOp .eql 47 (.func (.func m) #[] caps) .nilFunc).run Try.prog W = .ok (.bool false) W := fun _ => by kernel_rfl
theorem sorted_heap {S : List (It Int)} (h : Sorted S) : IsHeap S := by
  intro j hj a b ha hb
  obtain ⟨h1, e1⟩ := List.getElem?_eq_some_iff.1 ha
  obtain ⟨h2, e2⟩ := List.getElem?_eq_some_iff.1 hb
  have := List.pairwise_iff_getElem.1 h ((j - 1) / 2) j h2 h1 (by omega)
  rw [e1, e2] at this
  exact fore_asymm this
theorem sorted_filter {S : List (It Int)} (h : Sorted S) (p : It Int → Bool) : Sorted (S.filter p) := List.Pairwise.filter p h

section
variable {w : World} {g m : Nat} {caps : Array Value} {S : List (It Int)} {p : It Int → Bool} {Inv : Nat → World → Prop}
set_option maxRecDepth 100000 in
set_option maxHeartbeats 3200000 in
theorem drop_calls {bo : Option Nat} {most num : Int} (h : QAt w g bo most num S) (hK : Keeps w g m caps S p Inv) (hI : Inv 0 w) :
    Calls Try.prog 17 #[.pointer (some ⟨g, 0, none⟩), .func (.func m) #[] caps] w fun e W =>
      e = .returned (.int .i64 ((S.length : Int) - ((S.filter p).length : Int))) ∧ ∃ bo', QAt W g bo' most num (S.filter p) ∧ Inv S.length W ∧ w.heap.size ≤ W.heap.size ∧ (bo' = bo ∨ ∃ k, bo' = some k ∧ w.heap.size ≤ k) := by
  obtain ⟨⟨L, ⟨cap, hq, hb1, hb2⟩, hp, hh⟩, hs, hl, hm, hk, h0⟩ := h
  have hI1 := hK.keep 0 w _ hI (Far.alloc w w g (Nat.le_refl _) (boxF (.func (.func m) #[] caps)))
  have hgl := hK.gs
  have hL := hp.length_eq
  have hne := neNil m caps
  cases bo with
  | none =>
    obtain ⟨rfl, rfl⟩ := hb1 rfl
    obtain rfl : S = [] := by simpa using hp.symm
    simp only [sl, Option.map_none, List.length_nil] at hq
    have hq1 := blk_alloc hq (boxF (.func (.func m) #[] caps))
    have c2 := blk_cell hq1 2
    have f2 := blk_frozen hq1 2
    have HQ1 := Lib.hid hq1
    have HI1 := Lib.hid hI1
    have HK := Lib.hid hK
    have HQ0 := Lib.hid hq
    have HI0 := Lib.hid hI
    have d2 := blk_cell hq 2
    have e2 := blk_frozen hq 2
    clear hq hb1 hb2 hp hh hs hk hI hI1 hK hq1 hL
    go_enter Try.func17, Try.ntmps17
    go_wp2_with fail
    refine (clone_nil _).mono ?_
    rintro e w2 ⟨rfl, rfl⟩
    go_wp2_with fail
    refine (sort_none _ _).mono ?_
    rintro e w2 ⟨rfl, rfl⟩
    go_wp2_with fail
    refine (delete_none _ _).mono ?_
    rintro e w2 ⟨rfl, rfl⟩
    go_wp2
    go_ret
    have hset := blk_set HQ0.out 2 (.slice none 0 0)
    refine ⟨by simp, none, ⟨⟨[], ⟨0, blk_alloc hset _, fun _ => ⟨rfl, rfl⟩, fun b hb => by cases hb⟩, .refl _, heap_nil⟩, sorted_nil, hl, hm, fun x hx => by simp at hx, h0⟩, HK.out.keep 0 w _ HI0.out ⟨rfl, rfl, rfl, by simp [World.setCell], fun j hj hjg => (heap_alloc_old _ _ (by simpa [World.setCell] using hj)).trans (Below.heap_setCell w _ _ j hjg)⟩, by simp [World.setCell], .inl rfl⟩
  | some b =>
    obtain ⟨hbg, hr⟩ := hb2 b rfl
    simp only [sl, Option.map_some] at hq
    obtain ⟨n, hn⟩ : ∃ n, n = L.length := ⟨_, rfl⟩
    have hq1 := blk_alloc hq (boxF (.func (.func m) #[] caps))
    have hr1 : ro (w.alloc (boxF (.func (.func m) #[] caps))) b L cap := hr.kept (heap_alloc_old w _ hr.lt)
    have c2 := blk_cell hq1 2
    have hlen : L.length ≤ 65536 := by omega
    have HC := Lib.hid (clone_calls b cap L _ hr1 hlen)
    rw [← hn] at c2 HC
    have hbx := heap_alloc_new w (boxF (.func (.func m) #[] caps))
    have HBX := Lib.hid hbx
    have HQ1 := Lib.hid hq1
    have HI1 := Lib.hid hI1
    have HK := Lib.hid hK
    have HP := Lib.hid hp
    have HS := Lib.hid hs
    have HN := Lib.hid hn
    have HL := Lib.hid hL
    have HKN := Lib.hid hk
    have d2 := blk_cell hq 2
    rw [← hn] at d2
    clear hq hb1 hb2 hp hh hs hk hI hI1 hK hq1 hL hr hr1 hbx hn hlen
    go_enter Try.func17, Try.ntmps17
    go_wp2_with fail
    refine HC.out.mono ?_
    rintro e w2 ⟨b', cap', rfl, hr2, hb', hB2⟩
    have hb2 : w.heap.size < b' := by simp at hb'; omega
    have hs2 : w.heap.size < w2.heap.size := by have := hB2.size; simp at this; omega
    have hbx2 := blk_below HBX.out hB2 (by simp)
    have hq2 := blk_below HQ1.out hB2 (blk_lt HQ1.out)
    have HI2 := Lib.hid (HK.out.keep 0 _ w2 HI1.out (Far.of_below (by simp) hB2))
    have HC2 := Lib.hid (sort_calls b' cap' L w2 hr2 (by have := HL.out; omega))
    rw [← HN.out] at HC2
    have HBX2 := Lib.hid hbx2
    have HQ2 := Lib.hid hq2
    have hb2l := hr2.lt
    clear hr2 hb' hB2 hbx2 hq2 HC c2 d2
    go_wp2_with fail
    refine HC2.out.mono ?_
    rintro e w3 ⟨rfl, S', hp', hs', hr3, hG3⟩
    have hS' : S' = S := sorted_eq (hp'.trans HP.out) hs' HS.out
    subst hS'
    have hs3 : w.heap.size < w3.heap.size := by have := hG3.size; omega
    have hbx3 : w3.heap[w.heap.size]? = some (boxF (.func (.func m) #[] caps)) := (hG3.block _ hs2 (by simp; omega)).trans HBX2.out
    have hq3 := (hG3.block g (by omega) (by simp; omega)).trans HQ2.out
    have hI3 := HK.out.keep 0 w2 w3 HI2.out (Far.of_grown (by omega) (by omega) hG3)
    have HD := Lib.hid (delete_calls HK.out w.heap.size b' cap' w3 (by omega) hr3 hI3 (by omega) (Nat.le_refl _) (by omega) hbx3 (by have := HL.out; omega))
    rw [← HL.out, ← HN.out] at HD
    have HQ3 := Lib.hid hq3
    have hb3l := hr3.lt
    clear hr3 hbx3 hq3 hI3 hG3 hp' hs' HC2
    go_wp2_with fail
    refine HD.out.mono ?_
    rintro e w4 ⟨rfl, hr4, hI4, hS4⟩
    have hq4 := hS4.at_.trans HQ3.out
    have e2 := blk_cell hq4 2
    have f2 := blk_frozen hq4 2
    rw [← HN.out] at e2
    have HR4 := Lib.hid hr4
    have HI4 := Lib.hid hI4
    have HS4 := Lib.hid hS4
    have HQ4 := Lib.hid hq4
    have hfl : (S'.filter p).length ≤ S'.length := List.length_filter_le p S'
    obtain ⟨q, hqq⟩ : ∃ q, q = (S'.filter p).length := ⟨_, rfl⟩
    have HQQ := Lib.hid hqq
    have hnq : q ≤ n := by have := HL.out; have := HN.out; omega
    have hn6 : n ≤ 65536 := by have := HL.out; have := HN.out; omega
    rw [← hqq]
    clear hr4 hI4 hS4 hq4 HD hqq hfl
    go_wp2
    go_ret
    have hset := blk_set HQ4.out 2 (.slice (some ⟨b', 0, none⟩) q cap')
    have hnS : (n : Int) = (S'.length : Int) := by have := HL.out; have := HN.out; omega
    have hnS' : n = S'.length := by omega
    have hs4 := HS4.out.size
    refine ⟨?_, some b', ⟨⟨S'.filter p, ⟨cap', ?_, (fun e => by cases e), fun x hx => ?_⟩, .refl _, sorted_heap (sorted_filter HS.out p)⟩, sorted_filter HS.out p, ?_, hm, fun x hx => HKN.out x (List.mem_filter.1 hx).1, h0⟩, ?_, ?_, .inr ⟨b', rfl, by omega⟩⟩
    · rw [← HQQ.out, ← hnS]; rfl
    · rw [← HQQ.out]; exact hset
    · injection hx with hx; subst hx
      exact ⟨by omega, HR4.out.kept (Below.heap_setCell w4 _ _ b' (by show b' ≠ g; omega))⟩
    · rw [← HQQ.out]; omega
    · rw [← hnS']
      exact HK.out.keep n w4 _ HI4.out ⟨rfl, rfl, rfl, by simp [World.setCell], fun j hj hjg => Below.heap_setCell w4 _ _ j hjg⟩
    · simp [World.setCell]; omega
end
end Go.Proofs.Ytodlcdpgiejnpaa.QI
