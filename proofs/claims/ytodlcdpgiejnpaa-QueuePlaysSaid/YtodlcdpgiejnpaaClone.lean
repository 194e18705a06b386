/- A copy of a queue's row (slices.Clone). -/
import Derived.Test.YtodlcdpgiejnpaaSortQ
namespace Go.Proofs.Ytodlcdpgiejnpaa.QI
set_option linter.unusedVariables false
set_option linter.unusedSimpArgs false
open Go.RowKit Hp

theorem eqNil : ∀ (w : World) (a : Option Addr) (n c n' c' : Nat), (binOp .eql 57 (.slice a n c) (.slice none n' c')).run Try.prog w = .ok (.bool a.isNone) w := fun w a n c n' c' => Lib.run_eql_slice_nil w _ _ a n c n' c' Try.underlying57
theorem sorted_eq : ∀ {S T : List (It Int)}, S.Perm T → S.Pairwise (fun x y => fore y x = false) → Sorted T → S = T
  | [], T, hp, _, _ => by simpa using hp.symm
  | s :: S, [], hp, _, _ => by simp at hp
  | s :: S, t :: T, hp, hs, ht => by
    have hs' := List.pairwise_cons.1 hs
    have ht' := List.pairwise_cons.1 ht
    have e : s = t := by
      rcases List.mem_cons.1 (hp.mem_iff.1 (List.mem_cons_self (a := s) (l := S))) with h | h
      · exact h
      · have h1 := ht'.1 s h
        rcases List.mem_cons.1 (hp.mem_iff.2 (List.mem_cons_self (a := t) (l := T))) with h2 | h2
        · exact h2.symm
        · have := hs'.1 t h2
          rw [h1] at this; cases this
    subst e
    rw [sorted_eq hp.cons_inv hs'.2 ht'.2]

set_option maxRecDepth 100000 in
theorem clone_nil (w : World) : Calls Try.prog 30 #[.slice none 0 0] w fun e w' => e = .returned (.slice none 0 0) ∧ w' = w := by
  have hqn := eqNil
  go_enter Try.func30, Try.ntmps30
  go_wp2
  go_ret
  exact ⟨rfl, rfl⟩

set_option maxRecDepth 100000 in
set_option maxHeartbeats 1600000 in
theorem clone_calls (b cap : Nat) (L : List (It Int)) (w : World) (hr : ro w b L cap) (hlen : L.length ≤ 65536) :
    Calls Try.prog 30 #[.slice (some ⟨b, 0, none⟩) L.length cap] w fun e w' => ∃ b' cap', e = .returned (.slice (some ⟨b', 0, none⟩) L.length cap') ∧ ro w' b' L cap' ∧ w.heap.size ≤ b' ∧ Below w.heap.size w w' := by
  obtain ⟨n, hn⟩ : ∃ n, n = L.length := ⟨_, rfl⟩
  have hnews : ∀ j u, (L.flatMap en)[j]? = some u → w.cell? ((⟨b, 0, none⟩ : Addr).add j) = some u := by
    intro j u hu
    have hj := (List.getElem?_eq_some_iff.1 hu).1
    rw [flat_len] at hj
    have h5 : j = j / 5 * 5 + j % 5 := by omega
    rw [h5] at hu
    rw [flat_get _ _ _ _ (by omega), List.getElem?_eq_getElem (by omega)] at hu
    simp only [Option.bind_some] at hu
    rw [Addr.add_mid, h5, show 0 + (j / 5 * 5 + j % 5) = j / 5 * 5 + j % 5 by omega]
    exact hr.range (j / 5) _ (List.getElem?_eq_getElem (by omega)) (j % 5) u hu
  have h1 : ∀ u ∈ L.flatMap en, u.oneCell' = true := by
    intro u hu
    obtain ⟨x, _, hx⟩ := List.mem_flatMap.1 hu
    simp [en, enc] at hx
    rcases hx with rfl | rfl | rfl | rfl | rfl <;> rfl
  have hfl := flat_len (Value.int .i64) L
  rw [← hn] at hfl hlen ⊢
  have HNW := Lib.hid hnews
  have H1 := Lib.hid h1
  have HFL := Lib.hid hfl
  have HN := Lib.hid hn
  have hb := hr.lt
  obtain ⟨i0, hi0, hz0, hz1, hz2⟩ := info_parts itemInfo
  have HI0 := Lib.hid (And.intro hi0 (And.intro hz0 (And.intro hz1 hz2)))
  clear hnews h1 hfl hn hr hi0 hz0 hz1 hz2
  have hqn := eqNil
  go_enter Try.func30, Try.ntmps30
  go_wp2_with (at_builtin; refine wpList_append_own _ rfl _ _ 57 rfl w.heap.size 61 i0 _ 5 40 Try.underlying57 HI0.out.1 HI0.out.2.1 HI0.out.2.2.1 HI0.out.2.2.2 rfl (by omega) _ 0 [] rfl (World.ownsRow_made w #[] 0 (Nat.le_refl _) (Nat.zero_le _) rfl) ⟨b, 0, none⟩ n cap (L.flatMap en) rfl HFL.out (fun j u hu => cellk ((Below.refl w.heap.size w).alloc (Nat.le_refl _) _) (HNW.out j u hu)) H1.out (by simp [maxLen]; omega) (by omega) (by simp) ?_; intro v' w1 hown hgrow hnil)
  go_ret
  simp only [Nat.zero_add, List.nil_append] at hown
  have hg2 : Below w.heap.size w w1 := by
    have hg := hgrow.size
    simp at hg
    exact ⟨hgrow.os, hgrow.tape, hgrow.output, by omega, fun k hk => (hgrow.block k (by simp; omega) (by simp [Act.eval, Value.ownBlock]; omega)).trans (heap_alloc_old w _ hk)⟩
  obtain ⟨hl, ⟨hv, h0⟩ | ⟨b', cap', cur, rfl, hbb, r⟩⟩ := hown
  · have := hnil.1 hv
    simp [Act.eval] at this
  · have hrow := owns_row (f := Value.int .i64) (L := L) (base := w.heap.size) (w := w1) (ty := 61) (g := b') (cap := cap') (n := n) ⟨hl, .inr ⟨b', cap', cur, rfl, hbb, r⟩⟩ HN.out
    exact ⟨b', cap', rfl, hrow.1, hbb, hg2⟩
end Go.Proofs.Ytodlcdpgiejnpaa.QI
