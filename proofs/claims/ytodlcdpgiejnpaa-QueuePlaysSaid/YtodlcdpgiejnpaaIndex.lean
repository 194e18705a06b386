/- slices.IndexFunc with a test of the things. -/
import Derived.Test.YtodlcdpgiejnpaaDel
namespace Go.Proofs.Ytodlcdpgiejnpaa.QI
set_option linter.unusedVariables false
set_option linter.unusedSimpArgs false
open Go.RowKit Hp

section
variable {w : World} {g m : Nat} {caps : Array Value} {S : List (It Int)} {p : It Int → Bool} {Inv : Nat → World → Prop}
set_option maxRecDepth 100000 in
set_option maxHeartbeats 1600000 in
theorem index_calls (hK : Keeps w g m caps S p Inv) (bt b cap : Nat) (W : World) (hb : w.heap.size ≤ b) (hr : ro W b S cap) (hI : Inv 0 W) (hs : w.heap.size ≤ W.heap.size) (ht : w.heap.size ≤ bt) (hbt : W.heap[bt]? = some (boxF (.func (.func m) #[] caps))) (hlen : S.length ≤ 65536) :
    Calls Try.prog 39 #[.slice (some ⟨b, 0, none⟩) S.length cap, .func (.func 34) #[] #[.pointer (some ⟨bt, 0, none⟩)]] W fun e W' =>
      ∃ (k : Nat), (∀ j y, j < k → S[j]? = some y → p y = true) ∧ ((k = S.length ∧ e = .returned (.int .i64 (-1)) ∧ Inv k W') ∨ (∃ y, S[k]? = some y ∧ p y = false ∧ e = .returned (.int .i64 k) ∧ Inv (k + 1) W')) ∧ Since w W W' g := by
  obtain ⟨n, hn⟩ : ∃ n, n = S.length := ⟨_, rfl⟩
  rw [← hn] at hlen ⊢
  have HN := Lib.hid hn
  have HK := Lib.hid hK
  have HR := Lib.hid hr
  have HI := Lib.hid hI
  have HBT := Lib.hid hbt
  have hbl := hr.lt
  have htl := blk_lt hbt
  clear hn hr hI hbt hK
  go_enter Try.func39, Try.ntmps39
  go_wp2_with fail
  go_loopw [8] (fun i wr => ∃ k : Nat, k ≤ n ∧ i = .int .i64 k ∧ (∀ j y, j < k → S[j]? = some y → p y = true) ∧ Inv k wr ∧ Since w W wr g) (fun i _ => n - (intOf i).toNat)
  case atStart => exact ⟨0, Nat.zero_le _, rfl, fun j y hj => absurd hj (by omega), HI.out, Since.refl _ _ _⟩
  case round =>
    rename World => wo
    obtain ⟨k, hk, rfl, hall, hI, hS⟩ := hrel
    have hso : w.heap.size ≤ wo.heap.size := Nat.le_trans hs hS.size
    by_cases hlt : k < n
    · obtain ⟨y, hy⟩ : ∃ y, S[k]? = some y := ⟨_, List.getElem?_eq_getElem (by have := HN.out; omega)⟩
      have hrw : ro wo b S cap := HR.out.kept (hS.new b hb hbl)
      have hyr := range5 (hrw.range k y hy)
      have HC := Lib.hid (del_calls HK.out bt k y wo hy hI hso ((hS.new bt ht htl).trans HBT.out))
      have HA := Lib.hid hall
      have HS := Lib.hid hS
      have HY := Lib.hid hy
      obtain ⟨yt, yr, yn, yk, yx⟩ := y
      simp only [en, enc] at HC hyr
      have i1 : (0 : Int) ≤ (k : Int) := by omega
      have i2 : (k : Int) < (n : Int) := by omega
      clear hall hI hS hy hrw
      cases hp : p ⟨yt, yr, yn, yk, yx⟩
      · rw [hp] at HC
        have HP := Lib.hid hp
        clear hp
        go_wp2_with fail
        refine HC.out.mono ?_
        rintro e w1 ⟨rfl, hI1, hS1⟩
        have HI1 := Lib.hid hI1
        have HS1 := Lib.hid (HS.out.trans hS1)
        clear hI1 hS1 hyr
        go_wp2
        go_ret
        exact ⟨k, HA.out, .inr ⟨_, HY.out, HP.out, rfl, HI1.out⟩, HS1.out⟩
      · rw [hp] at HC
        have HP := Lib.hid hp
        clear hp
        go_wp2_with fail
        refine HC.out.mono ?_
        rintro e w1 ⟨rfl, hI1, hS1⟩
        have HI1 := Lib.hid hI1
        have HS1 := Lib.hid (HS.out.trans hS1)
        clear hI1 hS1 hyr
        go_wp2
        refine ⟨⟨k + 1, by omega, by go_num, fun j y hj hy => ?_, HI1.out, HS1.out⟩, by simp [intOf]; omega⟩
        by_cases hjk : j = k
        · subst hjk
          have := HY.out.symm.trans hy
          injection this with this
          exact this ▸ HP.out
        · exact HA.out j y (by omega) hy
    · obtain rfl : k = n := by omega
      have HA := Lib.hid hall
      have HI1 := Lib.hid hI
      have HS1 := Lib.hid hS
      clear hall hI hS
      go_wp2
      go_ret
      exact ⟨k, HA.out, .inl ⟨rfl, rfl, HI1.out⟩, HS1.out⟩
end
end Go.Proofs.Ytodlcdpgiejnpaa.QI
