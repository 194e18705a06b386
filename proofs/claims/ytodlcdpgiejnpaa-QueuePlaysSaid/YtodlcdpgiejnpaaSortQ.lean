/- The sort of things by their order (slices.SortFunc with the queue's own test). -/
import Derived.Test.YtodlcdpgiejnpaaAbsI
import Derived.Test.YtodlcdpgiejnpaaShelf
namespace Go.Proofs.Ytodlcdpgiejnpaa.QI
set_option linter.unusedVariables false
set_option linter.unusedSimpArgs false
open Go.RowKit Hp
open Go.Sort (HoldsK flatK size_flatK get_flatK)

set_option maxHeartbeats 800000 in
theorem aheadX_calls (a b : It X) (w : World) :
    Calls Try.prog 28 #[.agg (en a).toArray, .agg (en b).toArray] w fun e w' => e = .returned (.bool (fore a b)) ∧ w' = (w.alloc (.cells (en a).toArray 61)).alloc (.cells (en b).toArray 61) := by
  obtain ⟨at', ar, an, ak, ax⟩ := a
  obtain ⟨bt, br, bn, bk, bx⟩ := b
  simp only [en, enc]
  have HA : fore (⟨at', ar, an, ak, ax⟩ : It X) ⟨bt, br, bn, bk, bx⟩ = if at' != bt then decide (at' < bt) else if ar != br then decide (ar < br) else if an != bn then decide (an < bn) else decide (ak < bk) := rfl
  rw [HA]
  clear HA
  by_cases h1 : at' = bt
  · have e1 : (at' != bt) = false := by simp [h1]
    have e1' : (at' == bt) = true := by simp [h1]
    by_cases h2 : ar = br
    · have e2 : (ar != br) = false := by simp [h2]
      have e2' : (ar == br) = true := by simp [h2]
      by_cases h3 : an = bn
      · have e3 : (an != bn) = false := by simp [h3]
        have e3' : (an == bn) = true := by simp [h3]
        clear h1 h2 h3
        go_enter Try.func28, Try.ntmps28
        go_wp2
        go_ret
        exact ⟨by simp [e1, e2, e3], rfl⟩
      · have e3 : (an != bn) = true := by simp [h3]
        have e3' : (an == bn) = false := by simp [h3]
        clear h1 h2 h3
        go_enter Try.func28, Try.ntmps28
        go_wp2
        go_ret
        exact ⟨by simp [e1, e2, e3], rfl⟩
    · have e2 : (ar != br) = true := by simp [h2]
      have e2' : (ar == br) = false := by simp [h2]
      clear h1 h2
      go_enter Try.func28, Try.ntmps28
      go_wp2
      go_ret
      exact ⟨by simp [e1, e2], rfl⟩
  · have e1 : (at' != bt) = true := by simp [h1]
    have e1' : (at' == bt) = false := by simp [h1]
    clear h1
    go_enter Try.func28, Try.ntmps28
    go_wp2
    go_ret
    exact ⟨by simp [e1], rfl⟩

instance : Inhabited (It Int) := ⟨⟨0, 0, 0, 0, 0⟩⟩
/-- what the test tells -/
def cf (x y : It Int) : Int := if fore x y then -1 else 1
theorem lt_cf (x y : It Int) : ltOf cf x y = fore x y := by
  unfold ltOf cf
  cases fore x y <;> simp
theorem swo : Go.Sort.SWO (ltOf cf) where
  irrefl x := by rw [lt_cf]; exact fore_irrefl x
  trans x y z h1 h2 := by rw [lt_cf] at *; exact fore_trans h1 h2
  ntrans x y z h1 h2 := by rw [lt_cf] at *; exact fore_ntrans h1 h2

set_option maxHeartbeats 1600000 in
theorem test_calls (x y : It Int) (w : World) : Calls Try.prog 32 #[.agg (en x).toArray, .agg (en y).toArray] w fun e w' => e = .returned (.int .i64 (cf x y)) ∧ ∃ q os', w' = Go.Sort.grow (w.drewN q) os' := by
  have HC := fun W => aheadX_calls x y W
  unfold cf
  obtain ⟨xt, xr, xn, xk, xx⟩ := x
  obtain ⟨yt, yr, yn, yk, yx⟩ := y
  simp only [en, enc] at HC ⊢
  have HC := Lib.hid HC
  cases hf : fore (⟨xt, xr, xn, xk, xx⟩ : It Int) ⟨yt, yr, yn, yk, yx⟩
  · have hff := Lib.hid hf
    clear hf
    go_enter Try.func32, Try.ntmps32
    go_wp2_with fail
    refine (HC.out _).mono ?_
    rintro e w1 ⟨rfl, rfl⟩
    rw [hff.out]
    go_wp2
    go_ret
    exact ⟨rfl, 0, _, by rw [Go.Sort.alloc_eq_grow, Go.Sort.alloc_eq_grow, Go.Sort.alloc_eq_grow, Go.Sort.alloc_eq_grow, Go.Sort.grow_grow, Go.Sort.grow_grow, Go.Sort.grow_grow]; rfl⟩
  · have hff := Lib.hid hf
    clear hf
    go_enter Try.func32, Try.ntmps32
    go_wp2_with fail
    refine (HC.out _).mono ?_
    rintro e w1 ⟨rfl, rfl⟩
    rw [hff.out]
    go_wp2
    go_ret
    exact ⟨rfl, 0, _, by rw [Go.Sort.alloc_eq_grow, Go.Sort.alloc_eq_grow, Go.Sort.alloc_eq_grow, Go.Sort.alloc_eq_grow, Go.Sort.grow_grow, Go.Sort.grow_grow, Go.Sort.grow_grow]; rfl⟩

theorem holds_of {w : World} {b cap : Nat} {L : List (It Int)} (h : ro w b L cap) : HoldsK en 5 w b 0 L.toArray := by
  intro j hj
  rw [size_flatK] at hj
  simp only [List.size_toArray] at hj
  obtain ⟨cur, h0, hs, hl, hm, hr⟩ := h
  refine ⟨?_, blk_frozen h0 _⟩
  rw [get_flatK _ _ _ _ (by simpa using hj), blk_cell h0]
  have hq : j / 5 < L.length := by omega
  have hx := List.getElem?_eq_getElem hq
  have e1 : (L.toArray)[j / 5]! = L[j / 5] := by simp [hq]
  rw [e1]
  have hi : j % 5 < (en L[j / 5]).length := by show j % 5 < 5; omega
  have := hr (j / 5) _ hx (j % 5) ((en L[j / 5])[j % 5]) (List.getElem?_eq_getElem hi)
  rw [show 0 + j = j / 5 * 5 + j % 5 by omega, this]
  simp [hi]

theorem put_get (f : Array Value) (c : Array Value) (p : Nat) (hp : p < f.size) (hc : p < c.size) : (Go.Sort.putCells id 0 f c)[p]? = some f[p]! := by
  unfold Go.Sort.putCells
  rw [Array.getElem?_mapIdx, Array.getElem?_eq_getElem hc]
  simp [hp]

theorem row_put {w : World} {b cap m : Nat} {L : List (It Int)} (h : ro w b L cap) (d : Array (It Int)) (hd : d.size = L.length) (os : Array Obj) :
    ro (sortWorldK en 5 w b 0 m d os) b d.toList cap ∧ w.grownBy (sortWorldK en 5 w b 0 m d os) (some b) := by
  obtain ⟨cur, h0, hs, hl, hm, hr⟩ := h
  have hb := blk_lt h0
  have hh : (sortWorldK en 5 w b 0 m d os).heap = (w.heap.modify b (Go.Sort.onCells (Go.Sort.putCells id 0 (flatK en 5 d)))) ++ os := rfl
  constructor
  · refine ⟨Go.Sort.putCells id 0 (flatK en 5 d) cur, ?_, by simp [Go.Sort.putCells, hs], by simpa [hd] using hl, hm, fun j x hx i v hv => ?_⟩
    · rw [hh, Array.getElem?_append_left (by simpa using hb), Array.getElem?_modify, if_pos rfl, h0]
      rfl
    · have hi : i < 5 := by have := (List.getElem?_eq_some_iff.1 hv).1; simpa [enc] using this
      have hj : j < d.size := by have := (List.getElem?_eq_some_iff.1 hx).1; simpa using this
      rw [put_get _ _ _ (by rw [size_flatK]; omega) (by omega), get_flatK _ _ _ _ (by omega), show (j * 5 + i) / 5 = j by omega, show (j * 5 + i) % 5 = i by omega]
      have e1 : d[j]! = x := by
        rw [Array.getElem?_toList, Array.getElem?_eq_getElem hj] at hx
        rw [getElem!_pos d j hj]
        exact Option.some.inj hx
      rw [e1]
      have := (List.getElem?_eq_some_iff.1 hv)
      obtain ⟨h1, h2⟩ := this
      rw [getElem!_pos (en x) i h1]
      exact congrArg some h2
  · refine ⟨rfl, rfl, rfl, by rw [hh]; simp, fun k hk hne => ?_⟩
    rw [hh, Array.getElem?_append_left (by simpa using hk), Array.getElem?_modify, if_neg (fun e => hne (by rw [e]))]

theorem sort_calls (b cap : Nat) (L : List (It Int)) (w : World) (hr : ro w b L cap) (hlen : L.length ≤ 65536) :
    Calls Try.prog 31 #[.slice (some ⟨b, 0, none⟩) L.length cap, .func (.func 32) #[] #[]] w fun e w' => e = .returned (.tuple #[]) ∧
      ∃ S : List (It Int), S.Perm L ∧ S.Pairwise (fun x y => fore y x = false) ∧ ro w' b S cap ∧ w.grownBy w' (some b) := by
  have eg : ∀ args w, (callFunc 32 args).run Try.prog w = .ok (.enter 32 args) w := enters_of Try.func32 (by kernel_rfl) rfl
  have h := AnyQ.slices_SortFunc Try.sortQ 5 Try.isAgg61 Try.sizeOf61 en (fun _ => rfl) (fun x v hv => by simp [en, enc] at hv; rcases hv with rfl | rfl | rfl | rfl | rfl <;> rfl) cf swo 32 #[] b 0 cap L.toArray w eg
    (fun _ _ _ _ x y => test_calls x y _) (holds_of hr) hr.lt (by simp; omega)
  refine h.mono ?_
  rintro e w' ⟨rfl, d', n, os, ⟨hs, _, hp⟩, hso, rfl⟩
  have hd : d'.size = L.length := by simpa using hs
  have hrow := row_put (m := n) hr d' hd os
  have e1 : (d'.extract 0 L.toArray.size).toList = d'.toList := by
    rw [show L.toArray.size = d'.size from hs.symm]; simp
  refine ⟨rfl, d'.toList, ?_, ?_, hrow.1, hrow.2⟩
  · rw [e1] at hp
    simpa using hp
  · rw [List.pairwise_iff_getElem]
    intro i j hi hj hij
    have := hso i j (Nat.zero_le _) hij (by simpa [hd] using hj)
    rw [lt_cf] at this
    simp only [Array.length_toList] at hi hj
    rw [getElem!_pos d' i hi, getElem!_pos d' j hj] at this
    simpa using this
end Go.Proofs.Ytodlcdpgiejnpaa.QI
