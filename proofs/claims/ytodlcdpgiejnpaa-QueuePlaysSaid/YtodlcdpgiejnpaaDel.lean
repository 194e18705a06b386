/- What a test of the things is asked, and slices.IndexFunc with it. -/
import Derived.Test.YtodlcdpgiejnpaaClone
import Derived.Lib.SliceRun
namespace Go.Proofs.Ytodlcdpgiejnpaa.QI
set_option linter.unusedVariables false
set_option linter.unusedSimpArgs false
open Go.RowKit Hp

/-- what the test may do: all that was made since w, and the block g, are as they were -/
structure Since (w W W' : World) (g : Nat) : Prop where
  size : W.heap.size ≤ W'.heap.size
  new : ∀ j, w.heap.size ≤ j → j < W.heap.size → W'.heap[j]? = W.heap[j]?
  at_ : W'.heap[g]? = W.heap[g]?
/-- what the rest does: all that was there at w, but for the block g, is as it was -/
structure Far (w W W' : World) (g : Nat) : Prop where
  os : W'.os = W.os
  tape : W'.tape = W.tape
  output : W'.output = W.output
  size : W.heap.size ≤ W'.heap.size
  old : ∀ j, j < w.heap.size → j ≠ g → W'.heap[j]? = W.heap[j]?
theorem Since.refl (w W : World) (g : Nat) : Since w W W g := ⟨Nat.le_refl _, fun _ _ _ => rfl, rfl⟩
theorem Since.trans {w a b c : World} {g : Nat} (h : Since w a b g) (k : Since w b c g) : Since w a c g :=
  ⟨Nat.le_trans h.size k.size, fun j h1 h2 => (k.new j h1 (Nat.lt_of_lt_of_le h2 h.size)).trans (h.new j h1 h2), k.at_.trans h.at_⟩
theorem Far.alloc (w W : World) (g : Nat) (h : w.heap.size ≤ W.heap.size) (o : Obj) : Far w W (W.alloc o) g := ⟨rfl, rfl, rfl, by simp, fun j hj _ => heap_alloc_old W o (by omega)⟩
theorem Since.alloc (w W : World) (g : Nat) (hg : g < W.heap.size) (o : Obj) : Since w W (W.alloc o) g := ⟨by simp, fun j _ hj => heap_alloc_old W o hj, heap_alloc_old W o hg⟩
theorem Far.of_below {w W W' : World} {g : Nat} (h : w.heap.size ≤ W.heap.size) (hB : Below W.heap.size W W') : Far w W W' g := ⟨hB.os, hB.tape, hB.output, hB.size, fun j hj _ => hB.block j (by omega)⟩
theorem Far.of_grown {w W W' : World} {g b : Nat} (hb : w.heap.size ≤ b) (h : w.heap.size ≤ W.heap.size) (hG : W.grownBy W' (some b)) : Far w W W' g := ⟨hG.os, hG.tape, hG.output, hG.size, fun j hj _ => hG.block j (by omega) (by simp; omega)⟩
theorem Far.trans {w a b c : World} {g : Nat} (h : Far w a b g) (k : Far w b c g) : Far w a c g :=
  ⟨k.os.trans h.os, k.tape.trans h.tape, k.output.trans h.output, Nat.le_trans h.size k.size, fun j h1 h2 => (k.old j h1 h2).trans (h.old j h1 h2)⟩

/-- a test of the things of S, one by one; Inv k: what holds when k of them were asked -/
structure Keeps (w : World) (g m : Nat) (caps : Array Value) (S : List (It Int)) (p : It Int → Bool) (Inv : Nat → World → Prop) : Prop where
  step : ∀ k y W, S[k]? = some y → Inv k W → w.heap.size ≤ W.heap.size → Calls Try.prog m (#[.int .i64 y.x] ++ caps) W fun e W' => e = .returned (.bool (p y)) ∧ Inv (k + 1) W' ∧ Since w W W' g
  keep : ∀ k W W', Inv k W → Far w W W' g → Inv k W'
  gs : g < w.heap.size
  eg : ∀ args w, (callFunc m args).run Try.prog w = .ok (.enter m args) w

abbrev boxF (kf : Value) : Obj := .cells #[kf] 47 (0, 0)

section
variable {w : World} {g m : Nat} {caps : Array Value} {S : List (It Int)} {p : It Int → Bool} {Inv : Nat → World → Prop}
set_option maxRecDepth 100000 in
set_option maxHeartbeats 1600000 in
theorem del_calls (hK : Keeps w g m caps S p Inv) (bt : Nat) (k : Nat) (y : It Int) (W : World) (hy : S[k]? = some y) (hI : Inv k W) (hs : w.heap.size ≤ W.heap.size) (hbt : W.heap[bt]? = some (boxF (.func (.func m) #[] caps))) :
    Calls Try.prog 34 #[.agg (en y).toArray, .pointer (some ⟨bt, 0, none⟩)] W fun e W' => e = .returned (.bool (!p y)) ∧ Inv (k + 1) W' ∧ Since w W W' g := by
  have hc := hK.step k y (W.alloc (.cells (en y).toArray 61)) hy (hK.keep k W _ hI (Far.alloc w W g hs _)) (by simp; omega)
  have hsi := Since.alloc w W g (Nat.lt_of_lt_of_le hK.gs hs) (.cells (en y).toArray 61)
  have b0 := blk_cell hbt 0
  have hbl := blk_lt hbt
  have eg := hK.eg
  have HC := Lib.hid hc
  have HS := Lib.hid hsi
  clear hc hsi hK hI hbt hy
  obtain ⟨yt, yr, yn, yk, yx⟩ := y
  simp only [en, enc] at HC HS ⊢
  cases hp : p ⟨yt, yr, yn, yk, yx⟩
  · rw [hp] at HC
    clear hp
    go_enter Try.func34, Try.ntmps34
    go_wp2_with fail
    refine HC.out.mono ?_
    rintro e w1 ⟨rfl, hI, hS⟩
    have HI := Lib.hid hI
    have HS2 := Lib.hid (HS.out.trans hS)
    clear hI hS HC HS
    go_wp2
    go_ret
    exact ⟨rfl, HI.out, HS2.out⟩
  · rw [hp] at HC
    clear hp
    go_enter Try.func34, Try.ntmps34
    go_wp2_with fail
    refine HC.out.mono ?_
    rintro e w1 ⟨rfl, hI, hS⟩
    have HI := Lib.hid hI
    have HS2 := Lib.hid (HS.out.trans hS)
    clear hI hS HC HS
    go_wp2
    go_ret
    exact ⟨rfl, HI.out, HS2.out⟩
end
end Go.Proofs.Ytodlcdpgiejnpaa.QI
