/- slices.DeleteFunc with a test of the things: the walk. -/
import Derived.Test.YtodlcdpgiejnpaaDelF
namespace Go.Proofs.Ytodlcdpgiejnpaa.QI
set_option linter.unusedVariables false
set_option linter.unusedSimpArgs false
open Go.RowKit Hp

section
variable {w : World} {g m : Nat} {caps : Array Value} {S : List (It Int)} {p : It Int → Bool} {Inv : Nat → World → Prop}
set_option maxRecDepth 100000 in
set_option maxHeartbeats 3200000 in
theorem delete_calls (hK : Keeps w g m caps S p Inv) (bt b cap : Nat) (W : World) (hb : w.heap.size ≤ b) (hr : ro W b S cap) (hI : Inv 0 W) (hs : w.heap.size ≤ W.heap.size) (ht : w.heap.size ≤ bt) (hbb : bt ≠ b) (hbt : W.heap[bt]? = some (boxF (.func (.func m) #[] caps))) (hlen : S.length ≤ 65536) :
    Calls Try.prog 33 #[.slice (some ⟨b, 0, none⟩) S.length cap, .func (.func 34) #[] #[.pointer (some ⟨bt, 0, none⟩)]] W fun e W' =>
      e = .returned (.slice (some ⟨b, 0, none⟩) (S.filter p).length cap) ∧ ro W' b (S.filter p) cap ∧ Inv S.length W' ∧ SinceB w W W' g b := by
  obtain ⟨n, hn⟩ : ∃ n, n = S.length := ⟨_, rfl⟩
  have hix := index_calls hK bt b cap W hb hr hI hs ht hbt hlen
  rw [← hn] at hlen hix ⊢
  have hcl : n ≤ cap := by obtain ⟨_, _, _, h, _⟩ := hr; omega
  have hcm : cap ≤ maxLen := by obtain ⟨_, _, _, _, h, _⟩ := hr; exact h
  have HN := Lib.hid hn
  have HK := Lib.hid hK
  have HR := Lib.hid hr
  have HBT := Lib.hid hbt
  have HIX := Lib.hid hix
  have hbl := hr.lt
  have htl := blk_lt hbt
  have hgl := hK.gs
  clear hn hr hI hbt hK hix
  go_enter Try.func33, Try.ntmps33
  go_wp2_with fail
  refine HIX.out.mono ?_
  rintro e w1 ⟨k, hall, ⟨rfl, rfl, hI1⟩ | ⟨y0, hy0, hp0, rfl, hI1⟩, hS1⟩
  · have HE := Lib.hid (filter_all (S := S) (p := p) (fun j z hj hz => hall j z (by have := HN.out; omega) hz))
    have HI1 := Lib.hid hI1
    have HS1 := Lib.hid hS1
    clear hall hI1 hS1
    go_wp2
    go_ret
    exact ⟨by rw [HE.out, ← HN.out]; rfl, by rw [HE.out]; exact HR.out.kept (HS1.out.new b hb hbl), HI1.out, HS1.out.toB b⟩
  · have hkn : k < n := by have := (List.getElem?_eq_some_iff.1 hy0).1; have := HN.out; omega
    have HM0 := Lib.hid (Mid.start hall hy0 hp0)
    have HI1 := Lib.hid hI1
    have HS1 := Lib.hid (hS1.toB b)
    have HR1 := Lib.hid (HR.out.kept (hS1.new b hb hbl))
    have hk1 : (k == 18446744073709551615) = false := by simp; omega
    clear hall hI1 hS1 hy0 hp0
    go_wp2_with fail
    go_loopw [5, 6] (fun vi vj wr => ∃ (i j : Nat) (C : List (It Int)), vi = .int .i64 i ∧ vj = .int .i64 j ∧ Mid S C p i j ∧ ro wr b C cap ∧ Inv j wr ∧ SinceB w W wr g b) (fun _ vj _ => n - (intOf vj).toNat)
    case atStart => exact ⟨k, k + 1, S, rfl, by go_num, HM0.out, HR1.out, HI1.out, HS1.out⟩
    case round =>
      rename World => wo
      obtain ⟨i, j, C, rfl, rfl, hM, hrw, hI, hS⟩ := hrel
      clear HM0 HI1 HS1 HR1
      have hso : w.heap.size ≤ wo.heap.size := Nat.le_trans hs hS.size
      have hij := hM.2.1
      have hjn : j ≤ n := by have := hM.2.2.1; have := HN.out; omega
      have hCl : C.length = n := by rw [hM.1, HN.out]
      by_cases hlt : j < n
      · obtain ⟨y, hy⟩ : ∃ y, S[j]? = some y := ⟨_, List.getElem?_eq_getElem (by have := HN.out; omega)⟩
        have hyC : C[j]? = some y := by rw [hM.2.2.2.2 j (Nat.le_refl _)]; exact hy
        have hyr := range5 (hrw.range j y hyC)
        have hbo := hrw.lt
        have HC := Lib.hid (del_calls HK.out bt j y (wo.alloc (.cells (en y).toArray 61)) hy (HK.out.keep j wo _ hI (Far.alloc w wo g hso _)) (by simp; omega) (blk_alloc ((hS.new bt ht htl hbb).trans HBT.out) _))
        have HSA := Lib.hid (Since.alloc w wo g (by omega) (.cells (en y).toArray 61))
        have HM := Lib.hid hM
        have HRW := Lib.hid hrw
        have HS := Lib.hid hS
        have HY := Lib.hid hy
        have HCL := Lib.hid hCl
        have i1 : (0 : Int) ≤ (j : Int) := by omega
        have i2 : (j : Int) < (n : Int) := by omega
        have i3 : (0 : Int) ≤ (i : Int) := by omega
        have i4 : (i : Int) < (n : Int) := by omega
        clear hM hrw hI hS hy hyC hCl
        obtain ⟨yt, yr, yn, yk, yx⟩ := y
        simp only [en, enc] at HC hyr HSA
        cases hp : p ⟨yt, yr, yn, yk, yx⟩
        · rw [hp] at HC
          have HP := Lib.hid hp
          clear hp
          go_wp2_with fail
          refine HC.out.mono ?_
          rintro e w2 ⟨rfl, hI2, hS2⟩
          have HI2 := Lib.hid hI2
          have HS2 := Lib.hid (HSA.out.trans hS2)
          clear hI2 hS2 hyr HC HSA
          go_wp2
          go_roundw
          case rel =>
            (repeat apply Exists.intro)
            refine ⟨?_, rfl⟩
            exact ⟨i, j + 1, C, rfl, by go_num, HM.out.drop _ HY.out HP.out, HRW.out.kept (HS2.out.new b hb hbo), HI2.out, HS.out.trans (HS2.out.toB b)⟩
          case measure => simp [intOf]; omega
        · rw [hp] at HC
          have HP := Lib.hid hp
          clear hp
          go_wp2_with fail
          refine HC.out.mono ?_
          rintro e w2 ⟨rfl, hI2, hS2⟩
          have hb7 := (hS2.new wo.heap.size hso (by simp)).trans (heap_alloc_new wo _)
          have z0 := blk_cell hb7 0
          have z1 := blk_cell hb7 1
          have z2 := blk_cell hb7 2
          have z3 := blk_cell hb7 3
          have z4 := blk_cell hb7 4
          have HI2 := Lib.hid hI2
          have HS2 := Lib.hid (HSA.out.trans hS2)
          have hr2 : ro w2 b C cap := HRW.out.kept (HS2.out.new b hb hbo)
          have HR2 := Lib.hid hr2
          obtain ⟨x, hx⟩ : ∃ x, C[i]? = some x := ⟨_, List.getElem?_eq_getElem (by have := HCL.out; omega)⟩
          have hxr := range5 (hr2.range i x hx)
          have hfr : ∀ q, w2.frozen? ⟨b, q, none⟩ = false := by obtain ⟨cur, h, _⟩ := hr2; exact fun q => blk_frozen h q
          have hw2 := blk_lt hb7
          clear hI2 hS2 hyr HC HSA hb7 hr2 hx
          go_wp2
          have HSET := Lib.hid (HR2.out.set i ⟨yt, yr, yn, yk, yx⟩ (by have := HCL.out; omega))
          go_roundw
          case rel =>
            (repeat apply Exists.intro)
            refine ⟨?_, rfl⟩
            refine ⟨i + 1, j + 1, C.set i ⟨yt, yr, yn, yk, yx⟩, by go_num, by go_num, HM.out.keep _ HY.out HP.out, HSET.out, HK.out.keep (j + 1) w2 _ HI2.out (Far.of_grown hb (by have := HS2.out.size; omega) (grown_setCells w2 b (i * 5) (enc (Value.int .i64) ⟨yt, yr, yn, yk, yx⟩))), ?_⟩
            exact (HS.out.trans (HS2.out.toB b)).trans (SinceB.of_grown (by omega) (by have := HS2.out.size; omega) (grown_setCells w2 b (i * 5) (enc (Value.int .i64) ⟨yt, yr, yn, yk, yx⟩)))
          case measure => simp [intOf]; omega
      · obtain rfl : j = n := by omega
        have hin : i < j := hij
        have hbo := hrw.lt
        have hti := hrw.take i
        have hthere := row_there hrw (i * 5) ((j - i) * 5) (by omega)
        have hcl2 := fun ty => clear_run wo ty b (i * 5) (j - i) (cap - i) (by omega) hthere
        have hzl : (Builtin.zeroCells Z5.toArray (j - i)).toList.length = (j - i) * 5 := by rw [Array.length_toList, size_zeroCells]; rfl
        have hfil : C.take i = S.filter p := by rw [hM.2.2.2.1, HN.out, List.take_length]
        have hrow := row_spoil hti (i * 5) (Builtin.zeroCells Z5.toArray (j - i)).toList (by simp; omega) (by rw [hzl]; omega)
        have hG := grown_setCells wo b (i * 5) (Builtin.zeroCells Z5.toArray (j - i)).toList
        have hI2 := HK.out.keep j wo _ hI (Far.of_grown hb hso hG)
        have hS2 := hS.trans (SinceB.of_grown (g := g) (w := w) (by omega) (by omega) hG)
        rw [hfil] at hrow
        have hlf : (S.filter p).length = i := by rw [← hfil]; simp; omega
        generalize wo.setCells b (i * 5) (Builtin.zeroCells Z5.toArray (j - i)).toList = W2 at hcl2 hrow hG hI2 hS2
        have HRW := Lib.hid hrow
        have HI2 := Lib.hid hI2
        have HS2 := Lib.hid hS2
        have HLF := Lib.hid hlf
        have i3 : (0 : Int) ≤ (i : Int) := by omega
        have i4 : (i : Int) ≤ (j : Int) := by omega
        have i5 : (j : Int) ≤ (cap : Int) := by omega
        have i6 : (i : Int) ≤ (cap : Int) := by omega
        clear hM hrw hI hS hti hthere hzl hfil hrow hG hI2 hS2 hlf hCl
        go_wp2
        go_ret
        exact ⟨by rw [HLF.out]; rfl, HRW.out, HI2.out, HS2.out⟩
end
end Go.Proofs.Ytodlcdpgiejnpaa.QI
