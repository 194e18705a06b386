/- FuseBears. -/
import Derived.Test.YtmanibjmcdbgaaaFixed
namespace Go.Proofs.Ytmanibjmcdbgaaa
set_option linter.unusedVariables false
set_option linter.unusedSimpArgs false
open Go.RowKit

theorem known18 (a b : Addr) : Known 18 #[.pointer (some a), .pointer (some b)] := ⟨fun _ => by kernel_rfl, fun _ => by kernel_rfl⟩
theorem bears18 (r g : Nat) (b v : Bool) (w : World) (hr : w.heap[r]? = some (boxB b)) (hg : w.heap[g]? = some (boxB v)) (hne : r ≠ g) :
    Calls Try.prog 18 #[.pointer (some ⟨r, 0, none⟩), .pointer (some ⟨g, 0, none⟩)] w fun e w' => e = (if v then .returned (.tuple #[]) else .panicked [{ v := .iface 9 (.string xText), recovered := false }]) ∧ w.setCell ⟨r, 0, none⟩ (.bool true) = w' := by
  have r0 := blk_cell hr 0
  have rf := blk_frozen hr 0
  have g0 := blk_cell (blk_far hg (p := ⟨r, 0, none⟩) (Ne.symm hne) (.bool true)) 0
  clear hr hg
  cases v
  all_goals
    go_enter Try.func18, Try.ntmps18
    go_wp2
  · exact ⟨rfl, rfl, rfl⟩
  · go_end0
    exact ⟨rfl, rfl⟩
def GoodAt (w : World) (A : Option Addr) (n : Nat) (Z : Nat → Bool) : Prop := ∀ i, i < n → ∃ b off, A = some ⟨b, off, none⟩ ∧ b < w.heap.size ∧ w.cell? ⟨b, off + i, none⟩ = some (.bool (Z i))
theorem GoodAt.below {w w' : World} {A : Option Addr} {n : Nat} {Z : Nat → Bool} (h : GoodAt w A n Z) (hb : Below w.heap.size w w') : ∀ i, i < n → ∃ b off, A = some ⟨b, off, none⟩ ∧ b < w.heap.size ∧ b < w'.heap.size ∧ w'.cell? ⟨b, off + i, none⟩ = some (.bool (Z i)) := by
  intro i hi
  obtain ⟨b, off, e, hlt, hc⟩ := h i hi
  exact ⟨b, off, e, hlt, Nat.lt_of_lt_of_le hlt hb.size, (hb.cell (p := ⟨b, off + i, none⟩) hlt).trans hc⟩
def bNext (m c : Int) (v : Bool) : Int := if c ≤ m ∧ v = false then c + 1 else c
theorem bears_do (g r q : Nat) (m c : Int) (l : ByteArray) (v : Bool) (w : World) (hF : IsF w g m c l) (hr : w.heap[r]? = some (boxB false)) (hq : w.heap[q]? = some (boxB v)) (hne : r ≠ q) (c0 : 0 ≤ c) (c1 : c ≤ 4611686018427387904) :
    Calls Try.prog 13 #[.pointer (some ⟨g, 0, none⟩), .func (.func 18) #[] #[.pointer (some ⟨r, 0, none⟩), .pointer (some ⟨q, 0, none⟩)]] w fun e w' =>
      e = .returned (.bool (v && decide (c ≤ m))) ∧ (∃ l', IsF w' g m (bNext m c v) l') ∧ w'.heap[r]? = some (boxB (decide (c ≤ m))) ∧ w'.heap[q]? = some (boxB v) ∧ Chg (fun k => k = g ∨ k = r) w w' := by
  have lr := blk_lt hr
  have lq := blk_lt hq
  have lg := blk_lt hF
  have gr : g ≠ r := blk_ne hF hr (by decide)
  have gq : g ≠ q := blk_ne hF hq (by decide)
  have hat : ∀ n, Chg (fun _ => False) w ((atWork w (some ⟨g, 0, none⟩)).drewN n) := fun n => atWork_chg w (some ⟨g, 0, none⟩) n _
  unfold bNext
  by_cases hb : m < c
  · rw [if_neg (by omega), decide_eq_false (by omega : ¬ c ≤ m), Bool.and_false]
    exact (do_blown g m c l w hF hb _).mono fun e w' ⟨he, hB⟩ => ⟨he, ⟨l, blk_below hF hB lg⟩, blk_below hr hB lr, blk_below hq hB lq, Chg.ofBelow hB⟩
  · have hb' : c ≤ m := by omega
    rw [decide_eq_true hb', Bool.and_true]
    have hw : ∀ n, Calls Try.prog 18 #[.pointer (some ⟨r, 0, none⟩), .pointer (some ⟨q, 0, none⟩)] ((atWork w (some ⟨g, 0, none⟩)).drewN n) _ := fun n => bears18 r q false v _ ((hat n).blk hr (fun h => h)) ((hat n).blk hq (fun h => h)) hne
    have hpost : ∀ n, Chg (fun k => k = r) w (((atWork w (some ⟨g, 0, none⟩)).drewN n).setCell ⟨r, 0, none⟩ (.bool true)) := fun n => (atWork_chg w (some ⟨g, 0, none⟩) n (fun k => k = r)).setCell (p := ⟨r, 0, none⟩) (.inl rfl) _
    have hrt : ∀ n, (((atWork w (some ⟨g, 0, none⟩)).drewN n).setCell ⟨r, 0, none⟩ (.bool true)).heap[r]? = some (boxB true) := fun n => blk_set ((hat n).blk hr (fun h => h)) 0 _
    cases v with
    | true =>
      rw [if_neg (by simp)]
      refine (do_returns g m c l w hF hb' _ _ (fun w' => ∃ n, ((atWork w (some ⟨g, 0, none⟩)).drewN n).setCell ⟨r, 0, none⟩ (.bool true) = w') (known18 _ _).ne (known18 _ _).call (fun n => (hw n).mono fun e w' ⟨he, h⟩ => ⟨he, n, h⟩) ?_).mono ?_
      · rintro w' ⟨n, rfl⟩
        exact blk_far (atWork_q w _ n) (p := ⟨r, 0, none⟩) (by simp; omega) _
      · rintro e w' ⟨rfl, w1, ⟨n, rfl⟩, rfl⟩
        refine ⟨rfl, ⟨l, blk_far ((hpost n).blk hF gr) (p := ⟨w.heap.size + 1, 0, none⟩) (by simp; omega) _⟩, blk_far (hrt n) (p := ⟨w.heap.size + 1, 0, none⟩) (by simp; omega) _, blk_far ((hpost n).blk hq (Ne.symm hne)) (p := ⟨w.heap.size + 1, 0, none⟩) (by simp; omega) _, ?_⟩
        exact ((hpost n).mono (fun k _ h => .inr h)).setCell (p := ⟨w.heap.size + 1, 0, none⟩) (.inr (by simp)) _
    | false =>
      rw [if_pos (by simp [hb'])]
      refine (do_panics g m c l w hF hb' _ _ (fun w' => ∃ n, ((atWork w (some ⟨g, 0, none⟩)).drewN n).setCell ⟨r, 0, none⟩ (.bool true) = w') _ _ xText (tells_string xText) (known18 _ _).ne (known18 _ _).call (fun n => (hw n).mono fun e w' ⟨he, h⟩ => ⟨he, n, h⟩) c l c0 c1 ?_).mono ?_
      · rintro w' ⟨n, rfl⟩
        exact ⟨blk_far (atWork_p w g n) (p := ⟨r, 0, none⟩) (by simp; omega) _, blk_far (atWork_q w _ n) (p := ⟨r, 0, none⟩) (by simp; omega) _, (hpost n).blk hF gr⟩
      · rintro e w' ⟨rfl, w1, ⟨n, rfl⟩, hF', hC⟩
        have hsz := (hpost n).size
        refine ⟨rfl, ⟨_, hF'⟩, hC.blk (hrt n) (by omega), hC.blk ((hpost n).blk hq (Ne.symm hne)) (by omega), ?_⟩
        refine ⟨hC.os.trans (hpost n).os, hC.tape.trans (hpost n).tape, hC.output.trans (hpost n).output, Nat.le_trans hsz hC.size, fun k hk hn => ?_⟩
        exact (hC.block k (by omega) (by omega)).trans ((hpost n).block k hk (by omega))
def bAt (m : Int) (Z : Nat → Bool) : Nat → Int
  | 0 => 0
  | k + 1 => bNext m (bAt m Z k) (Z k)
theorem bAt_bd (m : Int) (Z : Nat → Bool) (k : Nat) : 0 ≤ bAt m Z k ∧ bAt m Z k ≤ k := by
  induction k with
  | zero => simp [bAt]
  | succ k ih =>
    simp only [bAt, bNext]
    split <;> omega
theorem alloc2_top (w : World) (o1 o2 : Obj) : ((w.alloc o1).alloc o2).heap[w.heap.size + 1]? = some o2 := by
  have h := heap_alloc_new (w.alloc o1) o2
  simpa using h
theorem bears_c {m c c' : Int} {Z : Nat → Bool} {k : Nat} (v : Bool) (hv : v = Z k) (hc : c = bAt m Z k) (hn : bNext m c v = c') : Value.int .i64 c' = .int .i64 (bAt m Z (k + 1)) := by
  subst hv hc hn; rfl
theorem bears_f {w : World} {g : Nat} {l : ByteArray} {m c c' : Int} {Z : Nat → Bool} {k : Nat} (v : Bool) (hv : v = Z k) (hc : c = bAt m Z k) (hn : bNext m c v = c') (hF : IsF w g m c' l) : IsF w g m (bAt m Z (k + 1)) l := by
  subst hv hc hn; exact hF
set_option maxRecDepth 100000 in
set_option maxHeartbeats 6400000 in
theorem bears_walk (m : Int) (hm : 0 ≤ m ∧ m ≤ 255) (A : Option Addr) (n cp : Nat) (Z : Nat → Bool) (w : World) (hA : GoodAt w A n Z) (hn : n ≤ 140737488351232) : Calls Try.prog 5 #[.int .u8 m, .slice A n cp] w fun e w' => e = .returned (.bool true) ∧ Below w.heap.size w w' := by
  have hmf := mkf
  have HA := Lib.hid hA
  clear hA
  have hwm : wrap64 m = m := by simp [wrap64]; omega
  go_enter Try.func5, Try.ntmps5
  go_wp2_with fail
  refine (fixed_calls _).mono ?_
  rintro e w1 ⟨rfl, hB⟩
  have HB := Lib.hid hB
  clear hB
  go_wp2_with fail
  refine (new_most m m (by unfold most; (repeat' split) <;> omega) _).mono ?_
  rintro e w2 ⟨g, rfl, hF, hg, hB2⟩
  have hge : w.heap.size ≤ g := by have := HB.out.size; omega
  have HF1 := Lib.hid hF
  have HB1 := Lib.hid (HB.out.trans (hB2.mono HB.out.size))
  clear hF hg hB2 HB
  go_wp2_with fail
  go_loopw [6, 19] (fun c i wr => ∃ (k : Nat) (l : ByteArray), k ≤ n ∧ i = .int .i64 k ∧ c = .int .i64 (bAt m Z k) ∧ IsF wr g m (bAt m Z k) l ∧ Below w.heap.size w wr) (fun _ i _ => n - (intOf i).toNat)
  case atStart => exact ⟨0, _, Nat.zero_le _, rfl, rfl, HF1.out, HB1.out⟩
  case round =>
    obtain ⟨k, l, hk, rfl, rfl, hF, hB⟩ := hrel
    have HF := Lib.hid hF
    have HB := Lib.hid hB
    clear hF hB HF1 HB1
    by_cases hlt : k < n
    · obtain ⟨B, off, rfl, hBw, hBr, c0⟩ := HA.out.below HB.out k hlt
      obtain ⟨bd0, bd1⟩ := bAt_bd m Z k
      obtain ⟨v, hv⟩ : ∃ v, v = Z k := ⟨_, rfl⟩
      obtain ⟨c, hc⟩ : ∃ c, c = bAt m Z k := ⟨_, rfl⟩
      rw [← hv] at c0
      rw [← hc] at bd0 bd1 HF
      rw [← hc]
      have HE := Lib.hid (And.intro hv hc)
      clear hv hc
      by_cases hb : c ≤ m
      · cases v
        · by_cases hb2 : m < c + 1
          · have hd : decide (m < c) = false := by simp; omega
            have hd1 : decide (m < c + 1) = true := by simp; omega
            have HD := Lib.hid (bears_do g (wr.heap.size + 1) wr.heap.size m c l false _ (blk_alloc (blk_alloc HF.out _) _) (alloc2_top wr _ _) (blk_alloc (heap_alloc_new wr _) _) (by omega) bd0 (by omega))
            rw [show decide (c ≤ m) = true from by simp; omega, show bNext m c false = c + 1 from by simp [bNext] <;> omega] at HD
            go_wp2_with fail
            refine HD.out.mono ?_
            rintro e w3 ⟨rfl, ⟨l3, hF3⟩, hr3, hq3, hC3⟩
            have r0 := blk_cell hr3 0
            have q0 := blk_cell hq3 0
            have HF3 := Lib.hid hF3
            have HB3 := Lib.hid ((((HB.out.alloc HB.out.size _).alloc (by have := HB.out.size; simp; omega) _)).trans (hC3.toBelow (by have := HB.out.size; simp; omega) (fun j hj h => by have := HB.out.size; omega)))
            clear hF3 hr3 hq3 hC3 HD HF HB
            go_wp2_with fail
            refine (caught_calls g m _ _ _ HF3.out).mono ?_
            rintro e w4 ⟨rfl, rfl⟩
            go_wp2_with fail
            refine (blown_calls g m _ _ _ HF3.out true (by simp; omega)).mono ?_
            rintro e w4 ⟨rfl, N, rfl⟩
            have HF4 := Lib.hid (show IsF (w3.drewN N) g m (c + 1) l3 from HF3.out)
            have HB4 := Lib.hid (HB3.out.trans ((Chg.refl (fun _ => False) w3).drewN N |>.toBelow HB3.out.size (fun _ _ h => h)))
            clear HF3 HB3 r0 q0
            go_wp2_with fail
            go_roundw
            case rel => exact ⟨k + 1, l3, by omega, by go_num, bears_c false HE.out.1 HE.out.2 (by simp [bNext] <;> omega), bears_f false HE.out.1 HE.out.2 (by simp [bNext] <;> omega) HF4.out, HB4.out⟩
            case measure => simp [intOf]; omega
          · have hd : decide (m < c) = false := by simp; omega
            have hd1 : decide (m < c + 1) = false := by simp; omega
            have HD := Lib.hid (bears_do g (wr.heap.size + 1) wr.heap.size m c l false _ (blk_alloc (blk_alloc HF.out _) _) (alloc2_top wr _ _) (blk_alloc (heap_alloc_new wr _) _) (by omega) bd0 (by omega))
            rw [show decide (c ≤ m) = true from by simp; omega, show bNext m c false = c + 1 from by simp [bNext] <;> omega] at HD
            go_wp2_with fail
            refine HD.out.mono ?_
            rintro e w3 ⟨rfl, ⟨l3, hF3⟩, hr3, hq3, hC3⟩
            have r0 := blk_cell hr3 0
            have q0 := blk_cell hq3 0
            have HF3 := Lib.hid hF3
            have HB3 := Lib.hid ((((HB.out.alloc HB.out.size _).alloc (by have := HB.out.size; simp; omega) _)).trans (hC3.toBelow (by have := HB.out.size; simp; omega) (fun j hj h => by have := HB.out.size; omega)))
            clear hF3 hr3 hq3 hC3 HD HF HB
            go_wp2_with fail
            refine (caught_calls g m _ _ _ HF3.out).mono ?_
            rintro e w4 ⟨rfl, rfl⟩
            go_wp2_with fail
            refine (blown_calls g m _ _ _ HF3.out false (by simp; omega)).mono ?_
            rintro e w4 ⟨rfl, N, rfl⟩
            have HF4 := Lib.hid (show IsF (w3.drewN N) g m (c + 1) l3 from HF3.out)
            have HB4 := Lib.hid (HB3.out.trans ((Chg.refl (fun _ => False) w3).drewN N |>.toBelow HB3.out.size (fun _ _ h => h)))
            clear HF3 HB3 r0 q0
            go_wp2_with fail
            go_roundw
            case rel => exact ⟨k + 1, l3, by omega, by go_num, bears_c false HE.out.1 HE.out.2 (by simp [bNext] <;> omega), bears_f false HE.out.1 HE.out.2 (by simp [bNext] <;> omega) HF4.out, HB4.out⟩
            case measure => simp [intOf]; omega
        · have hd : decide (m < c) = false := by simp; omega
          have HD := Lib.hid (bears_do g (wr.heap.size + 1) wr.heap.size m c l true _ (blk_alloc (blk_alloc HF.out _) _) (alloc2_top wr _ _) (blk_alloc (heap_alloc_new wr _) _) (by omega) bd0 (by omega))
          rw [show decide (c ≤ m) = true from by simp; omega, show bNext m c true = c from by simp [bNext] <;> omega] at HD
          go_wp2_with fail
          refine HD.out.mono ?_
          rintro e w3 ⟨rfl, ⟨l3, hF3⟩, hr3, hq3, hC3⟩
          have r0 := blk_cell hr3 0
          have q0 := blk_cell hq3 0
          have HF3 := Lib.hid hF3
          have HB3 := Lib.hid ((((HB.out.alloc HB.out.size _).alloc (by have := HB.out.size; simp; omega) _)).trans (hC3.toBelow (by have := HB.out.size; simp; omega) (fun j hj h => by have := HB.out.size; omega)))
          clear hF3 hr3 hq3 hC3 HD HF HB
          go_wp2_with fail
          refine (caught_calls g m _ _ _ HF3.out).mono ?_
          rintro e w4 ⟨rfl, rfl⟩
          go_wp2_with fail
          refine (blown_calls g m _ _ _ HF3.out false (by simp; omega)).mono ?_
          rintro e w4 ⟨rfl, N, rfl⟩
          have HF4 := Lib.hid (show IsF (w3.drewN N) g m (c) l3 from HF3.out)
          have HB4 := Lib.hid (HB3.out.trans ((Chg.refl (fun _ => False) w3).drewN N |>.toBelow HB3.out.size (fun _ _ h => h)))
          clear HF3 HB3 r0 q0
          go_wp2_with fail
          go_roundw
          case rel => exact ⟨k + 1, l3, by omega, by go_num, bears_c true HE.out.1 HE.out.2 (by simp [bNext] <;> omega), bears_f true HE.out.1 HE.out.2 (by simp [bNext] <;> omega) HF4.out, HB4.out⟩
          case measure => simp [intOf]; omega
      · cases v
        · have hd : decide (m < c) = true := by simp; omega
          have HD := Lib.hid (bears_do g (wr.heap.size + 1) wr.heap.size m c l false _ (blk_alloc (blk_alloc HF.out _) _) (alloc2_top wr _ _) (blk_alloc (heap_alloc_new wr _) _) (by omega) bd0 (by omega))
          rw [show decide (c ≤ m) = false from by simp; omega, show bNext m c false = c from by simp [bNext] <;> omega] at HD
          go_wp2_with fail
          refine HD.out.mono ?_
          rintro e w3 ⟨rfl, ⟨l3, hF3⟩, hr3, hq3, hC3⟩
          have r0 := blk_cell hr3 0
          have q0 := blk_cell hq3 0
          have HF3 := Lib.hid hF3
          have HB3 := Lib.hid ((((HB.out.alloc HB.out.size _).alloc (by have := HB.out.size; simp; omega) _)).trans (hC3.toBelow (by have := HB.out.size; simp; omega) (fun j hj h => by have := HB.out.size; omega)))
          clear hF3 hr3 hq3 hC3 HD HF HB
          go_wp2_with fail
          refine (caught_calls g m _ _ _ HF3.out).mono ?_
          rintro e w4 ⟨rfl, rfl⟩
          go_wp2_with fail
          refine (blown_calls g m _ _ _ HF3.out true (by simp; omega)).mono ?_
          rintro e w4 ⟨rfl, N, rfl⟩
          have HF4 := Lib.hid (show IsF (w3.drewN N) g m (c) l3 from HF3.out)
          have HB4 := Lib.hid (HB3.out.trans ((Chg.refl (fun _ => False) w3).drewN N |>.toBelow HB3.out.size (fun _ _ h => h)))
          clear HF3 HB3 r0 q0
          go_wp2_with fail
          go_roundw
          case rel => exact ⟨k + 1, l3, by omega, by go_num, bears_c false HE.out.1 HE.out.2 (by simp [bNext] <;> omega), bears_f false HE.out.1 HE.out.2 (by simp [bNext] <;> omega) HF4.out, HB4.out⟩
          case measure => simp [intOf]; omega
        · have hd : decide (m < c) = true := by simp; omega
          have HD := Lib.hid (bears_do g (wr.heap.size + 1) wr.heap.size m c l true _ (blk_alloc (blk_alloc HF.out _) _) (alloc2_top wr _ _) (blk_alloc (heap_alloc_new wr _) _) (by omega) bd0 (by omega))
          rw [show decide (c ≤ m) = false from by simp; omega, show bNext m c true = c from by simp [bNext] <;> omega] at HD
          go_wp2_with fail
          refine HD.out.mono ?_
          rintro e w3 ⟨rfl, ⟨l3, hF3⟩, hr3, hq3, hC3⟩
          have r0 := blk_cell hr3 0
          have q0 := blk_cell hq3 0
          have HF3 := Lib.hid hF3
          have HB3 := Lib.hid ((((HB.out.alloc HB.out.size _).alloc (by have := HB.out.size; simp; omega) _)).trans (hC3.toBelow (by have := HB.out.size; simp; omega) (fun j hj h => by have := HB.out.size; omega)))
          clear hF3 hr3 hq3 hC3 HD HF HB
          go_wp2_with fail
          refine (caught_calls g m _ _ _ HF3.out).mono ?_
          rintro e w4 ⟨rfl, rfl⟩
          go_wp2_with fail
          refine (blown_calls g m _ _ _ HF3.out true (by simp; omega)).mono ?_
          rintro e w4 ⟨rfl, N, rfl⟩
          have HF4 := Lib.hid (show IsF (w3.drewN N) g m (c) l3 from HF3.out)
          have HB4 := Lib.hid (HB3.out.trans ((Chg.refl (fun _ => False) w3).drewN N |>.toBelow HB3.out.size (fun _ _ h => h)))
          clear HF3 HB3 r0 q0
          go_wp2_with fail
          go_roundw
          case rel => exact ⟨k + 1, l3, by omega, by go_num, bears_c true HE.out.1 HE.out.2 (by simp [bNext] <;> omega), bears_f true HE.out.1 HE.out.2 (by simp [bNext] <;> omega) HF4.out, HB4.out⟩
          case measure => simp [intOf]; omega
    · obtain rfl : k = n := by omega
      go_wp2
      go_ret
      exact ⟨rfl, HB.out⟩
end Go.Proofs.Ytmanibjmcdbgaaa
