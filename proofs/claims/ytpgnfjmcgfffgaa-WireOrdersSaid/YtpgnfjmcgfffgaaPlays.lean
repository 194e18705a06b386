/- The walk of WirePlays. -/
import Derived.Test.YtpgnfjmcgfffgaaOpen
namespace Go.Proofs.Ytpgnfjmcgfffgaa
set_option linter.unusedVariables false
set_option linter.unusedSimpArgs false
open Go.RowKit

theorem plays_bad (d : Int) (A : Option Addr) (n c : Nat) (h : d < 0 ∨ 1048576 < d) (w : World) :
    Calls Try.prog 3 #[.int .i64 d, .slice A n c] w fun e w' => e = .returned (.bool true) ∧ Below w.heap.size w w' := by
  have h := Lib.hid h
  by_cases h1 : d < 0
  · have h2 : decide (d < 0) = true := by simpa using h1
    go_enter Try.func3, Try.ntmps3
    go_wp2_with fail
    refine (fixed_calls _).mono ?_
    rintro e w0 ⟨rfl, HB0⟩
    have HB0 := Lib.hid HB0
    go_wp2_with fail
    refine (new_bad d h.out _).mono ?_
    rintro e w1 ⟨rfl, rfl⟩
    go_wp2
    go_ret
    exact ⟨rfl, HB0.out⟩
  · have h2 : decide (d < 0) = false := by simpa using h1
    have h3 : decide (1048576 < d) = true := by have := h.out; simp; omega
    go_enter Try.func3, Try.ntmps3
    go_wp2_with fail
    refine (fixed_calls _).mono ?_
    rintro e w0 ⟨rfl, HB0⟩
    have HB0 := Lib.hid HB0
    go_wp2_with fail
    refine (new_bad d h.out _).mono ?_
    rintro e w1 ⟨rfl, rfl⟩
    go_wp2
    go_ret
    exact ⟨rfl, HB0.out⟩

theorem blk_below {w w' : World} {B g : Nat} {o : Obj} (h : w.heap[g]? = some o) (hb : Below B w w') (hg : g < B) : w'.heap[g]? = some o := (hb.block g hg).trans h
theorem blk_lt {w : World} {g : Nat} {o : Obj} (h : w.heap[g]? = some o) : g < w.heap.size := by
  rcases Nat.lt_or_ge g w.heap.size with hlt | hge
  · exact hlt
  · rw [Array.getElem?_eq_none hge] at h; cases h
theorem blk_alloc {w : World} {g : Nat} {o : Obj} (h : w.heap[g]? = some o) (o' : Obj) : (w.alloc o').heap[g]? = some o := (Below.heap_alloc w o' g (blk_lt h)).trans h
theorem blk_cell {w : World} {g : Nat} {cs : Array Value} {t : TypeId} {fr : Nat × Nat} (h : w.heap[g]? = some (.cells cs t fr)) (i : Nat) : w.cell? ⟨g, i, none⟩ = cs[i]? := cell_of_row w g i cs t fr h
theorem blk_frozen {w : World} {g : Nat} {cs : Array Value} {t : TypeId} (h : w.heap[g]? = some (.cells cs t (0, 0))) (i : Nat) : w.frozen? ⟨g, i, none⟩ = false := by simp [World.frozen?, h]
theorem blk_grown {w w' : World} {g : Nat} {o : Obj} {row : Option Nat} (h : w.heap[g]? = some o) (hg : w.grownBy w' row) (hne : some g ≠ row) : w'.heap[g]? = some o := (hg.block g (blk_lt h) hne).trans h
theorem blk_ne {w : World} {g g' : Nat} {cs cs' : Array Value} {t t' : TypeId} {f f' : Nat × Nat} (h : w.heap[g]? = some (.cells cs t f)) (h' : w.heap[g']? = some (.cells cs' t' f')) (hne : t ≠ t') : g ≠ g' := by
  rintro rfl
  rw [h] at h'
  injection h' with h'
  injection h' with _ ht
  exact hne ht

def isX (w : World) (X : Nat) (d b o : Int) : Prop := w.heap[X]? = some (.cells #[.int .i64 d, .int .i64 b, .int .i64 o] 29 (0, 0))

theorem x_set {w : World} {X : Nat} {d b o : Int} (h : isX w X d b o) (d' b' o' : Int) :
    isX (((w.setCell ⟨X, 0, none⟩ (.int .i64 d')).setCell ⟨X, 1, none⟩ (.int .i64 b')).setCell ⟨X, 2, none⟩ (.int .i64 o')) X d' b' o' := by
  simp only [isX] at h ⊢; simp [World.setCell, Array.getElem?_modify, h]
theorem x_set2 {w : World} {X : Nat} {d b o : Int} (h : isX w X d b o) (o' : Int) : isX (w.setCell ⟨X, 2, none⟩ (.int .i64 o')) X d b o' := by
  simp only [isX] at h ⊢; simp [World.setCell, Array.getElem?_modify, h]
theorem w_set {w : World} {X g : Nat} {d b o : Int} (h : IsW w g d b o) (hne : X ≠ g) (i : Nat) (u : Value) : IsW (w.setCell ⟨X, i, none⟩ u) g d b o :=
  h.grown (grown_set i u) (by simp; exact hne.symm)

set_option maxRecDepth 100000 in
set_option maxHeartbeats 6400000 in
theorem plays_good (d : Int) (A : Option Addr) (n c : Nat) (d0 : 0 ≤ d) (d1 : d ≤ 1048576) (w : World) (hA : OpsAt w A n) (hn : n * 24 ≤ 140737488351232) :
    Calls Try.prog 3 #[.int .i64 d, .slice A n c] w fun e w' => e = .returned (.bool true) ∧ Below w.heap.size w w' := by
  have h2 : decide (d < 0) = false := by simpa using d0
  have h3 : decide (1048576 < d) = false := by simpa using d1
  have hA := Lib.hid hA
  go_enter Try.func3, Try.ntmps3
  go_wp2_with fail
  refine (fixed_calls _).mono ?_
  rintro e w0 ⟨rfl, HB0⟩
  have HB0 := Lib.hid HB0
  go_wp2_with fail
  refine (new_good d d0 d1 _).mono ?_
  rintro e w1 ⟨g, rfl, H1, hg, HB⟩
  have hge : w.heap.size ≤ g := by have := HB0.out.size; omega
  have hgl := H1.lt
  have HB1 := Lib.hid (HB0.out.trans (HB.mono HB0.out.size))
  have hw1 := HB1.out.size
  have hXs : w.heap.size ≤ w1.heap.size := hw1
  have H1 := Lib.hid H1
  clear HB hg HB0
  have HX0 := Lib.hid (show isX (w1.alloc (.cells #[.int .i64 d, .int .i64 0, .int .i64 0] 29)) w1.heap.size d 0 0 from heap_alloc_new w1 _)
  have HW0 := Lib.hid (H1.out.grown (World.grownBy_alloc w1 (.cells #[.int .i64 d, .int .i64 0, .int .i64 0] 29) none) (by simp))
  have HB2 := Lib.hid (HB1.out.alloc HB1.out.size (.cells #[.int .i64 d, .int .i64 0, .int .i64 0] 29))
  go_wp2_with fail
  clear H1 HB1
  go_loopw [49] (fun i wr => ∃ (k : Nat) (b o : Int), k ≤ n ∧ i = .int .i64 k ∧ IsW wr g d b o ∧ isX wr w1.heap.size d b o ∧ Below w.heap.size w wr)
    (fun i _ => n - (intOf i).toNat)
  case atStart => exact ⟨0, 0, 0, Nat.zero_le _, rfl, HW0.out, HX0.out, HB2.out⟩
  case round =>
    obtain ⟨k, b, o, hk, rfl, HW, HX, HBr⟩ := hrel
    have HW := Lib.hid HW
    have HX := Lib.hid HX
    have HBr := Lib.hid HBr
    clear HX0 HW0 HB2
    by_cases hlt : k < n
    · obtain ⟨B, off, kk, t, s, rfl, hBw, c0, c1, c2⟩ := hA.out.below HBr.out k hlt
      have hBs := HBr.out.size
      have hBr : B < wr.heap.size := by omega
      have x0 := blk_cell HX.out 0
      have x1 := blk_cell HX.out 1
      have x2 := blk_cell HX.out 2
      have hXr := blk_lt HX.out
      obtain ⟨Bz, hBz⟩ : ∃ Bz, Bz = decide (b ≤ t ∧ t < o) := ⟨_, rfl⟩
      have HBz := Lib.hid (fun w => rbusy_calls d b o t Bz hBz w)
      have HBq := Lib.hid hBz
      clear hBz
      unfold xw at HBz
      go_wp2_with fail
      refine (HBz.out _).mono ?_
      rintro e w2 ⟨rfl, HBy⟩
      have hs2 := HBy.size
      simp at hs2
      have HW2 := Lib.hid (show IsW w2 g d b o from blk_below (blk_alloc HW.out _) HBy (by simp; have := HW.out.lt; omega))
      have HX2 := Lib.hid (show isX w2 w1.heap.size d b o from blk_below (blk_alloc HX.out _) HBy (by simp; omega))
      have HO2 := Lib.hid (blk_below (heap_alloc_new wr _) HBy (by simp))
      have HB2 := Lib.hid ((HBr.out.alloc hBs _).trans (HBy.mono (by simp; omega)))
      clear HW HX HBr HBy HBz x0 x1 x2 c0 c1 c2
      have y0 := blk_cell HX2.out 0
      have y1 := blk_cell HX2.out 1
      have y2 := blk_cell HX2.out 2
      have o0 := blk_cell HO2.out 0
      have o1 := blk_cell HO2.out 1
      have o2 := blk_cell HO2.out 2
      by_cases h1 : kk = 1
      · subst h1
        go_wp2_with fail
        refine (send_any g d b o t s _ HW2.out d0 d1).mono ?_
        rintro e w3 ⟨rfl, HW3, HG3⟩
        have hXg : w1.heap.size ≠ g := blk_ne HX2.out HW2.out (by decide)
        have HX3 := Lib.hid (show isX w3 w1.heap.size d b o from blk_grown HX2.out HG3 (by simp; exact hXg))
        have HO3 := Lib.hid (blk_grown HO2.out HG3 (by simp; exact blk_ne HO2.out HW2.out (by decide)))
        have HB3 := Lib.hid (below_own HB2.out HG3 HB2.out.size hge)
        have HW3 := Lib.hid HW3
        have HR := Lib.hid (fun w => rsend_any d b o t s w d0 d1)
        unfold Ref12 xw at HR
        clear HG3 HW2 HX2 HO2 HB2 y0 y1 y2 o0 o1 o2
        have y0 := blk_cell HX3.out 0
        have y1 := blk_cell HX3.out 1
        have y2 := blk_cell HX3.out 2
        have o0 := blk_cell HO3.out 0
        have o1 := blk_cell HO3.out 1
        have o2 := blk_cell HO3.out 2
        go_wp2_with fail
        refine (HR.out _).mono ?_
        rintro e w4 ⟨rfl, HB4⟩
        have HX4 := Lib.hid (show isX w4 w1.heap.size d b o from blk_below HX3.out HB4 (blk_lt HX3.out))
        have HW4 := Lib.hid (show IsW w4 g d _ _ from blk_below HW3.out HB4 (blk_lt HW3.out))
        have HB5 := Lib.hid (HB3.out.trans (HB4.mono HB3.out.size))
        clear HX3 HW3 HO3 HB3 HB4 HR y0 y1 y2 o0 o1 o2
        have y0 := blk_cell HX4.out 0
        have y1 := blk_cell HX4.out 1
        have y2 := blk_cell HX4.out 2
        have z0 := blk_frozen HX4.out 0
        have z1 := blk_frozen HX4.out 1
        have z2 := blk_frozen HX4.out 2
        have hX4 := blk_lt HX4.out
        go_wp2
        go_roundw
        case rel =>
          exact ⟨k + 1, _, _, by omega, by go_num, blk_alloc (w_set (w_set (w_set HW4.out hXg _ _) hXg _ _) hXg _ _) _, blk_alloc (x_set HX4.out _ _ _) _,
            (((HB5.out.setCell hXs _).setCell hXs _).setCell hXs _).alloc (by simp; exact HB5.out.size) _⟩
        case measure => simp [intOf]; omega
      · have q1 : (kk == 1) = false := by simpa using h1
        by_cases h2 : kk = 2
        · subst h2
          by_cases hr : Real t
          · have HR := Lib.hid hr
            clear hr
            by_cases hb : b ≤ t ∧ t < o
            · have hbz : Bz = true := by rw [HBq.out]; simpa using hb
              clear HBq
              subst hbz
              obtain ⟨hb1, hb2⟩ := hb
              go_wp2_with (first
                | (go_at_call 13; refine (free_busy g d b o t _ HW2.out HR.out hb1 hb2).mono ?_; rintro e w3 ⟨rfl, rfl⟩)
                | (go_at_call 14; refine (rreal_yes _ HR.out _).mono ?_; rintro e w3 ⟨rfl, rfl⟩))
              go_roundw
              case rel => exact ⟨k + 1, _, _, by omega, by go_num, HW2.out, HX2.out, HB2.out⟩
              case measure => simp [intOf]; omega
            · have hbz : Bz = false := by rw [HBq.out]; simpa using hb
              clear HBq
              subst hbz
              have hb := Lib.hid hb
              go_wp2_with (first
                | (go_at_call 13; refine (free_free g d b o t _ HW2.out HR.out hb.out).mono ?_; rintro e w3 ⟨rfl, rfl⟩)
                | (go_at_call 14; refine (rreal_yes _ HR.out _).mono ?_; rintro e w3 ⟨rfl, rfl⟩))
              go_roundw
              case rel => exact ⟨k + 1, _, _, by omega, by go_num, HW2.out, HX2.out, HB2.out⟩
              case measure => simp [intOf]; omega
          · have HR := Lib.hid hr
            clear hr
            go_wp2_with (first
              | (go_at_call 13; refine (free_bad _ t _ (.inr HR.out)).mono ?_; rintro e w3 ⟨rfl, rfl⟩)
              | (go_at_call 14; refine (rreal_no _ HR.out _).mono ?_; rintro e w3 ⟨rfl, rfl⟩))
            go_roundw
            case rel => exact ⟨k + 1, _, _, by omega, by go_num, HW2.out, HX2.out, HB2.out⟩
            case measure => simp [intOf]; omega
        · have q2 : (kk == 2) = false := by simpa using h2
          by_cases h3 : kk = 3
          · subst h3
            by_cases hb : b ≤ t ∧ t < o
            · have hbz : Bz = true := by rw [HBq.out]; simpa using hb
              clear HBq
              subst hbz
              obtain ⟨hb1, hb2⟩ := hb
              go_wp2_with fail
              refine (cut_yes g d b o t _ HW2.out hb1 hb2).mono ?_
              rintro e w3 ⟨rfl, rfl⟩
              have hXg : w1.heap.size ≠ g := blk_ne HX2.out HW2.out (by decide)
              have HW3 := Lib.hid (HW2.out.set2 t)
              have HX3 := Lib.hid (show isX (w2.setCell ⟨g, 2, none⟩ (.int .i64 t)) w1.heap.size d b o from blk_grown HX2.out (grown_set 2 _) (by simp; exact hXg))
              have HO3 := Lib.hid (blk_grown HO2.out (grown_set (g := g) 2 (.int .i64 t)) (by simp; exact blk_ne HO2.out HW2.out (by decide)))
              have HB3 := Lib.hid (HB2.out.setCell (p := ⟨g, 2, none⟩) hge (.int .i64 t))
              clear HW2 HX2 HO2 HB2 y0 y1 y2 o0 o1 o2
              have y2 := blk_cell HX3.out 2
              have z2 := blk_frozen HX3.out 2
              have o1 := blk_cell HO3.out 1
              go_wp2
              go_roundw
              case rel => exact ⟨k + 1, _, _, by omega, by go_num, w_set HW3.out hXg _ _, x_set2 HX3.out _, HB3.out.setCell hXs _⟩
              case measure => simp [intOf]; omega
            · have hbz : Bz = false := by rw [HBq.out]; simpa using hb
              clear HBq
              subst hbz
              have hb := Lib.hid hb
              go_wp2_with (go_at_call 15; refine (cut_no g d b o t _ HW2.out hb.out).mono ?_; rintro e w3 ⟨rfl, rfl⟩)
              go_roundw
              case rel => exact ⟨k + 1, _, _, by omega, by go_num, HW2.out, HX2.out, HB2.out⟩
              case measure => simp [intOf]; omega
          · have q3 : (kk == 3) = false := by simpa using h3
            go_wp2
            go_roundw
            case rel => exact ⟨k + 1, _, _, by omega, by go_num, HW2.out, HX2.out, HB2.out⟩
            case measure => simp [intOf]; omega
    · go_wp2
      go_ret
      exact ⟨rfl, HBr.out⟩

theorem plays_walk {H : Type} {enc : TypeId × Value → H} {base : Nat} {dd : DataW H} {p : List MemPlace} {ts : List TypeId} {ds : List (DataW H)} (d : Int) (_ : (Lit.int .i64 d).wf = true) (v : Value) {w : World}
    (hok : Value.okWide Try.prog w .any base 22 v) (hr : DataW.Trod enc Try.prog w 0 (fun _ => true) true 22 v dd p)
    (hsz : (DataW.weightsEach Try.prog ts ds).all (· ≤ reachBytes) = true) (htj : ts[1]? = some 22) (hdj : ds[1]? = some dd) (w' : World) (hw : w' = w) :
    Calls Try.prog 3 #[.int .i64 d, v] w' fun e w1 => e = .returned (.bool true) ∧ Below w'.heap.size w' w1 := by
  subst hw
  obtain ⟨A, n, c, rfl, hA, hn⟩ := script_open hok hr hsz htj hdj
  by_cases h : d < 0 ∨ 1048576 < d
  · exact plays_bad d A n c h _
  · exact plays_good d A n c (by omega) (by omega) _ hA hn
end Go.Proofs.Ytpgnfjmcgfffgaa
