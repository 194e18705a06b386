/- The walk of WireClears. -/
import Derived.Test.YtpgnfjmcgfffgaaFix
import Derived.ProofKit
import Derived.Deep.Fields
import Derived.OpenShut
namespace Go.Proofs.Ytpgnfjmcgfffgaa
set_option linter.unusedVariables false
set_option linter.unusedSimpArgs false
open Go.RowKit

def Law6 (C : Value) (x y : Int) (w : World) : Prop :=
  Calls Try.prog 6 #[C, .int .i64 x, .int .i64 y] w fun e w' => e = .returned (.bool true) ∧ Below w.heap.size w w'

theorem keep_alloc {w w0 : World} {o : Obj} (h : Below (w.alloc o).heap.size (w.alloc o) w0) : w0.heap[w.heap.size]? = some o :=
  (h.block _ (by simp)).trans (heap_alloc_new w o)
theorem blk_cell {w : World} {g : Nat} {cs : Array Value} {t : TypeId} {fr : Nat × Nat} (h : w.heap[g]? = some (.cells cs t fr)) (i : Nat) : w.cell? ⟨g, i, none⟩ = cs[i]? := cell_of_row w g i cs t fr h

theorem blk_below {w w' : World} {B g : Nat} {o : Obj} (h : w.heap[g]? = some o) (hb : Below B w w') (hg : g < B) : w'.heap[g]? = some o := (hb.block g hg).trans h
theorem blk_lt {w : World} {g : Nat} {o : Obj} (h : w.heap[g]? = some o) : g < w.heap.size := by
  rcases Nat.lt_or_ge g w.heap.size with hlt | hge
  · exact hlt
  · rw [Array.getElem?_eq_none hge] at h; cases h
theorem blk_alloc {w : World} {g : Nat} {o : Obj} (h : w.heap[g]? = some o) (o' : Obj) : (w.alloc o').heap[g]? = some o := (Below.heap_alloc w o' g (blk_lt h)).trans h
theorem five {w : World} {g : Nat} {a b c d f : Value} {t : TypeId} {fr : Nat × Nat} (h : w.heap[g]? = some (.cells #[a, b, c, d, f] t fr)) :
    w.cell? ⟨g, 0, none⟩ = some a ∧ w.cell? ⟨g, 1, none⟩ = some b ∧ w.cell? ⟨g, 2, none⟩ = some c ∧ w.cell? ⟨g, 3, none⟩ = some d ∧ w.cell? ⟨g, 4, none⟩ = some f :=
  ⟨blk_cell h 0, blk_cell h 1, blk_cell h 2, blk_cell h 3, blk_cell h 4⟩
theorem bcell {W w1 : World} (hb : Below W.heap.size W w1) : (∀ b o, b < W.heap.size → w1.cell? ⟨b, o, none⟩ = W.cell? ⟨b, o, none⟩) ∧ (∀ b o, b < W.heap.size → w1.frozen? ⟨b, o, none⟩ = W.frozen? ⟨b, o, none⟩) :=
  ⟨fun b o h => hb.cell (p := ⟨b, o, none⟩) h, fun b o h => hb.frozen (p := ⟨b, o, none⟩) h⟩

set_option maxHeartbeats 1600000 in
theorem clears_neg (a b c d f x y : Int) (h : x < 0) (w : World) : Law6 (ctl a b c d f) x y w := by
  unfold Law6
  have HC := Lib.hid (fun W => clear_neg a b c d f x h W)
  unfold ctl at HC ⊢
  have h1 : decide (x < 0) = true := by simpa using h
  go_enter Try.func6, Try.ntmps6
  go_wp2_with fail
  refine (fixed_calls _).mono ?_
  rintro e w0 ⟨rfl, HB0⟩
  have hk := keep_alloc HB0
  have k0 := blk_cell hk 0
  have k1 := blk_cell hk 1
  have k2 := blk_cell hk 2
  have k3 := blk_cell hk 3
  have k4 := blk_cell hk 4
  clear hk
  have hs0 : w.heap.size + 1 ≤ w0.heap.size := by have := HB0.size; simpa using this
  have HB1 := Lib.hid (((Below.refl w.heap.size w).alloc (Nat.le_refl _) _).trans (HB0.mono (by simp)))
  clear HB0
  go_wp2_with fail
  refine (send_bad none 0 64 _ (.inl rfl)).mono ?_
  rintro e w3 ⟨rfl, rfl⟩
  go_wp2_with fail
  refine (free_bad none 0 _ (.inl rfl)).mono ?_
  rintro e w3 ⟨rfl, rfl⟩
  go_wp2_with fail
  refine (cut_nil 0 _).mono ?_
  rintro e w3 ⟨rfl, rfl⟩
  go_wp2_with fail
  refine (HC.out _).mono ?_
  rintro e w3 ⟨rfl, HB3⟩
  have HB4 := Lib.hid (HB1.out.trans (HB3.mono HB1.out.size))
  have hs3 := HB4.out.size
  clear HB1 HB3
  go_wp2
  go_ret
  exact ⟨rfl, HB4.out.alloc hs3 _⟩

set_option maxHeartbeats 3200000 in
theorem clears_range (a b c d f x y : Int) (h : ¬ x < 0) (hf : f < 0 ∨ 1048576 < f ∨ 1048576 < f + x) (hb0 : -9223372036854775808 ≤ f) (hx : x ≤ 9223372036854775807) (w : World) : Law6 (ctl a b c d f) x y w := by
  unfold Law6
  have HC := Lib.hid (fun W => clear_range a b c d f x h hf hb0 W)
  unfold ctl at HC ⊢
  have h1 : decide (x < 0) = false := by simpa using h
  go_enter Try.func6, Try.ntmps6
  go_wp2_with fail
  refine (fixed_calls _).mono ?_
  rintro e w0 ⟨rfl, HB0⟩
  have hk := keep_alloc HB0
  have k0 := blk_cell hk 0
  have k1 := blk_cell hk 1
  have k2 := blk_cell hk 2
  have k3 := blk_cell hk 3
  have k4 := blk_cell hk 4
  clear hk
  have hs0 : w.heap.size + 1 ≤ w0.heap.size := by have := HB0.size; simpa using this
  have HB1 := Lib.hid (((Below.refl w.heap.size w).alloc (Nat.le_refl _) _).trans (HB0.mono (by simp)))
  clear HB0
  go_wp2_with fail
  refine (send_bad none 0 64 _ (.inl rfl)).mono ?_
  rintro e w3 ⟨rfl, rfl⟩
  go_wp2_with fail
  refine (free_bad none 0 _ (.inl rfl)).mono ?_
  rintro e w3 ⟨rfl, rfl⟩
  go_wp2_with fail
  refine (cut_nil 0 _).mono ?_
  rintro e w3 ⟨rfl, rfl⟩
  go_wp2_with fail
  refine (HC.out _).mono ?_
  rintro e w3 ⟨rfl, HB3⟩
  have q0 := (HB3.cell (p := ⟨w.heap.size, 0, none⟩) (by simp; omega)).trans k0
  have q1 := (HB3.cell (p := ⟨w.heap.size, 1, none⟩) (by simp; omega)).trans k1
  have q2 := (HB3.cell (p := ⟨w.heap.size, 2, none⟩) (by simp; omega)).trans k2
  have q3 := (HB3.cell (p := ⟨w.heap.size, 3, none⟩) (by simp; omega)).trans k3
  have q4 := (HB3.cell (p := ⟨w.heap.size, 4, none⟩) (by simp; omega)).trans k4
  have HB4 := Lib.hid (HB1.out.trans (HB3.mono HB1.out.size))
  have hs3 := HB4.out.size
  have hs4 := HB3.size
  have hlt : w.heap.size < w3.heap.size := by omega
  clear HB1 HB3 k0 k1 k2 k3 k4
  have HF := Lib.hid hf
  by_cases f0 : f < 0
  · have f1 : decide (f < 0) = true := by simpa using f0
    clear hf
    go_wp2
    go_ret
    exact ⟨rfl, HB4.out.alloc hs3 _⟩
  · have f1 : decide (f < 0) = false := by simpa using f0
    by_cases f2 : 1048576 < f
    · have f3 : decide (1048576 < f) = true := by simpa using f2
      clear hf
      go_wp2
      go_ret
      exact ⟨rfl, HB4.out.alloc hs3 _⟩
    · have f3 : decide (1048576 < f) = false := by simpa using f2
      by_cases f4 : 1048576 < x
      · have f5 : decide (1048576 < x) = true := by simpa using f4
        clear hf
        go_wp2
        go_ret
        exact ⟨rfl, HB4.out.alloc hs3 _⟩
      · have f5 : decide (1048576 < x) = false := by simpa using f4
        have f6 : decide (1048576 < f + x) = true := by simp; omega
        clear hf
        go_wp2
        go_ret
        exact ⟨rfl, HB4.out.alloc hs3 _⟩

set_option maxHeartbeats 6400000 in
theorem clears_good (a b c d f x y : Int) (h : ¬ x < 0) (hf : 0 ≤ f) (hfx : f + x ≤ 1048576) (hy0 : -9223372036854775808 ≤ y) (hy1 : y ≤ 9223372036854775807) (w : World) : Law6 (ctl a b c d f) x y w := by
  unfold Law6
  have HC := Lib.hid (fun W => clear_good a b c d f x (by omega) hf hfx W)
  have HN := Lib.hid (fun (h : y < 0) W => clear_neg a b c d (f + x) y h W)
  have HR := Lib.hid (fun (h : ¬ y < 0) (h' : 1048576 < f + x + y) W => clear_range a b c d (f + x) y h (.inr (.inr h')) (by omega) W)
  have HR2 := Lib.hid (fun (h : ¬ x + y < 0) (h' : 1048576 < f + (x + y)) W => clear_range a b c d f (x + y) h (.inr (.inr h')) (by omega) W)
  have HG := Lib.hid (fun (h : 0 ≤ y) (h' : f + x + y ≤ 1048576) W => clear_good a b c d (f + x) y h (by omega) h' W)
  have HG2 := Lib.hid (fun (h : 0 ≤ x + y) (h' : f + (x + y) ≤ 1048576) W => clear_good a b c d f (x + y) h hf h' W)
  unfold ctl at HC HN HR HG HR2 HG2 ⊢
  have h1 : decide (x < 0) = false := by simpa using h
  have h2 : decide (f < 0) = false := by simp; omega
  have h3 : decide (1048576 < f) = false := by simp; omega
  have h4 : decide (1048576 < x) = false := by simp; omega
  have h5 : decide (1048576 < f + x) = false := by simp; omega
  go_enter Try.func6, Try.ntmps6
  go_wp2_with fail
  refine (fixed_calls _).mono ?_
  rintro e w0 ⟨rfl, HB0⟩
  have hk := keep_alloc HB0
  have k0 := blk_cell hk 0
  have k1 := blk_cell hk 1
  have k2 := blk_cell hk 2
  have k3 := blk_cell hk 3
  have k4 := blk_cell hk 4
  have HK := Lib.hid hk
  clear hk
  have hs0 : w.heap.size + 1 ≤ w0.heap.size := by have := HB0.size; simpa using this
  have HB1 := Lib.hid (((Below.refl w.heap.size w).alloc (Nat.le_refl _) _).trans (HB0.mono (by simp)))
  clear HB0
  go_wp2_with fail
  refine (send_bad none 0 64 _ (.inl rfl)).mono ?_
  rintro e w3 ⟨rfl, rfl⟩
  go_wp2_with fail
  refine (free_bad none 0 _ (.inl rfl)).mono ?_
  rintro e w3 ⟨rfl, rfl⟩
  go_wp2_with fail
  refine (cut_nil 0 _).mono ?_
  rintro e w3 ⟨rfl, rfl⟩
  go_wp2_with fail
  refine (HC.out _).mono ?_
  rintro e w3 ⟨rfl, HB3⟩
  have q0 := (HB3.cell (p := ⟨w.heap.size, 0, none⟩) (by simp; omega)).trans k0
  have q1 := (HB3.cell (p := ⟨w.heap.size, 1, none⟩) (by simp; omega)).trans k1
  have q2 := (HB3.cell (p := ⟨w.heap.size, 2, none⟩) (by simp; omega)).trans k2
  have q3 := (HB3.cell (p := ⟨w.heap.size, 3, none⟩) (by simp; omega)).trans k3
  have q4 := (HB3.cell (p := ⟨w.heap.size, 4, none⟩) (by simp; omega)).trans k4
  have HK3 := Lib.hid (blk_below HK.out HB3 (by omega))
  have HB4 := Lib.hid (HB1.out.trans (HB3.mono HB1.out.size))
  have hs3 := HB4.out.size
  have hs4 := HB3.size
  have hlt : w.heap.size < w3.heap.size := by omega
  clear HB1 HB3 k0 k1 k2 k3 k4
  have e3 : f + (x + y) = f + x + y := by omega
  rw [e3] at HG2
  clear e3
  go_wp2_with fail
  by_cases y0 : y < 0
  · have y1 : decide (y < 0) = true := by simpa using y0
    refine (HN.out (by omega) _).mono ?_
    rintro e w4 ⟨rfl, HB5⟩
    obtain ⟨hc, hf⟩ := bcell HB5
    have hz := HB5.size
    simp at hz
    have HB6 := Lib.hid ((((HB4.out.alloc hs3 _).alloc (by simp; omega) _).trans (HB5.mono (by simp; omega))))
    go_wp2
    go_ret
    exact ⟨rfl, HB6.out.alloc HB6.out.size _⟩
  · have y1 : decide (y < 0) = false := by simpa using y0
    by_cases big : 1048576 < f + x + y
    · refine (HR.out (by omega) (by omega) _).mono ?_
      rintro e w4 ⟨rfl, HB5⟩
      obtain ⟨hc, hf⟩ := bcell HB5
      have HK4 := Lib.hid (blk_below (blk_alloc (blk_alloc HK3.out _) _) HB5 (by simp; omega))
      obtain ⟨p0, p1, p2, p3, p4⟩ := five HK4.out
      have hz := HB5.size
      simp at hz
      have l0 : w.heap.size < w4.heap.size := by omega
      have l1 : w3.heap.size < w4.heap.size := by omega
      have l2 : w3.heap.size + 1 < w4.heap.size := by omega
      have HB6 := Lib.hid ((((HB4.out.alloc hs3 _).alloc (by simp; omega) _).trans (HB5.mono (by simp; omega))))
      clear HB5
      by_cases y2 : 1048576 < y
      · have y3 : decide (1048576 < y) = true := by simpa using y2
        go_wp2
        go_ret
        exact ⟨rfl, HB6.out.alloc HB6.out.size _⟩
      · have y3 : decide (1048576 < y) = false := by simpa using y2
        go_wp2_with fail
        refine (HR2.out (by omega) (by omega) _).mono ?_
        rintro e w5 ⟨rfl, HB7⟩
        obtain ⟨hc', hf'⟩ := bcell HB7
        have hz' := HB7.size
        simp at hz'
        have m0 : w.heap.size < w5.heap.size := by omega
        have m1 : w3.heap.size < w5.heap.size := by omega
        have m2 : w3.heap.size + 1 < w5.heap.size := by omega
        have m3 : w4.heap.size < w5.heap.size := by omega
        have HB8 := Lib.hid ((HB6.out.alloc HB6.out.size _).trans (HB7.mono (by have := HB6.out.size; simp; omega)))
        clear HB7
        go_wp2
        go_ret
        exact ⟨rfl, HB8.out.alloc HB8.out.size _⟩
    · refine (HG.out (by omega) (by omega) _).mono ?_
      rintro e w4 ⟨rfl, HB5⟩
      obtain ⟨hc, hf⟩ := bcell HB5
      have HK4 := Lib.hid (blk_below (blk_alloc (blk_alloc HK3.out _) _) HB5 (by simp; omega))
      obtain ⟨p0, p1, p2, p3, p4⟩ := five HK4.out
      have hz := HB5.size
      simp at hz
      have l0 : w.heap.size < w4.heap.size := by omega
      have l1 : w3.heap.size < w4.heap.size := by omega
      have l2 : w3.heap.size + 1 < w4.heap.size := by omega
      have HB6 := Lib.hid ((((HB4.out.alloc hs3 _).alloc (by simp; omega) _).trans (HB5.mono (by simp; omega))))
      clear HB5
      have y3 : decide (1048576 < y) = false := by simp; omega
      go_wp2_with fail
      refine (HG2.out (by omega) (by omega) _).mono ?_
      rintro e w5 ⟨rfl, HB7⟩
      obtain ⟨hc', hf'⟩ := bcell HB7
      have hz' := HB7.size
      simp at hz'
      have m0 : w.heap.size < w5.heap.size := by omega
      have m1 : w3.heap.size < w5.heap.size := by omega
      have m2 : w3.heap.size + 1 < w5.heap.size := by omega
      have m3 : w4.heap.size < w5.heap.size := by omega
      have HB8 := Lib.hid ((HB6.out.alloc HB6.out.size _).trans (HB7.mono (by have := HB6.out.size; simp; omega)))
      clear HB7
      go_wp2
      go_ret
      exact ⟨rfl, HB8.out.alloc HB8.out.size _⟩

section
open Go.ChangeShapes Go.WideShapes Go.Deep
theorem agg_int {H : Type} {enc : TypeId × Value → H} {P : Program} {w : World} {base : Nat} {spare : Nat → Bool} {held : Bool} {e t : TypeId} {k : IntKind} {fs : Array Field} {m : Nat} {cs : List Value} {x : DataW H × List MemPlace}
    (he : P.underlying e = some (.struct fs)) (hone : oneCellFields P fs = true) (ht : DataW.trod enc P w base spare held m e cs = some x) {j : Nat} {f : Field} (hf : fs[j]? = some f) (hj : j < cs.length) (hu : f.type = t) (hk : P.underlying t = some (.int k)) :
    ∃ z : Int, cs[j]? = some (.int k z) ∧ (Lit.int k z).wf = true := by
  subst hu
  obtain ⟨xs, fuel, _, _, _, hl, hall⟩ := DataW.trod_struct he ht
  obtain ⟨ho, h1⟩ := hone_of hone j f hf
  have hjx : j < xs.length := by rw [hl]; exact (Array.getElem?_eq_some_iff.1 hf).1
  have h2 := hall j f hf
  rw [ho, h1, List.drop_eq_getElem_cons hj, List.take_succ_cons, List.take_zero, List.getElem?_eq_getElem hjx] at h2
  obtain ⟨z, e1, _, hw⟩ := DataW.trod_int hk h2
  injection e1 with e1
  exact ⟨z, by rw [List.getElem?_eq_getElem hj, e1], hw⟩
theorem ctl_open {H : Type} {enc : TypeId × Value → H} {W : World} {base : Nat} {v : Value} {d : DataW H} {p : List MemPlace} (hok : Value.okWide Try.prog W .any base 44 v)
    (hr : DataW.Trod enc Try.prog W 0 (fun _ => true) true 44 v d p) : ∃ a b c q f, v = ctl a b c q f ∧ -9223372036854775808 ≤ f := by
  obtain ⟨cs, rfl, hsz⟩ := okWide_struct Try.underlying44 hok
  have hC : Try.prog.cellsOf 44 = 5 := by kernel_rfl
  rw [hC] at hsz
  obtain ⟨fuel, hf⟩ := hr
  obtain ⟨l⟩ := cs
  simp only [Value.cells] at hf
  have hl : l.length = 5 := by simpa using hsz
  obtain ⟨z0, h0, _⟩ := agg_int Try.underlying44 (by kernel_rfl) hf (j := 0) rfl (by omega) rfl Try.underlying3
  obtain ⟨z1, h1, _⟩ := agg_int Try.underlying44 (by kernel_rfl) hf (j := 1) rfl (by omega) rfl Try.underlying3
  obtain ⟨z2, h2, _⟩ := agg_int Try.underlying44 (by kernel_rfl) hf (j := 2) rfl (by omega) rfl Try.underlying2
  obtain ⟨z3, h3, _⟩ := agg_int Try.underlying44 (by kernel_rfl) hf (j := 3) rfl (by omega) rfl Try.underlying42
  obtain ⟨z4, h4, w4⟩ := agg_int Try.underlying44 (by kernel_rfl) hf (j := 4) rfl (by omega) rfl Try.underlying2
  match l, hl with
  | [c0, c1, c2, c3, c4], _ =>
    simp at h0 h1 h2 h3 h4
    subst h0 h1 h2 h3 h4
    exact ⟨z0, z1, z2, z3, z4, rfl, (bounds_i64 w4).1⟩
end

theorem clears_walk {H : Type} {enc : TypeId × Value → H} {base : Nat} {dd : DataW H} {p : List MemPlace} {ts : List TypeId} {ds : List (DataW H)} (v : Value) {w : World}
    (hok : Value.okWide Try.prog w .any base 44 v) (hr : DataW.Trod enc Try.prog w 0 (fun _ => true) true 44 v dd p)
    (_ : (DataW.weightsEach Try.prog ts ds).all (· ≤ reachBytes) = true) (_ : ts[0]? = some 44) (_ : ds[0]? = some dd)
    (x : Int) (wx : (Lit.int .i64 x).wf = true) (y : Int) (wy : (Lit.int .i64 y).wf = true) (w' : World) (hw : w' = w) : Law6 v x y w' := by
  subst hw
  obtain ⟨a, b, c, q, f, rfl, hf⟩ := ctl_open hok hr
  have bx := bounds_i64 wx
  have bY := bounds_i64 wy
  by_cases h : x < 0
  · exact clears_neg a b c q f x y h _
  · by_cases h2 : f < 0 ∨ 1048576 < f ∨ 1048576 < f + x
    · exact clears_range a b c q f x y h h2 hf bx.2 _
    · exact clears_good a b c q f x y h (by omega) (by omega) bY.1 bY.2 _
end Go.Proofs.Ytpgnfjmcgfffgaa
